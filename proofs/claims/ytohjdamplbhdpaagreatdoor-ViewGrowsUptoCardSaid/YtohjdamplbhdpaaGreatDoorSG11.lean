/- A part of the proof. -/
import Derived.Test.YtohjdamplbhdpaaGreatDoorSG10
import Derived.Test.YtohjdamplbhdpaaGreatDoorRows
import Derived.ProofKit
import Derived.OpenShut
import Derived.JoinedCond
import Derived.Deep.Slices
import Derived.Carry
set_option linter.all false
open Option renaming bind_some->xk,map_eq_some_iff->xo
open List renaming getElem?_eq_getElem->xl,replicate->xm,getElem?_eq_some_iff->xn,getElem?_map->xp,mem_cons->xq,map_map->xr,map_id->xt
namespace Go.Abs
def sl (m:Bool×Bool) (sz:Nat) (xs:List AV):AV:=.vs m.1 (if xs.isEmpty&&!m.2 then 0 else sz) xs
theorem WB (f:Bool) (sz:Nat) (xs:E6):.vs f sz xs=sl (f,true) sz xs:=by simp[sl]
theorem Fw (sz:Nat):.vs true 0 []=sl (true,false) sz []:=by simp[sl]
@[simp] theorem tT (m:I8) (sz:Nat) (xs:E6):(sl m sz xs).isTup=false:=_root_.id rfl
@[simp] theorem tQ (m:I8) (sz:Nat) (xs:E6):(sl m sz xs).cells=[sl m sz xs]:=_root_.id rfl
@[simp] theorem vF (h:AH) (am:Bool) (m:I8) (sz:Nat) (xs:E6):y8 h am (sl m sz xs)=some (sl m sz xs):=_root_.id rfl
@[simp] theorem ny (h:AH) (am:Bool) (m:I8) (sz:Nat) (xs:E6):frz h am (sl m sz xs)=some (sl m sz xs):=_root_.id rfl
@[simp] theorem tU (h:AH) (m:I8) (sz:Nat) (xs:E6):GQ h (sl m sz xs)=true:=_root_.id rfl
@[simp] theorem vG (h:AH) (m:I8) (sz:Nat) (xs:E6):tame h (sl m sz xs)=true:=_root_.id rfl
@[simp] theorem vD (m:I8) (sz:Nat) (xs:E6):(sl m sz xs).flat=true:=_root_.id rfl
@[simp] theorem oD (m:I8) (sz:Nat) (xs:E6) (rest:E6):d5 false 1 (sl m sz xs::rest)=some (sl m sz xs):=_root_.id rfl
@[simp] theorem O5 (h:AH) (m:I8) (sz:Nat) (xs:E6):elems h sz (sl m sz xs)=some xs:=by
 cases xs with
 |nil=>simp[elems,sl]
 |cons x xs=>simp[elems,sl]
@[simp] theorem qE (m:I8) (sz:Nat) (xs:E6):(sl m sz xs).scalar=false:=_root_.id rfl
@[simp] theorem kD (h:AH) (am:Bool) (k:IntKind) (n:Int):frz h am (.int k n)=some (.int k n):=_root_.id rfl
@[simp] theorem rT (h:AH) (am:Bool) (b:Bool):frz h am (.bool b)=some (.bool b):=_root_.id rfl
@[simp] theorem ua (h:AH) (am:Bool) (s:H7):frz h am (.str s)=some (.str s):=_root_.id rfl
@[simp] theorem vd (h:AH) (am:Bool) (f:FuncId):frz h am (.fn f [])=some (.fn f []):=_root_.id rfl
@[simp] theorem rV (h:AH) (am:Bool):frz h am .nilp=some .nilp:=_root_.id rfl
@[simp] theorem rS (h:AH) (am:Bool):Ja h am []=some []:=_root_.id rfl
@[simp] theorem pS (h:AH) (am:Bool) (x:AV) (xs:E6):Ja h am (x::xs)=(y8 h am x).bind λy=>(Ja h am xs).map (y::·):=_root_.id rfl
@[simp] theorem rQ (h:AH) (am:Bool) (k:IntKind) (n:Int):y8 h am (.int k n)=some (.int k n):=_root_.id rfl
@[simp] theorem pQ (h:AH) (am:Bool) (b:Bool):y8 h am (.bool b)=some (.bool b):=_root_.id rfl
@[simp] theorem rR (h:AH) (am:Bool) (s:H7):y8 h am (.str s)=some (.str s):=_root_.id rfl
@[simp] theorem uY (h:AH) (am:Bool) (cs:E6):frz h am (.agg cs)=(Ja h am cs).map .agg:=_root_.id rfl
@[simp] theorem ml (h:AH) (am:Bool):f8 h am []=some []:=_root_.id rfl
@[simp] theorem lh (h:AH) (am:Bool) (x:AV) (xs:E6):f8 h am (x::xs)=(frz h am x).bind λy=>(f8 h am xs).map (y::·):=_root_.id rfl
@[simp] theorem mq (h:AH) (k:IntKind) (n:Int):Bn h (.int k n)=some (.int k n):=_root_.id rfl
@[simp] theorem li (h:AH) (b:Bool):Bn h (.bool b)=some (.bool b):=_root_.id rfl
@[simp] theorem mv (h:AH) (s:H7):Bn h (.str s)=some (.str s):=_root_.id rfl
@[simp] theorem pT (h:AH) (m:I8) (sz:Nat) (xs:E6):Bn h (sl m sz xs)=some (sl m sz xs):=_root_.id rfl
@[simp] theorem mn (h:AH) (cs:E6):Bn h (.agg cs)=(Ja h true cs).map .agg:=_root_.id rfl
@[simp] theorem mw (h:AH) (cs:E6):Bn h (.tup cs)=(f8 h true cs).map .tup:=_root_.id rfl
@[simp] theorem sC (ys:E6) (k:List AV->Option AV) (tm:Bool) (h:AH):sB (some ys) k tm h=(match k ys with|some r=>if r.scalar||tm then some (r,h)else none|none=>none):=_root_.id rfl
@[simp] theorem nt (k:IntKind) (n:Int):(AV.int k n).scalar=true:=_root_.id rfl
@[simp] theorem ly (b:Bool):(AV.bool b).scalar=true:=_root_.id rfl
@[simp] theorem nu (s:H7):(AV.str s).scalar=true:=_root_.id rfl
@[simp] theorem pj (k:IntKind) (n:Int):(AV.int k n).isTup=false:=_root_.id rfl
@[simp] theorem mz (b:Bool):(AV.bool b).isTup=false:=_root_.id rfl
@[simp] theorem pn (b:H7):(AV.str b).isTup=false:=_root_.id rfl
@[simp] theorem pi (cs:E6):(AV.agg cs).isTup=false:=_root_.id rfl
@[simp] theorem Tt (cs:E6):(AV.agg cs).cells=cs:=_root_.id rfl
@[simp] theorem ot (k:IntKind) (n:Int):(AV.int k n).cells=[.int k n]:=_root_.id rfl
@[simp] theorem mW (b:Bool):(AV.bool b).cells=[.bool b]:=_root_.id rfl
@[simp] theorem ox (b:H7):(AV.str b).cells=[.str b]:=_root_.id rfl
@[simp] theorem ke (n:Nat) (cs:E6):d5 true n cs=if n<=cs.length then some (.agg (cs.take n))else none:=_root_.id rfl
@[simp] theorem jU (n:Nat) (cs:E6):d5 false n cs=cs.head?:=_root_.id rfl
def re (h:AH) (sz:Nat) (x i:AV):Option (AV×AH) :=
 match x,i with
 | .vs _ z xs,.int _ j=>if 0<=j/\z=sz then (match xs[j.toNat]? with|some e=>some (.pv e.cells,h)|none=>none)else none
 | .sl k n off len,.int _ j=>if 0<=j/\j<len then some (.ep k n (off+j.toNat) 0 sz,h)else none
 | .bsl b s off len,.int _ j=>if 0<=j/\j<len/\s=sz then some (.ptr b (off+j.toNat*sz),h)else none
 |_,_=>none
def Pn (h:AH) (x:AV):Option (AV×AH) :=
 match x with
 | .vs _ _ xs=>some (.int .i64 xs.length,h)
 | .sl _ _ _ len=>some (.int .i64 len,h)
 | .bsl _ _ _ len=>some (.int .i64 len,h)
 |_=>none
def Te (h:AH) (sz:Nat) (x:AV) (l u m:Option (Option Int)):Option (AV×AH) :=
 match l,u,m with
 |some l,some u,some m=>match Jn h sz x l u m with|some v=>some (v,h)|none=>none
 |_,_,_=>none
def uo (neg:Bool) (h:AH) (x:AV):Option (AV×AH):=match x with | .vs _ z _=>some (.bool (if neg then !(z == 0)else z == 0),h)|_=>none
theorem OG (neg:Bool) (h:AH) (m:I8) (sz:Nat) (K4:0<sz) (xs:E6):uo neg h (sl m sz xs)=some (.bool (if neg then !(xs.isEmpty&&!m.2)else (xs.isEmpty&&!m.2)),h):=by
 unfold uo sl;by_cases hx:(xs.isEmpty&&!m.2)=true
 .simp[hx]
 .have:(sz == 0)=false:=by simp;omega
  simp[hx,this]
section
variable {O:Orc} {c:Ctx} (fr:Fr) (h:AH)
@[simp] theorem wX (x:Opd):A2 O c (.mov x) fr h=some (get fr x,h):=_root_.id rfl
@[simp] theorem uw (q a b:Opd):A2 O c (.pick q a b) fr h=(match get fr q with | .bool t=>some (if t then get fr a else get fr b,h)|_=>none):=_root_.id rfl
@[simp] theorem wN (x:Opd):A2 O c (.box x) fr h=if (get fr x).isTup then none else some (.ptr h.boxes.length 0,{h with boxes:=h.boxes++[(get fr x).cells]}):=_root_.id rfl
@[simp] theorem sX (z:AV):A2 O c (.alloc z) fr h=some (.ptr h.boxes.length 0,{h with boxes:=h.boxes++[z.cells]}):=_root_.id rfl
@[simp] theorem sY (z:AV) (parts:List (Nat×Nat×Opd)):A2 O c (.build z parts) fr h=(D2 fr z.cells.length parts).map λps=>(.agg (E8 z.cells ps),h):=by
 simp only[A2];cases D2 fr z.cells.length parts<;>rfl
@[simp] theorem pz (n:Nat) (z:AV) (parts:List (Nat×Opd)):A2 O c (.bslice n z parts) fr h=(A4 fr h (xm n z) parts).map λxs=>(sl (true,true) z.cells.length xs,h):=by
 simp only[A2,WB];cases A4 fr h (xm n z) parts<;>rfl
@[simp] theorem nQ (n:Nat) (z:AV) (parts:List (Nat×Opd)):A2 O c (.bslicev n z parts) fr h=if parts.all (λp=>KI (get fr p.2))then (A4 fr h (xm n z) parts).map λxs=>(sl (true,true) z.cells.length xs,h)else none:=by
 simp only[A2,WB];cases A4 fr h (xm n z) parts<;>rfl
@[simp] theorem wS (agg:Bool) (n:Nat) (x:Opd):A2 O c (.ldb agg n x) fr h=(match get fr x with | .ep ..=>none|p=>(match DS h agg n p with|some v=>some (v,h)|none=>none)):=_root_.id rfl
@[simp] theorem sj (x:Opd):A2 O c (.nilck x) fr h=(match get fr x with | .pv cs=>some (.pv cs,h) | .ptr b o=>some (.ptr b o,h) | .ep k n i q s=>some (.ep k n i q s,h) | .fn f cs=>some (.fn f cs,h)|_=>none):=_root_.id rfl
@[simp] theorem wM (op:BinOp) (x y:Opd):A2 O c (.bin op x y) fr h=(D6 op (get fr x) (get fr y)).map λv=>(v,h):=by
 simp only[A2];cases D6 op (get fr x) (get fr y)<;>rfl
@[simp] theorem wL (neg:Bool) (x y:Opd):A2 O c (.beq neg x y) fr h=(match get fr x,get fr y with | .bool a,.bool b=>some (.bool (if neg then !(a == b)else a == b),h)|_,_=>none):=_root_.id rfl
@[simp] theorem sq (neg:Bool) (x:Opd):A2 O c (.nileq neg x) fr h=uo neg h (get fr x):=by
 simp only[A2,uo];rfl
@[simp] theorem xQ (op:UnOp) (x:Opd):A2 O c (.un op x) fr h=(Ny op (get fr x)).map λv=>(v,h):=by
 simp only[A2];cases Ny op (get fr x)<;>rfl
@[simp] theorem uu (k:IntKind) (x:Opd):A2 O c (.conv k x) fr h=(match get fr x with | .int _ n=>some (.int k (k.wrap n),h)|_=>none):=_root_.id rfl
@[simp] theorem uv (x:Opd):A2 O c (.cstr x) fr h=(match get fr x with | .str s=>some (.str s,h)|_=>none):=_root_.id rfl
@[simp] theorem ur (x:Opd):A2 O c (.bstr x) fr h=Ts h (get fr x):=_root_.id rfl
def wH (b:Bool) (x y:Option (AV×AH)):Option (AV×AH):=if b then x else y
@[simp] theorem xN (x y:Option (AV×AH)):wH true x y=x:=_root_.id rfl
@[simp] theorem xM (x y:Option (AV×AH)):wH false x y=y:=_root_.id rfl
@[simp] theorem ut (f:FuncId) (caps:List Opd):A2 O c (.clos f caps) fr h=wH c.ro ((Ak h (caps.map (get fr))).map λp=>(.fn f p.1,p.2)) (some (.fn f (caps.map (get fr)),h)):=_root_.id rfl
@[simp] theorem nS (z:AV) (bytes:Nat) (l q:Opd):A2 O c (.mkslice z bytes l q) fr h=(match get fr l,get fr q with
  | .int _ a,.int _ b =>
   if 0<=a/\a<=b/\b*bytes<=G4/\b<=maxLen then
    some (.sl h.fams.length a.toNat 0 a.toNat,{h with fams:=h.fams++[⟨xm a.toNat z,z.cells.length,true⟩]})
   else none
  |_,_=>none):=_root_.id rfl
@[simp] theorem sd (off:Nat) (x:Opd):A2 O c (.faddr off x) fr h=(match get fr x with | .pv cs=>some (.pv (cs.drop off),h) | .ptr b o=>some (.ptr b (o+off),h) | .ep k n i q s=>some (.ep k n i (q+off) s,h)|_=>none):=_root_.id rfl
@[simp] theorem wQ (agg:Bool) (off n:Nat) (x:Opd):A2 O c (.fld agg off n x) fr h=(match get fr x with | .agg cs=>(match d5 agg n (cs.drop off)with|some v=>some (v,h)|none=>none)|_=>none):=_root_.id rfl
@[simp] theorem wR (x i:Opd):A2 O c (.idx x i) fr h=(match get fr x,get fr i with
  | .str s,.int _ j=>if 0<=j then (match s[j.toNat]? with|some b=>some (.int .u8 b.toNat,h)|none=>none)else none
  |_,_=>none):=_root_.id rfl
@[simp] theorem wP (x:Opd) (i:Nat):A2 O c (.ext x i) fr h=(match get fr x with | .tup vs=>(match vs[i]? with|some v=>some (v,h)|none=>none)|_=>none):=_root_.id rfl
@[simp] theorem ux (x:Opd):A2 O c (.len true x) fr h=(match get fr x with | .str s=>some (.int .i64 s.size,h)|_=>none):=_root_.id rfl
@[simp] theorem wU (x y:Opd):A2 O c (.max x y) fr h=(match get fr x,get fr y with | .int k a,.int k' b=>if k=k' then some (.int k (if b > a then b else a),h)else none|_,_=>none):=_root_.id rfl
@[simp] theorem sf (sz:Nat) (x i:Opd):A2 O c (.iaddr sz x i) fr h=re h sz (get fr x) (get fr i):=_root_.id rfl
@[simp] theorem wc (n:Nat) (a x:Opd):A2 O c (.ste n a x) fr h=Sx h n (get fr a) (get fr x):=_root_.id rfl
@[simp] theorem wa (n:Nat) (a x:Opd):A2 O c (.stb n a x) fr h=Sw h n (get fr a) (get fr x):=_root_.id rfl
@[simp] theorem wW (z:AV) (bytes:Nat) (l q:Opd):A2 O c (.mkv z bytes l q) fr h=Zc h z bytes (get fr l) (get fr q):=_root_.id rfl
@[simp] theorem wV (z:AV) (bytes:Nat) (l q:Opd):A2 O c (.mkb z bytes l q) fr h=Vc h z bytes (get fr l) (get fr q):=_root_.id rfl
@[simp] theorem wO (z:AV) (x:Opd):A2 O c (.clr z x) fr h=Pg h z (get fr x):=_root_.id rfl
@[simp] theorem wT (x:Opd):A2 O c (.len false x) fr h=Pn h (get fr x):=_root_.id rfl
def dK (b:Bool) (x y:Unit->Option (AV×AH)):Option (AV×AH):=if b then x ()else y ()
@[simp] theorem wG (x y:Unit->Option (AV×AH)):dK true x y=x ():=_root_.id rfl
@[simp] theorem wE (x y:Unit->Option (AV×AH)):dK false x y=y ():=_root_.id rfl
@[congr] theorem nG {b b':Bool} {x y:Unit->Option (AV×AH)} (h:b=b'):dK b x y=dK b' x y:=by rw[h]
@[simp] theorem sZ {C:Cfg} (f:FuncId) (xs:List Opd):A2 (Q8 C) c (.call f xs) fr h=dK (c.raw f) (λ_=>US (c.noB f) h (rc C f (xs.map (get fr)) h)) (λ_=>sB (f8 h true (xs.map (get fr))) (λys=>pc C f ys) ((xs.map (get fr)).all (tame h)) h):=by
 cases hr:c.raw f with
 |false=>exact bO hr xs fr h
 |true=>exact Xh hr xs fr h
def uj (b:Bool) (x:Option (AV×AH)):Option (AV×AH):=if b then none else x
@[simp] theorem xJ (x:Option (AV×AH)):uj true x=none:=_root_.id rfl
@[simp] theorem xI (x:Option (AV×AH)):uj false x=x:=_root_.id rfl
@[simp] theorem sa {C:Cfg} (x:Opd) (xs:List Opd):A2 (Q8 C) c (.callv x xs) fr h=(match get fr x with
  | .fn f caps=>uj (c.raw f&&!c.rawv) (dK (c.raw f) (λ_=>US (c.noB f) h (rc C f (xs.map (get fr)++caps) h)) (λ_=>sB (f8 h true (xs.map (get fr)++caps)) (λys=>pc C f ys) ((xs.map (get fr)++caps).all (tame h)) h))
  |_=>none):=by
 simp only[A2];cases get fr x with
 |fn f caps =>
  simp only;unfold uj;by_cases hq:(c.raw f&&!c.rawv)=true
  .rw[if_pos hq,if_pos hq]
  .rw[if_neg hq,if_neg hq];cases hr:c.raw f with
   |false =>
    have:=bO (C:=C) hr ((xs.map (get fr)++caps).map Opd.c) fr h;simp only[A2,xr]at this;rw[show (get fr∘Opd.c)=id from rfl,xt]at this;exact this
   |true =>
    have:=Xh (C:=C) hr ((xs.map (get fr)++caps).map Opd.c) fr h;simp only[A2,xr]at this;rw[show (get fr∘Opd.c)=id from rfl,xt]at this;exact this
 |_=>rfl
@[simp] theorem sg:A2 O c .mkmap fr h=some (.mp h.boxes.length,{h with boxes:=h.boxes++[[.mbox [] []]]}):=_root_.id rfl
@[simp] theorem si (str ok:Bool) (z:AV) (x k:Opd):A2 O c (.mlook str ok z x k) fr h=Es str ok z h (get fr x) (get fr k):=_root_.id rfl
@[simp] theorem wY (str:Bool) (x k v:Opd):A2 O c (.mup str x k v) fr h=Ze str h (get fr x) (get fr k) (get fr v):=_root_.id rfl
@[simp] theorem wZ (sz:Nat) (x:Opd) (lo hi mx:Option Opd):A2 O c (.slc sz x lo hi mx) fr h=Te h sz (get fr x) (O8 fr lo) (O8 fr hi) (O8 fr mx):=_root_.id rfl
@[simp] theorem wK (sz bytes:Nat) (s x:Opd):A2 O c (.app sz bytes s x) fr h=L5 c h sz bytes (get fr s) (get fr x):=_root_.id rfl
@[simp] theorem xO (agg:Bool) (n:Nat) (x:Opd):A2 O c (.ld agg n x) fr h=(DS h agg n (get fr x)).map λv=>(v,h):=by
 simp only[A2];cases DS h agg n (get fr x)<;>rfl
@[simp] theorem xP (n:Nat) (a x:Opd):A2 O c (.st n a x) fr h=(HX h n (get fr x) (get fr a)).map λh'=>(A9,h'):=by
 simp only[A2];cases HX h n (get fr x) (get fr a)<;>rfl
end
def IU (xs:List AV) (i:Nat):Option AV:=xs[i]?
@[simp] theorem sV (x:AV) (xs:E6):IU (x::xs) 0=some x:=_root_.id rfl
@[simp] theorem sU (x:AV) (xs:E6) (i:Nat):IU (x::xs) (i+1)=IU xs i:=_root_.id rfl
theorem H8 {α:Type} {f:α->AV} {l:List α} {i:Nat} {x:α} (h:l[i]?=some x):IU (l.map f) i=some (f x):=by simp[IU,h]
@[simp] theorem vz (h:AH) (m:I8) (sz:Nat) (xs:E6) (k:IntKind) (j:Int):re h sz (sl m sz xs) (.int k j)=if 0<=j then (IU xs j.toNat).map (λe=>(.pv e.cells,h))else none:=by
 unfold re sl IU;simp only;by_cases hj:0<=j
 .rw[if_pos hj];cases hx:xs[j.toNat]? with
  |none=>simp
  |some e =>
   cases xs with
   |nil=>simp at hx
   |cons y ys=>simp[hj]
 .rw[if_neg hj,if_neg (by omega)]
@[simp] theorem uk (h:AH) (m:I8) (sz:Nat) (xs:E6):Pn h (sl m sz xs)=some (.int .i64 xs.length,h):=_root_.id rfl
@[simp] theorem sJ (h:AH) (b s off len:Nat):Pn h (.bsl b s off len)=some (.int .i64 len,h):=_root_.id rfl
@[simp] theorem ud (h:AH) (sz b s off len:Nat) (kd:IntKind) (j:Int):re h sz (.bsl b s off len) (.int kd j)=if 0<=j/\j<len/\s=sz then some (.ptr b (off+j.toNat*sz),h)else none:=_root_.id rfl
@[simp] theorem po (h:AH) (k n off len:Nat):Pn h (.sl k n off len)=some (.int .i64 len,h):=_root_.id rfl
@[simp] theorem Rn (h:AH) (am:Bool) (k n off len:Nat):frz h am (.sl k n off len)=y8 h am (.sl k n off len):=_root_.id rfl
@[simp] theorem sM (h:AH) (agg:Bool) (n:Nat) (cs:E6):DS h agg n (.pv cs)=d5 agg n cs:=_root_.id rfl
@[simp] theorem rn:CJ []=false:=_root_.id rfl
@[simp] theorem gM (x y:AV) (l:E6):CJ (x::y::l)=false:=by cases x<;>rfl
@[simp] theorem rl (k:IntKind) (n:Int):CJ [.int k n]=false:=_root_.id rfl
@[simp] theorem pe (b:Bool):CJ [.bool b]=false:=_root_.id rfl
@[simp] theorem rq (b:H7):CJ [.str b]=false:=_root_.id rfl
@[simp] theorem ui (f:Bool) (sz:Nat) (xs:E6):CJ [.vs f sz xs]=false:=_root_.id rfl
@[simp] theorem ug (m:I8) (sz:Nat) (xs:E6):CJ [sl m sz xs]=false:=_root_.id rfl
@[simp] theorem ph (k n off len:Nat):CJ [.sl k n off len]=false:=_root_.id rfl
@[simp] theorem rp (b off:Nat):CJ [.ptr b off]=false:=_root_.id rfl
@[simp] theorem rh (cs:E6):CJ [.agg cs]=false:=_root_.id rfl
@[simp] theorem uf (b:Nat):CJ [.mp b]=false:=_root_.id rfl
@[simp] theorem uh (ks vs:E6):CJ [.vm ks vs]=false:=_root_.id rfl
@[simp] theorem ue (f:FuncId) (cs:E6):CJ [.fn f cs]=false:=_root_.id rfl
@[simp] theorem pg (cs:E6):CJ [.rbox cs]=true:=_root_.id rfl
@[simp] theorem wh (agg:Bool) (n off:Nat) (ys:E6):lM agg n off [.rbox ys]=d5 agg n (ys.drop off):=_root_.id rfl
@[simp] theorem pq (h:AH) (agg:Bool) (n b off:Nat):DS h agg n (.ptr b off)=(h.boxes[b]?).bind λcs=>if CJ cs then lM agg n off cs else d5 agg n (cs.drop off):=by
 simp only[DS];cases h.boxes[b]?<;>rfl
@[simp] theorem oc (h:AH) (n:Nat) (v:AV) (b off:Nat):HX h n v (.ptr b off)=(h.boxes[b]?).bind λcs=>if CJ cs=false/\v.isTup=false/\v.cells.length=n/\off+n<=cs.length then some {h with boxes:=h.boxes.set b (I9 cs off v.cells)} else none:=by
 simp only[HX];cases h.boxes[b]?<;>rfl
@[simp] theorem sI (h:AH) (v:AV):VW h v=match frz h false v with|some _=>some h|none=>ef h v:=_root_.id rfl
@[simp] theorem vB (h:AH) (k n off len:Nat):ef h (.sl k n off len)=(h.fams[k]?).map λf=>{h with fams:=h.fams.set k {f with wr:=false}}:=by
 simp only[ef];cases h.fams[k]?<;>rfl
@[simp] theorem NT (h:AH) (n:Nat) (v:AV) (k m i q sz:Nat):HX h n v (.ep k m i q sz)=(VW h v).bind λh=>(h.fams[k]?).bind λf =>
  if f.xs.length=m/\f.sz=sz/\f.wr=true then
   (f.xs[i]?).bind λx=>(frz h false v).bind λu=>if u.cells.length=n/\q+n<=x.cells.length then
    (x.reform (I9 x.cells q u.cells)).map λy=>{h with fams:=h.fams.set k {f with xs:=f.xs.set i y}} else none
  else none:=by
 simp only[HX];cases VW h v with
 |none=>rfl
 |some h =>
  simp only[xk,Ew];cases h.fams[k]? with
  |none=>rfl
  |some f =>
   simp only[xk];split
   .cases f.xs[i]? with
    |none=>rfl
    |some x=>cases frz h false v<;>rfl
   .rfl
@[simp] theorem sL (h:AH) (agg:Bool) (n k m i q sz:Nat):DS h agg n (.ep k m i q sz)=(h.fams[k]?).bind λf=>if f.xs.length=m/\f.sz=sz then (f.xs[i]?).bind λx=>d5 agg n (x.cells.drop q)else none:=by
 simp only[DS];cases h.fams[k]? with
 |none=>rfl
 |some f =>
  simp only[xk];split
  .cases f.xs[i]?<;>rfl
  .rfl
@[simp] theorem rg (h:AH) (sz k n off len:Nat) (kd:IntKind) (j:Int):re h sz (.sl k n off len) (.int kd j)=if 0<=j/\j<len then some (.ep k n (off+j.toNat) 0 sz,h)else none:=_root_.id rfl
@[simp] theorem oM (cs:E6) (off:Nat) (new:E6):I9 cs off new=cs.take off++new++cs.drop (off+new.length):=_root_.id rfl
@[simp] theorem uH (k:IntKind) (a b:Int):D6 .lss (.int k a) (.int k b)=some (.bool (decide (a<b))):=by simp[D6]
@[simp] theorem uG (k:IntKind) (a b:Int):D6 .leq (.int k a) (.int k b)=some (.bool (decide (a<=b))):=by simp[D6]
@[simp] theorem uF (k:IntKind) (a b:Int):D6 .gtr (.int k a) (.int k b)=some (.bool (decide (b<a))):=by simp[D6]
@[simp] theorem uE (k:IntKind) (a b:Int):D6 .geq (.int k a) (.int k b)=some (.bool (decide (b<=a))):=by simp[D6]
@[simp] theorem uD (k:IntKind) (a b:Int):D6 .eql (.int k a) (.int k b)=some (.bool (decide (a=b))):=by simp only[D6,if_true];rfl
@[simp] theorem uI (k:IntKind) (a b:Int):D6 .neq (.int k a) (.int k b)=some (.bool (!decide (a=b))):=by simp only[D6,if_true];rfl
@[simp] theorem uC (k:IntKind) (a b:Int):D6 .add (.int k a) (.int k b)=some (.int k (k.wrap (a+b))):=by simp[D6]
@[simp] theorem uJ (k:IntKind) (a b:Int):D6 .sub (.int k a) (.int k b)=some (.int k (k.wrap (a-b))):=by simp[D6]
theorem VF (a b:List UInt8):(a == b)=decide (a=b):=by
 by_cases h:a=b<;>simp[h]
@[simp] theorem qe (a b:H7):D6 .lss (.str a) (.str b)=some (.bool (Op.bytesLess a.toList b.toList)):=_root_.id rfl
@[simp] theorem qc (a b:H7):D6 .gtr (.str a) (.str b)=some (.bool !(Op.bytesLess a.toList b.toList||decide (a.toList=b.toList))):=by simp only[D6];rw[VF]
@[simp] theorem qZ (a b:H7):D6 .eql (.str a) (.str b)=some (.bool (decide (a.toList=b.toList))):=by simp only[D6];rw[VF]
@[simp] theorem qf (a b:H7):D6 .neq (.str a) (.str b)=some (.bool !(decide (a.toList=b.toList))):=by simp only[D6];rw[VF]
@[simp] theorem tL (fr:Fr) (h:AH):Jl fr h []=some []:=_root_.id rfl
@[simp] theorem tM (fr:Fr) (h:AH) (t:Nat) (rs:List RRes):Jl fr h (.tmp t::rs)=(Jl fr h rs).map (A0 fr t::·):=_root_.id rfl
@[simp] theorem qD (fr:Fr) (h:AH) (a n:Nat) (agg:Bool) (rs:List RRes):Jl fr h (.cell a agg n::rs)=(DS h agg n (A0 fr a)).bind λv=>(Jl fr h rs).map (v::·):=_root_.id rfl
@[simp] theorem wo (b:Bool):Ny .not (.bool b)=some (.bool !b):=_root_.id rfl
theorem M3 {n:Int} (h0:-9223372036854775808<=n) (h1:n<=9223372036854775807):IntKind.i64.wrap n=n:=by
 simp only[IntKind.wrap,IntKind.bits,IntKind.signed];simp only[Bool.true_and,decide_eq_true_eq,ge_iff_le];split<;>omega
theorem E5 (i:Nat) (h:i<9223372036854775807):IntKind.i64.wrap ((i:Int)+1)=(i:Int)+1:=M3 (by omega) (by omega)
theorem ol (i:Nat) (h:i<9223372036854775807):IntKind.i64.wrap ((i:Int)+1)=((i+1:Nat):Int):=M3 (by omega) (by omega)
@[simp] theorem Dn (h:AH) (am:Bool) (k n off len:Nat):y8 h am (.sl k n off len)=(h.fams[k]?).bind λf=>if f.xs.length=n/\off+len<=n/\(am||!f.wr)=true then some (sl (false,true) f.sz ((f.xs.drop off).take len))else none:=by
 simp only[y8];cases h.fams[k]? with
 |none=>rfl
 |some f=>simp only[xk,WB]
@[simp] theorem kE (h:AH) (am:Bool):frz h am (.vs true 0 [])=some (sl (true,false) 1 []):=_root_.id rfl
@[simp] theorem gC (h:AH) (am:Bool):y8 h am (.vs true 0 [])=some (sl (true,false) 1 []):=_root_.id rfl
theorem Dc (m:I8) (hm:m.2=false) (a b:Nat):sl m a []=sl m b []:=by simp[sl,hm]
@[simp] theorem aW (c:Ctx) (h:AH) (sz bytes:Nat) (x:AV):L5 c h sz bytes (.vs true 0 []) x=(elems h sz x).bind λys =>
  if ys.length=0 then some (.vs true 0 [],h)else if ys.length*bytes<=G4/\ys.length<=maxLen then some (.sl h.fams.length ys.length 0 ys.length,{h with fams:=h.fams++[⟨ys,sz,c.mutApp⟩]})else none:=by
 simp only[L5];cases elems h sz x with
 |none=>rfl
 |some ys=>simp
@[simp] theorem RZ (c:Ctx) (h:AH) (sz bytes k n off len:Nat) (x:AV):L5 c h sz bytes (.sl k n off len) x=(elems h sz x).bind λys=>(h.fams[k]?).bind λf =>
  if f.xs.length=n/\f.sz=sz/\off+len=n/\(n+ys.length)*bytes<=G4/\n+ys.length<=maxLen then some (.sl k (n+ys.length) off (len+ys.length),{h with fams:=h.fams.set k {f with xs:=f.xs++ys}})else none:=by
 simp only[L5];cases elems h sz x with
 |none=>rfl
 |some ys=>cases h.fams[k]?<;>rfl
theorem FX (c:Ctx) (h:AH) (sz bytes:Nat) (b:Bool) (xs:E6) (x:AV):L5 c h sz bytes (sl (true,b) sz xs) x=(elems h sz x).bind λys =>
  if ys.length=0 then some (sl (true,b) sz xs,h)else if (xs.length+ys.length)*bytes<=G4/\xs.length+ys.length<=maxLen then some (.sl h.fams.length (xs.length+ys.length) 0 (xs.length+ys.length),{h with fams:=h.fams++[⟨xs++ys,sz,c.mutApp⟩]})else none:=by
 simp only[L5,sl];cases elems h sz x with
 |none=>rfl
 |some ys =>
  simp only[xk];cases xs<;>simp
inductive Tm where
 |mk (kind:Int) (name:ByteArray) (sort:Int) (m:Bool×Bool) (kids:List Tm)
abbrev I2:=List Tm
mutual
def B8:Tm->AV
 | .mk k n s m l=>.agg [.int .i64 k,.str n,.int .i64 s,sl m 4 (A3 l)]
def A3:List Tm->List AV
 | []=>[]
 |t::l=>B8 t::A3 l
end
theorem D7 (l:I2):A3 l=l.map B8:=by
 induction l with
 |nil=>rfl
 |cons t l ih=>simp[A3,ih]
theorem Fq {l:I2} {i:Nat} {t:Tm} (h:l[i]?=some t):IU (A3 l) i=some (B8 t):=by rw[D7];exact H8 h
@[simp] theorem Yj (l:I2):(A3 l).length=l.length:=by simp[D7]
mutual
def Tm.size:Tm->Nat
 | .mk _ _ _ _ l=>1+Tm.sizes l
def Tm.sizes:List Tm->Nat
 | []=>0
 |t::l=>t.size+Tm.sizes l
end
theorem Tm.size_pos (t:Tm):0<t.size:=by cases t;simp[Tm.size];omega
theorem Tm.sizes_append (l r:I2):Tm.sizes (l++r)=Tm.sizes l+Tm.sizes r:=by
 induction l with
 |nil=>simp[Tm.sizes]
 |cons t l ih=>simp[Tm.sizes,ih];omega
theorem Tm.size_le {t:Tm} {l:I2} (h:t∈l):t.size<=Tm.sizes l:=by
 induction l with
 |nil=>cases h
 |cons x l ih =>
  simp only[Tm.sizes];rcases xq.1 h with rfl|h
  .omega
  .have:=ih h;omega
theorem Tm.length_le (l:I2):l.length<=Tm.sizes l:=by
 induction l with
 |nil=>simp
 |cons x l ih=>have:=x.size_pos;simp only[Tm.sizes,List.length_cons];omega
end Go.Abs
namespace Go.Abs
open Go.RowKit (Below)
open Go.ChangeShapes Go.WideShapes Go.Deep
open Go.Proofs.YtohjdamplbhdpaaGreatDoor (Rows.uptoBulk Rows.uptoBulkAll)
abbrev nP (w:World):Nat->Nat->Prop:=λb _=>b<w.heap.size
def CV (w:World) (ys:List AV) (cs:List Value):Prop:=BT w (nP w) ys cs/\∀u∈cs,u.oneCell'=true
def Nf (P:Program) (w:World) (t:TypeId) {T:Type} (cells:T->List AV) (good:T->Prop) (wt:T->Nat) (n:Nat):Prop :=
 ∀{H:Type} (enc:TypeId×Value->H) (cs:List Value) (x:DataW H×List MemPlace),DataW.trod enc P w 0 (λ_=>true) true n t cs=some x ->
  ∃a,good a/\wt a<=Rows.uptoBulk x.1/\CV w (cells a) cs
section
variable {P:Program} {w:World} {t e:TypeId}
theorem Uz {a:AV} {v:Value} (h:PV w (nP w) a v) (ho:v.oneCell'=true):CV w [a] [v]:=by
 refine⟨?_,λu hu=>by simp at hu;subst hu;exact ho⟩;simp only[BT];exact⟨v,[],rfl,h,rfl⟩
theorem Pv {k:IntKind} (ht:P.underlying t=some (.int k)) (n:Nat):Nf P w t (λi:Int=>[.int k i]) (λi=>(Lit.int k i).wf=true) (λ_=>1) n:=by
 intro H enc cs x hx;obtain⟨i,rfl,rfl,hw⟩:=DataW.trod_int ht hx;exact⟨i,hw,by simp[Rows.uptoBulk],Uz (by simp[PV]) rfl⟩
theorem Zh (ht:P.underlying t=some .bool) (n:Nat):Nf P w t (λb:Bool=>[.bool b]) (λ_=>True) (λ_=>1) n:=by
 intro H enc cs x hx;obtain⟨i,rfl,rfl⟩:=DataW.trod_bool ht hx;exact⟨i,trivial,by simp[Rows.uptoBulk],Uz (by simp[PV]) rfl⟩
theorem bE {T:Type} {R:Nat->T->Prop}:∀{n:Nat},(∀i,i<n->∃a,R i a)->∃ys:List T,ys.length=n/\∀i a,ys[i]?=some a->R i a
 |0,_=>⟨[],rfl,λi a h=>by simp at h⟩
 |n+1,h=>by
  obtain⟨ys,hl,ha⟩:=bE (n:=n) λi hi=>h i (by omega);obtain⟨a,hr⟩:=h n (by omega);refine⟨ys++[a],by simp[hl],λi b hb=>?_⟩;by_cases hi:i<n
  .rw[List.getElem?_append_left (by omega)]at hb;exact ha i b hb
  .rw[List.getElem?_append_right (by omega),hl]at hb;have Yt:i=n:=by
    have:=(xn.1 hb).1;simp at this;omega
   subst Yt;simp at hb;subst hb;exact hr
theorem Yg {H T:Type} {wt:T->Nat}:∀{ys:List T} {l:List (DataW H)},ys.length=l.length->(∀(i:Nat) (a:T) (d:DataW H),ys[i]?=some a->l[i]?=some d->wt a<=Rows.uptoBulk d)->(ys.map wt).sum<=Rows.uptoBulkAll l
 | [],l,_,_=>by simp
 |a::ys,[],h,_=>by simp at h
 |a::ys,d::l,h,k=>by
  have h1:=k 0 a d rfl rfl;have h2:=Yg (ys:=ys) (l:=l) (by simpa using h) λi a d ha hd=>k (i+1) a d (by simpa using ha) (by simpa using hd);simp only[List.map_cons,List.sum_cons,Rows.uptoBulkAll];omega
theorem qV {sz:Nat} {xs:E6} {a:Addr} {len cap:Nat} (C2:xs.length=len) (hc:len<=cap) (hm:cap<=maxLen) (K4:0<sz)
  (hx:∀(i:Nat) (x:AV),xs[i]?=some x->∃cs',w.cells? 0 (a.add (i*sz)) sz=some cs'/\CV w x.cells cs'):PV w (nP w) (.vs false sz xs) (.slice (some a) len cap):=by
 simp only[PV];refine⟨some a,len,cap,rfl,C2.symm,hc,hm,(by simp),⟨(by simp),⟨(by simp),λe=>absurd K4 (by omega)⟩⟩,λM5=>?_⟩;have spot:a.spot=none:=by
  cases xs with
  |nil=>exact absurd rfl M5
  |cons x xs =>
   obtain⟨cs',h1,h2,_⟩:=hx 0 x rfl;obtain⟨_,hl,hcell⟩:=World.cells?_some h1;have h0:=hcell 0 K4;rw[xl (by omega)]at h0;simpa[Addr.add]using World.cell?_spot h0
 obtain⟨b,o,sp⟩:=a;subst spot;refine⟨b,o,rfl,K4,OY λj x hj=>?_⟩;obtain⟨cs',h1,h2,h3⟩:=hx j x hj;obtain⟨_,hl,hcell⟩:=World.cells?_some h1;obtain⟨g1,g2⟩:=Ei h2;refine⟨by omega,IA λq c hq=>?_⟩;obtain⟨u,hu,hv⟩:=g2 hq;have hqlt:q<sz:=by
  have:=(xn.1 hq).1;omega
 have Cc:=hcell q hqlt;rw[hu,Go.WideShapes.add_plain,Go.WideShapes.add_plain]at Cc;exact⟨u,World.block_lt_of_cell? _ _ Cc,Cc,h3 u (List.mem_of_getElem? hu),hv⟩
theorem MZ {T:Type} {sz:Nat} {enc:T->AV} {good:T->Prop} {wt:T->Nat} {n:Nat} (ht:P.underlying t=some (.slice e)) (K4:P.cellsOf e=sz) (N7:0<sz)
  (elem:Nf P w e (λa=>(enc a).cells) good wt n) :
  Nf P w t (λys:Bool×List T=>[sl (false,ys.1) sz (ys.2.map enc)]) (λys=>∀a∈ys.2,good a) (λys=>(ys.2.map wt).sum+1) (n+1):=by
 intro H ec cs x hx;rcases DataW.trod_slice ht hx with ⟨rfl,rfl⟩|⟨a,len,cap,elems,rest,n',hn,rfl,rfl,hb,hl,hm,C2,Pj,hsp,vx⟩
 .exact⟨(false,[]),λa ha=>by simp at ha,by simp[Rows.uptoBulk],Uz (by simp only[sl,PV];exact⟨none,0,0,rfl,by simp,Nat.le_refl _,Nat.zero_le _,by simp,by simp,λh=>absurd rfl h⟩) rfl⟩
 .have pd:n'=n:=by omega
  subst pd;obtain⟨ys,OQ,hr⟩:=bE (T:=T) (n:=len) (R:=λi a'=>good a'/\(∀y,elems[i]?=some y->wt a'<=Rows.uptoBulk y.1)/\∃cs',w.cells? 0 (a.add (i*sz)) sz=some cs'/\CV w (enc a').cells cs') λi hi=>by
   have h1:=Pj i hi;rw[xl (by omega),K4]at h1;obtain⟨cs',h2,h3⟩:=Option.bind_eq_some_iff.1 h1;obtain⟨a',k1,k2,k3⟩:=elem ec cs' _ h3;exact⟨a',k1,λy hy=>by rw[xl (by omega)]at hy;cases hy;exact k2,cs',h2,k3⟩
  refine⟨(true,ys),λa' ha'=>?_,?_,Uz ((congrArg (λq=>PV w (nP w) q (.slice (some a) len cap)) (WB false sz (ys.map enc))).mp (qV (by simp[OQ]) hl hm N7 λi x hx=>?_)) rfl⟩
  .obtain⟨i,hi⟩:=List.mem_iff_getElem?.1 ha';exact(hr i a' hi).1
  .have:=Yg (wt:=wt) (ys:=ys) (l:=elems.map (·.1)) (by simp[OQ,C2]) λi a' d ha' hd=>by
    simp only[xp,xo]at hd;obtain⟨y,hy,rfl⟩:=hd;exact(hr i a' ha').2.1 y hy
   simp only[Rows.uptoBulk];omega
  .simp only[xp,xo]at hx;obtain⟨a',ha',rfl⟩:=hx;exact(hr i a' ha').2.2
theorem Gv {ys:E6} {cs:List Value} {y:AV} {c:Value} (h:CV w [y] [c]) (k:CV w ys cs):CV w (y::ys) (c::cs):=by
 obtain⟨h1,h2⟩:=h;refine⟨?_,λu hu=>?_⟩
 .simp only[BT]at h1 ⊢;obtain⟨u,us,he,h3,rfl⟩:=h1;cases he;exact⟨c,cs,rfl,h3,k.1⟩
 .rcases xq.1 hu with rfl|hu
  .exact h2 u (by simp)
  .exact k.2 u hu
end
section
variable {P:Program}
theorem Nm {H:Type} {enc:TypeId×Value->H} {W W':World} (hl:laidOutB P=true) (hb:Below W.heap.size W W'):∀{ts:List TypeId} {vs:List Value} {ds:List (DataW H)} {ps:List MemPlace},(∀t∈ts,P.readableRec t=true/\t<P.types.size) ->
  DataW.TrodAll enc P W 0 (λ_=>true) true ts vs ds ps->(∀p∈ps,p.block<W.heap.size)->∀{sp:Nat->Bool},(∀p∈ps,sp p.block=true)->DataW.TrodAll enc P W' 0 sp true ts vs ds ps
 | [],[],[],_,_,h,_,_,_=>h
 |t::ts,v::vs,d::ds,ps,hr,h,A6,sp,hs=>by
  obtain⟨p,q,h1,h2,rfl⟩:=h;refine⟨p,q,WideElems.Trod_stays hl (hr t (by simp)).1 (hr t (by simp)).2 h1 (λx hx=>hb.same (A6 x (by simp[hx]))) (λx hx=>hs x (by simp[hx])),?_,rfl⟩;exact Nm hl hb (λt ht=>hr t (by simp[ht])) h2 (λx hx=>A6 x (by simp[hx])) (λx hx=>hs x (by simp[hx]))
theorem YG {H:Type} {enc:TypeId×Value->H} {f:Func} {s:ChangeSpec} {W W':World} {args:Array Value} {v:Value} {ds gs:List (DataW H)} {Y2 pa:List MemPlace}
  (hW:DataW.Whole enc P f.params.toList s.vars false W args.toList ds gs Y2) (hps:Y2=pa)
  (hres:∀(b:Nat) (sp:Nat->Bool) (hd:Bool),DataW.TrodAll enc P W' b sp hd f.resultTypes.toList (v.resultList f.resultTypes.size) (s.fn H (ds++gs)).results [])
  (hargs:∀sp:Nat->Bool,(∀p∈Y2,sp p.block=true)->DataW.TrodAll enc P W' 0 sp true f.params.toList args.toList (s.fn H (ds++gs)).args pa)
  (hv:s.vars=[]) (hgs:(s.fn H (ds++gs)).vars=[]) (hk:W.keptBut W' (·∈Y2)) (vw:∀a:Addr,a.block<W.heap.size->W'.frozen? a=W.frozen? a)
  (AK:∀(j:Nat) (t:TypeId) (r:Value),f.resultTypes[j]?=some t->(v.resultList f.resultTypes.size)[j]?=some r->Value.okWide P W' .any 0 t r) :
  s.post enc P f false true false false W args v W':=by
 subst hps;have hold:∀p∈Y2,(λb=>decide (b<W.heap.size)) p.block=true:=λp hp=>by simpa using hW.lt p hp
 have hvars:∀sp:Nat->Bool,DataW.TrodVars enc P W' sp s.vars (s.fn H (ds++gs)).vars []:=λsp=>by rw[hv,hgs];rfl
 refine⟨ds,gs,Y2,[],Y2,[],hW,hres _ _ _,hargs _ hold,hvars _,World.keptBut_mono (λp hp=>⟨hp,?_⟩) hk,λ_=>?_⟩
 .exact Or.inr (Or.inl hp)
 .have A6:=hW.lt;obtain⟨_,_,_,_,_,hz,hn⟩:=hW;refine⟨AK,_,_,([]++Y2)++[],⟨[]++Y2,[],trodAll_append (hargs _ (λ_ _=>rfl)) (hres _ _ _),hvars _,rfl,?_,?_⟩,?_⟩
  .intro b off hp;have hp':MemPlace.cell b off∈Y2:=by simpa using hp
   rw[vw _ (A6 _ hp')];exact hz b off hp'
  .intro ha;cases ha
  .intro p hp _;simpa using hp
theorem eu {C:Cfg} (hC:CfgS P C) (hl:laidOutB P=true) {f:FuncId} {fn:Func} {tb:TypeId} (hb:P.underlying tb=some .bool) (hres:fn.resultTypes=#[tb]) (hpar:∀t∈fn.params.toList,P.readableRec t=true/\t<P.types.size)
  {s:ChangeSpec} (hv:s.vars=[]) {H:Type} {enc:TypeId×Value->H} {W:World} {args:Array Value} {ds gs:List (DataW H)} {Y2:List MemPlace}
  (hs:(s.fn H (ds++gs)).results=[.lit (.bool true)]/\(s.fn H (ds++gs)).args=ds/\(s.fn H (ds++gs)).vars=[])
  (hW:DataW.Whole enc P fn.params.toList s.vars false W args.toList ds gs Y2) {ys:List AV} (hy:BT W (nP W) ys args.toList) (h:pc C f ys=some (.bool true)) :
  Calls P f args W λe W'=>∃v,e=.returned v/\s.post enc P fn false true false false W args v W':=by
 have A6:=hW.lt;have hW':=hW;obtain⟨p,q,hA,hV,hpq,vw,fC⟩:=hW;rw[hv]at hV;obtain⟨rfl,rfl⟩:=trodVars_none hV;rw[List.append_nil]at hpq;subst hpq;refine(iS hC h W (nP W) args (λb o hb=>hb) hy).mono λe W' ⟨u,he,⟨hbel,_⟩,hu⟩=>?_;have hu':u=.bool true:=by simpa[PV]using hu
 subst hu' he;refine⟨_,rfl,YG hW' rfl (λb sp hd=>?_) (λsp hsp=>?_) hv hs.2.2 (hbel.frame _) (λa ha=>hbel.frozen ha) (RowKit.ok_one hres rfl (RowKit.okWide_bool_mk hb _))⟩
 .rw[hs.1,hres];exact trodAll_mk1 (RowKit.shut_bool hb _)
 .rw[hs.2.1];exact Nm hl hbel hpar hA A6 hsp
end
end Go.Abs
