/- A part of the proof. -/
import Derived.Test.YtohjdamplbhdpaaGreatDoorSD10
import Derived.Test.YtohjdamplbhdpaaGreatDoorRows
import Derived.ProofKit
import Derived.OpenShut
import Derived.JoinedCond
import Derived.Deep.Slices
import Derived.Carry
set_option linter.all false
open Option renaming bind_some->oD,map_eq_some_iff->xa
open List renaming getElem?_eq_getElem->xX,replicate->xY,getElem?_eq_some_iff->xZ,getElem?_map->xb,mem_cons->xc,map_map->xd,map_id->xe
namespace Go.Abs
def sl (m:Bool×Bool) (sz:Nat) (xs:List AV):AV:=.vs m.1 (if xs.isEmpty&&!m.2 then 0 else sz) xs
theorem Vt (f:Bool) (sz:Nat) (xs:E5):.vs f sz xs=sl (f,true) sz xs:=by simp[sl]
theorem Fk (sz:Nat):.vs true 0 []=sl (true,false) sz []:=by simp[sl]
@[simp] theorem tF (m:J0) (sz:Nat) (xs:E5):(sl m sz xs).isTup=false:=_root_.id rfl
@[simp] theorem tE (m:J0) (sz:Nat) (xs:E5):(sl m sz xs).cells=[sl m sz xs]:=_root_.id rfl
@[simp] theorem ur (h:AH) (am:Bool) (m:J0) (sz:Nat) (xs:E5):y5 h am (sl m sz xs)=some (sl m sz xs):=_root_.id rfl
@[simp] theorem ng (h:AH) (am:Bool) (m:J0) (sz:Nat) (xs:E5):frz h am (sl m sz xs)=some (sl m sz xs):=_root_.id rfl
@[simp] theorem tG (h:AH) (m:J0) (sz:Nat) (xs:E5):GG h (sl m sz xs)=true:=_root_.id rfl
@[simp] theorem ut (h:AH) (m:J0) (sz:Nat) (xs:E5):tame h (sl m sz xs)=true:=_root_.id rfl
@[simp] theorem uq (m:J0) (sz:Nat) (xs:E5):(sl m sz xs).flat=true:=_root_.id rfl
@[simp] theorem nh (m:J0) (sz:Nat) (xs:E5) (rest:E5):d5 false 1 (sl m sz xs::rest)=some (sl m sz xs):=_root_.id rfl
@[simp] theorem O4 (h:AH) (m:J0) (sz:Nat) (xs:E5):elems h sz (sl m sz xs)=some xs:=by
 cases xs with
 |nil=>simp[elems,sl]
 |cons x xs=>simp[elems,sl]
@[simp] theorem po (m:J0) (sz:Nat) (xs:E5):(sl m sz xs).scalar=false:=_root_.id rfl
@[simp] theorem jk (h:AH) (am:Bool) (k:IntKind) (n:Int):frz h am (.int k n)=some (.int k n):=_root_.id rfl
@[simp] theorem rI (h:AH) (am:Bool) (b:Bool):frz h am (.bool b)=some (.bool b):=_root_.id rfl
@[simp] theorem uO (h:AH) (am:Bool) (s:H6):frz h am (.str s)=some (.str s):=_root_.id rfl
@[simp] theorem vN (h:AH) (am:Bool) (f:FuncId):frz h am (.fn f [])=some (.fn f []):=_root_.id rfl
@[simp] theorem rK (h:AH) (am:Bool):frz h am .nilp=some .nilp:=_root_.id rfl
@[simp] theorem rH (h:AH) (am:Bool):JR h am []=some []:=_root_.id rfl
@[simp] theorem om (h:AH) (am:Bool) (x:AV) (xs:E5):JR h am (x::xs)=(y5 h am x).bind λy=>(JR h am xs).map (y::·):=_root_.id rfl
@[simp] theorem rE (h:AH) (am:Bool) (k:IntKind) (n:Int):y5 h am (.int k n)=some (.int k n):=_root_.id rfl
@[simp] theorem ol (h:AH) (am:Bool) (b:Bool):y5 h am (.bool b)=some (.bool b):=_root_.id rfl
@[simp] theorem rF (h:AH) (am:Bool) (s:H6):y5 h am (.str s)=some (.str s):=_root_.id rfl
@[simp] theorem uM (h:AH) (am:Bool) (cs:E5):frz h am (.agg cs)=(JR h am cs).map .agg:=_root_.id rfl
@[simp] theorem mS (h:AH) (am:Bool):f7 h am []=some []:=_root_.id rfl
@[simp] theorem lP (h:AH) (am:Bool) (x:AV) (xs:E5):f7 h am (x::xs)=(frz h am x).bind λy=>(f7 h am xs).map (y::·):=_root_.id rfl
@[simp] theorem mV (h:AH) (k:IntKind) (n:Int):Bj h (.int k n)=some (.int k n):=_root_.id rfl
@[simp] theorem lQ (h:AH) (b:Bool):Bj h (.bool b)=some (.bool b):=_root_.id rfl
@[simp] theorem mW (h:AH) (s:H6):Bj h (.str s)=some (.str s):=_root_.id rfl
@[simp] theorem oo (h:AH) (m:J0) (sz:Nat) (xs:E5):Bj h (sl m sz xs)=some (sl m sz xs):=_root_.id rfl
@[simp] theorem mU (h:AH) (cs:E5):Bj h (.agg cs)=(JR h true cs).map .agg:=_root_.id rfl
@[simp] theorem mX (h:AH) (cs:E5):Bj h (.tup cs)=(f7 h true cs).map .tup:=_root_.id rfl
@[simp] theorem rh (ys:E5) (k:List AV->Option AV) (tm:Bool) (h:AH):rg (some ys) k tm h=(match k ys with|some r=>if r.scalar||tm then some (r,h)else none|none=>none):=_root_.id rfl
@[simp] theorem nZ (k:IntKind) (n:Int):(AV.int k n).scalar=true:=_root_.id rfl
@[simp] theorem le (b:Bool):(AV.bool b).scalar=true:=_root_.id rfl
@[simp] theorem nc (s:H6):(AV.str s).scalar=true:=_root_.id rfl
@[simp] theorem pQ (k:IntKind) (n:Int):(AV.int k n).isTup=false:=_root_.id rfl
@[simp] theorem ma (b:Bool):(AV.bool b).isTup=false:=_root_.id rfl
@[simp] theorem pT (b:H6):(AV.str b).isTup=false:=_root_.id rfl
@[simp] theorem pH (cs:E5):(AV.agg cs).isTup=false:=_root_.id rfl
@[simp] theorem Ti (cs:E5):(AV.agg cs).cells=cs:=_root_.id rfl
@[simp] theorem oa (k:IntKind) (n:Int):(AV.int k n).cells=[.int k n]:=_root_.id rfl
@[simp] theorem mI (b:Bool):(AV.bool b).cells=[.bool b]:=_root_.id rfl
@[simp] theorem oc (b:H6):(AV.str b).cells=[.str b]:=_root_.id rfl
@[simp] theorem kK (n:Nat) (cs:E5):d5 true n cs=if n<=cs.length then some (.agg (cs.take n))else none:=_root_.id rfl
@[simp] theorem jB (n:Nat) (cs:E5):d5 false n cs=cs.head?:=_root_.id rfl
def rQ (h:AH) (sz:Nat) (x i:AV):Option (AV×AH) :=
 match x,i with
 | .vs _ z xs,.int _ j=>if 0<=j/\z=sz then (match xs[j.toNat]? with|some e=>some (.pv e.cells,h)|none=>none)else none
 | .sl k n off len,.int _ j=>if 0<=j/\j<len then some (.ep k n (off+j.toNat) 0 sz,h)else none
 | .bsl b s off len,.int _ j=>if 0<=j/\j<len/\s=sz then some (.ptr b (off+j.toNat*sz),h)else none
 |_,_=>none
def Pf (h:AH) (x:AV):Option (AV×AH) :=
 match x with
 | .vs _ _ xs=>some (.int .i64 xs.length,h)
 | .sl _ _ _ len=>some (.int .i64 len,h)
 | .bsl _ _ _ len=>some (.int .i64 len,h)
 |_=>none
def TX (h:AH) (sz:Nat) (x:AV) (l u m:Option (Option Int)):Option (AV×AH) :=
 match l,u,m with
 |some l,some u,some m=>match Jd h sz x l u m with|some v=>some (v,h)|none=>none
 |_,_,_=>none
def ub (neg:Bool) (h:AH) (x:AV):Option (AV×AH):=match x with | .vs _ z _=>some (.bool (if neg then !(z == 0)else z == 0),h)|_=>none
theorem Nw (neg:Bool) (h:AH) (m:J0) (sz:Nat) (K3:0<sz) (xs:E5):ub neg h (sl m sz xs)=some (.bool (if neg then !(xs.isEmpty&&!m.2)else (xs.isEmpty&&!m.2)),h):=by
 unfold ub sl;by_cases hx:(xs.isEmpty&&!m.2)=true
 .simp[hx]
 .have:(sz == 0)=false:=by simp;omega
  simp[hx,this]
section
variable {O:Orc} {c:Ctx} (fr:Fr) (h:AH)
@[simp] theorem wJ (x:Opd):A2 O c (.mov x) fr h=some (get fr x,h):=_root_.id rfl
@[simp] theorem uh (q a b:Opd):A2 O c (.pick q a b) fr h=(match get fr q with | .bool t=>some (if t then get fr a else get fr b,h)|_=>none):=_root_.id rfl
@[simp] theorem vx (x:Opd):A2 O c (.box x) fr h=if (get fr x).isTup then none else some (.ptr h.boxes.length 0,{h with boxes:=h.boxes++[(get fr x).cells]}):=_root_.id rfl
@[simp] theorem sJ (z:AV):A2 O c (.alloc z) fr h=some (.ptr h.boxes.length 0,{h with boxes:=h.boxes++[z.cells]}):=_root_.id rfl
@[simp] theorem sK (z:AV) (parts:List (Nat×Nat×Opd)):A2 O c (.build z parts) fr h=(D0 fr z.cells.length parts).map λps=>(.agg (E7 z.cells ps),h):=by
 simp only[A2];cases D0 fr z.cells.length parts<;>rfl
@[simp] theorem ph (n:Nat) (z:AV) (parts:List (Nat×Opd)):A2 O c (.bslice n z parts) fr h=(A3 fr h (xY n z) parts).map λxs=>(sl (true,true) z.cells.length xs,h):=by
 simp only[A2,Vt];cases A3 fr h (xY n z) parts<;>rfl
@[simp] theorem nE (n:Nat) (z:AV) (parts:List (Nat×Opd)):A2 O c (.bslicev n z parts) fr h=if parts.all (λp=>KA (get fr p.2))then (A3 fr h (xY n z) parts).map λxs=>(sl (true,true) z.cells.length xs,h)else none:=by
 simp only[A2,Vt];cases A3 fr h (xY n z) parts<;>rfl
@[simp] theorem wD (agg:Bool) (n:Nat) (x:Opd):A2 O c (.ldb agg n x) fr h=(match get fr x with | .ep ..=>none|p=>(match DR h agg n p with|some v=>some (v,h)|none=>none)):=_root_.id rfl
@[simp] theorem sU (x:Opd):A2 O c (.nilck x) fr h=(match get fr x with | .pv cs=>some (.pv cs,h) | .ptr b o=>some (.ptr b o,h) | .ep k n i q s=>some (.ep k n i q s,h) | .fn f cs=>some (.fn f cs,h)|_=>none):=_root_.id rfl
@[simp] theorem vw (op:BinOp) (x y:Opd):A2 O c (.bin op x y) fr h=(D5 op (get fr x) (get fr y)).map λv=>(v,h):=by
 simp only[A2];cases D5 op (get fr x) (get fr y)<;>rfl
@[simp] theorem vv (neg:Bool) (x y:Opd):A2 O c (.beq neg x y) fr h=(match get fr x,get fr y with | .bool a,.bool b=>some (.bool (if neg then !(a == b)else a == b),h)|_,_=>none):=_root_.id rfl
@[simp] theorem sV (neg:Bool) (x:Opd):A2 O c (.nileq neg x) fr h=ub neg h (get fr x):=by
 simp only[A2,ub];rfl
@[simp] theorem xE (op:UnOp) (x:Opd):A2 O c (.un op x) fr h=(Nn op (get fr x)).map λv=>(v,h):=by
 simp only[A2];cases Nn op (get fr x)<;>rfl
@[simp] theorem uf (k:IntKind) (x:Opd):A2 O c (.conv k x) fr h=(match get fr x with | .int _ n=>some (.int k (k.wrap n),h)|_=>none):=_root_.id rfl
@[simp] theorem ug (x:Opd):A2 O c (.cstr x) fr h=(match get fr x with | .str s=>some (.str s,h)|_=>none):=_root_.id rfl
@[simp] theorem ud (x:Opd):A2 O c (.bstr x) fr h=Th h (get fr x):=_root_.id rfl
def vk (b:Bool) (x y:Option (AV×AH)):Option (AV×AH):=if b then x else y
@[simp] theorem wz (x y:Option (AV×AH)):vk true x y=x:=_root_.id rfl
@[simp] theorem wy (x y:Option (AV×AH)):vk false x y=y:=_root_.id rfl
@[simp] theorem ue (f:FuncId) (caps:List Opd):A2 O c (.clos f caps) fr h=vk c.ro ((Ai h (caps.map (get fr))).map λp=>(.fn f p.1,p.2)) (some (.fn f (caps.map (get fr)),h)):=_root_.id rfl
@[simp] theorem nH (z:AV) (bytes:Nat) (l q:Opd):A2 O c (.mkslice z bytes l q) fr h=(match get fr l,get fr q with
  | .int _ a,.int _ b =>
   if 0<=a/\a<=b/\b*bytes<=G5/\b<=maxLen then
    some (.sl h.fams.length a.toNat 0 a.toNat,{h with fams:=h.fams++[⟨xY a.toNat z,z.cells.length,true⟩]})
   else none
  |_,_=>none):=_root_.id rfl
@[simp] theorem sN (off:Nat) (x:Opd):A2 O c (.faddr off x) fr h=(match get fr x with | .pv cs=>some (.pv (cs.drop off),h) | .ptr b o=>some (.ptr b (o+off),h) | .ep k n i q s=>some (.ep k n i (q+off) s,h)|_=>none):=_root_.id rfl
@[simp] theorem wA (agg:Bool) (off n:Nat) (x:Opd):A2 O c (.fld agg off n x) fr h=(match get fr x with | .agg cs=>(match d5 agg n (cs.drop off)with|some v=>some (v,h)|none=>none)|_=>none):=_root_.id rfl
@[simp] theorem wC (x i:Opd):A2 O c (.idx x i) fr h=(match get fr x,get fr i with
  | .str s,.int _ j=>if 0<=j then (match s[j.toNat]? with|some b=>some (.int .u8 b.toNat,h)|none=>none)else none
  |_,_=>none):=_root_.id rfl
@[simp] theorem vz (x:Opd) (i:Nat):A2 O c (.ext x i) fr h=(match get fr x with | .tup vs=>(match vs[i]? with|some v=>some (v,h)|none=>none)|_=>none):=_root_.id rfl
@[simp] theorem ui (x:Opd):A2 O c (.len true x) fr h=(match get fr x with | .str s=>some (.int .i64 s.size,h)|_=>none):=_root_.id rfl
@[simp] theorem wG (x y:Opd):A2 O c (.max x y) fr h=(match get fr x,get fr y with | .int k a,.int k' b=>if k=k' then some (.int k (if b > a then b else a),h)else none|_,_=>none):=_root_.id rfl
@[simp] theorem sO (sz:Nat) (x i:Opd):A2 O c (.iaddr sz x i) fr h=rQ h sz (get fr x) (get fr i):=_root_.id rfl
@[simp] theorem wN (n:Nat) (a x:Opd):A2 O c (.ste n a x) fr h=Sm h n (get fr a) (get fr x):=_root_.id rfl
@[simp] theorem wM (n:Nat) (a x:Opd):A2 O c (.stb n a x) fr h=Sl h n (get fr a) (get fr x):=_root_.id rfl
@[simp] theorem wI (z:AV) (bytes:Nat) (l q:Opd):A2 O c (.mkv z bytes l q) fr h=ZP h z bytes (get fr l) (get fr q):=_root_.id rfl
@[simp] theorem wH (z:AV) (bytes:Nat) (l q:Opd):A2 O c (.mkb z bytes l q) fr h=VU h z bytes (get fr l) (get fr q):=_root_.id rfl
@[simp] theorem vy (z:AV) (x:Opd):A2 O c (.clr z x) fr h=PX h z (get fr x):=_root_.id rfl
@[simp] theorem wE (x:Opd):A2 O c (.len false x) fr h=Pf h (get fr x):=_root_.id rfl
def cl (b:Bool) (x y:Unit->Option (AV×AH)):Option (AV×AH):=if b then x ()else y ()
@[simp] theorem vj (x y:Unit->Option (AV×AH)):cl true x y=x ():=_root_.id rfl
@[simp] theorem vi (x y:Unit->Option (AV×AH)):cl false x y=y ():=_root_.id rfl
@[congr] theorem mi {b b':Bool} {x y:Unit->Option (AV×AH)} (h:b=b'):cl b x y=cl b' x y:=by rw[h]
@[simp] theorem sL {C:Cfg} (f:FuncId) (xs:List Opd):A2 (Q8 C) c (.call f xs) fr h=cl (c.raw f) (λ_=>UJ (c.noB f) h (rc C f (xs.map (get fr)) h)) (λ_=>rg (f7 h true (xs.map (get fr))) (λys=>pc C f ys) ((xs.map (get fr)).all (tame h)) h):=by
 cases hr:c.raw f with
 |false=>exact aw hr xs fr h
 |true=>exact Xa hr xs fr h
def uX (b:Bool) (x:Option (AV×AH)):Option (AV×AH):=if b then none else x
@[simp] theorem wv (x:Option (AV×AH)):uX true x=none:=_root_.id rfl
@[simp] theorem wu (x:Option (AV×AH)):uX false x=x:=_root_.id rfl
@[simp] theorem sM {C:Cfg} (x:Opd) (xs:List Opd):A2 (Q8 C) c (.callv x xs) fr h=(match get fr x with
  | .fn f caps=>uX (c.raw f&&!c.rawv) (cl (c.raw f) (λ_=>UJ (c.noB f) h (rc C f (xs.map (get fr)++caps) h)) (λ_=>rg (f7 h true (xs.map (get fr)++caps)) (λys=>pc C f ys) ((xs.map (get fr)++caps).all (tame h)) h))
  |_=>none):=by
 simp only[A2];cases get fr x with
 |fn f caps =>
  simp only;unfold uX;by_cases hq:(c.raw f&&!c.rawv)=true
  .rw[if_pos hq,if_pos hq]
  .rw[if_neg hq,if_neg hq];cases hr:c.raw f with
   |false =>
    have:=aw (C:=C) hr ((xs.map (get fr)++caps).map Opd.c) fr h;simp only[A2,xd]at this;rw[show (get fr∘Opd.c)=id from rfl,xe]at this;exact this
   |true =>
    have:=Xa (C:=C) hr ((xs.map (get fr)++caps).map Opd.c) fr h;simp only[A2,xd]at this;rw[show (get fr∘Opd.c)=id from rfl,xe]at this;exact this
 |_=>rfl
@[simp] theorem sP:A2 O c .mkmap fr h=some (.mp h.boxes.length,{h with boxes:=h.boxes++[[.mbox [] []]]}):=_root_.id rfl
@[simp] theorem sS (str ok:Bool) (z:AV) (x k:Opd):A2 O c (.mlook str ok z x k) fr h=En str ok z h (get fr x) (get fr k):=_root_.id rfl
@[simp] theorem wK (str:Bool) (x k v:Opd):A2 O c (.mup str x k v) fr h=ZR str h (get fr x) (get fr k) (get fr v):=_root_.id rfl
@[simp] theorem wL (sz:Nat) (x:Opd) (lo hi mx:Option Opd):A2 O c (.slc sz x lo hi mx) fr h=TX h sz (get fr x) (O8 fr lo) (O8 fr hi) (O8 fr mx):=_root_.id rfl
@[simp] theorem vu (sz bytes:Nat) (s x:Opd):A2 O c (.app sz bytes s x) fr h=L5 c h sz bytes (get fr s) (get fr x):=_root_.id rfl
@[simp] theorem xC (agg:Bool) (n:Nat) (x:Opd):A2 O c (.ld agg n x) fr h=(DR h agg n (get fr x)).map λv=>(v,h):=by
 simp only[A2];cases DR h agg n (get fr x)<;>rfl
@[simp] theorem xD (n:Nat) (a x:Opd):A2 O c (.st n a x) fr h=(HS h n (get fr x) (get fr a)).map λh'=>(A9,h'):=by
 simp only[A2];cases HS h n (get fr x) (get fr a)<;>rfl
end
def Ir (xs:List AV) (i:Nat):Option AV:=xs[i]?
@[simp] theorem sH (x:AV) (xs:E5):Ir (x::xs) 0=some x:=_root_.id rfl
@[simp] theorem sF (x:AV) (xs:E5) (i:Nat):Ir (x::xs) (i+1)=Ir xs i:=_root_.id rfl
theorem H8 {α:Type} {f:α->AV} {l:List α} {i:Nat} {x:α} (h:l[i]?=some x):Ir (l.map f) i=some (f x):=by simp[Ir,h]
@[simp] theorem vZ (h:AH) (m:J0) (sz:Nat) (xs:E5) (k:IntKind) (j:Int):rQ h sz (sl m sz xs) (.int k j)=if 0<=j then (Ir xs j.toNat).map (λe=>(.pv e.cells,h))else none:=by
 unfold rQ sl Ir;simp only;by_cases hj:0<=j
 .rw[if_pos hj];cases hx:xs[j.toNat]? with
  |none=>simp
  |some e =>
   cases xs with
   |nil=>simp at hx
   |cons y ys=>simp[hj]
 .rw[if_neg hj,if_neg (by omega)]
@[simp] theorem uY (h:AH) (m:J0) (sz:Nat) (xs:E5):Pf h (sl m sz xs)=some (.int .i64 xs.length,h):=_root_.id rfl
@[simp] theorem rx (h:AH) (b s off len:Nat):Pf h (.bsl b s off len)=some (.int .i64 len,h):=_root_.id rfl
@[simp] theorem uR (h:AH) (sz b s off len:Nat) (kd:IntKind) (j:Int):rQ h sz (.bsl b s off len) (.int kd j)=if 0<=j/\j<len/\s=sz then some (.ptr b (off+j.toNat*sz),h)else none:=_root_.id rfl
@[simp] theorem pW (h:AH) (k n off len:Nat):Pf h (.sl k n off len)=some (.int .i64 len,h):=_root_.id rfl
@[simp] theorem Rd (h:AH) (am:Bool) (k n off len:Nat):frz h am (.sl k n off len)=y5 h am (.sl k n off len):=_root_.id rfl
@[simp] theorem sA (h:AH) (agg:Bool) (n:Nat) (cs:E5):DR h agg n (.pv cs)=d5 agg n cs:=_root_.id rfl
@[simp] theorem rU:CG []=false:=_root_.id rfl
@[simp] theorem fq (x y:AV) (l:E5):CG (x::y::l)=false:=by cases x<;>rfl
@[simp] theorem rT (k:IntKind) (n:Int):CG [.int k n]=false:=_root_.id rfl
@[simp] theorem ox (b:Bool):CG [.bool b]=false:=_root_.id rfl
@[simp] theorem rW (b:H6):CG [.str b]=false:=_root_.id rfl
@[simp] theorem uW (f:Bool) (sz:Nat) (xs:E5):CG [.vs f sz xs]=false:=_root_.id rfl
@[simp] theorem uU (m:J0) (sz:Nat) (xs:E5):CG [sl m sz xs]=false:=_root_.id rfl
@[simp] theorem pG (k n off len:Nat):CG [.sl k n off len]=false:=_root_.id rfl
@[simp] theorem rV (b off:Nat):CG [.ptr b off]=false:=_root_.id rfl
@[simp] theorem rS (cs:E5):CG [.agg cs]=false:=_root_.id rfl
@[simp] theorem uT (b:Nat):CG [.mp b]=false:=_root_.id rfl
@[simp] theorem uV (ks vs:E5):CG [.vm ks vs]=false:=_root_.id rfl
@[simp] theorem uS (f:FuncId) (cs:E5):CG [.fn f cs]=false:=_root_.id rfl
@[simp] theorem oz (cs:E5):CG [.rbox cs]=true:=_root_.id rfl
@[simp] theorem wQ (agg:Bool) (n off:Nat) (ys:E5):kx agg n off [.rbox ys]=d5 agg n (ys.drop off):=_root_.id rfl
@[simp] theorem pb (h:AH) (agg:Bool) (n b off:Nat):DR h agg n (.ptr b off)=(h.boxes[b]?).bind λcs=>if CG cs then kx agg n off cs else d5 agg n (cs.drop off):=by
 simp only[DR];cases h.boxes[b]?<;>rfl
@[simp] theorem nr (h:AH) (n:Nat) (v:AV) (b off:Nat):HS h n v (.ptr b off)=(h.boxes[b]?).bind λcs=>if CG cs=false/\v.isTup=false/\v.cells.length=n/\off+n<=cs.length then some {h with boxes:=h.boxes.set b (I6 cs off v.cells)} else none:=by
 simp only[HS];cases h.boxes[b]?<;>rfl
@[simp] theorem rv (h:AH) (v:AV):VN h v=match frz h false v with|some _=>some h|none=>eK h v:=_root_.id rfl
@[simp] theorem um (h:AH) (k n off len:Nat):eK h (.sl k n off len)=(h.fams[k]?).map λf=>{h with fams:=h.fams.set k {f with wr:=false}}:=by
 simp only[eK];cases h.fams[k]?<;>rfl
@[simp] theorem NK (h:AH) (n:Nat) (v:AV) (k m i q sz:Nat):HS h n v (.ep k m i q sz)=(VN h v).bind λh=>(h.fams[k]?).bind λf =>
  if f.xs.length=m/\f.sz=sz/\f.wr=true then
   (f.xs[i]?).bind λx=>(frz h false v).bind λu=>if u.cells.length=n/\q+n<=x.cells.length then
    (x.reform (I6 x.cells q u.cells)).map λy=>{h with fams:=h.fams.set k {f with xs:=f.xs.set i y}} else none
  else none:=by
 simp only[HS];cases VN h v with
 |none=>rfl
 |some h =>
  simp only[oD,Es];cases h.fams[k]? with
  |none=>rfl
  |some f =>
   simp only[oD];split
   .cases f.xs[i]? with
    |none=>rfl
    |some x=>cases frz h false v<;>rfl
   .rfl
@[simp] theorem rz (h:AH) (agg:Bool) (n k m i q sz:Nat):DR h agg n (.ep k m i q sz)=(h.fams[k]?).bind λf=>if f.xs.length=m/\f.sz=sz then (f.xs[i]?).bind λx=>d5 agg n (x.cells.drop q)else none:=by
 simp only[DR];cases h.fams[k]? with
 |none=>rfl
 |some f =>
  simp only[oD];split
  .cases f.xs[i]?<;>rfl
  .rfl
@[simp] theorem rR (h:AH) (sz k n off len:Nat) (kd:IntKind) (j:Int):rQ h sz (.sl k n off len) (.int kd j)=if 0<=j/\j<len then some (.ep k n (off+j.toNat) 0 sz,h)else none:=_root_.id rfl
@[simp] theorem ni (cs:E5) (off:Nat) (new:E5):I6 cs off new=cs.take off++new++cs.drop (off+new.length):=_root_.id rfl
@[simp] theorem tr (k:IntKind) (a b:Int):D5 .lss (.int k a) (.int k b)=some (.bool (decide (a<b))):=by simp[D5]
@[simp] theorem tq (k:IntKind) (a b:Int):D5 .leq (.int k a) (.int k b)=some (.bool (decide (a<=b))):=by simp[D5]
@[simp] theorem tj (k:IntKind) (a b:Int):D5 .gtr (.int k a) (.int k b)=some (.bool (decide (b<a))):=by simp[D5]
@[simp] theorem ti (k:IntKind) (a b:Int):D5 .geq (.int k a) (.int k b)=some (.bool (decide (b<=a))):=by simp[D5]
@[simp] theorem th (k:IntKind) (a b:Int):D5 .eql (.int k a) (.int k b)=some (.bool (decide (a=b))):=by simp only[D5,if_true];rfl
@[simp] theorem tt (k:IntKind) (a b:Int):D5 .neq (.int k a) (.int k b)=some (.bool (!decide (a=b))):=by simp only[D5,if_true];rfl
@[simp] theorem tg (k:IntKind) (a b:Int):D5 .add (.int k a) (.int k b)=some (.int k (k.wrap (a+b))):=by simp[D5]
@[simp] theorem tu (k:IntKind) (a b:Int):D5 .sub (.int k a) (.int k b)=some (.int k (k.wrap (a-b))):=by simp[D5]
theorem Ux (a b:List UInt8):(a == b)=decide (a=b):=by
 by_cases h:a=b<;>simp[h]
@[simp] theorem qQ (a b:H6):D5 .lss (.str a) (.str b)=some (.bool (Op.bytesLess a.toList b.toList)):=_root_.id rfl
@[simp] theorem qP (a b:H6):D5 .gtr (.str a) (.str b)=some (.bool !(Op.bytesLess a.toList b.toList||decide (a.toList=b.toList))):=by simp only[D5];rw[Ux]
@[simp] theorem qO (a b:H6):D5 .eql (.str a) (.str b)=some (.bool (decide (a.toList=b.toList))):=by simp only[D5];rw[Ux]
@[simp] theorem qR (a b:H6):D5 .neq (.str a) (.str b)=some (.bool !(decide (a.toList=b.toList))):=by simp only[D5];rw[Ux]
@[simp] theorem sx (fr:Fr) (h:AH):Jb fr h []=some []:=_root_.id rfl
@[simp] theorem sy (fr:Fr) (h:AH) (t:Nat) (rs:List RRes):Jb fr h (.tmp t::rs)=(Jb fr h rs).map (A0 fr t::·):=_root_.id rfl
@[simp] theorem pn (fr:Fr) (h:AH) (a n:Nat) (agg:Bool) (rs:List RRes):Jb fr h (.cell a agg n::rs)=(DR h agg n (A0 fr a)).bind λv=>(Jb fr h rs).map (v::·):=_root_.id rfl
@[simp] theorem wX (b:Bool):Nn .not (.bool b)=some (.bool !b):=_root_.id rfl
theorem M5 {n:Int} (h0:-9223372036854775808<=n) (h1:n<=9223372036854775807):IntKind.i64.wrap n=n:=by
 simp only[IntKind.wrap,IntKind.bits,IntKind.signed];simp only[Bool.true_and,decide_eq_true_eq,ge_iff_le];split<;>omega
theorem E6 (i:Nat) (h:i<9223372036854775807):IntKind.i64.wrap ((i:Int)+1)=(i:Int)+1:=M5 (by omega) (by omega)
theorem wY (i:Nat) (h:i<9223372036854775807):IntKind.i64.wrap ((i:Int)+1)=((i+1:Nat):Int):=M5 (by omega) (by omega)
@[simp] theorem Do (h:AH) (am:Bool) (k n off len:Nat):y5 h am (.sl k n off len)=(h.fams[k]?).bind λf=>if f.xs.length=n/\off+len<=n/\(am||!f.wr)=true then some (sl (false,true) f.sz ((f.xs.drop off).take len))else none:=by
 simp only[y5];cases h.fams[k]? with
 |none=>rfl
 |some f=>simp only[oD,Vt]
@[simp] theorem jl (h:AH) (am:Bool):frz h am (.vs true 0 [])=some (sl (true,false) 1 []):=_root_.id rfl
@[simp] theorem fc (h:AH) (am:Bool):y5 h am (.vs true 0 [])=some (sl (true,false) 1 []):=_root_.id rfl
theorem Db (m:J0) (hm:m.2=false) (a b:Nat):sl m a []=sl m b []:=by simp[sl,hm]
@[simp] theorem aJ (c:Ctx) (h:AH) (sz bytes:Nat) (x:AV):L5 c h sz bytes (.vs true 0 []) x=(elems h sz x).bind λys =>
  if ys.length=0 then some (.vs true 0 [],h)else if ys.length*bytes<=G5/\ys.length<=maxLen then some (.sl h.fams.length ys.length 0 ys.length,{h with fams:=h.fams++[⟨ys,sz,c.mutApp⟩]})else none:=by
 simp only[L5];cases elems h sz x with
 |none=>rfl
 |some ys=>simp
@[simp] theorem RN (c:Ctx) (h:AH) (sz bytes k n off len:Nat) (x:AV):L5 c h sz bytes (.sl k n off len) x=(elems h sz x).bind λys=>(h.fams[k]?).bind λf =>
  if f.xs.length=n/\f.sz=sz/\off+len=n/\(n+ys.length)*bytes<=G5/\n+ys.length<=maxLen then some (.sl k (n+ys.length) off (len+ys.length),{h with fams:=h.fams.set k {f with xs:=f.xs++ys}})else none:=by
 simp only[L5];cases elems h sz x with
 |none=>rfl
 |some ys=>cases h.fams[k]?<;>rfl
theorem FQ (c:Ctx) (h:AH) (sz bytes:Nat) (b:Bool) (xs:E5) (x:AV):L5 c h sz bytes (sl (true,b) sz xs) x=(elems h sz x).bind λys =>
  if ys.length=0 then some (sl (true,b) sz xs,h)else if (xs.length+ys.length)*bytes<=G5/\xs.length+ys.length<=maxLen then some (.sl h.fams.length (xs.length+ys.length) 0 (xs.length+ys.length),{h with fams:=h.fams++[⟨xs++ys,sz,c.mutApp⟩]})else none:=by
 simp only[L5,sl];cases elems h sz x with
 |none=>rfl
 |some ys =>
  simp only[oD];cases xs<;>simp
inductive Tm where
 |mk (kind:Int) (name:ByteArray) (sort:Int) (m:Bool×Bool) (kids:List Tm)
abbrev I1:=List Tm
mutual
def B8:Tm->AV
 | .mk k n s m l=>.agg [.int .i64 k,.str n,.int .i64 s,sl m 4 (A4 l)]
def A4:List Tm->List AV
 | []=>[]
 |t::l=>B8 t::A4 l
end
theorem D7 (l:I1):A4 l=l.map B8:=by
 induction l with
 |nil=>rfl
 |cons t l ih=>simp[A4,ih]
theorem IN {l:I1} {i:Nat} {t:Tm} (h:l[i]?=some t):Ir (A4 l) i=some (B8 t):=by rw[D7];exact H8 h
@[simp] theorem li (l:I1):(A4 l).length=l.length:=by simp[D7]
mutual
def Tm.size:Tm->Nat
 | .mk _ _ _ _ l=>1+Tm.sizes l
def Tm.sizes:List Tm->Nat
 | []=>0
 |t::l=>t.size+Tm.sizes l
end
theorem Tm.size_pos (t:Tm):0<t.size:=by cases t;simp[Tm.size];omega
theorem Tm.sizes_append (l r:I1):Tm.sizes (l++r)=Tm.sizes l+Tm.sizes r:=by
 induction l with
 |nil=>simp[Tm.sizes]
 |cons t l ih=>simp[Tm.sizes,ih];omega
theorem Tm.size_le {t:Tm} {l:I1} (h:t∈l):t.size<=Tm.sizes l:=by
 induction l with
 |nil=>cases h
 |cons x l ih =>
  simp only[Tm.sizes];rcases xc.1 h with rfl|h
  .omega
  .have:=ih h;omega
theorem Tm.length_le (l:I1):l.length<=Tm.sizes l:=by
 induction l with
 |nil=>simp
 |cons x l ih=>have:=x.size_pos;simp only[Tm.sizes,List.length_cons];omega
end Go.Abs
namespace Go.Abs
open Go.RowKit (Below)
open Go.ChangeShapes Go.WideShapes Go.Deep
open Go.Proofs.YtohjdamplbhdpaaGreatDoor (Rows.uptoBulk Rows.uptoBulkAll)
abbrev nD (w:World):Nat->Nat->Prop:=λb _=>b<w.heap.size
def CV (w:World) (ys:List AV) (cs:List Value):Prop:=BS w (nD w) ys cs/\∀u∈cs,u.oneCell'=true
def OO (P:Program) (w:World) (t:TypeId) {T:Type} (cells:T->List AV) (good:T->Prop) (wt:T->Nat) (n:Nat):Prop :=
 ∀{H:Type} (enc:TypeId×Value->H) (cs:List Value) (x:DataW H×List MemPlace),DataW.trod enc P w 0 (λ_=>true) true n t cs=some x ->
  ∃a,good a/\wt a<=Rows.uptoBulk x.1/\CV w (cells a) cs
section
variable {P:Program} {w:World} {t e:TypeId}
theorem Ur {a:AV} {v:Value} (h:PV w (nD w) a v) (ho:v.oneCell'=true):CV w [a] [v]:=by
 refine⟨?_,λu hu=>by simp at hu;subst hu;exact ho⟩;simp only[BS];exact⟨v,[],rfl,h,rfl⟩
theorem dS {k:IntKind} (ht:P.underlying t=some (.int k)) (n:Nat):OO P w t (λi:Int=>[.int k i]) (λi=>(Lit.int k i).wf=true) (λ_=>1) n:=by
 intro H enc cs x hx;obtain⟨i,rfl,rfl,hw⟩:=DataW.trod_int ht hx;exact⟨i,hw,by simp[Rows.uptoBulk],Ur (by simp[PV]) rfl⟩
theorem ZU (ht:P.underlying t=some .bool) (n:Nat):OO P w t (λb:Bool=>[.bool b]) (λ_=>True) (λ_=>1) n:=by
 intro H enc cs x hx;obtain⟨i,rfl,rfl⟩:=DataW.trod_bool ht hx;exact⟨i,trivial,by simp[Rows.uptoBulk],Ur (by simp[PV]) rfl⟩
theorem ak {T:Type} {R:Nat->T->Prop}:∀{n:Nat},(∀i,i<n->∃a,R i a)->∃ys:List T,ys.length=n/\∀i a,ys[i]?=some a->R i a
 |0,_=>⟨[],rfl,λi a h=>by simp at h⟩
 |n+1,h=>by
  obtain⟨ys,hl,ha⟩:=ak (n:=n) λi hi=>h i (by omega);obtain⟨a,hr⟩:=h n (by omega);refine⟨ys++[a],by simp[hl],λi b hb=>?_⟩;by_cases hi:i<n
  .rw[List.getElem?_append_left (by omega)]at hb;exact ha i b hb
  .rw[List.getElem?_append_right (by omega),hl]at hb;have Yk:i=n:=by
    have:=(xZ.1 hb).1;simp at this;omega
   subst Yk;simp at hb;subst hb;exact hr
theorem YX {H T:Type} {wt:T->Nat}:∀{ys:List T} {l:List (DataW H)},ys.length=l.length->(∀(i:Nat) (a:T) (d:DataW H),ys[i]?=some a->l[i]?=some d->wt a<=Rows.uptoBulk d)->(ys.map wt).sum<=Rows.uptoBulkAll l
 | [],l,_,_=>by simp
 |a::ys,[],h,_=>by simp at h
 |a::ys,d::l,h,k=>by
  have h1:=k 0 a d rfl rfl;have h2:=YX (ys:=ys) (l:=l) (by simpa using h) λi a d ha hd=>k (i+1) a d (by simpa using ha) (by simpa using hd);simp only[List.map_cons,List.sum_cons,Rows.uptoBulkAll];omega
theorem qK {sz:Nat} {xs:E5} {a:Addr} {len cap:Nat} (C2:xs.length=len) (hc:len<=cap) (hm:cap<=maxLen) (K3:0<sz)
  (hx:∀(i:Nat) (x:AV),xs[i]?=some x->∃cs',w.cells? 0 (a.add (i*sz)) sz=some cs'/\CV w x.cells cs'):PV w (nD w) (.vs false sz xs) (.slice (some a) len cap):=by
 simp only[PV];refine⟨some a,len,cap,rfl,C2.symm,hc,hm,(by simp),⟨(by simp),⟨(by simp),λe=>absurd K3 (by omega)⟩⟩,λM8=>?_⟩;have spot:a.spot=none:=by
  cases xs with
  |nil=>exact absurd rfl M8
  |cons x xs =>
   obtain⟨cs',h1,h2,_⟩:=hx 0 x rfl;obtain⟨_,hl,hcell⟩:=World.cells?_some h1;have h0:=hcell 0 K3;rw[xX (by omega)]at h0;simpa[Addr.add]using World.cell?_spot h0
 obtain⟨b,o,sp⟩:=a;subst spot;refine⟨b,o,rfl,K3,OP λj x hj=>?_⟩;obtain⟨cs',h1,h2,h3⟩:=hx j x hj;obtain⟨_,hl,hcell⟩:=World.cells?_some h1;obtain⟨g1,g2⟩:=Eg h2;refine⟨by omega,Hv λq c hq=>?_⟩;obtain⟨u,hu,hv⟩:=g2 hq;have hqlt:q<sz:=by
  have:=(xZ.1 hq).1;omega
 have Cr:=hcell q hqlt;rw[hu,Go.WideShapes.add_plain,Go.WideShapes.add_plain]at Cr;exact⟨u,World.block_lt_of_cell? _ _ Cr,Cr,h3 u (List.mem_of_getElem? hu),hv⟩
theorem MJ {T:Type} {sz:Nat} {enc:T->AV} {good:T->Prop} {wt:T->Nat} {n:Nat} (ht:P.underlying t=some (.slice e)) (K3:P.cellsOf e=sz) (N7:0<sz)
  (elem:OO P w e (λa=>(enc a).cells) good wt n) :
  OO P w t (λys:Bool×List T=>[sl (false,ys.1) sz (ys.2.map enc)]) (λys=>∀a∈ys.2,good a) (λys=>(ys.2.map wt).sum+1) (n+1):=by
 intro H ec cs x hx;rcases DataW.trod_slice ht hx with ⟨rfl,rfl⟩|⟨a,len,cap,elems,rest,n',hn,rfl,rfl,hb,hl,hm,C2,Pa,hsp,wm⟩
 .exact⟨(false,[]),λa ha=>by simp at ha,by simp[Rows.uptoBulk],Ur (by simp only[sl,PV];exact⟨none,0,0,rfl,by simp,Nat.le_refl _,Nat.zero_le _,by simp,by simp,λh=>absurd rfl h⟩) rfl⟩
 .have ov:n'=n:=by omega
  subst ov;obtain⟨ys,OG,hr⟩:=ak (T:=T) (n:=len) (R:=λi a'=>good a'/\(∀y,elems[i]?=some y->wt a'<=Rows.uptoBulk y.1)/\∃cs',w.cells? 0 (a.add (i*sz)) sz=some cs'/\CV w (enc a').cells cs') λi hi=>by
   have h1:=Pa i hi;rw[xX (by omega),K3]at h1;obtain⟨cs',h2,h3⟩:=Option.bind_eq_some_iff.1 h1;obtain⟨a',k1,k2,k3⟩:=elem ec cs' _ h3;exact⟨a',k1,λy hy=>by rw[xX (by omega)]at hy;cases hy;exact k2,cs',h2,k3⟩
  refine⟨(true,ys),λa' ha'=>?_,?_,Ur ((congrArg (λq=>PV w (nD w) q (.slice (some a) len cap)) (Vt false sz (ys.map enc))).mp (qK (by simp[OG]) hl hm N7 λi x hx=>?_)) rfl⟩
  .obtain⟨i,hi⟩:=List.mem_iff_getElem?.1 ha';exact(hr i a' hi).1
  .have:=YX (wt:=wt) (ys:=ys) (l:=elems.map (·.1)) (by simp[OG,C2]) λi a' d ha' hd=>by
    simp only[xb,xa]at hd;obtain⟨y,hy,rfl⟩:=hd;exact(hr i a' ha').2.1 y hy
   simp only[Rows.uptoBulk];omega
  .simp only[xb,xa]at hx;obtain⟨a',ha',rfl⟩:=hx;exact(hr i a' ha').2.2
theorem Hd {ys:E5} {cs:List Value} {y:AV} {c:Value} (h:CV w [y] [c]) (k:CV w ys cs):CV w (y::ys) (c::cs):=by
 obtain⟨h1,h2⟩:=h;refine⟨?_,λu hu=>?_⟩
 .simp only[BS]at h1 ⊢;obtain⟨u,us,he,h3,rfl⟩:=h1;cases he;exact⟨c,cs,rfl,h3,k.1⟩
 .rcases xc.1 hu with rfl|hu
  .exact h2 u (by simp)
  .exact k.2 u hu
end
section
variable {P:Program}
theorem Nc {H:Type} {enc:TypeId×Value->H} {W W':World} (hl:laidOutB P=true) (hb:Below W.heap.size W W'):∀{ts:List TypeId} {vs:List Value} {ds:List (DataW H)} {ps:List MemPlace},(∀t∈ts,P.readableRec t=true/\t<P.types.size) ->
  DataW.TrodAll enc P W 0 (λ_=>true) true ts vs ds ps->(∀p∈ps,p.block<W.heap.size)->∀{sp:Nat->Bool},(∀p∈ps,sp p.block=true)->DataW.TrodAll enc P W' 0 sp true ts vs ds ps
 | [],[],[],_,_,h,_,_,_=>h
 |t::ts,v::vs,d::ds,ps,hr,h,A7,sp,hs=>by
  obtain⟨p,q,h1,h2,rfl⟩:=h;refine⟨p,q,WideElems.Trod_stays hl (hr t (by simp)).1 (hr t (by simp)).2 h1 (λx hx=>hb.same (A7 x (by simp[hx]))) (λx hx=>hs x (by simp[hx])),?_,rfl⟩;exact Nc hl hb (λt ht=>hr t (by simp[ht])) h2 (λx hx=>A7 x (by simp[hx])) (λx hx=>hs x (by simp[hx]))
theorem Xx {H:Type} {enc:TypeId×Value->H} {f:Func} {s:ChangeSpec} {W W':World} {args:Array Value} {v:Value} {ds gs:List (DataW H)} {Y1 pa:List MemPlace}
  (hW:DataW.Whole enc P f.params.toList s.vars false W args.toList ds gs Y1) (hps:Y1=pa)
  (hres:∀(b:Nat) (sp:Nat->Bool) (hd:Bool),DataW.TrodAll enc P W' b sp hd f.resultTypes.toList (v.resultList f.resultTypes.size) (s.fn H (ds++gs)).results [])
  (hargs:∀sp:Nat->Bool,(∀p∈Y1,sp p.block=true)->DataW.TrodAll enc P W' 0 sp true f.params.toList args.toList (s.fn H (ds++gs)).args pa)
  (hv:s.vars=[]) (hgs:(s.fn H (ds++gs)).vars=[]) (hk:W.keptBut W' (·∈Y1)) (vX:∀a:Addr,a.block<W.heap.size->W'.frozen? a=W.frozen? a)
  (AG:∀(j:Nat) (t:TypeId) (r:Value),f.resultTypes[j]?=some t->(v.resultList f.resultTypes.size)[j]?=some r->Value.okWide P W' .any 0 t r) :
  s.post enc P f false true false false W args v W':=by
 subst hps;have hold:∀p∈Y1,(λb=>decide (b<W.heap.size)) p.block=true:=λp hp=>by simpa using hW.lt p hp
 have hvars:∀sp:Nat->Bool,DataW.TrodVars enc P W' sp s.vars (s.fn H (ds++gs)).vars []:=λsp=>by rw[hv,hgs];rfl
 refine⟨ds,gs,Y1,[],Y1,[],hW,hres _ _ _,hargs _ hold,hvars _,World.keptBut_mono (λp hp=>⟨hp,?_⟩) hk,λ_=>?_⟩
 .exact Or.inr (Or.inl hp)
 .have A7:=hW.lt;obtain⟨_,_,_,_,_,hz,hn⟩:=hW;refine⟨AG,_,_,([]++Y1)++[],⟨[]++Y1,[],trodAll_append (hargs _ (λ_ _=>rfl)) (hres _ _ _),hvars _,rfl,?_,?_⟩,?_⟩
  .intro b off hp;have hp':MemPlace.cell b off∈Y1:=by simpa using hp
   rw[vX _ (A7 _ hp')];exact hz b off hp'
  .intro ha;cases ha
  .intro p hp _;simpa using hp
theorem eR {C:Cfg} (hC:CfgS P C) (hl:laidOutB P=true) {f:FuncId} {fn:Func} {tb:TypeId} (hb:P.underlying tb=some .bool) (hres:fn.resultTypes=#[tb]) (hpar:∀t∈fn.params.toList,P.readableRec t=true/\t<P.types.size)
  {s:ChangeSpec} (hv:s.vars=[]) {H:Type} {enc:TypeId×Value->H} {W:World} {args:Array Value} {ds gs:List (DataW H)} {Y1:List MemPlace}
  (hs:(s.fn H (ds++gs)).results=[.lit (.bool true)]/\(s.fn H (ds++gs)).args=ds/\(s.fn H (ds++gs)).vars=[])
  (hW:DataW.Whole enc P fn.params.toList s.vars false W args.toList ds gs Y1) {ys:List AV} (hy:BS W (nD W) ys args.toList) (h:pc C f ys=some (.bool true)) :
  Calls P f args W λe W'=>∃v,e=.returned v/\s.post enc P fn false true false false W args v W':=by
 have A7:=hW.lt;have hW':=hW;obtain⟨p,q,hA,hV,hpq,vX,eX⟩:=hW;rw[hv]at hV;obtain⟨rfl,rfl⟩:=trodVars_none hV;rw[List.append_nil]at hpq;subst hpq;refine(gy hC h W (nD W) args (λb o hb=>hb) hy).mono λe W' ⟨u,he,⟨hbel,_⟩,hu⟩=>?_;have hu':u=.bool true:=by simpa[PV]using hu
 subst hu' he;refine⟨_,rfl,Xx hW' rfl (λb sp hd=>?_) (λsp hsp=>?_) hv hs.2.2 (hbel.frame _) (λa ha=>hbel.frozen ha) (RowKit.ok_one hres rfl (RowKit.okWide_bool_mk hb _))⟩
 .rw[hs.1,hres];exact trodAll_mk1 (RowKit.shut_bool hb _)
 .rw[hs.2.1];exact Nc hl hbel hpar hA A7 hsp
end
end Go.Abs
