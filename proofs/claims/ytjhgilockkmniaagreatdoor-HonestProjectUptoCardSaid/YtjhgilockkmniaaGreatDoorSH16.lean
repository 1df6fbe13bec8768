/- A part of the proof. -/
import Derived.Test.YtjhgilockkmniaaGreatDoorSH15
import Derived.Test.YtjhgilockkmniaaGreatDoorRows
import Derived.ProofKit
import Derived.OpenShut
import Derived.JoinedCond
import Derived.Deep.Slices
import Derived.Carry
set_option linter.all false
open Option renaming bind_some->zf0z,map_eq_some_iff->zf4z
open List renaming getElem?_eq_getElem->zf1z,replicate->zf2z,getElem?_eq_some_iff->zf3z,getElem?_map->zf5z,mem_cons->zf6z,map_map->zf7z,map_id->zf8z
namespace Go.Abs
def sl (m:Bool×Bool) (sz:Nat) (xs:List AV):AV:=.vs m.1 (if xs.isEmpty&&!m.2 then 0 else sz) xs
theorem PM (f:Bool) (sz:Nat) (xs:C6):.vs f sz xs=sl (f,true) sz xs:=by simp[sl]
theorem Jv (sz:Nat):.vs true 0 []=sl (true,false) sz []:=by simp[sl]
@[simp] theorem pH (m:W8) (sz:Nat) (xs:C6):(sl m sz xs).isTup=false:=_root_.id rfl
@[simp] theorem pG (m:W8) (sz:Nat) (xs:C6):(sl m sz xs).cells=[sl m sz xs]:=_root_.id rfl
@[simp] theorem qw (h:AH) (am:Bool) (m:W8) (sz:Nat) (xs:C6):uE h am (sl m sz xs)=some (sl m sz xs):=_root_.id rfl
@[simp] theorem jq (h:AH) (am:Bool) (m:W8) (sz:Nat) (xs:C6):frz h am (sl m sz xs)=some (sl m sz xs):=_root_.id rfl
@[simp] theorem pQ (h:AH) (m:W8) (sz:Nat) (xs:C6):DY h (sl m sz xs)=true:=_root_.id rfl
@[simp] theorem qx (h:AH) (m:W8) (sz:Nat) (xs:C6):tame h (sl m sz xs)=true:=_root_.id rfl
@[simp] theorem qv (m:W8) (sz:Nat) (xs:C6):(sl m sz xs).flat=true:=_root_.id rfl
@[simp] theorem jr (m:W8) (sz:Nat) (xs:C6) (rest:C6):S1 false 1 (sl m sz xs::rest)=some (sl m sz xs):=_root_.id rfl
@[simp] theorem Ax (h:AH) (m:W8) (sz:Nat) (xs:C6):elems h sz (sl m sz xs)=some xs:=by
 cases xs with
 |nil=>simp[elems,sl]
 |cons x xs=>simp[elems,sl]
@[simp] theorem kx (m:W8) (sz:Nat) (xs:C6):(sl m sz xs).scalar=false:=_root_.id rfl
@[simp] theorem fC (h:AH) (am:Bool) (k:IntKind) (n:Int):frz h am (.int k n)=some (.int k n):=_root_.id rfl
@[simp] theorem mr (h:AH) (am:Bool) (b:Bool):frz h am (.bool b)=some (.bool b):=_root_.id rfl
@[simp] theorem qR (h:AH) (am:Bool) (s:Q1):frz h am (.str s)=some (.str s):=_root_.id rfl
@[simp] theorem rU (h:AH) (am:Bool) (f:FuncId):frz h am (.fn f [])=some (.fn f []):=_root_.id rfl
@[simp] theorem mu (h:AH) (am:Bool):frz h am .nilp=some .nilp:=_root_.id rfl
@[simp] theorem mq (h:AH) (am:Bool):Hq h am []=some []:=_root_.id rfl
@[simp] theorem kS (h:AH) (am:Bool) (x:AV) (xs:C6):Hq h am (x::xs)=(uE h am x).bind λy=>(Hq h am xs).map (y::·):=_root_.id rfl
@[simp] theorem mn (h:AH) (am:Bool) (k:IntKind) (n:Int):uE h am (.int k n)=some (.int k n):=_root_.id rfl
@[simp] theorem kR (h:AH) (am:Bool) (b:Bool):uE h am (.bool b)=some (.bool b):=_root_.id rfl
@[simp] theorem mo (h:AH) (am:Bool) (s:Q1):uE h am (.str s)=some (.str s):=_root_.id rfl
@[simp] theorem qQ (h:AH) (am:Bool) (cs:C6):frz h am (.agg cs)=(Hq h am cs).map .agg:=_root_.id rfl
@[simp] theorem jB (h:AH) (am:Bool):i4 h am []=some []:=_root_.id rfl
@[simp] theorem gp (h:AH) (am:Bool) (x:AV) (xs:C6):i4 h am (x::xs)=(frz h am x).bind λy=>(i4 h am xs).map (y::·):=_root_.id rfl
@[simp] theorem jD (h:AH) (k:IntKind) (n:Int):BW h (.int k n)=some (.int k n):=_root_.id rfl
@[simp] theorem gt (h:AH) (b:Bool):BW h (.bool b)=some (.bool b):=_root_.id rfl
@[simp] theorem jE (h:AH) (s:Q1):BW h (.str s)=some (.str s):=_root_.id rfl
@[simp] theorem kT (h:AH) (m:W8) (sz:Nat) (xs:C6):BW h (sl m sz xs)=some (sl m sz xs):=_root_.id rfl
@[simp] theorem jC (h:AH) (cs:C6):BW h (.agg cs)=(Hq h true cs).map .agg:=_root_.id rfl
@[simp] theorem jF (h:AH) (cs:C6):BW h (.tup cs)=(i4 h true cs).map .tup:=_root_.id rfl
@[simp] theorem nS (ys:C6) (k:List AV->Option AV) (tm:Bool) (h:AH):nR (some ys) k tm h=(match k ys with|some r=>if r.scalar||tm then some (r,h)else none|none=>none):=_root_.id rfl
@[simp] theorem jo (k:IntKind) (n:Int):(AV.int k n).scalar=true:=_root_.id rfl
@[simp] theorem iE (b:Bool):(AV.bool b).scalar=true:=_root_.id rfl
@[simp] theorem jp (s:Q1):(AV.str s).scalar=true:=_root_.id rfl
@[simp] theorem ke (k:IntKind) (n:Int):(AV.int k n).isTup=false:=_root_.id rfl
@[simp] theorem jL (b:Bool):(AV.bool b).isTup=false:=_root_.id rfl
@[simp] theorem kh (b:Q1):(AV.str b).isTup=false:=_root_.id rfl
@[simp] theorem kc (cs:C6):(AV.agg cs).isTup=false:=_root_.id rfl
@[simp] theorem FC (cs:C6):(AV.agg cs).cells=cs:=_root_.id rfl
@[simp] theorem kK (k:IntKind) (n:Int):(AV.int k n).cells=[.int k n]:=_root_.id rfl
@[simp] theorem ia (b:Bool):(AV.bool b).cells=[.bool b]:=_root_.id rfl
@[simp] theorem kM (b:Q1):(AV.str b).cells=[.str b]:=_root_.id rfl
@[simp] theorem fP (n:Nat) (cs:C6):S1 true n cs=if n<=cs.length then some (.agg (cs.take n))else none:=_root_.id rfl
@[simp] theorem dp (n:Nat) (cs:C6):S1 false n cs=cs.head?:=_root_.id rfl
def nE (h:AH) (sz:Nat) (x i:AV):Option (AV×AH) :=
 match x,i with
 | .vs _ z xs,.int _ j=>if 0<=j/\z=sz then (match xs[j.toNat]? with|some e=>some (.pv e.cells,h)|none=>none)else none
 | .sl k n off len,.int _ j=>if 0<=j/\j<len then some (.ep k n (off+j.toNat) 0 sz,h)else none
 | .bsl b s off len,.int _ j=>if 0<=j/\j<len/\s=sz then some (.ptr b (off+j.toNat*sz),h)else none
 |_,_=>none
def Pe (h:AH) (x:AV):Option (AV×AH) :=
 match x with
 | .vs _ _ xs=>some (.int .i64 xs.length,h)
 | .sl _ _ _ len=>some (.int .i64 len,h)
 | .bsl _ _ _ len=>some (.int .i64 len,h)
 |_=>none
def Ub (h:AH) (sz:Nat) (x:AV) (l u m:Option (Option Int)):Option (AV×AH) :=
 match l,u,m with
 |some l,some u,some m=>match FV h sz x l u m with|some v=>some (v,h)|none=>none
 |_,_,_=>none
theorem jR (neg:Bool) (h:AH) (m:W8) (sz:Nat) (K3:0<sz) (xs:C6):fO neg h (sl m sz xs)=some (.bool (if neg then !(xs.isEmpty&&!m.2)else (xs.isEmpty&&!m.2)),h):=by
 unfold fO sl;by_cases hx:(xs.isEmpty&&!m.2)=true
 .simp[hx]
 .have:(sz == 0)=false:=by simp;omega
  simp[hx,this]
section
variable {O:Orc} {c:Ctx} (fr:Fr) (h:AH)
@[simp] theorem sZ (x:Opd):A3 O c (.mov x) fr h=some (get fr x,h):=_root_.id rfl
@[simp] theorem qo (q a b:Opd):A3 O c (.pick q a b) fr h=(match get fr q with | .bool t=>some (if t then get fr a else get fr b,h)|_=>none):=_root_.id rfl
@[simp] theorem sL (x:Opd):A3 O c (.box x) fr h=if (get fr x).isTup then none else some (.ptr h.boxes.length 0,{h with boxes:=h.boxes++[(get fr x).cells]}):=_root_.id rfl
@[simp] theorem nt (z:AV):A3 O c (.alloc z) fr h=some (.ptr h.boxes.length 0,{h with boxes:=h.boxes++[z.cells]}):=_root_.id rfl
@[simp] theorem nu (z:AV) (parts:List (Nat×Nat×Opd)):A3 O c (.build z parts) fr h=(F4 fr z.cells.length parts).map λps=>(.agg (P2 z.cells ps),h):=by
 simp only[A3];cases F4 fr z.cells.length parts<;>rfl
@[simp] theorem kr (n:Nat) (z:AV) (parts:List (Nat×Opd)):A3 O c (.bslice n z parts) fr h=(B4 fr h (zf2z n z) parts).map λxs=>(sl (true,true) z.cells.length xs,h):=by
 simp only[A3,PM];cases B4 fr h (zf2z n z) parts<;>rfl
@[simp] theorem jS (n:Nat) (z:AV) (parts:List (Nat×Opd)):A3 O c (.bslicev n z parts) fr h=if parts.all (λp=>Bh (get fr p.2))then (B4 fr h (zf2z n z) parts).map λxs=>(sl (true,true) z.cells.length xs,h)else none:=by
 simp only[A3,PM];cases B4 fr h (zf2z n z) parts<;>rfl
@[simp] theorem sS (agg:Bool) (n:Nat) (x:Opd):A3 O c (.ldb agg n x) fr h=(match get fr x with | .ep ..=>none|p=>(match uF h agg n p with|some v=>some (v,h)|none=>none)):=_root_.id rfl
@[simp] theorem oa (x:Opd):A3 O c (.nilck x) fr h=(match get fr x with | .pv cs=>some (.pv cs,h) | .ptr b o=>some (.ptr b o,h) | .ep k n i q s=>some (.ep k n i q s,h) | .fn f cs=>some (.fn f cs,h)|_=>none):=_root_.id rfl
@[simp] theorem sK (op:BinOp) (x y:Opd):A3 O c (.bin op x y) fr h=(E7 op (get fr x) (get fr y)).map λv=>(v,h):=by
 simp only[A3];cases E7 op (get fr x) (get fr y)<;>rfl
@[simp] theorem sJ (neg:Bool) (x y:Opd):A3 O c (.beq neg x y) fr h=(match get fr x,get fr y with | .bool a,.bool b=>some (.bool (if neg then !(a == b)else a == b),h)|_,_=>none):=_root_.id rfl
@[simp] theorem ob (neg:Bool) (x:Opd):A3 O c (.nileq neg x) fr h=fO neg h (get fr x):=_root_.id rfl
@[simp] theorem tZ (op:UnOp) (x:Opd):A3 O c (.un op x) fr h=(Jb op (get fr x)).map λv=>(v,h):=by
 simp only[A3];cases Jb op (get fr x)<;>rfl
@[simp] theorem qk (k:IntKind) (x:Opd):A3 O c (.conv k x) fr h=(match get fr x with | .int _ n=>some (.int k (k.wrap n),h)|_=>none):=_root_.id rfl
@[simp] theorem ql (x:Opd):A3 O c (.cstr x) fr h=(match get fr x with | .str s=>some (.str s,h)|_=>none):=_root_.id rfl
@[simp] theorem qi (x:Opd):A3 O c (.bstr x) fr h=LI h (get fr x):=_root_.id rfl
def sD (b:Bool) (x y:Option (AV×AH)):Option (AV×AH):=if b then x else y
@[simp] theorem tU (x y:Option (AV×AH)):sD true x y=x:=_root_.id rfl
@[simp] theorem tT (x y:Option (AV×AH)):sD false x y=y:=_root_.id rfl
@[simp] theorem qj (f:FuncId) (caps:List Opd):A3 O c (.clos f caps) fr h=sD c.ro ((Ci h (caps.map (get fr))).map λp=>(.fn f p.1,p.2)) (some (.fn f (caps.map (get fr)),h)):=_root_.id rfl
@[simp] theorem jU (z:AV) (bytes:Nat) (l q:Opd):A3 O c (.mkslice z bytes l q) fr h=(match get fr l,get fr q with
  | .int _ a,.int _ b =>
   if 0<=a/\a<=b/\b*bytes<=G3/\b<=maxLen then
    some (.sl h.fams.length a.toNat 0 a.toNat,{h with fams:=h.fams++[⟨zf2z a.toNat z,z.cells.length,true⟩]})
   else none
  |_,_=>none):=_root_.id rfl
@[simp] theorem ny (off:Nat) (x:Opd):A3 O c (.faddr off x) fr h=(match get fr x with | .pv cs=>some (.pv (cs.drop off),h) | .ptr b o=>some (.ptr b (o+off),h) | .ep k n i q s=>some (.ep k n i (q+off) s,h)|_=>none):=_root_.id rfl
@[simp] theorem sO (agg:Bool) (off n:Nat) (x:Opd):A3 O c (.fld agg off n x) fr h=(match get fr x with | .agg cs=>(match S1 agg n (cs.drop off)with|some v=>some (v,h)|none=>none)|_=>none):=_root_.id rfl
@[simp] theorem sP (x i:Opd):A3 O c (.idx x i) fr h=(match get fr x,get fr i with
  | .str s,.int _ j=>if 0<=j then (match s[j.toNat]? with|some b=>some (.int .u8 b.toNat,h)|none=>none)else none
  |_,_=>none):=_root_.id rfl
@[simp] theorem sN (x:Opd) (i:Nat):A3 O c (.ext x i) fr h=(match get fr x with | .tup vs=>(match vs[i]? with|some v=>some (v,h)|none=>none)|_=>none):=_root_.id rfl
@[simp] theorem qp (x:Opd):A3 O c (.len true x) fr h=(match get fr x with | .str s=>some (.int .i64 s.size,h)|_=>none):=_root_.id rfl
@[simp] theorem sV (x y:Opd):A3 O c (.max x y) fr h=(match get fr x,get fr y with | .int k a,.int k' b=>if k=k' then some (.int k (if b > a then b else a),h)else none|_,_=>none):=_root_.id rfl
@[simp] theorem oD (sz:Nat) (x i:Opd):A3 O c (.iaddr sz x i) fr h=nE h sz (get fr x) (get fr i):=_root_.id rfl
@[simp] theorem sg (n:Nat) (a x:Opd):A3 O c (.ste n a x) fr h=NO h n (get fr a) (get fr x):=_root_.id rfl
@[simp] theorem sf (n:Nat) (a x:Opd):A3 O c (.stb n a x) fr h=MX h n (get fr a) (get fr x):=_root_.id rfl
@[simp] theorem sY (z:AV) (bytes:Nat) (l q:Opd):A3 O c (.mkv z bytes l q) fr h=Vz h z bytes (get fr l) (get fr q):=_root_.id rfl
@[simp] theorem sX (z:AV) (bytes:Nat) (l q:Opd):A3 O c (.mkb z bytes l q) fr h=NG h z bytes (get fr l) (get fr q):=_root_.id rfl
@[simp] theorem sM (z:AV) (x:Opd):A3 O c (.clr z x) fr h=LL h z (get fr x):=_root_.id rfl
@[simp] theorem sU (x:Opd):A3 O c (.len false x) fr h=Pe h (get fr x):=_root_.id rfl
def fM (b:Bool) (x y:Unit->Option (AV×AH)):Option (AV×AH):=if b then x ()else y ()
@[simp] theorem sC (x y:Unit->Option (AV×AH)):fM true x y=x ():=_root_.id rfl
@[simp] theorem sB (x y:Unit->Option (AV×AH)):fM false x y=y ():=_root_.id rfl
@[simp] theorem nv {C:Cfg} (f:FuncId) (xs:List Opd):A3 (M3 C) c (.call f xs) fr h=fM (c.raw f) (λ_=>YU (c.noB f) h (rc C f (xs.map (get fr)) h)) (λ_=>nR (i4 h true (xs.map (get fr))) (λys=>pc C f ys) ((xs.map (get fr)).all (tame h)) h):=by
 cases hr:c.raw f with
 |false=>exact XJ hr xs fr h
 |true=>exact Ts hr xs fr h
def qb (b:Bool) (x:Option (AV×AH)):Option (AV×AH):=if b then none else x
@[simp] theorem tO (x:Option (AV×AH)):qb true x=none:=_root_.id rfl
@[simp] theorem tN (x:Option (AV×AH)):qb false x=x:=_root_.id rfl
@[simp] theorem nw {C:Cfg} (x:Opd) (xs:List Opd):A3 (M3 C) c (.callv x xs) fr h=(match get fr x with
  | .fn f caps=>qb (c.raw f&&!c.rawv) (fM (c.raw f) (λ_=>YU (c.noB f) h (rc C f (xs.map (get fr)++caps) h)) (λ_=>nR (i4 h true (xs.map (get fr)++caps)) (λys=>pc C f ys) ((xs.map (get fr)++caps).all (tame h)) h))
  |_=>none):=by
 simp only[A3];cases get fr x with
 |fn f caps =>
  simp only;unfold qb;by_cases hq:(c.raw f&&!c.rawv)=true
  .rw[if_pos hq,if_pos hq]
  .rw[if_neg hq,if_neg hq];cases hr:c.raw f with
   |false =>
    have:=XJ (C:=C) hr ((xs.map (get fr)++caps).map Opd.c) fr h;simp only[A3,zf7z]at this;rw[show (get fr∘Opd.c)=id from rfl,zf8z]at this;exact this
   |true =>
    have:=Ts (C:=C) hr ((xs.map (get fr)++caps).map Opd.c) fr h;simp only[A3,zf7z]at this;rw[show (get fr∘Opd.c)=id from rfl,zf8z]at this;exact this
 |_=>rfl
@[simp] theorem ku (ok:Bool) (z:AV) (x k:Opd):A3 O c (.mlookp ok z x k) fr h=Kr ok z h (get fr x) (get fr k):=_root_.id rfl
@[simp] theorem qn (x k v:Opd):A3 O c (.mupp x k v) fr h=Yu h (get fr x) (get fr k) (get fr v):=_root_.id rfl
@[simp] theorem qh (bytes:Nat) (s x:Opd):A3 O c (.apps bytes s x) fr h=Nr c h bytes (get fr s) (get fr x):=_root_.id rfl
@[simp] theorem Ks (r:Nat) (z:AV):A3 O c (.allocAt r z) fr h=Ap h r z:=_root_.id rfl
@[simp] theorem qm (x:Opd):A3 O c (.mlen x) fr h=(match s6 h (get fr x)with|some (ks,_)=>some (.int .i64 ks.length,h)|none=>none):=_root_.id rfl
@[simp] theorem sW (x y:Opd):A3 O c (.min x y) fr h=(match get fr x,get fr y with | .int k a,.int k' b=>if k=k' then some (.int k (if b<a then b else a),h)else none|_,_=>none):=_root_.id rfl
@[simp] theorem oM:A3 O c .mkmap fr h=some (.mp h.boxes.length,{h with boxes:=h.boxes++[[.mbox [] []]]}):=_root_.id rfl
@[simp] theorem oT (str ok:Bool) (z:AV) (x k:Opd):A3 O c (.mlook str ok z x k) fr h=EW str ok z h (get fr x) (get fr k):=_root_.id rfl
@[simp] theorem sb (str:Bool) (x k v:Opd):A3 O c (.mup str x k v) fr h=To str h (get fr x) (get fr k) (get fr v):=_root_.id rfl
@[simp] theorem sd (sz:Nat) (x:Opd) (lo hi mx:Option Opd):A3 O c (.slc sz x lo hi mx) fr h=Ub h sz (get fr x) (E8 fr lo) (E8 fr hi) (E8 fr mx):=_root_.id rfl
@[simp] theorem sI (sz bytes:Nat) (s x:Opd):A3 O c (.app sz bytes s x) fr h=J7 c h sz bytes (get fr s) (get fr x):=_root_.id rfl
@[simp] theorem tX (agg:Bool) (n:Nat) (x:Opd):A3 O c (.ld agg n x) fr h=(uF h agg n (get fr x)).map λv=>(v,h):=by
 simp only[A3];cases uF h agg n (get fr x)<;>rfl
@[simp] theorem tY (n:Nat) (a x:Opd):A3 O c (.st n a x) fr h=(uG h n (get fr x) (get fr a)).map λh'=>(B3,h'):=by
 simp only[A3];cases uG h n (get fr x) (get fr a)<;>rfl
end
def Jj (xs:List AV) (i:Nat):Option AV:=xs[i]?
@[simp] theorem nq (x:AV) (xs:C6):Jj (x::xs) 0=some x:=_root_.id rfl
@[simp] theorem np (x:AV) (xs:C6) (i:Nat):Jj (x::xs) (i+1)=Jj xs i:=_root_.id rfl
theorem D5 {α:Type} {f:α->AV} {l:List α} {i:Nat} {x:α} (h:l[i]?=some x):Jj (l.map f) i=some (f x):=by simp[Jj,h]
@[simp] theorem rv (h:AH) (m:W8) (sz:Nat) (xs:C6) (k:IntKind) (j:Int):nE h sz (sl m sz xs) (.int k j)=if 0<=j then (Jj xs j.toNat).map (λe=>(.pv e.cells,h))else none:=by
 unfold nE sl Jj;simp only;by_cases hj:0<=j
 .rw[if_pos hj];cases hx:xs[j.toNat]? with
  |none=>simp
  |some e =>
   cases xs with
   |nil=>simp at hx
   |cons y ys=>simp[hj]
 .rw[if_neg hj,if_neg (by omega)]
@[simp] theorem qc (h:AH) (m:W8) (sz:Nat) (xs:C6):Pe h (sl m sz xs)=some (.int .i64 xs.length,h):=_root_.id rfl
@[simp] theorem nd (h:AH) (b s off len:Nat):Pe h (.bsl b s off len)=some (.int .i64 len,h):=_root_.id rfl
@[simp] theorem qV (h:AH) (sz b s off len:Nat) (kd:IntKind) (j:Int):nE h sz (.bsl b s off len) (.int kd j)=if 0<=j/\j<len/\s=sz then some (.ptr b (off+j.toNat*sz),h)else none:=_root_.id rfl
@[simp] theorem ki (h:AH) (k n off len:Nat):Pe h (.sl k n off len)=some (.int .i64 len,h):=_root_.id rfl
@[simp] theorem Jd (h:AH) (am:Bool) (k n off len:Nat):frz h am (.sl k n off len)=uE h am (.sl k n off len):=_root_.id rfl
@[simp] theorem nh (h:AH) (agg:Bool) (n:Nat) (cs:C6):uF h agg n (.pv cs)=S1 agg n cs:=_root_.id rfl
@[simp] theorem nJ:AZ []=false:=_root_.id rfl
@[simp] theorem nM (x y:AV) (l:C6):AZ (x::y::l)=false:=by cases x<;>rfl
@[simp] theorem nI (k:IntKind) (n:Int):AZ [.int k n]=false:=_root_.id rfl
@[simp] theorem kW (b:Bool):AZ [.bool b]=false:=_root_.id rfl
@[simp] theorem nL (b:Q1):AZ [.str b]=false:=_root_.id rfl
@[simp] theorem qa (f:Bool) (sz:Nat) (xs:C6):AZ [.vs f sz xs]=false:=_root_.id rfl
@[simp] theorem qY (m:W8) (sz:Nat) (xs:C6):AZ [sl m sz xs]=false:=_root_.id rfl
@[simp] theorem kZ (k n off len:Nat):AZ [.sl k n off len]=false:=_root_.id rfl
@[simp] theorem nK (b off:Nat):AZ [.ptr b off]=false:=_root_.id rfl
@[simp] theorem nH (cs:C6):AZ [.agg cs]=false:=_root_.id rfl
@[simp] theorem qX (b:Nat):AZ [.mp b]=false:=_root_.id rfl
@[simp] theorem qZ (ks vs:C6):AZ [.vm ks vs]=false:=_root_.id rfl
@[simp] theorem qW (f:FuncId) (cs:C6):AZ [.fn f cs]=false:=_root_.id rfl
@[simp] theorem kY (cs:C6):AZ [.rbox cs]=true:=_root_.id rfl
@[simp] theorem su (agg:Bool) (n off:Nat) (ys:C6):gB agg n off [.rbox ys]=S1 agg n (ys.drop off):=_root_.id rfl
@[simp] theorem kj (h:AH) (agg:Bool) (n b off:Nat):uF h agg n (.ptr b off)=(h.boxes[b]?).bind λcs=>if AZ cs then gB agg n off cs else S1 agg n (cs.drop off):=by
 simp only[uF];cases h.boxes[b]?<;>rfl
@[simp] theorem jv (h:AH) (n:Nat) (v:AV) (b off:Nat):uG h n v (.ptr b off)=(h.boxes[b]?).bind λcs=>if AZ cs=false/\v.isTup=false/\v.cells.length=n/\off+n<=cs.length then some {h with boxes:=h.boxes.set b (S2 cs off v.cells)} else aI h b n off v cs:=by
 simp only[uG];cases h.boxes[b]?<;>rfl
@[simp] theorem nX (h:AH) (v:AV):RX h v=match frz h false v with|some _=>some h|none=>UY h v:=_root_.id rfl
@[simp] theorem qt (h:AH) (k n off len:Nat):UY h (.sl k n off len)=(h.fams[k]?).map λf=>{h with fams:=h.fams.set k {f with wr:=false}}:=by
 simp only[UY];cases h.fams[k]?<;>rfl
@[simp] theorem KO (h:AH) (n:Nat) (v:AV) (k m i q sz:Nat):uG h n v (.ep k m i q sz)=(RX h v).bind λh=>(h.fams[k]?).bind λf =>
  if f.xs.length=m/\f.sz=sz/\f.wr=true then
   (f.xs[i]?).bind λx=>(frz h false v).bind λu=>if u.cells.length=n/\q+n<=x.cells.length then
    (x.reform (S2 x.cells q u.cells)).map λy=>{h with fams:=h.fams.set k {f with xs:=f.xs.set i y}} else none
  else none:=by
 simp only[uG];cases RX h v with
 |none=>rfl
 |some h =>
  simp only[zf0z,En];cases h.fams[k]? with
  |none=>rfl
  |some f =>
   simp only[zf0z];split
   .cases f.xs[i]? with
    |none=>rfl
    |some x=>cases frz h false v<;>rfl
   .rfl
@[simp] theorem nf (h:AH) (agg:Bool) (n k m i q sz:Nat):uF h agg n (.ep k m i q sz)=(h.fams[k]?).bind λf=>if f.xs.length=m/\f.sz=sz then (f.xs[i]?).bind λx=>S1 agg n (x.cells.drop q)else none:=by
 simp only[uF];cases h.fams[k]? with
 |none=>rfl
 |some f =>
  simp only[zf0z];split
  .cases f.xs[i]?<;>rfl
  .rfl
@[simp] theorem nG (h:AH) (sz k n off len:Nat) (kd:IntKind) (j:Int):nE h sz (.sl k n off len) (.int kd j)=if 0<=j/\j<len then some (.ep k n (off+j.toNat) 0 sz,h)else none:=_root_.id rfl
@[simp] theorem js (cs:C6) (off:Nat) (new:C6):S2 cs off new=cs.take off++new++cs.drop (off+new.length):=_root_.id rfl
@[simp] theorem pw (k:IntKind) (a b:Int):E7 .lss (.int k a) (.int k b)=some (.bool (decide (a<b))):=by simp[E7]
@[simp] theorem pu (k:IntKind) (a b:Int):E7 .leq (.int k a) (.int k b)=some (.bool (decide (a<=b))):=by simp[E7]
@[simp] theorem pt (k:IntKind) (a b:Int):E7 .gtr (.int k a) (.int k b)=some (.bool (decide (b<a))):=by simp[E7]
@[simp] theorem pq (k:IntKind) (a b:Int):E7 .geq (.int k a) (.int k b)=some (.bool (decide (b<=a))):=by simp[E7]
@[simp] theorem po (k:IntKind) (a b:Int):E7 .eql (.int k a) (.int k b)=some (.bool (decide (a=b))):=by simp only[E7,if_true];rfl
@[simp] theorem pz (k:IntKind) (a b:Int):E7 .neq (.int k a) (.int k b)=some (.bool (!decide (a=b))):=by simp only[E7,if_true];rfl
@[simp] theorem pn (k:IntKind) (a b:Int):E7 .add (.int k a) (.int k b)=some (.int k (k.wrap (a+b))):=by simp[E7]
@[simp] theorem qA (k:IntKind) (a b:Int):E7 .sub (.int k a) (.int k b)=some (.int k (k.wrap (a-b))):=by simp[E7]
theorem Qy (a b:List UInt8):(a == b)=decide (a=b):=by
 by_cases h:a=b<;>simp[h]
@[simp] theorem lh (a b:Q1):E7 .lss (.str a) (.str b)=some (.bool (Op.bytesLess a.toList b.toList)):=_root_.id rfl
@[simp] theorem lg (a b:Q1):E7 .gtr (.str a) (.str b)=some (.bool !(Op.bytesLess a.toList b.toList||decide (a.toList=b.toList))):=by simp only[E7];rw[Qy]
@[simp] theorem lc (a b:Q1):E7 .eql (.str a) (.str b)=some (.bool (decide (a.toList=b.toList))):=by simp only[E7];rw[Qy]
@[simp] theorem lk (a b:Q1):E7 .neq (.str a) (.str b)=some (.bool !(decide (a.toList=b.toList))):=by simp only[E7];rw[Qy]
@[simp] theorem ox (fr:Fr) (h:AH):Gf fr h []=some []:=_root_.id rfl
@[simp] theorem oy (fr:Fr) (h:AH) (t:Nat) (rs:List RRes):Gf fr h (.tmp t::rs)=(Gf fr h rs).map (A2 fr t::·):=_root_.id rfl
@[simp] theorem kw (fr:Fr) (h:AH) (a n:Nat) (agg:Bool) (rs:List RRes):Gf fr h (.cell a agg n::rs)=(uF h agg n (A2 fr a)).bind λv=>(Gf fr h rs).map (v::·):=_root_.id rfl
@[simp] theorem tA (b:Bool):Jb .not (.bool b)=some (.bool !b):=_root_.id rfl
theorem j3 {n:Int} (h0:-9223372036854775808<=n) (h1:n<=9223372036854775807):IntKind.i64.wrap n=n:=by
 simp only[IntKind.wrap,IntKind.bits,IntKind.signed];simp only[Bool.true_and,decide_eq_true_eq,ge_iff_le];split<;>omega
theorem C8 (i:Nat) (h:i<9223372036854775807):IntKind.i64.wrap ((i:Int)+1)=(i:Int)+1:=j3 (by omega) (by omega)
theorem SY (i:Nat) (h:i<9223372036854775807):IntKind.i64.wrap ((i:Int)+1)=((i+1:Nat):Int):=j3 (by omega) (by omega)
@[simp] theorem EA (h:AH) (am:Bool) (k n off len:Nat):uE h am (.sl k n off len)=(h.fams[k]?).bind λf=>if f.xs.length=n/\off+len<=n/\(am||!f.wr)=true then some (sl (false,true) f.sz ((f.xs.drop off).take len))else none:=by
 simp only[uE];cases h.fams[k]? with
 |none=>rfl
 |some f=>simp only[zf0z,PM]
@[simp] theorem RP (h:AH) (am:Bool):frz h am (.vs true 0 [])=some (sl (true,false) 1 []):=_root_.id rfl
@[simp] theorem OK (h:AH) (am:Bool):uE h am (.vs true 0 [])=some (sl (true,false) 1 []):=_root_.id rfl
theorem Dr (m:W8) (hm:m.2=false) (a b:Nat):sl m a []=sl m b []:=by simp[sl,hm]
@[simp] theorem LG (c:Ctx) (h:AH) (sz bytes:Nat) (x:AV):J7 c h sz bytes (.vs true 0 []) x=(elems h sz x).bind λys =>
  if ys.length=0 then some (.vs true 0 [],h)else if ys.length*bytes<=G3/\ys.length<=maxLen then some (.sl h.fams.length ys.length 0 ys.length,{h with fams:=h.fams++[⟨ys,sz,c.mutApp⟩]})else none:=by
 simp only[J7,R4];cases elems h sz x with
 |none=>rfl
 |some ys=>simp
def VL (h:AH) (sz k n off len:Nat) (f:Fam) (ys:List AV):Option (AV×AH) :=
 if f.xs.length=n/\f.sz=sz/\f.wr=true/\off+len+ys.length<=n then some (.sl k n off (len+ys.length),{h with fams:=h.fams.set k {f with xs:=f.xs.take (off+len)++ys++f.xs.drop (off+len+ys.length)}})else none
@[simp] theorem JS (c:Ctx) (h:AH) (sz bytes k n off len:Nat) (x:AV):J7 c h sz bytes (.sl k n off len) x=(elems h sz x).bind λys=>(h.fams[k]?).bind λf =>
  if f.xs.length=n/\f.sz=sz/\off+len=n/\(n+ys.length)*bytes<=G3/\n+ys.length<=maxLen then some (.sl k (n+ys.length) off (len+ys.length),{h with fams:=h.fams.set k {f with xs:=f.xs++ys}})else VL h sz k n off len f ys:=by
 simp only[J7,R4];cases elems h sz x with
 |none=>rfl
 |some ys=>cases h.fams[k]?<;>rfl
theorem Hn (c:Ctx) (h:AH) (sz bytes:Nat) (b:Bool) (xs:C6) (x:AV):J7 c h sz bytes (sl (true,b) sz xs) x=(elems h sz x).bind λys =>
  if ys.length=0 then some (sl (true,b) sz xs,h)else if (xs.length+ys.length)*bytes<=G3/\xs.length+ys.length<=maxLen then some (.sl h.fams.length (xs.length+ys.length) 0 (xs.length+ys.length),{h with fams:=h.fams++[⟨xs++ys,sz,c.mutApp⟩]})else none:=by
 simp only[J7,R4,sl];cases elems h sz x with
 |none=>rfl
 |some ys =>
  simp only[zf0z];cases xs<;>simp
inductive Tm where
 |mk (kind:Int) (name:ByteArray) (sort:Int) (m:Bool×Bool) (kids:List Tm)
abbrev Hm:=List Tm
mutual
def H2:Tm->AV
 | .mk k n s m l=>.agg [.int .i64 k,.str n,.int .i64 s,sl m 4 (D0 l)]
def D0:List Tm->List AV
 | []=>[]
 |t::l=>H2 t::D0 l
end
theorem uH (l:Hm):D0 l=l.map H2:=by
 induction l with
 |nil=>rfl
 |cons t l ih=>simp[D0,ih]
theorem Ei {l:Hm} {i:Nat} {t:Tm} (h:l[i]?=some t):Jj (D0 l) i=some (H2 t):=by rw[uH];exact D5 h
@[simp] theorem iH (l:Hm):(D0 l).length=l.length:=by simp[uH]
mutual
def Tm.size:Tm->Nat
 | .mk _ _ _ _ l=>1+Tm.sizes l
def Tm.sizes:List Tm->Nat
 | []=>0
 |t::l=>t.size+Tm.sizes l
end
theorem Tm.size_pos (t:Tm):0<t.size:=by cases t;simp[Tm.size];omega
theorem Tm.sizes_append (l r:Hm):Tm.sizes (l++r)=Tm.sizes l+Tm.sizes r:=by
 induction l with
 |nil=>simp[Tm.sizes]
 |cons t l ih=>simp[Tm.sizes,ih];omega
theorem Tm.size_le {t:Tm} {l:Hm} (h:t∈l):t.size<=Tm.sizes l:=by
 induction l with
 |nil=>cases h
 |cons x l ih =>
  simp only[Tm.sizes];rcases zf6z.1 h with rfl|h
  .omega
  .have:=ih h;omega
theorem Tm.length_le (l:Hm):l.length<=Tm.sizes l:=by
 induction l with
 |nil=>simp
 |cons x l ih=>have:=x.size_pos;simp only[Tm.sizes,List.length_cons];omega
end Go.Abs
namespace Go.Abs
open Go.RowKit (Below)
open Go.ChangeShapes Go.WideShapes Go.Deep
open Go.Proofs.YtjhgilockkmniaaGreatDoor (Rows.uptoBulk Rows.uptoBulkAll)
abbrev cE (w:World):Nat->Nat->Prop:=λb _=>b<w.heap.size
def CV (w:World) (ys:List AV) (cs:List Value):Prop:=U3 w (cE w) ys cs/\∀u∈cs,u.oneCell'=true
def IK (P:Program) (w:World) (t:TypeId) {T:Type} (cells:T->List AV) (good:T->Prop) (wt:T->Nat) (n:Nat):Prop :=
 ∀{H:Type} (enc:TypeId×Value->H) (cs:List Value) (x:DataW H×List MemPlace),DataW.trod enc P w 0 (λ_=>true) true n t cs=some x ->
  ∃a,good a/\wt a<=Rows.uptoBulk x.1/\CV w (cells a) cs
section
variable {P:Program} {w:World} {t e:TypeId}
theorem IK.le {T:Type} {cells:T->List AV} {good:T->Prop} {wt:T->Nat} {n m:Nat} (h:IK P w t cells good wt n) (hm:m<=n):IK P w t cells good wt m :=
 λenc cs x hx=>h enc cs x (DataW.trod_le hm hx)
theorem Lr {a:AV} {v:Value} (h:PV w (cE w) a v) (ho:v.oneCell'=true):CV w [a] [v]:=by
 refine⟨?_,λu hu=>by simp at hu;subst hu;exact ho⟩;simp only[U3];exact⟨v,[],rfl,h,rfl⟩
theorem FQ {k:IntKind} (ht:P.underlying t=some (.int k)) (n:Nat):IK P w t (λi:Int=>[.int k i]) (λi=>(Lit.int k i).wf=true) (λ_=>1) n:=by
 intro H enc cs x hx;obtain⟨i,rfl,rfl,hw⟩:=DataW.trod_int ht hx;exact⟨i,hw,by simp[Rows.uptoBulk],Lr (by simp[PV]) rfl⟩
theorem Cw (ht:P.underlying t=some .string) (n:Nat):IK P w t (λs:ByteArray=>[.str s]) (λs=>s.size<=maxLen) (λs=>s.size+1) n:=by
 intro H enc cs x hx;obtain⟨s,rfl,rfl,hw⟩:=DataW.trod_string ht hx;exact⟨s,hw,Nat.le_of_eq (by simp only[Rows.uptoBulk,Array.length_toList];rfl),Lr (by simp[PV]) rfl⟩
theorem XF {T:Type} {R:Nat->T->Prop}:∀{n:Nat},(∀i,i<n->∃a,R i a)->∃ys:List T,ys.length=n/\∀i a,ys[i]?=some a->R i a
 |0,_=>⟨[],rfl,λi a h=>by simp at h⟩
 |n+1,h=>by
  obtain⟨ys,hl,ha⟩:=XF (n:=n) λi hi=>h i (by omega);obtain⟨a,hr⟩:=h n (by omega);refine⟨ys++[a],by simp[hl],λi b hb=>?_⟩;by_cases hi:i<n
  .rw[List.getElem?_append_left (by omega)]at hb;exact ha i b hb
  .rw[List.getElem?_append_right (by omega),hl]at hb;have PT:i=n:=by
    have:=(zf3z.1 hb).1;simp at this;omega
   subst PT;simp at hb;subst hb;exact hr
theorem Uj {H T:Type} {wt:T->Nat}:∀{ys:List T} {l:List (DataW H)},ys.length=l.length->(∀(i:Nat) (a:T) (d:DataW H),ys[i]?=some a->l[i]?=some d->wt a<=Rows.uptoBulk d)->(ys.map wt).sum<=Rows.uptoBulkAll l
 | [],l,_,_=>by simp
 |a::ys,[],h,_=>by simp at h
 |a::ys,d::l,h,k=>by
  have h1:=k 0 a d rfl rfl;have h2:=Uj (ys:=ys) (l:=l) (by simpa using h) λi a d ha hd=>k (i+1) a d (by simpa using ha) (by simpa using hd);simp only[List.map_cons,List.sum_cons,Rows.uptoBulkAll];omega
theorem gY {sz:Nat} {xs:C6} {a:Addr} {len cap:Nat} (C4:xs.length=len) (hc:len<=cap) (hm:cap<=maxLen) (K3:0<sz)
  (hx:∀(i:Nat) (x:AV),xs[i]?=some x->∃cs',w.cells? 0 (a.add (i*sz)) sz=some cs'/\CV w x.cells cs'):PV w (cE w) (.vs false sz xs) (.slice (some a) len cap):=by
 simp only[PV];refine⟨some a,len,cap,rfl,C4.symm,hc,hm,(by simp),⟨(by simp),⟨(by simp),λe=>absurd K3 (by omega)⟩⟩,λS6=>?_⟩;have spot:a.spot=none:=by
  cases xs with
  |nil=>exact absurd rfl S6
  |cons x xs =>
   obtain⟨cs',h1,h2,_⟩:=hx 0 x rfl;obtain⟨_,hl,hcell⟩:=World.cells?_some h1;have h0:=hcell 0 K3;rw[zf1z (by omega)]at h0;simpa[Addr.add]using World.cell?_spot h0
 obtain⟨b,o,sp⟩:=a;subst spot;refine⟨b,o,rfl,K3,LC λj x hj=>?_⟩;obtain⟨cs',h1,h2,h3⟩:=hx j x hj;obtain⟨_,hl,hcell⟩:=World.cells?_some h1;obtain⟨g1,g2⟩:=Al h2;refine⟨by omega,Gg λq c hq=>?_⟩;obtain⟨u,hu,hv⟩:=g2 hq;have hqlt:q<sz:=by
  have:=(zf3z.1 hq).1;omega
 have He:=hcell q hqlt;rw[hu,Go.WideShapes.add_plain,Go.WideShapes.add_plain]at He;exact⟨u,World.block_lt_of_cell? _ _ He,He,h3 u (List.mem_of_getElem? hu),hv⟩
theorem EH {T:Type} {sz:Nat} {enc:T->AV} {good:T->Prop} {wt:T->Nat} {n:Nat} (ht:P.underlying t=some (.slice e)) (K3:P.cellsOf e=sz) (F9:0<sz)
  (elem:IK P w e (λa=>(enc a).cells) good wt n) :
  IK P w t (λys:Bool×List T=>[sl (false,ys.1) sz (ys.2.map enc)]) (λys=>∀a∈ys.2,good a) (λys=>(ys.2.map wt).sum+1) (n+1):=by
 intro H ec cs x hx;rcases DataW.trod_slice ht hx with ⟨rfl,rfl⟩|⟨a,len,cap,elems,rest,n',hn,rfl,rfl,hb,hl,hm,C4,Je,hsp,qU⟩
 .exact⟨(false,[]),λa ha=>by simp at ha,by simp[Rows.uptoBulk],Lr (by simp only[sl,PV];exact⟨none,0,0,rfl,by simp,Nat.le_refl _,Nat.zero_le _,by simp,by simp,λh=>absurd rfl h⟩) rfl⟩
 .have qT:n'=n:=by omega
  subst qT;obtain⟨ys,Mn,hr⟩:=XF (T:=T) (n:=len) (R:=λi a'=>good a'/\(∀y,elems[i]?=some y->wt a'<=Rows.uptoBulk y.1)/\∃cs',w.cells? 0 (a.add (i*sz)) sz=some cs'/\CV w (enc a').cells cs') λi hi=>by
   have h1:=Je i hi;rw[zf1z (by omega),K3]at h1;obtain⟨cs',h2,h3⟩:=Option.bind_eq_some_iff.1 h1;obtain⟨a',k1,k2,k3⟩:=elem ec cs' _ h3;exact⟨a',k1,λy hy=>by rw[zf1z (by omega)]at hy;cases hy;exact k2,cs',h2,k3⟩
  refine⟨(true,ys),λa' ha'=>?_,?_,Lr ((congrArg (λq=>PV w (cE w) q (.slice (some a) len cap)) (PM false sz (ys.map enc))).mp (gY (by simp[Mn]) hl hm F9 λi x hx=>?_)) rfl⟩
  .obtain⟨i,hi⟩:=List.mem_iff_getElem?.1 ha';exact(hr i a' hi).1
  .have:=Uj (wt:=wt) (ys:=ys) (l:=elems.map (·.1)) (by simp[Mn,C4]) λi a' d ha' hd=>by
    simp only[zf5z,zf4z]at hd;obtain⟨y,hy,rfl⟩:=hd;exact(hr i a' ha').2.1 y hy
   simp only[Rows.uptoBulk];omega
  .simp only[zf5z,zf4z]at hx;obtain⟨a',ha',rfl⟩:=hx;exact(hr i a' ha').2.2
theorem AB {ys:C6} {cs:List Value} {y:AV} {c:Value} (h:CV w [y] [c]) (k:CV w ys cs):CV w (y::ys) (c::cs):=by
 obtain⟨h1,h2⟩:=h;refine⟨?_,λu hu=>?_⟩
 .simp only[U3]at h1 ⊢;obtain⟨u,us,he,h3,rfl⟩:=h1;cases he;exact⟨c,cs,rfl,h3,k.1⟩
 .rcases zf6z.1 hu with rfl|hu
  .exact h2 u (by simp)
  .exact k.2 u hu
end
section
variable {P:Program}
theorem Kb {H:Type} {enc:TypeId×Value->H} {W W':World} (hl:laidOutB P=true) (hb:Below W.heap.size W W'):∀{ts:List TypeId} {vs:List Value} {ds:List (DataW H)} {ps:List MemPlace},(∀t∈ts,P.readableRec t=true/\t<P.types.size) ->
  DataW.TrodAll enc P W 0 (λ_=>true) true ts vs ds ps->(∀p∈ps,p.block<W.heap.size)->∀{sp:Nat->Bool},(∀p∈ps,sp p.block=true)->DataW.TrodAll enc P W' 0 sp true ts vs ds ps
 | [],[],[],_,_,h,_,_,_=>h
 |t::ts,v::vs,d::ds,ps,hr,h,A9,sp,hs=>by
  obtain⟨p,q,h1,h2,rfl⟩:=h;refine⟨p,q,WideElems.Trod_stays hl (hr t (by simp)).1 (hr t (by simp)).2 h1 (λx hx=>hb.same (A9 x (by simp[hx]))) (λx hx=>hs x (by simp[hx])),?_,rfl⟩;exact Kb hl hb (λt ht=>hr t (by simp[ht])) h2 (λx hx=>A9 x (by simp[hx])) (λx hx=>hs x (by simp[hx]))
theorem UI {H:Type} {enc:TypeId×Value->H} {f:Func} {s:ChangeSpec} {W W':World} {args:Array Value} {v:Value} {ds gs:List (DataW H)} {O8 pa:List MemPlace}
  (hW:DataW.Whole enc P f.params.toList s.vars false W args.toList ds gs O8) (hps:O8=pa)
  (hres:∀(b:Nat) (sp:Nat->Bool) (hd:Bool),DataW.TrodAll enc P W' b sp hd f.resultTypes.toList (v.resultList f.resultTypes.size) (s.fn H (ds++gs)).results [])
  (hargs:∀sp:Nat->Bool,(∀p∈O8,sp p.block=true)->DataW.TrodAll enc P W' 0 sp true f.params.toList args.toList (s.fn H (ds++gs)).args pa)
  (hv:s.vars=[]) (hgs:(s.fn H (ds++gs)).vars=[]) (hk:W.keptBut W' (·∈O8)) (rp:∀a:Addr,a.block<W.heap.size->W'.frozen? a=W.frozen? a)
  (AI:∀(j:Nat) (t:TypeId) (r:Value),f.resultTypes[j]?=some t->(v.resultList f.resultTypes.size)[j]?=some r->Value.okWide P W' .any 0 t r) :
  s.post enc P f false true false false W args v W':=by
 subst hps;have hold:∀p∈O8,(λb=>decide (b<W.heap.size)) p.block=true:=λp hp=>by simpa using hW.lt p hp
 have hvars:∀sp:Nat->Bool,DataW.TrodVars enc P W' sp s.vars (s.fn H (ds++gs)).vars []:=λsp=>by rw[hv,hgs];rfl
 refine⟨ds,gs,O8,[],O8,[],hW,hres _ _ _,hargs _ hold,hvars _,World.keptBut_mono (λp hp=>⟨hp,?_⟩) hk,λ_=>?_⟩
 .exact Or.inr (Or.inl hp)
 .have A9:=hW.lt;obtain⟨_,_,_,_,_,hz,hn⟩:=hW;refine⟨AI,_,_,([]++O8)++[],⟨[]++O8,[],trodAll_append (hargs _ (λ_ _=>rfl)) (hres _ _ _),hvars _,rfl,?_,?_⟩,?_⟩
  .intro b off hp;have hp':MemPlace.cell b off∈O8:=by simpa using hp
   rw[rp _ (A9 _ hp')];exact hz b off hp'
  .intro ha;cases ha
  .intro p hp _;simpa using hp
theorem Zj {C:Cfg} (hC:CfgS P C) (hl:laidOutB P=true) {f:FuncId} {fn:Func} {tb:TypeId} (hb:P.underlying tb=some .bool) (hres:fn.resultTypes=#[tb]) (hpar:∀t∈fn.params.toList,P.readableRec t=true/\t<P.types.size)
  {s:ChangeSpec} (hv:s.vars=[]) {H:Type} {enc:TypeId×Value->H} {W:World} {args:Array Value} {ds gs:List (DataW H)} {O8:List MemPlace}
  (hs:(s.fn H (ds++gs)).results=[.lit (.bool true)]/\(s.fn H (ds++gs)).args=ds/\(s.fn H (ds++gs)).vars=[])
  (hW:DataW.Whole enc P fn.params.toList s.vars false W args.toList ds gs O8) {ys:List AV} (hG:CS W (cE W)) (hy:U3 W (cE W) ys args.toList) (h:pc C f ys=some (.bool true)) :
  Calls P f args W λe W'=>∃v,e=.returned v/\s.post enc P fn false true false false W args v W':=by
 have A9:=hW.lt;have hW':=hW;obtain⟨p,q,hA,hV,hpq,rp,rq⟩:=hW;rw[hv]at hV;obtain⟨rfl,rfl⟩:=trodVars_none hV;rw[List.append_nil]at hpq;subst hpq;refine(UH hC h W (cE W) args (λb o hb=>hb) hG hy).mono λe W' ⟨u,he,⟨hbel,_⟩,hu⟩=>?_;have hu':u=.bool true:=by simpa[PV]using hu
 subst hu' he;refine⟨_,rfl,UI hW' rfl (λb sp hd=>?_) (λsp hsp=>?_) hv hs.2.2 (hbel.frame _) (λa ha=>hbel.frozen ha) (RowKit.ok_one hres rfl (RowKit.okWide_bool_mk hb _))⟩
 .rw[hs.1,hres];exact trodAll_mk1 (RowKit.shut_bool hb _)
 .rw[hs.2.1];exact Kb hl hbel hpar hA A9 hsp
end
end Go.Abs
