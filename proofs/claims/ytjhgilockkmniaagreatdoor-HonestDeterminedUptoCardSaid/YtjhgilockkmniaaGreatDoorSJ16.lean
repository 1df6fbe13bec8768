/- A part of the proof. -/
import Derived.Test.YtjhgilockkmniaaGreatDoorSJ15
import Derived.Test.YtjhgilockkmniaaGreatDoorRows
import Derived.ProofKit
import Derived.OpenShut
import Derived.JoinedCond
import Derived.Deep.Slices
import Derived.Carry
set_option linter.all false
open Option renaming bind_some->zf0z,map_eq_some_iff->zf4z
open List renaming getElem?_eq_getElem->zf1z,replicate->zf2z,getElem?_eq_some_iff->zf3z,getElem?_map->zf5z,mem_cons->zf6z,map_map->zf7z,map_id->zf8z
open Nat renaming le_refl->zf9z
namespace Go.Abs
def sl (m:Bool×Bool) (sz:Nat) (xs:List AV):AV:=.vs m.1 (if xs.isEmpty&&!m.2 then 0 else sz) xs
theorem Sg (f:Bool) (sz:Nat) (xs:C6):.vs f sz xs=sl (f,true) sz xs:=by simp[sl]
theorem KD (sz:Nat):.vs true 0 []=sl (true,false) sz []:=by simp[sl]
@[simp] theorem qU (m:U8) (sz:Nat) (xs:C6):(sl m sz xs).isTup=false:=_root_.id rfl
@[simp] theorem qT (m:U8) (sz:Nat) (xs:C6):(sl m sz xs).cells=[sl m sz xs]:=_root_.id rfl
@[simp] theorem sA (h:AH) (am:Bool) (m:U8) (sz:Nat) (xs:C6):AS h am (sl m sz xs)=some (sl m sz xs):=_root_.id rfl
@[simp] theorem kV (h:AH) (am:Bool) (m:U8) (sz:Nat) (xs:C6):frz h am (sl m sz xs)=some (sl m sz xs):=_root_.id rfl
@[simp] theorem qV (h:AH) (m:U8) (sz:Nat) (xs:C6):DQ h (sl m sz xs)=true:=_root_.id rfl
@[simp] theorem sB (h:AH) (m:U8) (sz:Nat) (xs:C6):tame h (sl m sz xs)=true:=_root_.id rfl
@[simp] theorem rz (m:U8) (sz:Nat) (xs:C6):(sl m sz xs).flat=true:=_root_.id rfl
@[simp] theorem kW (m:U8) (sz:Nat) (xs:C6) (rest:C6):T1 false 1 (sl m sz xs::rest)=some (sl m sz xs):=_root_.id rfl
@[simp] theorem Ad (h:AH) (m:U8) (sz:Nat) (xs:C6):elems h sz (sl m sz xs)=some xs:=by
 cases xs with
 |nil=>simp[elems,sl]
 |cons x xs=>simp[elems,sl]
@[simp] theorem ll (m:U8) (sz:Nat) (xs:C6):(sl m sz xs).scalar=false:=_root_.id rfl
@[simp] theorem ft (h:AH) (am:Bool) (k:IntKind) (n:Int):frz h am (.int k n)=some (.int k n):=_root_.id rfl
@[simp] theorem nn (h:AH) (am:Bool) (b:Bool):frz h am (.bool b)=some (.bool b):=_root_.id rfl
@[simp] theorem rI (h:AH) (am:Bool) (s:R7):frz h am (.str s)=some (.str s):=_root_.id rfl
@[simp] theorem sb (h:AH) (am:Bool) (f:FuncId):frz h am (.fn f [])=some (.fn f []):=_root_.id rfl
@[simp] theorem nq (h:AH) (am:Bool):frz h am .nilp=some .nilp:=_root_.id rfl
@[simp] theorem nk (h:AH) (am:Bool):Hx h am []=some []:=_root_.id rfl
@[simp] theorem lL (h:AH) (am:Bool) (x:AV) (xs:C6):Hx h am (x::xs)=(AS h am x).bind λy=>(Hx h am xs).map (y::·):=_root_.id rfl
@[simp] theorem ni (h:AH) (am:Bool) (k:IntKind) (n:Int):AS h am (.int k n)=some (.int k n):=_root_.id rfl
@[simp] theorem lK (h:AH) (am:Bool) (b:Bool):AS h am (.bool b)=some (.bool b):=_root_.id rfl
@[simp] theorem nj (h:AH) (am:Bool) (s:R7):AS h am (.str s)=some (.str s):=_root_.id rfl
@[simp] theorem rH (h:AH) (am:Bool) (cs:C6):frz h am (.agg cs)=(Hx h am cs).map .agg:=_root_.id rfl
@[simp] theorem ji (h:AH) (am:Bool):j7 h am []=some []:=_root_.id rfl
@[simp] theorem ia (h:AH) (am:Bool) (x:AV) (xs:C6):j7 h am (x::xs)=(frz h am x).bind λy=>(j7 h am xs).map (y::·):=_root_.id rfl
@[simp] theorem jk (h:AH) (k:IntKind) (n:Int):Cg h (.int k n)=some (.int k n):=_root_.id rfl
@[simp] theorem ib (h:AH) (b:Bool):Cg h (.bool b)=some (.bool b):=_root_.id rfl
@[simp] theorem jl (h:AH) (s:R7):Cg h (.str s)=some (.str s):=_root_.id rfl
@[simp] theorem lM (h:AH) (m:U8) (sz:Nat) (xs:C6):Cg h (sl m sz xs)=some (sl m sz xs):=_root_.id rfl
@[simp] theorem jj (h:AH) (cs:C6):Cg h (.agg cs)=(Hx h true cs).map .agg:=_root_.id rfl
@[simp] theorem jm (h:AH) (cs:C6):Cg h (.tup cs)=(j7 h true cs).map .tup:=_root_.id rfl
@[simp] theorem ov (ys:C6) (k:List AV->Option AV) (tm:Bool) (h:AH):ou (some ys) k tm h=(match k ys with|some r=>if r.scalar||tm then some (r,h)else none|none=>none):=_root_.id rfl
@[simp] theorem kT (k:IntKind) (n:Int):(AV.int k n).scalar=true:=_root_.id rfl
@[simp] theorem iv (b:Bool):(AV.bool b).scalar=true:=_root_.id rfl
@[simp] theorem kU (s:R7):(AV.str s).scalar=true:=_root_.id rfl
@[simp] theorem lU (k:IntKind) (n:Int):(AV.int k n).isTup=false:=_root_.id rfl
@[simp] theorem jr (b:Bool):(AV.bool b).isTup=false:=_root_.id rfl
@[simp] theorem lW (b:R7):(AV.str b).isTup=false:=_root_.id rfl
@[simp] theorem lT (cs:C6):(AV.agg cs).isTup=false:=_root_.id rfl
@[simp] theorem FO (cs:C6):(AV.agg cs).cells=cs:=_root_.id rfl
@[simp] theorem lD (k:IntKind) (n:Int):(AV.int k n).cells=[.int k n]:=_root_.id rfl
@[simp] theorem jQ (b:Bool):(AV.bool b).cells=[.bool b]:=_root_.id rfl
@[simp] theorem lF (b:R7):(AV.str b).cells=[.str b]:=_root_.id rfl
@[simp] theorem gG (n:Nat) (cs:C6):T1 true n cs=if n<=cs.length then some (.agg (cs.take n))else none:=_root_.id rfl
@[simp] theorem eX (n:Nat) (cs:C6):T1 false n cs=cs.head?:=_root_.id rfl
def oM (h:AH) (sz:Nat) (x i:AV):Option (AV×AH) :=
 match x,i with
 | .vs _ z xs,.int _ j=>if 0<=j/\z=sz then (match xs[j.toNat]? with|some e=>some (.pv e.cells,h)|none=>none)else none
 | .sl k n off len,.int _ j=>if 0<=j/\j<len then some (.ep k n (off+j.toNat) 0 sz,h)else none
 | .bsl b s off len,.int _ j=>if 0<=j/\j<len/\s=sz then some (.ptr b (off+j.toNat*sz),h)else none
 |_,_=>none
def Ps (h:AH) (x:AV):Option (AV×AH) :=
 match x with
 | .vs _ _ xs=>some (.int .i64 xs.length,h)
 | .sl _ _ _ len=>some (.int .i64 len,h)
 | .bsl _ _ _ len=>some (.int .i64 len,h)
 |_=>none
def NV (h:AH) (sz:Nat) (x:AV) (l u m:Option (Option Int)):Option (AV×AH) :=
 match l,u,m with
 |some l,some u,some m=>match Ez h sz x l u m with|some v=>some (v,h)|none=>none
 |_,_,_=>none
theorem jx (neg:Bool) (h:AH) (m:U8) (sz:Nat) (L4:0<sz) (xs:C6):gF neg h (sl m sz xs)=some (.bool (if neg then !(xs.isEmpty&&!m.2)else (xs.isEmpty&&!m.2)),h):=by
 unfold gF sl;by_cases hx:(xs.isEmpty&&!m.2)=true
 .simp[hx]
 .have:(sz == 0)=false:=by simp;omega
  simp[hx,this]
section
variable {O:Orc} {c:Ctx} (fr:Fr) (h:AH)
@[simp] theorem tf (x:Opd):A3 O c (.mov x) fr h=some (get fr x,h):=_root_.id rfl
@[simp] theorem rp (q a b:Opd):A3 O c (.pick q a b) fr h=(match get fr q with | .bool t=>some (if t then get fr a else get fr b,h)|_=>none):=_root_.id rfl
@[simp] theorem tP (x:Opd):A3 O c (.box x) fr h=if (get fr x).isTup then none else some (.ptr h.boxes.length 0,{h with boxes:=h.boxes++[(get fr x).cells]}):=_root_.id rfl
@[simp] theorem pm (z:AV):A3 O c (.alloc z) fr h=some (.ptr h.boxes.length 0,{h with boxes:=h.boxes++[z.cells]}):=_root_.id rfl
@[simp] theorem pn (z:AV) (parts:List (Nat×Nat×Opd)):A3 O c (.build z parts) fr h=(F8 fr z.cells.length parts).map λps=>(.agg (Q3 z.cells ps),h):=by
 simp only[A3];cases F8 fr z.cells.length parts<;>rfl
@[simp] theorem lc (n:Nat) (z:AV) (parts:List (Nat×Opd)):A3 O c (.bslice n z parts) fr h=(B5 fr h (zf2z n z) parts).map λxs=>(sl (true,true) z.cells.length xs,h):=by
 simp only[A3,Sg];cases B5 fr h (zf2z n z) parts<;>rfl
@[simp] theorem jy (n:Nat) (z:AV) (parts:List (Nat×Opd)):A3 O c (.bslicev n z parts) fr h=if parts.all (λp=>BJ (get fr p.2))then (B5 fr h (zf2z n z) parts).map λxs=>(sl (true,true) z.cells.length xs,h)else none:=by
 simp only[A3,Sg];cases B5 fr h (zf2z n z) parts<;>rfl
@[simp] theorem tW (agg:Bool) (n:Nat) (x:Opd):A3 O c (.ldb agg n x) fr h=(match get fr x with | .ep ..=>none|p=>(match x7 h agg n p with|some v=>some (v,h)|none=>none)):=_root_.id rfl
@[simp] theorem qA (x:Opd):A3 O c (.nilck x) fr h=(match get fr x with | .pv cs=>some (.pv cs,h) | .ptr b o=>some (.ptr b o,h) | .ep k n i q s=>some (.ep k n i q s,h) | .fn f cs=>some (.fn f cs,h)|_=>none):=_root_.id rfl
@[simp] theorem tO (op:BinOp) (x y:Opd):A3 O c (.bin op x y) fr h=(E9 op (get fr x) (get fr y)).map λv=>(v,h):=by
 simp only[A3];cases E9 op (get fr x) (get fr y)<;>rfl
@[simp] theorem tN (neg:Bool) (x y:Opd):A3 O c (.beq neg x y) fr h=(match get fr x,get fr y with | .bool a,.bool b=>some (.bool (if neg then !(a == b)else a == b),h)|_,_=>none):=_root_.id rfl
@[simp] theorem qB (neg:Bool) (x:Opd):A3 O c (.nileq neg x) fr h=gF neg h (get fr x):=_root_.id rfl
@[simp] theorem ud (op:UnOp) (x:Opd):A3 O c (.un op x) fr h=(Jm op (get fr x)).map λv=>(v,h):=by
 simp only[A3];cases Jm op (get fr x)<;>rfl
@[simp] theorem re (k:IntKind) (x:Opd):A3 O c (.conv k x) fr h=(match get fr x with | .int _ n=>some (.int k (k.wrap n),h)|_=>none):=_root_.id rfl
@[simp] theorem rg (x:Opd):A3 O c (.cstr x) fr h=(match get fr x with | .str s=>some (.str s,h)|_=>none):=_root_.id rfl
@[simp] theorem rZ (x:Opd):A3 O c (.bstr x) fr h=LQ h (get fr x):=_root_.id rfl
def tI (b:Bool) (x y:Option (AV×AH)):Option (AV×AH):=if b then x else y
@[simp] theorem uY (x y:Option (AV×AH)):tI true x y=x:=_root_.id rfl
@[simp] theorem uX (x y:Option (AV×AH)):tI false x y=y:=_root_.id rfl
@[simp] theorem rd (f:FuncId) (caps:List Opd):A3 O c (.clos f caps) fr h=tI c.ro ((Ct h (caps.map (get fr))).map λp=>(.fn f p.1,p.2)) (some (.fn f (caps.map (get fr)),h)):=_root_.id rfl
@[simp] theorem kA (z:AV) (bytes:Nat) (l q:Opd):A3 O c (.mkslice z bytes l q) fr h=(match get fr l,get fr q with
  | .int _ a,.int _ b =>
   if 0<=a/\a<=b/\b*bytes<=I0/\b<=maxLen then
    some (.sl h.fams.length a.toNat 0 a.toNat,{h with fams:=h.fams++[⟨zf2z a.toNat z,z.cells.length,true⟩]})
   else none
  |_,_=>none):=_root_.id rfl
@[simp] theorem pt (off:Nat) (x:Opd):A3 O c (.faddr off x) fr h=(match get fr x with | .pv cs=>some (.pv (cs.drop off),h) | .ptr b o=>some (.ptr b (o+off),h) | .ep k n i q s=>some (.ep k n i (q+off) s,h)|_=>none):=_root_.id rfl
@[simp] theorem tU (agg:Bool) (off n:Nat) (x:Opd):A3 O c (.fld agg off n x) fr h=(match get fr x with | .agg cs=>(match T1 agg n (cs.drop off)with|some v=>some (v,h)|none=>none)|_=>none):=_root_.id rfl
@[simp] theorem tV (x i:Opd):A3 O c (.idx x i) fr h=(match get fr x,get fr i with
  | .str s,.int _ j=>if 0<=j then (match s[j.toNat]? with|some b=>some (.int .u8 b.toNat,h)|none=>none)else none
  |_,_=>none):=_root_.id rfl
@[simp] theorem tT (x:Opd) (i:Nat):A3 O c (.ext x i) fr h=(match get fr x with | .tup vs=>(match vs[i]? with|some v=>some (v,h)|none=>none)|_=>none):=_root_.id rfl
@[simp] theorem rq (x:Opd):A3 O c (.len true x) fr h=(match get fr x with | .str s=>some (.int .i64 s.size,h)|_=>none):=_root_.id rfl
@[simp] theorem tY (x y:Opd):A3 O c (.max x y) fr h=(match get fr x,get fr y with | .int k a,.int k' b=>if k=k' then some (.int k (if b > a then b else a),h)else none|_,_=>none):=_root_.id rfl
@[simp] theorem pu (sz:Nat) (x i:Opd):A3 O c (.iaddr sz x i) fr h=oM h sz (get fr x) (get fr i):=_root_.id rfl
@[simp] theorem tj (n:Nat) (a x:Opd):A3 O c (.ste n a x) fr h=NY h n (get fr a) (get fr x):=_root_.id rfl
@[simp] theorem ti (n:Nat) (a x:Opd):A3 O c (.stb n a x) fr h=Me h n (get fr a) (get fr x):=_root_.id rfl
@[simp] theorem td (z:AV) (bytes:Nat) (l q:Opd):A3 O c (.mkv z bytes l q) fr h=Wb h z bytes (get fr l) (get fr q):=_root_.id rfl
@[simp] theorem tc (z:AV) (bytes:Nat) (l q:Opd):A3 O c (.mkb z bytes l q) fr h=Og h z bytes (get fr l) (get fr q):=_root_.id rfl
@[simp] theorem tQ (z:AV) (x:Opd):A3 O c (.clr z x) fr h=LS h z (get fr x):=_root_.id rfl
@[simp] theorem tX (x:Opd):A3 O c (.len false x) fr h=Ps h (get fr x):=_root_.id rfl
def gD (b:Bool) (x y:Unit->Option (AV×AH)):Option (AV×AH):=if b then x ()else y ()
@[simp] theorem tH (x y:Unit->Option (AV×AH)):gD true x y=x ():=_root_.id rfl
@[simp] theorem tG (x y:Unit->Option (AV×AH)):gD false x y=y ():=_root_.id rfl
@[simp] theorem po {C:Cfg} (f:FuncId) (xs:List Opd):A3 (N5 C) c (.call f xs) fr h=gD (c.raw f) (λ_=>Yw (c.noB f) h (rc C f (xs.map (get fr)) h)) (λ_=>ou (j7 h true (xs.map (get fr))) (λys=>pc C f ys) ((xs.map (get fr)).all (tame h)) h):=by
 cases hr:c.raw f with
 |false=>exact Xm hr xs fr h
 |true=>exact UO hr xs fr h
def rS (b:Bool) (x:Option (AV×AH)):Option (AV×AH):=if b then none else x
@[simp] theorem uU (x:Option (AV×AH)):rS true x=none:=_root_.id rfl
@[simp] theorem uT (x:Option (AV×AH)):rS false x=x:=_root_.id rfl
@[simp] theorem pq {C:Cfg} (x:Opd) (xs:List Opd):A3 (N5 C) c (.callv x xs) fr h=(match get fr x with
  | .fn f caps=>rS (c.raw f&&!c.rawv) (gD (c.raw f) (λ_=>Yw (c.noB f) h (rc C f (xs.map (get fr)++caps) h)) (λ_=>ou (j7 h true (xs.map (get fr)++caps)) (λys=>pc C f ys) ((xs.map (get fr)++caps).all (tame h)) h))
  |_=>none):=by
 simp only[A3];cases get fr x with
 |fn f caps =>
  simp only;unfold rS;by_cases hq:(c.raw f&&!c.rawv)=true
  .rw[if_pos hq,if_pos hq]
  .rw[if_neg hq,if_neg hq];cases hr:c.raw f with
   |false =>
    have:=Xm (C:=C) hr ((xs.map (get fr)++caps).map Opd.c) fr h;simp only[A3,zf7z]at this;rw[show (get fr∘Opd.c)=id from rfl,zf8z]at this;exact this
   |true =>
    have:=UO (C:=C) hr ((xs.map (get fr)++caps).map Opd.c) fr h;simp only[A3,zf7z]at this;rw[show (get fr∘Opd.c)=id from rfl,zf8z]at this;exact this
 |_=>rfl
@[simp] theorem lg (ok:Bool) (z:AV) (x k:Opd):A3 O c (.mlookp ok z x k) fr h=Ky ok z h (get fr x) (get fr k):=_root_.id rfl
@[simp] theorem rn (x k v:Opd):A3 O c (.mupp x k v) fr h=ZS h (get fr x) (get fr k) (get fr v):=_root_.id rfl
@[simp] theorem rY (bytes:Nat) (s x:Opd):A3 O c (.apps bytes s x) fr h=OA c h bytes (get fr s) (get fr x):=_root_.id rfl
@[simp] theorem Kz (r:Nat) (z:AV):A3 O c (.allocAt r z) fr h=BH h r z:=_root_.id rfl
@[simp] theorem rh (x:Opd):A3 O c (.mlen x) fr h=(match w9 h (get fr x)with|some (ks,_)=>some (.int .i64 ks.length,h)|none=>none):=_root_.id rfl
@[simp] theorem tZ (x y:Opd):A3 O c (.min x y) fr h=(match get fr x,get fr y with | .int k a,.int k' b=>if k=k' then some (.int k (if b<a then b else a),h)else none|_,_=>none):=_root_.id rfl
@[simp] theorem pw:A3 O c .mkmap fr h=some (.mp h.boxes.length,{h with boxes:=h.boxes++[[.mbox [] []]]}):=_root_.id rfl
@[simp] theorem pz (str ok:Bool) (z:AV) (x k:Opd):A3 O c (.mlook str ok z x k) fr h=Eh str ok z h (get fr x) (get fr k):=_root_.id rfl
@[simp] theorem tg (str:Bool) (x k v:Opd):A3 O c (.mup str x k v) fr h=UK str h (get fr x) (get fr k) (get fr v):=_root_.id rfl
@[simp] theorem th (sz:Nat) (x:Opd) (lo hi mx:Option Opd):A3 O c (.slc sz x lo hi mx) fr h=NV h sz (get fr x) (F0 fr lo) (F0 fr hi) (F0 fr mx):=_root_.id rfl
@[simp] theorem tM (sz bytes:Nat) (s x:Opd):A3 O c (.app sz bytes s x) fr h=N7 c h sz bytes (get fr s) (get fr x):=_root_.id rfl
@[simp] theorem ub (agg:Bool) (n:Nat) (x:Opd):A3 O c (.ld agg n x) fr h=(x7 h agg n (get fr x)).map λv=>(v,h):=by
 simp only[A3];cases x7 h agg n (get fr x)<;>rfl
@[simp] theorem uc (n:Nat) (a x:Opd):A3 O c (.st n a x) fr h=(x9 h n (get fr x) (get fr a)).map λh'=>(B3,h'):=by
 simp only[A3];cases x9 h n (get fr x) (get fr a)<;>rfl
end
def JY (xs:List AV) (i:Nat):Option AV:=xs[i]?
@[simp] theorem pj (x:AV) (xs:C6):JY (x::xs) 0=some x:=_root_.id rfl
@[simp] theorem pi (x:AV) (xs:C6) (i:Nat):JY (x::xs) (i+1)=JY xs i:=_root_.id rfl
theorem E5 {α:Type} {f:α->AV} {l:List α} {i:Nat} {x:α} (h:l[i]?=some x):JY (l.map f) i=some (f x):=by simp[JY,h]
@[simp] theorem tB (h:AH) (m:U8) (sz:Nat) (xs:C6) (k:IntKind) (j:Int):oM h sz (sl m sz xs) (.int k j)=if 0<=j then (JY xs j.toNat).map (λe=>(.pv e.cells,h))else none:=by
 unfold oM sl JY;simp only;by_cases hj:0<=j
 .rw[if_pos hj];cases hx:xs[j.toNat]? with
  |none=>simp
  |some e =>
   cases xs with
   |nil=>simp at hx
   |cons y ys=>simp[hj]
 .rw[if_neg hj,if_neg (by omega)]
@[simp] theorem rT (h:AH) (m:U8) (sz:Nat) (xs:C6):Ps h (sl m sz xs)=some (.int .i64 xs.length,h):=_root_.id rfl
@[simp] theorem pT (h:AH) (b s off len:Nat):Ps h (.bsl b s off len)=some (.int .i64 len,h):=_root_.id rfl
@[simp] theorem rM (h:AH) (sz b s off len:Nat) (kd:IntKind) (j:Int):oM h sz (.bsl b s off len) (.int kd j)=if 0<=j/\j<len/\s=sz then some (.ptr b (off+j.toNat*sz),h)else none:=_root_.id rfl
@[simp] theorem lX (h:AH) (k n off len:Nat):Ps h (.sl k n off len)=some (.int .i64 len,h):=_root_.id rfl
@[simp] theorem Jo (h:AH) (am:Bool) (k n off len:Nat):frz h am (.sl k n off len)=AS h am (.sl k n off len):=_root_.id rfl
@[simp] theorem pd (h:AH) (agg:Bool) (n:Nat) (cs:C6):x7 h agg n (.pv cs)=T1 agg n cs:=_root_.id rfl
@[simp] theorem od:BA []=false:=_root_.id rfl
@[simp] theorem oh (x y:AV) (l:C6):BA (x::y::l)=false:=by cases x<;>rfl
@[simp] theorem oc (k:IntKind) (n:Int):BA [.int k n]=false:=_root_.id rfl
@[simp] theorem lP (b:Bool):BA [.bool b]=false:=_root_.id rfl
@[simp] theorem og (b:R7):BA [.str b]=false:=_root_.id rfl
@[simp] theorem rR (f:Bool) (sz:Nat) (xs:C6):BA [.vs f sz xs]=false:=_root_.id rfl
@[simp] theorem rP (m:U8) (sz:Nat) (xs:C6):BA [sl m sz xs]=false:=_root_.id rfl
@[simp] theorem lS (k n off len:Nat):BA [.sl k n off len]=false:=_root_.id rfl
@[simp] theorem oe (b off:Nat):BA [.ptr b off]=false:=_root_.id rfl
@[simp] theorem oa (cs:C6):BA [.agg cs]=false:=_root_.id rfl
@[simp] theorem rO (b:Nat):BA [.mp b]=false:=_root_.id rfl
@[simp] theorem rQ (ks vs:C6):BA [.vm ks vs]=false:=_root_.id rfl
@[simp] theorem rN (f:FuncId) (cs:C6):BA [.fn f cs]=false:=_root_.id rfl
@[simp] theorem lR (cs:C6):BA [.rbox cs]=true:=_root_.id rfl
@[simp] theorem uA (agg:Bool) (n off:Nat) (ys:C6):gu agg n off [.rbox ys]=T1 agg n (ys.drop off):=_root_.id rfl
@[simp] theorem lY (h:AH) (agg:Bool) (n b off:Nat):x7 h agg n (.ptr b off)=(h.boxes[b]?).bind λcs=>if BA cs then gu agg n off cs else T1 agg n (cs.drop off):=by
 simp only[x7];cases h.boxes[b]?<;>rfl
@[simp] theorem kc (h:AH) (n:Nat) (v:AV) (b off:Nat):x9 h n v (.ptr b off)=(h.boxes[b]?).bind λcs=>if BA cs=false/\v.isTup=false/\v.cells.length=n/\off+n<=cs.length then some {h with boxes:=h.boxes.set b (S5 cs off v.cells)} else al h b n off v cs:=by
 simp only[x9];cases h.boxes[b]?<;>rfl
@[simp] theorem pG (h:AH) (v:AV):Rr h v=match frz h false v with|some _=>some h|none=>Uw h v:=_root_.id rfl
@[simp] theorem ry (h:AH) (k n off len:Nat):Uw h (.sl k n off len)=(h.fams[k]?).map λf=>{h with fams:=h.fams.set k {f with wr:=false}}:=by
 simp only[Uw];cases h.fams[k]?<;>rfl
@[simp] theorem KW (h:AH) (n:Nat) (v:AV) (k m i q sz:Nat):x9 h n v (.ep k m i q sz)=(Rr h v).bind λh=>(h.fams[k]?).bind λf =>
  if f.xs.length=m/\f.sz=sz/\f.wr=true then
   (f.xs[i]?).bind λx=>(frz h false v).bind λu=>if u.cells.length=n/\q+n<=x.cells.length then
    (x.reform (S5 x.cells q u.cells)).map λy=>{h with fams:=h.fams.set k {f with xs:=f.xs.set i y}} else none
  else none:=by
 simp only[x9];cases Rr h v with
 |none=>rfl
 |some h =>
  simp only[zf0z,FB];cases h.fams[k]? with
  |none=>rfl
  |some f =>
   simp only[zf0z];split
   .cases f.xs[i]? with
    |none=>rfl
    |some x=>cases frz h false v<;>rfl
   .rfl
@[simp] theorem pW (h:AH) (agg:Bool) (n k m i q sz:Nat):x7 h agg n (.ep k m i q sz)=(h.fams[k]?).bind λf=>if f.xs.length=m/\f.sz=sz then (f.xs[i]?).bind λx=>T1 agg n (x.cells.drop q)else none:=by
 simp only[x7];cases h.fams[k]? with
 |none=>rfl
 |some f =>
  simp only[zf0z];split
  .cases f.xs[i]?<;>rfl
  .rfl
@[simp] theorem oT (h:AH) (sz k n off len:Nat) (kd:IntKind) (j:Int):oM h sz (.sl k n off len) (.int kd j)=if 0<=j/\j<len then some (.ep k n (off+j.toNat) 0 sz,h)else none:=_root_.id rfl
@[simp] theorem kX (cs:C6) (off:Nat) (new:C6):S5 cs off new=cs.take off++new++cs.drop (off+new.length):=_root_.id rfl
@[simp] theorem PX {α:Type} (l:List α) (x y:α):(l++[x]).set l.length y=l++[y]:=by
 rw[List.set_append_right _ _ (zf9z _)];simp
@[simp] theorem qm (k:IntKind) (a b:Int):E9 .lss (.int k a) (.int k b)=some (.bool (decide (a<b))):=by simp[E9]
@[simp] theorem ql (k:IntKind) (a b:Int):E9 .leq (.int k a) (.int k b)=some (.bool (decide (a<=b))):=by simp[E9]
@[simp] theorem qk (k:IntKind) (a b:Int):E9 .gtr (.int k a) (.int k b)=some (.bool (decide (b<a))):=by simp[E9]
@[simp] theorem qj (k:IntKind) (a b:Int):E9 .geq (.int k a) (.int k b)=some (.bool (decide (b<=a))):=by simp[E9]
@[simp] theorem qi (k:IntKind) (a b:Int):E9 .eql (.int k a) (.int k b)=some (.bool (decide (a=b))):=by simp only[E9,if_true];rfl
@[simp] theorem qn (k:IntKind) (a b:Int):E9 .neq (.int k a) (.int k b)=some (.bool (!decide (a=b))):=by simp only[E9,if_true];rfl
@[simp] theorem qh (k:IntKind) (a b:Int):E9 .add (.int k a) (.int k b)=some (.int k (k.wrap (a+b))):=by simp[E9]
@[simp] theorem qo (k:IntKind) (a b:Int):E9 .sub (.int k a) (.int k b)=some (.int k (k.wrap (a-b))):=by simp[E9]
theorem RS (a b:List UInt8):(a == b)=decide (a=b):=by
 by_cases h:a=b<;>simp[h]
@[simp] theorem mX (a b:R7):E9 .lss (.str a) (.str b)=some (.bool (Op.bytesLess a.toList b.toList)):=_root_.id rfl
@[simp] theorem mW (a b:R7):E9 .gtr (.str a) (.str b)=some (.bool !(Op.bytesLess a.toList b.toList||decide (a.toList=b.toList))):=by simp only[E9];rw[RS]
@[simp] theorem mV (a b:R7):E9 .eql (.str a) (.str b)=some (.bool (decide (a.toList=b.toList))):=by simp only[E9];rw[RS]
@[simp] theorem mY (a b:R7):E9 .neq (.str a) (.str b)=some (.bool !(decide (a.toList=b.toList))):=by simp only[E9];rw[RS]
@[simp] theorem qQ (fr:Fr) (h:AH):Gm fr h []=some []:=_root_.id rfl
@[simp] theorem qR (fr:Fr) (h:AH) (t:Nat) (rs:List RRes):Gm fr h (.tmp t::rs)=(Gm fr h rs).map (A2 fr t::·):=_root_.id rfl
@[simp] theorem lk (fr:Fr) (h:AH) (a n:Nat) (agg:Bool) (rs:List RRes):Gm fr h (.cell a agg n::rs)=(x7 h agg n (A2 fr a)).bind λv=>(Gm fr h rs).map (v::·):=_root_.id rfl
@[simp] theorem uG (b:Bool):Jm .not (.bool b)=some (.bool !b):=_root_.id rfl
theorem R0 {n:Int} (h0:-9223372036854775808<=n) (h1:n<=9223372036854775807):IntKind.i64.wrap n=n:=by
 simp only[IntKind.wrap,IntKind.bits,IntKind.signed];simp only[Bool.true_and,decide_eq_true_eq,ge_iff_le];split<;>omega
theorem C9 (i:Nat) (h:i<9223372036854775807):IntKind.i64.wrap ((i:Int)+1)=(i:Int)+1:=R0 (by omega) (by omega)
theorem Sr (i:Nat) (h:i<9223372036854775807):IntKind.i64.wrap ((i:Int)+1)=((i+1:Nat):Int):=R0 (by omega) (by omega)
@[simp] theorem EM (h:AH) (am:Bool) (k n off len:Nat):AS h am (.sl k n off len)=(h.fams[k]?).bind λf=>if f.xs.length=n/\off+len<=n/\(am||!f.wr)=true then some (sl (false,true) f.sz ((f.xs.drop off).take len))else none:=by
 simp only[AS];cases h.fams[k]? with
 |none=>rfl
 |some f=>simp only[zf0z,Sg]
@[simp] theorem Rj (h:AH) (am:Bool):frz h am (.vs true 0 [])=some (sl (true,false) 1 []):=_root_.id rfl
@[simp] theorem OT (h:AH) (am:Bool):AS h am (.vs true 0 [])=some (sl (true,false) 1 []):=_root_.id rfl
theorem EC (m:U8) (hm:m.2=false) (a b:Nat):sl m a []=sl m b []:=by simp[sl,hm]
@[simp] theorem LO (c:Ctx) (h:AH) (sz bytes:Nat) (x:AV):N7 c h sz bytes (.vs true 0 []) x=(elems h sz x).bind λys =>
  if ys.length=0 then some (.vs true 0 [],h)else if ys.length*bytes<=I0/\ys.length<=maxLen then some (.sl h.fams.length ys.length 0 ys.length,{h with fams:=h.fams++[⟨ys,sz,c.mutApp⟩]})else none:=by
 simp only[N7,U4];cases elems h sz x with
 |none=>rfl
 |some ys=>simp
def Vl (h:AH) (sz k n off len:Nat) (f:Fam) (ys:List AV):Option (AV×AH) :=
 if f.xs.length=n/\f.sz=sz/\f.wr=true/\off+len+ys.length<=n then some (.sl k n off (len+ys.length),{h with fams:=h.fams.set k {f with xs:=f.xs.take (off+len)++ys++f.xs.drop (off+len+ys.length)}})else none
@[simp] theorem Jd (c:Ctx) (h:AH) (sz bytes k n off len:Nat) (x:AV):N7 c h sz bytes (.sl k n off len) x=(elems h sz x).bind λys=>(h.fams[k]?).bind λf =>
  if f.xs.length=n/\f.sz=sz/\off+len=n/\(n+ys.length)*bytes<=I0/\n+ys.length<=maxLen then some (.sl k (n+ys.length) off (len+ys.length),{h with fams:=h.fams.set k {f with xs:=f.xs++ys}})else Vl h sz k n off len f ys:=by
 simp only[N7,U4];cases elems h sz x with
 |none=>rfl
 |some ys=>cases h.fams[k]?<;>rfl
theorem Hu (c:Ctx) (h:AH) (sz bytes:Nat) (b:Bool) (xs:C6) (x:AV):N7 c h sz bytes (sl (true,b) sz xs) x=(elems h sz x).bind λys =>
  if ys.length=0 then some (sl (true,b) sz xs,h)else if (xs.length+ys.length)*bytes<=I0/\xs.length+ys.length<=maxLen then some (.sl h.fams.length (xs.length+ys.length) 0 (xs.length+ys.length),{h with fams:=h.fams++[⟨xs++ys,sz,c.mutApp⟩]})else none:=by
 simp only[N7,U4,sl];cases elems h sz x with
 |none=>rfl
 |some ys =>
  simp only[zf0z];cases xs<;>simp
inductive Tm where
 |mk (kind:Int) (name:ByteArray) (sort:Int) (m:Bool×Bool) (kids:List Tm)
abbrev Hg:=List Tm
mutual
def I1:Tm->AV
 | .mk k n s m l=>.agg [.int .i64 k,.str n,.int .i64 s,sl m 4 (D1 l)]
def D1:List Tm->List AV
 | []=>[]
 |t::l=>I1 t::D1 l
end
theorem j2 (l:Hg):D1 l=l.map I1:=by
 induction l with
 |nil=>rfl
 |cons t l ih=>simp[D1,ih]
theorem Eu {l:Hg} {i:Nat} {t:Tm} (h:l[i]?=some t):JY (D1 l) i=some (I1 t):=by rw[j2];exact E5 h
@[simp] theorem iy (l:Hg):(D1 l).length=l.length:=by simp[j2]
mutual
def Tm.size:Tm->Nat
 | .mk _ _ _ _ l=>1+Tm.sizes l
def Tm.sizes:List Tm->Nat
 | []=>0
 |t::l=>t.size+Tm.sizes l
end
theorem Tm.size_pos (t:Tm):0<t.size:=by cases t;simp[Tm.size];omega
theorem Tm.sizes_append (l r:Hg):Tm.sizes (l++r)=Tm.sizes l+Tm.sizes r:=by
 induction l with
 |nil=>simp[Tm.sizes]
 |cons t l ih=>simp[Tm.sizes,ih];omega
theorem Tm.size_le {t:Tm} {l:Hg} (h:t∈l):t.size<=Tm.sizes l:=by
 induction l with
 |nil=>cases h
 |cons x l ih =>
  simp only[Tm.sizes];rcases zf6z.1 h with rfl|h
  .omega
  .have:=ih h;omega
theorem Tm.length_le (l:Hg):l.length<=Tm.sizes l:=by
 induction l with
 |nil=>simp
 |cons x l ih=>have:=x.size_pos;simp only[Tm.sizes,List.length_cons];omega
end Go.Abs
namespace Go.Abs
open Go.RowKit (Below)
open Go.ChangeShapes Go.WideShapes Go.Deep
open Go.Proofs.YtjhgilockkmniaaGreatDoor (Rows.uptoBulk Rows.uptoBulkAll)
abbrev eY (w:World):Nat->Nat->Prop:=λb _=>b<w.heap.size
def CV (w:World) (ys:List AV) (cs:List Value):Prop:=W5 w (eY w) ys cs/\∀u∈cs,u.oneCell'=true
def IR (P:Program) (w:World) (t:TypeId) {T:Type} (cells:T->List AV) (good:T->Prop) (wt:T->Nat) (n:Nat):Prop :=
 ∀{H:Type} (enc:TypeId×Value->H) (cs:List Value) (x:DataW H×List MemPlace),DataW.trod enc P w 0 (λ_=>true) true n t cs=some x ->
  ∃a,good a/\wt a<=Rows.uptoBulk x.1/\CV w (cells a) cs
section
variable {P:Program} {w:World} {t e:TypeId}
theorem IR.le {T:Type} {cells:T->List AV} {good:T->Prop} {wt:T->Nat} {n m:Nat} (h:IR P w t cells good wt n) (hm:m<=n):IR P w t cells good wt m :=
 λenc cs x hx=>h enc cs x (DataW.trod_le hm hx)
theorem Ly {a:AV} {v:Value} (h:PV w (eY w) a v) (ho:v.oneCell'=true):CV w [a] [v]:=by
 refine⟨?_,λu hu=>by simp at hu;subst hu;exact ho⟩;simp only[W5];exact⟨v,[],rfl,h,rfl⟩
theorem Gv {k:IntKind} (ht:P.underlying t=some (.int k)) (n:Nat):IR P w t (λi:Int=>[.int k i]) (λi=>(Lit.int k i).wf=true) (λ_=>1) n:=by
 intro H enc cs x hx;obtain⟨i,rfl,rfl,hw⟩:=DataW.trod_int ht hx;exact⟨i,hw,by simp[Rows.uptoBulk],Ly (by simp[PV]) rfl⟩
theorem DF (ht:P.underlying t=some .string) (n:Nat):IR P w t (λs:ByteArray=>[.str s]) (λs=>s.size<=maxLen) (λs=>s.size+1) n:=by
 intro H enc cs x hx;obtain⟨s,rfl,rfl,hw⟩:=DataW.trod_string ht hx;exact⟨s,hw,Nat.le_of_eq (by simp only[Rows.uptoBulk,Array.length_toList];rfl),Ly (by simp[PV]) rfl⟩
theorem Xj {T:Type} {R:Nat->T->Prop}:∀{n:Nat},(∀i,i<n->∃a,R i a)->∃ys:List T,ys.length=n/\∀i a,ys[i]?=some a->R i a
 |0,_=>⟨[],rfl,λi a h=>by simp at h⟩
 |n+1,h=>by
  obtain⟨ys,hl,ha⟩:=Xj (n:=n) λi hi=>h i (by omega);obtain⟨a,hr⟩:=h n (by omega);refine⟨ys++[a],by simp[hl],λi b hb=>?_⟩;by_cases hi:i<n
  .rw[List.getElem?_append_left (by omega)]at hb;exact ha i b hb
  .rw[List.getElem?_append_right (by omega),hl]at hb;have Ph:i=n:=by
    have:=(zf3z.1 hb).1;simp at this;omega
   subst Ph;simp at hb;subst hb;exact hr
theorem VJ {H T:Type} {wt:T->Nat}:∀{ys:List T} {l:List (DataW H)},ys.length=l.length->(∀(i:Nat) (a:T) (d:DataW H),ys[i]?=some a->l[i]?=some d->wt a<=Rows.uptoBulk d)->(ys.map wt).sum<=Rows.uptoBulkAll l
 | [],l,_,_=>by simp
 |a::ys,[],h,_=>by simp at h
 |a::ys,d::l,h,k=>by
  have h1:=k 0 a d rfl rfl;have h2:=VJ (ys:=ys) (l:=l) (by simpa using h) λi a d ha hd=>k (i+1) a d (by simpa using ha) (by simpa using hd);simp only[List.map_cons,List.sum_cons,Rows.uptoBulkAll];omega
theorem iR {sz:Nat} {xs:C6} {a:Addr} {len cap:Nat} (C4:xs.length=len) (hc:len<=cap) (hm:cap<=maxLen) (L4:0<sz)
  (hx:∀(i:Nat) (x:AV),xs[i]?=some x->∃cs',w.cells? 0 (a.add (i*sz)) sz=some cs'/\CV w x.cells cs'):PV w (eY w) (.vs false sz xs) (.slice (some a) len cap):=by
 simp only[PV];refine⟨some a,len,cap,rfl,C4.symm,hc,hm,(by simp),⟨(by simp),⟨(by simp),λe=>absurd L4 (by omega)⟩⟩,λT6=>?_⟩;have spot:a.spot=none:=by
  cases xs with
  |nil=>exact absurd rfl T6
  |cons x xs =>
   obtain⟨cs',h1,h2,_⟩:=hx 0 x rfl;obtain⟨_,hl,hcell⟩:=World.cells?_some h1;have h0:=hcell 0 L4;rw[zf1z (by omega)]at h0;simpa[Addr.add]using World.cell?_spot h0
 obtain⟨b,o,sp⟩:=a;subst spot;refine⟨b,o,rfl,L4,LK λj x hj=>?_⟩;obtain⟨cs',h1,h2,h3⟩:=hx j x hj;obtain⟨_,hl,hcell⟩:=World.cells?_some h1;obtain⟨g1,g2⟩:=BC h2;refine⟨by omega,Gn λq c hq=>?_⟩;obtain⟨u,hu,hv⟩:=g2 hq;have hqlt:q<sz:=by
  have:=(zf3z.1 hq).1;omega
 have Hn:=hcell q hqlt;rw[hu,Go.WideShapes.add_plain,Go.WideShapes.add_plain]at Hn;exact⟨u,World.block_lt_of_cell? _ _ Hn,Hn,h3 u (List.mem_of_getElem? hu),hv⟩
theorem ET {T:Type} {sz:Nat} {enc:T->AV} {good:T->Prop} {wt:T->Nat} {n:Nat} (ht:P.underlying t=some (.slice e)) (L4:P.cellsOf e=sz) (G7:0<sz)
  (elem:IR P w e (λa=>(enc a).cells) good wt n) :
  IR P w t (λys:Bool×List T=>[sl (false,ys.1) sz (ys.2.map enc)]) (λys=>∀a∈ys.2,good a) (λys=>(ys.2.map wt).sum+1) (n+1):=by
 intro H ec cs x hx;rcases DataW.trod_slice ht hx with ⟨rfl,rfl⟩|⟨a,len,cap,elems,rest,n',hn,rfl,rfl,hb,hl,hm,C4,Jp,hsp,rL⟩
 .exact⟨(false,[]),λa ha=>by simp at ha,by simp[Rows.uptoBulk],Ly (by simp only[sl,PV];exact⟨none,0,0,rfl,by simp,zf9z _,Nat.zero_le _,by simp,by simp,λh=>absurd rfl h⟩) rfl⟩
 .have rK:n'=n:=by omega
  subst rK;obtain⟨ys,Mv,hr⟩:=Xj (T:=T) (n:=len) (R:=λi a'=>good a'/\(∀y,elems[i]?=some y->wt a'<=Rows.uptoBulk y.1)/\∃cs',w.cells? 0 (a.add (i*sz)) sz=some cs'/\CV w (enc a').cells cs') λi hi=>by
   have h1:=Jp i hi;rw[zf1z (by omega),L4]at h1;obtain⟨cs',h2,h3⟩:=Option.bind_eq_some_iff.1 h1;obtain⟨a',k1,k2,k3⟩:=elem ec cs' _ h3;exact⟨a',k1,λy hy=>by rw[zf1z (by omega)]at hy;cases hy;exact k2,cs',h2,k3⟩
  refine⟨(true,ys),λa' ha'=>?_,?_,Ly ((congrArg (λq=>PV w (eY w) q (.slice (some a) len cap)) (Sg false sz (ys.map enc))).mp (iR (by simp[Mv]) hl hm G7 λi x hx=>?_)) rfl⟩
  .obtain⟨i,hi⟩:=List.mem_iff_getElem?.1 ha';exact(hr i a' hi).1
  .have:=VJ (wt:=wt) (ys:=ys) (l:=elems.map (·.1)) (by simp[Mv,C4]) λi a' d ha' hd=>by
    simp only[zf5z,zf4z]at hd;obtain⟨y,hy,rfl⟩:=hd;exact(hr i a' ha').2.1 y hy
   simp only[Rows.uptoBulk];omega
  .simp only[zf5z,zf4z]at hx;obtain⟨a',ha',rfl⟩:=hx;exact(hr i a' ha').2.2
theorem AN {ys:C6} {cs:List Value} {y:AV} {c:Value} (h:CV w [y] [c]) (k:CV w ys cs):CV w (y::ys) (c::cs):=by
 obtain⟨h1,h2⟩:=h;refine⟨?_,λu hu=>?_⟩
 .simp only[W5]at h1 ⊢;obtain⟨u,us,he,h3,rfl⟩:=h1;cases he;exact⟨c,cs,rfl,h3,k.1⟩
 .rcases zf6z.1 hu with rfl|hu
  .exact h2 u (by simp)
  .exact k.2 u hu
end
section
variable {P:Program}
theorem Kj {H:Type} {enc:TypeId×Value->H} {W W':World} (hl:laidOutB P=true) (hb:Below W.heap.size W W'):∀{ts:List TypeId} {vs:List Value} {ds:List (DataW H)} {ps:List MemPlace},(∀t∈ts,P.readableRec t=true/\t<P.types.size) ->
  DataW.TrodAll enc P W 0 (λ_=>true) true ts vs ds ps->(∀p∈ps,p.block<W.heap.size)->∀{sp:Nat->Bool},(∀p∈ps,sp p.block=true)->DataW.TrodAll enc P W' 0 sp true ts vs ds ps
 | [],[],[],_,_,h,_,_,_=>h
 |t::ts,v::vs,d::ds,ps,hr,h,A9,sp,hs=>by
  obtain⟨p,q,h1,h2,rfl⟩:=h;refine⟨p,q,WideElems.Trod_stays hl (hr t (by simp)).1 (hr t (by simp)).2 h1 (λx hx=>hb.same (A9 x (by simp[hx]))) (λx hx=>hs x (by simp[hx])),?_,rfl⟩;exact Kj hl hb (λt ht=>hr t (by simp[ht])) h2 (λx hx=>A9 x (by simp[hx])) (λx hx=>hs x (by simp[hx]))
theorem Ue {H:Type} {enc:TypeId×Value->H} {f:Func} {s:ChangeSpec} {W W':World} {args:Array Value} {v:Value} {ds gs:List (DataW H)} {P8 pa:List MemPlace}
  (hW:DataW.Whole enc P f.params.toList s.vars false W args.toList ds gs P8) (hps:P8=pa)
  (hres:∀(b:Nat) (sp:Nat->Bool) (hd:Bool),DataW.TrodAll enc P W' b sp hd f.resultTypes.toList (v.resultList f.resultTypes.size) (s.fn H (ds++gs)).results [])
  (hargs:∀sp:Nat->Bool,(∀p∈P8,sp p.block=true)->DataW.TrodAll enc P W' 0 sp true f.params.toList args.toList (s.fn H (ds++gs)).args pa)
  (hv:s.vars=[]) (hgs:(s.fn H (ds++gs)).vars=[]) (hk:W.keptBut W' (·∈P8)) (sx:∀a:Addr,a.block<W.heap.size->W'.frozen? a=W.frozen? a)
  (AW:∀(j:Nat) (t:TypeId) (r:Value),f.resultTypes[j]?=some t->(v.resultList f.resultTypes.size)[j]?=some r->Value.okWide P W' .any 0 t r) :
  s.post enc P f false true false false W args v W':=by
 subst hps;have hold:∀p∈P8,(λb=>decide (b<W.heap.size)) p.block=true:=λp hp=>by simpa using hW.lt p hp
 have hvars:∀sp:Nat->Bool,DataW.TrodVars enc P W' sp s.vars (s.fn H (ds++gs)).vars []:=λsp=>by rw[hv,hgs];rfl
 refine⟨ds,gs,P8,[],P8,[],hW,hres _ _ _,hargs _ hold,hvars _,World.keptBut_mono (λp hp=>⟨hp,?_⟩) hk,λ_=>?_⟩
 .exact Or.inr (Or.inl hp)
 .have A9:=hW.lt;obtain⟨_,_,_,_,_,hz,hn⟩:=hW;refine⟨AW,_,_,([]++P8)++[],⟨[]++P8,[],trodAll_append (hargs _ (λ_ _=>rfl)) (hres _ _ _),hvars _,rfl,?_,?_⟩,?_⟩
  .intro b off hp;have hp':MemPlace.cell b off∈P8:=by simpa using hp
   rw[sx _ (A9 _ hp')];exact hz b off hp'
  .intro ha;cases ha
  .intro p hp _;simpa using hp
theorem aI {C:Cfg} (hC:CfgS P C) (hl:laidOutB P=true) {f:FuncId} {fn:Func} {tb:TypeId} (hb:P.underlying tb=some .bool) (hres:fn.resultTypes=#[tb]) (hpar:∀t∈fn.params.toList,P.readableRec t=true/\t<P.types.size)
  {s:ChangeSpec} (hv:s.vars=[]) {H:Type} {enc:TypeId×Value->H} {W:World} {args:Array Value} {ds gs:List (DataW H)} {P8:List MemPlace}
  (hs:(s.fn H (ds++gs)).results=[.lit (.bool true)]/\(s.fn H (ds++gs)).args=ds/\(s.fn H (ds++gs)).vars=[])
  (hW:DataW.Whole enc P fn.params.toList s.vars false W args.toList ds gs P8) {ys:List AV} (hG:Cc W (eY W)) (hy:W5 W (eY W) ys args.toList) (h:pc C f ys=some (.bool true)) :
  Calls P f args W λe W'=>∃v,e=.returned v/\s.post enc P fn false true false false W args v W':=by
 have A9:=hW.lt;have hW':=hW;obtain⟨p,q,hA,hV,hpq,sx,sy⟩:=hW;rw[hv]at hV;obtain⟨rfl,rfl⟩:=trodVars_none hV;rw[List.append_nil]at hpq;subst hpq;refine(Uc hC h W (eY W) args (λb o hb=>hb) hG hy).mono λe W' ⟨u,he,⟨hbel,_⟩,hu⟩=>?_;have hu':u=.bool true:=by simpa[PV]using hu
 subst hu' he;refine⟨_,rfl,Ue hW' rfl (λb sp hd=>?_) (λsp hsp=>?_) hv hs.2.2 (hbel.frame _) (λa ha=>hbel.frozen ha) (RowKit.ok_one hres rfl (RowKit.okWide_bool_mk hb _))⟩
 .rw[hs.1,hres];exact trodAll_mk1 (RowKit.shut_bool hb _)
 .rw[hs.2.1];exact Kj hl hbel hpar hA A9 hsp
end
end Go.Abs
