/- A part of the proof. -/
import Derived.Test.YtohjdamplbhdpaaGreatDoorSO5
import Derived.Test.YtohjdamplbhdpaaGreatDoorRows
import Derived.ProofKit
import Derived.OpenShut
import Derived.JoinedCond
import Derived.Deep.Slices
import Derived.Carry
set_option linter.all false
open Option renaming bind_some->A0Q,map_eq_some_iff->A0U
open List renaming getElem?_eq_getElem->A0R,replicate->A0S,getElem?_eq_some_iff->A0T,getElem?_map->A0V,mem_cons->A0W,map_map->A0X,map_id->A0Y
namespace Go.Abs
def sl (m:Bool×Bool) (sz:Nat) (xs:List AV):AV:=.vs m.1 (if xs.isEmpty&&!m.2 then 0 else sz) xs
theorem cr (f:Bool) (sz:Nat) (xs:G3):.vs f sz xs=sl (f,true) sz xs:=by simp[sl]
theorem Il (sz:Nat):.vs true 0 []=sl (true,false) sz []:=by simp[sl]
@[simp] theorem sl_isTup (m:I7) (sz:Nat) (xs:G3):(sl m sz xs).isTup=false:=_root_.id rfl
@[simp] theorem sl_cells (m:I7) (sz:Nat) (xs:G3):(sl m sz xs).cells=[sl m sz xs]:=_root_.id rfl
@[simp] theorem sl_frz1 (h:AH) (am:Bool) (m:I7) (sz:Nat) (xs:G3):Ej h am (sl m sz xs)=some (sl m sz xs):=_root_.id rfl
@[simp] theorem tW (h:AH) (am:Bool) (m:I7) (sz:Nat) (xs:G3):KH h am (sl m sz xs)=some (sl m sz xs):=_root_.id rfl
@[simp] theorem sl_tame1 (h:AH) (m:I7) (sz:Nat) (xs:G3):KO h (sl m sz xs)=true:=_root_.id rfl
@[simp] theorem sl_tame (h:AH) (m:I7) (sz:Nat) (xs:G3):CM h (sl m sz xs)=true:=_root_.id rfl
@[simp] theorem sl_flat (m:I7) (sz:Nat) (xs:G3):(sl m sz xs).flat=true:=_root_.id rfl
@[simp] theorem yX (m:I7) (sz:Nat) (xs:G3) (rest:G3):AJ false 1 (sl m sz xs::rest)=some (sl m sz xs):=_root_.id rfl
@[simp] theorem M9 (h:AH) (m:I7) (sz:Nat) (xs:G3):AR h sz (sl m sz xs)=some xs:=by
 cases xs with
 |nil=>simp[AR,sl]
 |cons x xs=>simp[AR,sl]
@[simp] theorem zX (m:I7) (sz:Nat) (xs:G3):(sl m sz xs).scalar=false:=_root_.id rfl
@[simp] theorem uy (h:AH) (am:Bool) (k:IntKind) (n:Int):KH h am (.int k n)=some (.int k n):=_root_.id rfl
@[simp] theorem frz_bool (h:AH) (am:Bool) (b:Bool):KH h am (.bool b)=some (.bool b):=_root_.id rfl
@[simp] theorem frz_str (h:AH) (am:Bool) (s:J2):KH h am (.str s)=some (.str s):=_root_.id rfl
@[simp] theorem frz_fn (h:AH) (am:Bool) (f:FuncId):KH h am (.fn f [])=some (.fn f []):=_root_.id rfl
@[simp] theorem frz_nilp (h:AH) (am:Bool):KH h am .nilp=some .nilp:=_root_.id rfl
@[simp] theorem frzL_nil (h:AH) (am:Bool):TV h am []=some []:=_root_.id rfl
@[simp] theorem yt (h:AH) (am:Bool) (x:AV) (xs:G3):TV h am (x::xs)=(Ej h am x).bind λy=>(TV h am xs).map (y::·):=_root_.id rfl
@[simp] theorem frz1_int (h:AH) (am:Bool) (k:IntKind) (n:Int):Ej h am (.int k n)=some (.int k n):=_root_.id rfl
@[simp] theorem yq (h:AH) (am:Bool) (b:Bool):Ej h am (.bool b)=some (.bool b):=_root_.id rfl
@[simp] theorem frz1_str (h:AH) (am:Bool) (s:J2):Ej h am (.str s)=some (.str s):=_root_.id rfl
@[simp] theorem frz_agg (h:AH) (am:Bool) (cs:G3):KH h am (.agg cs)=(TV h am cs).map .agg:=_root_.id rfl
@[simp] theorem xY (h:AH) (am:Bool):Bj h am []=some []:=_root_.id rfl
@[simp] theorem wT (h:AH) (am:Bool) (x:AV) (xs:G3):Bj h am (x::xs)=(KH h am x).bind λy=>(Bj h am xs).map (y::·):=_root_.id rfl
@[simp] theorem xa (h:AH) (k:IntKind) (n:Int):DX h (.int k n)=some (.int k n):=_root_.id rfl
@[simp] theorem wU (h:AH) (b:Bool):DX h (.bool b)=some (.bool b):=_root_.id rfl
@[simp] theorem xb (h:AH) (s:J2):DX h (.str s)=some (.str s):=_root_.id rfl
@[simp] theorem yu (h:AH) (m:I7) (sz:Nat) (xs:G3):DX h (sl m sz xs)=some (sl m sz xs):=_root_.id rfl
@[simp] theorem xZ (h:AH) (cs:G3):DX h (.agg cs)=(TV h true cs).map .agg:=_root_.id rfl
@[simp] theorem xc (h:AH) (cs:G3):DX h (.tup cs)=(Bj h true cs).map .tup:=_root_.id rfl
@[simp] theorem kcl_some (ys:G3) (k:List AV->Option AV) (tm:Bool) (h:AH):kcl (some ys) k tm h=(match k ys with|some r=>if r.scalar||tm then some (r,h)else none|none=>none):=_root_.id rfl
@[simp] theorem yV (k:IntKind) (n:Int):(AV.int k n).scalar=true:=_root_.id rfl
@[simp] theorem wh (b:Bool):(AV.bool b).scalar=true:=_root_.id rfl
@[simp] theorem yW (s:J2):(AV.str s).scalar=true:=_root_.id rfl
@[simp] theorem zG (k:IntKind) (n:Int):(AV.int k n).isTup=false:=_root_.id rfl
@[simp] theorem xf (b:Bool):(AV.bool b).isTup=false:=_root_.id rfl
@[simp] theorem zI (b:J2):(AV.str b).isTup=false:=_root_.id rfl
@[simp] theorem zF (cs:G3):(AV.agg cs).isTup=false:=_root_.id rfl
@[simp] theorem Mg (cs:G3):(AV.agg cs).cells=cs:=_root_.id rfl
@[simp] theorem yj (k:IntKind) (n:Int):(AV.int k n).cells=[.int k n]:=_root_.id rfl
@[simp] theorem xO (b:Bool):(AV.bool b).cells=[.bool b]:=_root_.id rfl
@[simp] theorem yl (b:J2):(AV.str b).cells=[.str b]:=_root_.id rfl
@[simp] theorem vQ (n:Nat) (cs:G3):AJ true n cs=if n<=cs.length then some (.agg (cs.take n))else none:=_root_.id rfl
@[simp] theorem uG (n:Nat) (cs:G3):AJ false n cs=cs.head?:=_root_.id rfl
def iaA (h:AH) (sz:Nat) (x i:AV):Option (AV×AH) :=
 match x,i with
 | .vs _ z xs,.int _ j=>if 0<=j/\z=sz then (match xs[j.toNat]? with|some e=>some (.pv e.cells,h)|none=>none)else none
 | .sl k n off len,.int _ j=>if 0<=j/\j<len then some (.ep k n (off+j.toNat) 0 sz,h)else none
 |_,_=>none
def bZ (h:AH) (x:AV):Option (AV×AH) :=
 match x with
 | .vs _ _ xs=>some (.int .i64 xs.length,h)
 | .sl _ _ _ len=>some (.int .i64 len,h)
 |_=>none
def YT (h:AH) (sz:Nat) (x:AV) (l u m:Option (Option Int)):Option (AV×AH) :=
 match l,u,m with
 |some l,some u,some m=>match Oc h sz x l u m with|some v=>some (v,h)|none=>none
 |_,_,_=>none
def nqA (neg:Bool) (h:AH) (x:AV):Option (AV×AH):=match x with | .vs _ z _=>some (.bool (if neg then !(z == 0)else z == 0),h)|_=>none
theorem Td (neg:Bool) (h:AH) (m:I7) (sz:Nat) (J4:0<sz) (xs:G3):nqA neg h (sl m sz xs)=some (.bool (if neg then !(xs.isEmpty&&!m.2)else (xs.isEmpty&&!m.2)),h):=by
 unfold nqA sl;by_cases hx:(xs.isEmpty&&!m.2)=true
 .simp[hx]
 .have:(sz == 0)=false:=by simp;omega
  simp[hx,this]
section
variable {O:Orc} {c:Ctx} (fr:Fr) (h:AH)
@[simp] theorem op_mov (x:Opd):A9 O c (.mov x) fr h=some (get fr x,h):=_root_.id rfl
@[simp] theorem op_pick (q a b:Opd):A9 O c (.pick q a b) fr h=(match get fr q with | .bool t=>some (if t then get fr a else get fr b,h)|_=>none):=_root_.id rfl
@[simp] theorem op_box (x:Opd):A9 O c (.box x) fr h=if (get fr x).isTup then none else some (.ptr h.boxes.length 0,{h with boxes:=h.boxes++[(get fr x).cells]}):=_root_.id rfl
@[simp] theorem op_alloc (z:AV):A9 O c (.alloc z) fr h=some (.ptr h.boxes.length 0,{h with boxes:=h.boxes++[z.cells]}):=_root_.id rfl
@[simp] theorem op_build (z:AV) (parts:List (Nat×Nat×Opd)):A9 O c (.build z parts) fr h=(D2 fr z.cells.length parts).map λps=>(.agg (E6 z.cells ps),h):=by
 simp only[A9];cases D2 fr z.cells.length parts<;>rfl
@[simp] theorem zQ (n:Nat) (z:AV) (parts:List (Nat×Opd)):A9 O c (.bslice n z parts) fr h=(A5 fr h (A0S n z) parts).map λxs=>(sl (true,true) z.cells.length xs,h):=by
 simp only[A9,cr];cases A5 fr h (A0S n z) parts<;>rfl
@[simp] theorem xt (n:Nat) (z:AV) (parts:List (Nat×Opd)):A9 O c (.bslicev n z parts) fr h=if parts.all (λp=>OD (get fr p.2))then (A5 fr h (A0S n z) parts).map λxs=>(sl (true,true) z.cells.length xs,h)else none:=by
 simp only[A9,cr];cases A5 fr h (A0S n z) parts<;>rfl
@[simp] theorem op_ldb (agg:Bool) (n:Nat) (x:Opd):A9 O c (.ldb agg n x) fr h=(match get fr x with | .ep ..=>none|p=>(match JT h agg n p with|some v=>some (v,h)|none=>none)):=_root_.id rfl
@[simp] theorem op_nilck (x:Opd):A9 O c (.nilck x) fr h=(match get fr x with | .pv cs=>some (.pv cs,h) | .ptr b o=>some (.ptr b o,h) | .ep k n i q s=>some (.ep k n i q s,h) | .fn f cs=>some (.fn f cs,h)|_=>none):=_root_.id rfl
@[simp] theorem op_bin (op:BinOp) (x y:Opd):A9 O c (.bin op x y) fr h=(G5 op (get fr x) (get fr y)).map λv=>(v,h):=by
 simp only[A9];cases G5 op (get fr x) (get fr y)<;>rfl
@[simp] theorem op_beq (neg:Bool) (x y:Opd):A9 O c (.beq neg x y) fr h=(match get fr x,get fr y with | .bool a,.bool b=>some (.bool (if neg then !(a == b)else a == b),h)|_,_=>none):=_root_.id rfl
@[simp] theorem op_nileq (neg:Bool) (x:Opd):A9 O c (.nileq neg x) fr h=nqA neg h (get fr x):=by
 simp only[A9,nqA];rfl
@[simp] theorem op_un (op:UnOp) (x:Opd):A9 O c (.un op x) fr h=(TR op (get fr x)).map λv=>(v,h):=by
 simp only[A9];cases TR op (get fr x)<;>rfl
@[simp] theorem op_conv (k:IntKind) (x:Opd):A9 O c (.conv k x) fr h=(match get fr x with | .int _ n=>some (.int k (k.wrap n),h)|_=>none):=_root_.id rfl
@[simp] theorem op_cstr (x:Opd):A9 O c (.cstr x) fr h=(match get fr x with | .str s=>some (.str s,h)|_=>none):=_root_.id rfl
@[simp] theorem op_bstr (x:Opd):A9 O c (.bstr x) fr h=Su h (get fr x):=_root_.id rfl
def kro (b:Bool) (x y:Option (AV×AH)):Option (AV×AH):=if b then x else y
@[simp] theorem kro_t (x y:Option (AV×AH)):kro true x y=x:=_root_.id rfl
@[simp] theorem kro_f (x y:Option (AV×AH)):kro false x y=y:=_root_.id rfl
@[simp] theorem op_clos (f:FuncId) (caps:List Opd):A9 O c (.clos f caps) fr h=kro c.ro ((Bs h (caps.map (get fr))).map λp=>(.fn f p.1,p.2)) (some (.fn f (caps.map (get fr)),h)):=_root_.id rfl
@[simp] theorem xw (z:AV) (bytes:Nat) (l q:Opd):A9 O c (.mkslice z bytes l q) fr h=(match get fr l,get fr q with
  | .int _ a,.int _ b =>
   if 0<=a/\a<=b/\b*bytes<=H2/\b<=maxLen then
    some (.sl h.fams.length a.toNat 0 a.toNat,{h with fams:=h.fams++[⟨A0S a.toNat z,z.cells.length,true⟩]})
   else none
  |_,_=>none):=_root_.id rfl
@[simp] theorem op_faddr (off:Nat) (x:Opd):A9 O c (.faddr off x) fr h=(match get fr x with | .pv cs=>some (.pv (cs.drop off),h) | .ptr b o=>some (.ptr b (o+off),h) | .ep k n i q s=>some (.ep k n i (q+off) s,h)|_=>none):=_root_.id rfl
@[simp] theorem op_fld (agg:Bool) (off n:Nat) (x:Opd):A9 O c (.fld agg off n x) fr h=(match get fr x with | .agg cs=>(match AJ agg n (cs.drop off)with|some v=>some (v,h)|none=>none)|_=>none):=_root_.id rfl
@[simp] theorem op_idx (x i:Opd):A9 O c (.idx x i) fr h=(match get fr x,get fr i with
  | .str s,.int _ j=>if 0<=j then (match s[j.toNat]? with|some b=>some (.int .u8 b.toNat,h)|none=>none)else none
  |_,_=>none):=_root_.id rfl
@[simp] theorem op_ext (x:Opd) (i:Nat):A9 O c (.ext x i) fr h=(match get fr x with | .tup vs=>(match vs[i]? with|some v=>some (v,h)|none=>none)|_=>none):=_root_.id rfl
@[simp] theorem op_slen (x:Opd):A9 O c (.len true x) fr h=(match get fr x with | .str s=>some (.int .i64 s.size,h)|_=>none):=_root_.id rfl
@[simp] theorem op_max (x y:Opd):A9 O c (.max x y) fr h=(match get fr x,get fr y with | .int k a,.int k' b=>if k=k' then some (.int k (if b > a then b else a),h)else none|_,_=>none):=_root_.id rfl
@[simp] theorem op_iaddr (sz:Nat) (x i:Opd):A9 O c (.iaddr sz x i) fr h=iaA h sz (get fr x) (get fr i):=_root_.id rfl
@[simp] theorem op_ste (n:Nat) (a x:Opd):A9 O c (.ste n a x) fr h=YX h n (get fr a) (get fr x):=_root_.id rfl
@[simp] theorem op_stb (n:Nat) (a x:Opd):A9 O c (.stb n a x) fr h=YW h n (get fr a) (get fr x):=_root_.id rfl
@[simp] theorem op_mkv (z:AV) (bytes:Nat) (l q:Opd):A9 O c (.mkv z bytes l q) fr h=jO h z bytes (get fr l) (get fr q):=_root_.id rfl
@[simp] theorem op_clr (z:AV) (x:Opd):A9 O c (.clr z x) fr h=Uz h z (get fr x):=_root_.id rfl
@[simp] theorem op_len (x:Opd):A9 O c (.len false x) fr h=bZ h (get fr x):=_root_.id rfl
def mt (b:Bool) (x y:Unit->Option (AV×AH)):Option (AV×AH):=if b then x ()else y ()
@[simp] theorem kraw_t (x y:Unit->Option (AV×AH)):mt true x y=x ():=_root_.id rfl
@[simp] theorem kraw_f (x y:Unit->Option (AV×AH)):mt false x y=y ():=_root_.id rfl
@[congr] theorem xj {b b':Bool} {x y:Unit->Option (AV×AH)} (h:b=b'):mt b x y=mt b' x y:=by rw[h]
@[simp] theorem op_calls {C:Cfg} (f:FuncId) (xs:List Opd):A9 (K8 C) c (.call f xs) fr h=mt (c.raw f) (λ_=>XQ (c.noB f) h (rc C f (xs.map (get fr)) h)) (λ_=>kcl (Bj h true (xs.map (get fr))) (λys=>pc C f ys) ((xs.map (get fr)).all (CM h)) h):=by
 cases hr:c.raw f with
 |false=>exact lO hr xs fr h
 |true=>exact fI hr xs fr h
def kif (b:Bool) (x:Option (AV×AH)):Option (AV×AH):=if b then none else x
@[simp] theorem kif_t (x:Option (AV×AH)):kif true x=none:=_root_.id rfl
@[simp] theorem kif_f (x:Option (AV×AH)):kif false x=x:=_root_.id rfl
@[simp] theorem op_callv {C:Cfg} (x:Opd) (xs:List Opd):A9 (K8 C) c (.callv x xs) fr h=(match get fr x with
  | .fn f caps=>kif (c.raw f&&!c.rawv) (mt (c.raw f) (λ_=>XQ (c.noB f) h (rc C f (xs.map (get fr)++caps) h)) (λ_=>kcl (Bj h true (xs.map (get fr)++caps)) (λys=>pc C f ys) ((xs.map (get fr)++caps).all (CM h)) h))
  |_=>none):=by
 simp only[A9];cases get fr x with
 |fn f caps =>
  simp only;unfold kif;by_cases hq:(c.raw f&&!c.rawv)=true
  .rw[if_pos hq,if_pos hq]
  .rw[if_neg hq,if_neg hq];cases hr:c.raw f with
   |false =>
    have:=lO (C:=C) hr ((xs.map (get fr)++caps).map Opd.c) fr h;simp only[A9,A0X]at this;rw[show (get fr∘Opd.c)=id from rfl,A0Y]at this;exact this
   |true =>
    have:=fI (C:=C) hr ((xs.map (get fr)++caps).map Opd.c) fr h;simp only[A9,A0X]at this;rw[show (get fr∘Opd.c)=id from rfl,A0Y]at this;exact this
 |_=>rfl
@[simp] theorem op_mkmap:A9 O c .mkmap fr h=some (.mp h.boxes.length,{h with boxes:=h.boxes++[[.mbox [] []]]}):=_root_.id rfl
@[simp] theorem op_mlook (str ok:Bool) (z:AV) (x k:Opd):A9 O c (.mlook str ok z x k) fr h=Gb str ok z h (get fr x) (get fr k):=_root_.id rfl
@[simp] theorem op_mup (str:Bool) (x k v:Opd):A9 O c (.mup str x k v) fr h=Yt str h (get fr x) (get fr k) (get fr v):=_root_.id rfl
@[simp] theorem op_slc (sz:Nat) (x:Opd) (lo hi mx:Option Opd):A9 O c (.slc sz x lo hi mx) fr h=YT h sz (get fr x) (L6 fr lo) (L6 fr hi) (L6 fr mx):=_root_.id rfl
@[simp] theorem op_app (sz bytes:Nat) (s x:Opd):A9 O c (.app sz bytes s x) fr h=K1 c h sz bytes (get fr s) (get fr x):=_root_.id rfl
@[simp] theorem op_ld (agg:Bool) (n:Nat) (x:Opd):A9 O c (.ld agg n x) fr h=(JT h agg n (get fr x)).map λv=>(v,h):=by
 simp only[A9];cases JT h agg n (get fr x)<;>rfl
@[simp] theorem op_st (n:Nat) (a x:Opd):A9 O c (.st n a x) fr h=(Ly h n (get fr x) (get fr a)).map λh'=>(C5,h'):=by
 simp only[A9];cases Ly h n (get fr x) (get fr a)<;>rfl
end
def KN (xs:List AV) (i:Nat):Option AV:=xs[i]?
@[simp] theorem nth_zero (x:AV) (xs:G3):KN (x::xs) 0=some x:=_root_.id rfl
@[simp] theorem nth_succ (x:AV) (xs:G3) (i:Nat):KN (x::xs) (i+1)=KN xs i:=_root_.id rfl
theorem G2 {α:Type} {f:α->AV} {l:List α} {i:Nat} {x:α} (h:l[i]?=some x):KN (l.map f) i=some (f x):=by simp[KN,h]
@[simp] theorem iaA_sl (h:AH) (m:I7) (sz:Nat) (xs:G3) (k:IntKind) (j:Int):iaA h sz (sl m sz xs) (.int k j)=if 0<=j then (KN xs j.toNat).map (λe=>(.pv e.cells,h))else none:=by
 unfold iaA sl KN;simp only;by_cases hj:0<=j
 .rw[if_pos hj];cases hx:xs[j.toNat]? with
  |none=>simp
  |some e =>
   cases xs with
   |nil=>simp at hx
   |cons y ys=>simp[hj]
 .rw[if_neg hj,if_neg (by omega)]
@[simp] theorem lenA_sl (h:AH) (m:I7) (sz:Nat) (xs:G3):bZ h (sl m sz xs)=some (.int .i64 xs.length,h):=_root_.id rfl
@[simp] theorem zK (h:AH) (k n off len:Nat):bZ h (.sl k n off len)=some (.int .i64 len,h):=_root_.id rfl
@[simp] theorem PK (h:AH) (am:Bool) (k n off len:Nat):KH h am (.sl k n off len)=Ej h am (.sl k n off len):=_root_.id rfl
@[simp] theorem loadA_pv (h:AH) (agg:Bool) (n:Nat) (cs:G3):JT h agg n (.pv cs)=AJ agg n cs:=_root_.id rfl
@[simp] theorem isMB_nil:Es []=false:=_root_.id rfl
@[simp] theorem isMB_two (x y:AV) (l:G3):Es (x::y::l)=false:=by cases x<;>rfl
@[simp] theorem isMB_int (k:IntKind) (n:Int):Es [.int k n]=false:=_root_.id rfl
@[simp] theorem zA (b:Bool):Es [.bool b]=false:=_root_.id rfl
@[simp] theorem isMB_str (b:J2):Es [.str b]=false:=_root_.id rfl
@[simp] theorem isMB_vs (f:Bool) (sz:Nat) (xs:G3):Es [.vs f sz xs]=false:=_root_.id rfl
@[simp] theorem isMB_sl (m:I7) (sz:Nat) (xs:G3):Es [sl m sz xs]=false:=_root_.id rfl
@[simp] theorem zD (k n off len:Nat):Es [.sl k n off len]=false:=_root_.id rfl
@[simp] theorem isMB_ptr (b off:Nat):Es [.ptr b off]=false:=_root_.id rfl
@[simp] theorem isMB_agg (cs:G3):Es [.agg cs]=false:=_root_.id rfl
@[simp] theorem isMB_mp (b:Nat):Es [.mp b]=false:=_root_.id rfl
@[simp] theorem isMB_vm (ks vs:G3):Es [.vm ks vs]=false:=_root_.id rfl
@[simp] theorem isMB_fn (f:FuncId) (cs:G3):Es [.fn f cs]=false:=_root_.id rfl
@[simp] theorem zC (cs:G3):Es [.rbox cs]=true:=_root_.id rfl
@[simp] theorem rdRo_r (agg:Bool) (n off:Nat) (ys:G3):vz agg n off [.rbox ys]=AJ agg n (ys.drop off):=_root_.id rfl
@[simp] theorem zL (h:AH) (agg:Bool) (n b off:Nat):JT h agg n (.ptr b off)=(h.boxes[b]?).bind λcs=>if Es cs then vz agg n off cs else AJ agg n (cs.drop off):=by
 simp only[JT];cases h.boxes[b]?<;>rfl
@[simp] theorem yb (h:AH) (n:Nat) (v:AV) (b off:Nat):Ly h n v (.ptr b off)=(h.boxes[b]?).bind λcs=>if Es cs=false/\v.isTup=false/\v.cells.length=n/\off+n<=cs.length then some {h with boxes:=h.boxes.set b (M5 cs off v.cells)} else none:=by
 simp only[Ly];cases h.boxes[b]?<;>rfl
@[simp] theorem layH_def (h:AH) (v:AV):bY h v=match KH h false v with|some _=>some h|none=>pm h v:=_root_.id rfl
@[simp] theorem rstF_sl (h:AH) (k n off len:Nat):pm h (.sl k n off len)=(h.fams[k]?).map λf=>{h with fams:=h.fams.set k {f with wr:=false}}:=by
 simp only[pm];cases h.fams[k]?<;>rfl
@[simp] theorem Sj (h:AH) (n:Nat) (v:AV) (k m i q sz:Nat):Ly h n v (.ep k m i q sz)=(bY h v).bind λh=>(h.fams[k]?).bind λf =>
  if f.xs.length=m/\f.sz=sz/\f.wr=true then
   (f.xs[i]?).bind λx=>(KH h false v).bind λu=>if u.cells.length=n/\q+n<=x.cells.length then
    (x.reform (M5 x.cells q u.cells)).map λy=>{h with fams:=h.fams.set k {f with xs:=f.xs.set i y}} else none
  else none:=by
 simp only[Ly];cases bY h v with
 |none=>rfl
 |some h =>
  simp only[A0Q,Im];cases h.fams[k]? with
  |none=>rfl
  |some f =>
   simp only[A0Q];split
   .cases f.xs[i]? with
    |none=>rfl
    |some x=>cases KH h false v<;>rfl
   .rfl
@[simp] theorem loadA_ep (h:AH) (agg:Bool) (n k m i q sz:Nat):JT h agg n (.ep k m i q sz)=(h.fams[k]?).bind λf=>if f.xs.length=m/\f.sz=sz then (f.xs[i]?).bind λx=>AJ agg n (x.cells.drop q)else none:=by
 simp only[JT];cases h.fams[k]? with
 |none=>rfl
 |some f =>
  simp only[A0Q];split
  .cases f.xs[i]?<;>rfl
  .rfl
@[simp] theorem iaA_view (h:AH) (sz k n off len:Nat) (kd:IntKind) (j:Int):iaA h sz (.sl k n off len) (.int kd j)=if 0<=j/\j<len then some (.ep k n (off+j.toNat) 0 sz,h)else none:=_root_.id rfl
@[simp] theorem yY (cs:G3) (off:Nat) (new:G3):M5 cs off new=cs.take off++new++cs.drop (off+new.length):=_root_.id rfl
@[simp] theorem bin_lss (k:IntKind) (a b:Int):G5 .lss (.int k a) (.int k b)=some (.bool (decide (a<b))):=by simp[G5]
@[simp] theorem bin_leq (k:IntKind) (a b:Int):G5 .leq (.int k a) (.int k b)=some (.bool (decide (a<=b))):=by simp[G5]
@[simp] theorem bin_gtr (k:IntKind) (a b:Int):G5 .gtr (.int k a) (.int k b)=some (.bool (decide (b<a))):=by simp[G5]
@[simp] theorem bin_geq (k:IntKind) (a b:Int):G5 .geq (.int k a) (.int k b)=some (.bool (decide (b<=a))):=by simp[G5]
@[simp] theorem bin_eql (k:IntKind) (a b:Int):G5 .eql (.int k a) (.int k b)=some (.bool (decide (a=b))):=by simp only[G5,if_true];rfl
@[simp] theorem bin_neq (k:IntKind) (a b:Int):G5 .neq (.int k a) (.int k b)=some (.bool (!decide (a=b))):=by simp only[G5,if_true];rfl
@[simp] theorem bin_add (k:IntKind) (a b:Int):G5 .add (.int k a) (.int k b)=some (.int k (k.wrap (a+b))):=by simp[G5]
@[simp] theorem bin_sub (k:IntKind) (a b:Int):G5 .sub (.int k a) (.int k b)=some (.int k (k.wrap (a-b))):=by simp[G5]
theorem bC (a b:List UInt8):(a == b)=decide (a=b):=by
 by_cases h:a=b<;>simp[h]
@[simp] theorem zt (a b:J2):G5 .lss (.str a) (.str b)=some (.bool (Op.bytesLess a.toList b.toList)):=_root_.id rfl
@[simp] theorem zr (a b:J2):G5 .gtr (.str a) (.str b)=some (.bool !(Op.bytesLess a.toList b.toList||decide (a.toList=b.toList))):=by simp only[G5];rw[bC]
@[simp] theorem zq (a b:J2):G5 .eql (.str a) (.str b)=some (.bool (decide (a.toList=b.toList))):=by simp only[G5];rw[bC]
@[simp] theorem zu (a b:J2):G5 .neq (.str a) (.str b)=some (.bool !(decide (a.toList=b.toList))):=by simp only[G5];rw[bC]
@[simp] theorem resA_nil (fr:Fr) (h:AH):Oa fr h []=some []:=_root_.id rfl
@[simp] theorem resA_tmp (fr:Fr) (h:AH) (t:Nat) (rs:List RRes):Oa fr h (.tmp t::rs)=(Oa fr h rs).map (A0 fr t::·):=_root_.id rfl
@[simp] theorem zW (fr:Fr) (h:AH) (a n:Nat) (agg:Bool) (rs:List RRes):Oa fr h (.cell a agg n::rs)=(JT h agg n (A0 fr a)).bind λv=>(Oa fr h rs).map (v::·):=_root_.id rfl
@[simp] theorem un_not (b:Bool):TR .not (.bool b)=some (.bool !b):=_root_.id rfl
theorem W2 {n:Int} (h0:-9223372036854775808<=n) (h1:n<=9223372036854775807):IntKind.i64.wrap n=n:=by
 simp only[IntKind.wrap,IntKind.bits,IntKind.signed];simp only[Bool.true_and,decide_eq_true_eq,ge_iff_le];split<;>omega
theorem C6 (i:Nat) (h:i<9223372036854775807):IntKind.i64.wrap ((i:Int)+1)=(i:Int)+1:=W2 (by omega) (by omega)
theorem dG (i:Nat) (h:i<9223372036854775807):IntKind.i64.wrap ((i:Int)+1)=((i+1:Nat):Int):=W2 (by omega) (by omega)
@[simp] theorem CS (h:AH) (am:Bool) (k n off len:Nat):Ej h am (.sl k n off len)=(h.fams[k]?).bind λf=>if f.xs.length=n/\off+len<=n/\(am||!f.wr)=true then some (sl (false,true) f.sz ((f.xs.drop off).take len))else none:=by
 simp only[Ej];cases h.fams[k]? with
 |none=>rfl
 |some f=>simp only[A0Q,cr]
@[simp] theorem WV (h:AH) (am:Bool):KH h am (.vs true 0 [])=some (sl (true,false) 1 []):=_root_.id rfl
@[simp] theorem XE (h:AH) (am:Bool):Ej h am (.vs true 0 [])=some (sl (true,false) 1 []):=_root_.id rfl
theorem l9 (m:I7) (hm:m.2=false) (a b:Nat):sl m a []=sl m b []:=by simp[sl,hm]
@[simp] theorem Pj (c:Ctx) (h:AH) (sz bytes:Nat) (x:AV):K1 c h sz bytes (.vs true 0 []) x=(AR h sz x).bind λys =>
  if ys.length=0 then some (.vs true 0 [],h)else if ys.length*bytes<=H2/\ys.length<=maxLen then some (.sl h.fams.length ys.length 0 ys.length,{h with fams:=h.fams++[⟨ys,sz,c.mutApp⟩]})else none:=by
 simp only[K1];cases AR h sz x with
 |none=>rfl
 |some ys=>simp
@[simp] theorem LV (c:Ctx) (h:AH) (sz bytes k n off len:Nat) (x:AV):K1 c h sz bytes (.sl k n off len) x=(AR h sz x).bind λys=>(h.fams[k]?).bind λf =>
  if f.xs.length=n/\f.sz=sz/\off+len=n/\(n+ys.length)*bytes<=H2/\n+ys.length<=maxLen then some (.sl k (n+ys.length) off (len+ys.length),{h with fams:=h.fams.set k {f with xs:=f.xs++ys}})else none:=by
 simp only[K1];cases AR h sz x with
 |none=>rfl
 |some ys=>cases h.fams[k]?<;>rfl
theorem GY (c:Ctx) (h:AH) (sz bytes:Nat) (b:Bool) (xs:G3) (x:AV):K1 c h sz bytes (sl (true,b) sz xs) x=(AR h sz x).bind λys =>
  if ys.length=0 then some (sl (true,b) sz xs,h)else if (xs.length+ys.length)*bytes<=H2/\xs.length+ys.length<=maxLen then some (.sl h.fams.length (xs.length+ys.length) 0 (xs.length+ys.length),{h with fams:=h.fams++[⟨xs++ys,sz,c.mutApp⟩]})else none:=by
 simp only[K1,sl];cases AR h sz x with
 |none=>rfl
 |some ys =>
  simp only[A0Q];cases xs<;>simp
inductive Tm where
 |mk (kind:Int) (name:ByteArray) (sort:Int) (m:Bool×Bool) (kids:List Tm)
abbrev G7:=List Tm
mutual
def B9:Tm->AV
 | .mk k n s m l=>.agg [.int .i64 k,.str n,.int .i64 s,sl m 4 (A4 l)]
def A4:List Tm->List AV
 | []=>[]
 |t::l=>B9 t::A4 l
end
theorem D0 (l:G7):A4 l=l.map B9:=by
 induction l with
 |nil=>rfl
 |cons t l ih=>simp[A4,ih]
theorem Jl {l:G7} {i:Nat} {t:Tm} (h:l[i]?=some t):KN (A4 l) i=some (B9 t):=by rw[D0];exact G2 h
@[simp] theorem wl (l:G7):(A4 l).length=l.length:=by simp[D0]
mutual
def Tm.size:Tm->Nat
 | .mk _ _ _ _ l=>1+Tm.sizes l
def Tm.sizes:List Tm->Nat
 | []=>0
 |t::l=>t.size+Tm.sizes l
end
theorem Tm.size_pos (t:Tm):0<t.size:=by cases t;simp[Tm.size];omega
theorem Tm.sizes_append (l r:G7):Tm.sizes (l++r)=Tm.sizes l+Tm.sizes r:=by
 induction l with
 |nil=>simp[Tm.sizes]
 |cons t l ih=>simp[Tm.sizes,ih];omega
theorem Tm.size_le {t:Tm} {l:G7} (h:t∈l):t.size<=Tm.sizes l:=by
 induction l with
 |nil=>cases h
 |cons x l ih =>
  simp only[Tm.sizes];rcases A0W.1 h with rfl|h
  .omega
  .have:=ih h;omega
theorem Tm.length_le (l:G7):l.length<=Tm.sizes l:=by
 induction l with
 |nil=>simp
 |cons x l ih=>have:=x.size_pos;simp only[Tm.sizes,List.length_cons];omega
end Go.Abs
namespace Go.Abs
open Go.RowKit (Below)
open Go.ChangeShapes Go.WideShapes Go.Deep
open Go.Proofs.YtohjdamplbhdpaaGreatDoor (Rows.uptoBulk Rows.uptoBulkAll)
abbrev xq (w:World):Nat->Nat->Prop:=λb _=>b<w.heap.size
def CV (w:World) (ys:List AV) (cs:List Value):Prop:=Dg w (xq w) ys cs/\∀u∈cs,u.oneCell'=true
def Ny (P:Program) (w:World) (t:TypeId) {T:Type} (cells:T->List AV) (good:T->Prop) (wt:T->Nat) (n:Nat):Prop :=
 ∀{H:Type} (enc:TypeId×Value->H) (cs:List Value) (x:DataW H×List MemPlace),DataW.trod enc P w 0 (λ_=>true) true n t cs=some x ->
  ∃a,good a/\wt a<=Rows.uptoBulk x.1/\CV w (cells a) cs
section
variable {P:Program} {w:World} {t e:TypeId}
theorem Ny.le {T:Type} {cells:T->List AV} {good:T->Prop} {wt:T->Nat} {n m:Nat} (h:Ny P w t cells good wt n) (hm:m<=n):Ny P w t cells good wt m :=
 λenc cs x hx=>h enc cs x (DataW.trod_le hm hx)
theorem Wk {a:AV} {v:Value} (h:PV w (xq w) a v) (ho:v.oneCell'=true):CV w [a] [v]:=by
 refine⟨?_,λu hu=>by simp at hu;subst hu;exact ho⟩;simp only[Dg];exact⟨v,[],rfl,h,rfl⟩
theorem JC {k:IntKind} (ht:P.underlying t=some (.int k)) (n:Nat):Ny P w t (λi:Int=>[.int k i]) (λi=>(Lit.int k i).wf=true) (λ_=>1) n:=by
 intro H enc cs x hx;obtain⟨i,rfl,rfl,hw⟩:=DataW.trod_int ht hx;exact⟨i,hw,by simp[Rows.uptoBulk],Wk (by simp[PV]) rfl⟩
theorem HP (ht:P.underlying t=some .string) (n:Nat):Ny P w t (λs:ByteArray=>[.str s]) (λs=>s.size<=maxLen) (λs=>s.size+1) n:=by
 intro H enc cs x hx;obtain⟨s,rfl,rfl,hw⟩:=DataW.trod_string ht hx;exact⟨s,hw,Nat.le_of_eq (by simp only[Rows.uptoBulk,Array.length_toList];rfl),Wk (by simp[PV]) rfl⟩
theorem lI {T:Type} {R:Nat->T->Prop}:∀{n:Nat},(∀i,i<n->∃a,R i a)->∃ys:List T,ys.length=n/\∀i a,ys[i]?=some a->R i a
 |0,_=>⟨[],rfl,λi a h=>by simp at h⟩
 |n+1,h=>by
  obtain⟨ys,hl,ha⟩:=lI (n:=n) λi hi=>h i (by omega);obtain⟨a,hr⟩:=h n (by omega);refine⟨ys++[a],by simp[hl],λi b hb=>?_⟩;by_cases hi:i<n
  .rw[List.getElem?_append_left (by omega)]at hb;exact ha i b hb
  .rw[List.getElem?_append_right (by omega),hl]at hb;have XK:i=n:=by
    have:=(A0T.1 hb).1;simp at this;omega
   subst XK;simp at hb;subst hb;exact hr
theorem gb {H T:Type} {wt:T->Nat}:∀{ys:List T} {l:List (DataW H)},ys.length=l.length->(∀(i:Nat) (a:T) (d:DataW H),ys[i]?=some a->l[i]?=some d->wt a<=Rows.uptoBulk d)->(ys.map wt).sum<=Rows.uptoBulkAll l
 | [],l,_,_=>by simp
 |a::ys,[],h,_=>by simp at h
 |a::ys,d::l,h,k=>by
  have h1:=k 0 a d rfl rfl;have h2:=gb (ys:=ys) (l:=l) (by simpa using h) λi a d ha hd=>k (i+1) a d (by simpa using ha) (by simpa using hd);simp only[List.map_cons,List.sum_cons,Rows.uptoBulkAll];omega
theorem zm {sz:Nat} {xs:G3} {a:Addr} {len cap:Nat} (B8:xs.length=len) (hc:len<=cap) (hm:cap<=maxLen) (J4:0<sz)
  (hx:∀(i:Nat) (x:AV),xs[i]?=some x->∃cs',w.cells? 0 (a.add (i*sz)) sz=some cs'/\CV w x.cells cs'):PV w (xq w) (.vs false sz xs) (.slice (some a) len cap):=by
 simp only[PV];refine⟨some a,len,cap,rfl,B8.symm,hc,hm,(by simp),⟨(by simp),⟨(by simp),λe=>absurd J4 (by omega)⟩⟩,λP0=>?_⟩;have spot:a.spot=none:=by
  cases xs with
  |nil=>exact absurd rfl P0
  |cons x xs =>
   obtain⟨cs',h1,h2,_⟩:=hx 0 x rfl;obtain⟨_,hl,hcell⟩:=World.cells?_some h1;have h0:=hcell 0 J4;rw[A0R (by omega)]at h0;simpa[Addr.add]using World.cell?_spot h0
 obtain⟨b,o,sp⟩:=a;subst spot;refine⟨b,o,rfl,J4,WP λj x hj=>?_⟩;obtain⟨cs',h1,h2,h3⟩:=hx j x hj;obtain⟨_,hl,hcell⟩:=World.cells?_some h1;obtain⟨g1,g2⟩:=JL h2;refine⟨by omega,PC λq c hq=>?_⟩;obtain⟨u,hu,hv⟩:=g2 hq;have hqlt:q<sz:=by
  have:=(A0T.1 hq).1;omega
 have GJ:=hcell q hqlt;rw[hu,Go.WideShapes.add_plain,Go.WideShapes.add_plain]at GJ;exact⟨u,World.block_lt_of_cell? _ _ GJ,GJ,h3 u (List.mem_of_getElem? hu),hv⟩
theorem JD {T:Type} {sz:Nat} {enc:T->AV} {good:T->Prop} {wt:T->Nat} {n:Nat} (ht:P.underlying t=some (.slice e)) (J4:P.cellsOf e=sz) (M2:0<sz)
  (elem:Ny P w e (λa=>(enc a).cells) good wt n) :
  Ny P w t (λys:Bool×List T=>[sl (false,ys.1) sz (ys.2.map enc)]) (λys=>∀a∈ys.2,good a) (λys=>(ys.2.map wt).sum+1) (n+1):=by
 intro H ec cs x hx;rcases DataW.trod_slice ht hx with ⟨rfl,rfl⟩|⟨a,len,cap,AR,rest,n',hn,rfl,rfl,hb,hl,hm,B8,Ul,hsp,hns⟩
 .exact⟨(false,[]),λa ha=>by simp at ha,by simp[Rows.uptoBulk],Wk (by simp only[sl,PV];exact⟨none,0,0,rfl,by simp,Nat.le_refl _,Nat.zero_le _,by simp,by simp,λh=>absurd rfl h⟩) rfl⟩
 .have yy:n'=n:=by omega
  subst yy;obtain⟨ys,WZ,hr⟩:=lI (T:=T) (n:=len) (R:=λi a'=>good a'/\(∀y,AR[i]?=some y->wt a'<=Rows.uptoBulk y.1)/\∃cs',w.cells? 0 (a.add (i*sz)) sz=some cs'/\CV w (enc a').cells cs') λi hi=>by
   have h1:=Ul i hi;rw[A0R (by omega),J4]at h1;obtain⟨cs',h2,h3⟩:=Option.bind_eq_some_iff.1 h1;obtain⟨a',k1,k2,k3⟩:=elem ec cs' _ h3;exact⟨a',k1,λy hy=>by rw[A0R (by omega)]at hy;cases hy;exact k2,cs',h2,k3⟩
  refine⟨(true,ys),λa' ha'=>?_,?_,Wk ((congrArg (λq=>PV w (xq w) q (.slice (some a) len cap)) (cr false sz (ys.map enc))).mp (zm (by simp[WZ]) hl hm M2 λi x hx=>?_)) rfl⟩
  .obtain⟨i,hi⟩:=List.mem_iff_getElem?.1 ha';exact(hr i a' hi).1
  .have:=gb (wt:=wt) (ys:=ys) (l:=AR.map (·.1)) (by simp[WZ,B8]) λi a' d ha' hd=>by
    simp only[A0V,A0U]at hd;obtain⟨y,hy,rfl⟩:=hd;exact(hr i a' ha').2.1 y hy
   simp only[Rows.uptoBulk];omega
  .simp only[A0V,A0U]at hx;obtain⟨a',ha',rfl⟩:=hx;exact(hr i a' ha').2.2
theorem CE {ys:G3} {cs:List Value} {y:AV} {c:Value} (h:CV w [y] [c]) (k:CV w ys cs):CV w (y::ys) (c::cs):=by
 obtain⟨h1,h2⟩:=h;refine⟨?_,λu hu=>?_⟩
 .simp only[Dg]at h1 ⊢;obtain⟨u,us,he,h3,rfl⟩:=h1;cases he;exact⟨c,cs,rfl,h3,k.1⟩
 .rcases A0W.1 hu with rfl|hu
  .exact h2 u (by simp)
  .exact k.2 u hu
end
section
variable {P:Program}
theorem TG {H:Type} {enc:TypeId×Value->H} {W W':World} (hl:laidOutB P=true) (hb:Below W.heap.size W W'):∀{ts:List TypeId} {vs:List Value} {ds:List (DataW H)} {ps:List MemPlace},(∀t∈ts,P.readableRec t=true/\t<P.types.size) ->
  DataW.TrodAll enc P W 0 (λ_=>true) true ts vs ds ps->(∀p∈ps,p.block<W.heap.size)->∀{sp:Nat->Bool},(∀p∈ps,sp p.block=true)->DataW.TrodAll enc P W' 0 sp true ts vs ds ps
 | [],[],[],_,_,h,_,_,_=>h
 |t::ts,v::vs,d::ds,ps,hr,h,A7,sp,hs=>by
  obtain⟨p,q,h1,h2,rfl⟩:=h;refine⟨p,q,WideElems.Trod_stays hl (hr t (by simp)).1 (hr t (by simp)).2 h1 (λx hx=>hb.same (A7 x (by simp[hx]))) (λx hx=>hs x (by simp[hx])),?_,rfl⟩;exact TG hl hb (λt ht=>hr t (by simp[ht])) h2 (λx hx=>A7 x (by simp[hx])) (λx hx=>hs x (by simp[hx]))
theorem fw {H:Type} {enc:TypeId×Value->H} {f:Func} {s:ChangeSpec} {W W':World} {args:Array Value} {v:Value} {ds gs:List (DataW H)} {w6 pa:List MemPlace}
  (hW:DataW.Whole enc P f.params.toList s.vars false W args.toList ds gs w6) (hps:w6=pa)
  (hres:∀(b:Nat) (sp:Nat->Bool) (hd:Bool),DataW.TrodAll enc P W' b sp hd f.resultTypes.toList (v.resultList f.resultTypes.size) (s.fn H (ds++gs)).results [])
  (hargs:∀sp:Nat->Bool,(∀p∈w6,sp p.block=true)->DataW.TrodAll enc P W' 0 sp true f.params.toList args.toList (s.fn H (ds++gs)).args pa)
  (hv:s.vars=[]) (hgs:(s.fn H (ds++gs)).vars=[]) (hk:W.keptBut W' (·∈w6)) (uE:∀a:Addr,a.block<W.heap.size->W'.frozen? a=W.frozen? a)
  (Bf:∀(j:Nat) (t:TypeId) (r:Value),f.resultTypes[j]?=some t->(v.resultList f.resultTypes.size)[j]?=some r->Value.okWide P W' .any 0 t r) :
  s.post enc P f false true false false W args v W':=by
 subst hps;have hold:∀p∈w6,(λb=>decide (b<W.heap.size)) p.block=true:=λp hp=>by simpa using hW.lt p hp
 have hvars:∀sp:Nat->Bool,DataW.TrodVars enc P W' sp s.vars (s.fn H (ds++gs)).vars []:=λsp=>by rw[hv,hgs];rfl
 refine⟨ds,gs,w6,[],w6,[],hW,hres _ _ _,hargs _ hold,hvars _,World.keptBut_mono (λp hp=>⟨hp,?_⟩) hk,λ_=>?_⟩
 .exact Or.inr (Or.inl hp)
 .have A7:=hW.lt;obtain⟨_,_,_,_,_,hz,hn⟩:=hW;refine⟨Bf,_,_,([]++w6)++[],⟨[]++w6,[],trodAll_append (hargs _ (λ_ _=>rfl)) (hres _ _ _),hvars _,rfl,?_,?_⟩,?_⟩
  .intro b off hp;have hp':MemPlace.cell b off∈w6:=by simpa using hp
   rw[uE _ (A7 _ hp')];exact hz b off hp'
  .intro ha;cases ha
  .intro p hp _;simpa using hp
theorem qA {C:Cfg} (hC:CfgS P C) (hl:laidOutB P=true) {f:FuncId} {fn:Func} {tb:TypeId} (hb:P.underlying tb=some .bool) (hres:fn.resultTypes=#[tb]) (hpar:∀t∈fn.params.toList,P.readableRec t=true/\t<P.types.size)
  {s:ChangeSpec} (hv:s.vars=[]) {H:Type} {enc:TypeId×Value->H} {W:World} {args:Array Value} {ds gs:List (DataW H)} {w6:List MemPlace}
  (hs:(s.fn H (ds++gs)).results=[.lit (.bool true)]/\(s.fn H (ds++gs)).args=ds/\(s.fn H (ds++gs)).vars=[])
  (hW:DataW.Whole enc P fn.params.toList s.vars false W args.toList ds gs w6) {ys:List AV} (hy:Dg W (xq W) ys args.toList) (h:pc C f ys=some (.bool true)) :
  Calls P f args W λe W'=>∃v,e=.returned v/\s.post enc P fn false true false false W args v W':=by
 have A7:=hW.lt;have hW':=hW;obtain⟨p,q,hA,hV,hpq,uE,hnd⟩:=hW;rw[hv]at hV;obtain⟨rfl,rfl⟩:=trodVars_none hV;rw[List.append_nil]at hpq;subst hpq;refine(sv hC h W (xq W) args (λb o hb=>hb) hy).mono λe W' ⟨u,he,⟨hbel,_⟩,hu⟩=>?_;have hu':u=.bool true:=by simpa[PV]using hu
 subst hu' he;refine⟨_,rfl,fw hW' rfl (λb sp hd=>?_) (λsp hsp=>?_) hv hs.2.2 (hbel.frame _) (λa ha=>hbel.frozen ha) (RowKit.ok_one hres rfl (RowKit.okWide_bool_mk hb _))⟩
 .rw[hs.1,hres];exact trodAll_mk1 (RowKit.shut_bool hb _)
 .rw[hs.2.1];exact TG hl hbel hpar hA A7 hsp
end
end Go.Abs
