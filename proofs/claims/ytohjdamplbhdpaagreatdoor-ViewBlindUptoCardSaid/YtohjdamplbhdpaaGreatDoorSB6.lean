/- A part of the proof. -/
import Derived.Test.YtohjdamplbhdpaaGreatDoorSB5
import Derived.Test.YtohjdamplbhdpaaGreatDoorRows
import Derived.ProofKit
import Derived.OpenShut
import Derived.JoinedCond
import Derived.Deep.Slices
import Derived.Carry
set_option linter.all false
open Option renaming bind_some->A0O,map_eq_some_iff->A0S
open List renaming getElem?_eq_getElem->A0P,replicate->A0Q,getElem?_eq_some_iff->A0R,getElem?_map->A0T,mem_cons->A0U,map_map->A0V,map_id->A0W
namespace Go.Abs
def sl (m:Bool×Bool) (sz:Nat) (xs:List AV):AV:=.vs m.1 (if xs.isEmpty&&!m.2 then 0 else sz) xs
theorem cz (f:Bool) (sz:Nat) (xs:G4):.vs f sz xs=sl (f,true) sz xs:=by simp[sl]
theorem In (sz:Nat):.vs true 0 []=sl (true,false) sz []:=by simp[sl]
@[simp] theorem sl_isTup (m:I6) (sz:Nat) (xs:G4):(sl m sz xs).isTup=false:=_root_.id rfl
@[simp] theorem sl_cells (m:I6) (sz:Nat) (xs:G4):(sl m sz xs).cells=[sl m sz xs]:=_root_.id rfl
@[simp] theorem sl_frz1 (h:AH) (am:Bool) (m:I6) (sz:Nat) (xs:G4):Em h am (sl m sz xs)=some (sl m sz xs):=_root_.id rfl
@[simp] theorem tW (h:AH) (am:Bool) (m:I6) (sz:Nat) (xs:G4):KI h am (sl m sz xs)=some (sl m sz xs):=_root_.id rfl
@[simp] theorem sl_tame1 (h:AH) (m:I6) (sz:Nat) (xs:G4):KM h (sl m sz xs)=true:=_root_.id rfl
@[simp] theorem sl_tame (h:AH) (m:I6) (sz:Nat) (xs:G4):CO h (sl m sz xs)=true:=_root_.id rfl
@[simp] theorem sl_flat (m:I6) (sz:Nat) (xs:G4):(sl m sz xs).flat=true:=_root_.id rfl
@[simp] theorem yV (m:I6) (sz:Nat) (xs:G4) (rest:G4):AL false 1 (sl m sz xs::rest)=some (sl m sz xs):=_root_.id rfl
@[simp] theorem N0 (h:AH) (m:I6) (sz:Nat) (xs:G4):AS h sz (sl m sz xs)=some xs:=by
 cases xs with
 |nil=>simp[AS,sl]
 |cons x xs=>simp[AS,sl]
@[simp] theorem zV (m:I6) (sz:Nat) (xs:G4):(sl m sz xs).scalar=false:=_root_.id rfl
@[simp] theorem uw (h:AH) (am:Bool) (k:IntKind) (n:Int):KI h am (.int k n)=some (.int k n):=_root_.id rfl
@[simp] theorem frz_bool (h:AH) (am:Bool) (b:Bool):KI h am (.bool b)=some (.bool b):=_root_.id rfl
@[simp] theorem frz_str (h:AH) (am:Bool) (s:J3):KI h am (.str s)=some (.str s):=_root_.id rfl
@[simp] theorem frz_fn (h:AH) (am:Bool) (f:FuncId):KI h am (.fn f [])=some (.fn f []):=_root_.id rfl
@[simp] theorem frz_nilp (h:AH) (am:Bool):KI h am .nilp=some .nilp:=_root_.id rfl
@[simp] theorem frzL_nil (h:AH) (am:Bool):TV h am []=some []:=_root_.id rfl
@[simp] theorem yp (h:AH) (am:Bool) (x:AV) (xs:G4):TV h am (x::xs)=(Em h am x).bind λy=>(TV h am xs).map (y::·):=_root_.id rfl
@[simp] theorem frz1_int (h:AH) (am:Bool) (k:IntKind) (n:Int):Em h am (.int k n)=some (.int k n):=_root_.id rfl
@[simp] theorem yo (h:AH) (am:Bool) (b:Bool):Em h am (.bool b)=some (.bool b):=_root_.id rfl
@[simp] theorem frz1_str (h:AH) (am:Bool) (s:J3):Em h am (.str s)=some (.str s):=_root_.id rfl
@[simp] theorem frz_agg (h:AH) (am:Bool) (cs:G4):KI h am (.agg cs)=(TV h am cs).map .agg:=_root_.id rfl
@[simp] theorem xW (h:AH) (am:Bool):Bm h am []=some []:=_root_.id rfl
@[simp] theorem wS (h:AH) (am:Bool) (x:AV) (xs:G4):Bm h am (x::xs)=(KI h am x).bind λy=>(Bm h am xs).map (y::·):=_root_.id rfl
@[simp] theorem xY (h:AH) (k:IntKind) (n:Int):DZ h (.int k n)=some (.int k n):=_root_.id rfl
@[simp] theorem wT (h:AH) (b:Bool):DZ h (.bool b)=some (.bool b):=_root_.id rfl
@[simp] theorem xZ (h:AH) (s:J3):DZ h (.str s)=some (.str s):=_root_.id rfl
@[simp] theorem yq (h:AH) (m:I6) (sz:Nat) (xs:G4):DZ h (sl m sz xs)=some (sl m sz xs):=_root_.id rfl
@[simp] theorem xX (h:AH) (cs:G4):DZ h (.agg cs)=(TV h true cs).map .agg:=_root_.id rfl
@[simp] theorem xa (h:AH) (cs:G4):DZ h (.tup cs)=(Bm h true cs).map .tup:=_root_.id rfl
@[simp] theorem kcl_some (ys:G4) (k:List AV->Option AV) (tm:Bool) (h:AH):kcl (some ys) k tm h=(match k ys with|some r=>if r.scalar||tm then some (r,h)else none|none=>none):=_root_.id rfl
@[simp] theorem yT (k:IntKind) (n:Int):(AV.int k n).scalar=true:=_root_.id rfl
@[simp] theorem wi (b:Bool):(AV.bool b).scalar=true:=_root_.id rfl
@[simp] theorem yU (s:J3):(AV.str s).scalar=true:=_root_.id rfl
@[simp] theorem zD (k:IntKind) (n:Int):(AV.int k n).isTup=false:=_root_.id rfl
@[simp] theorem xd (b:Bool):(AV.bool b).isTup=false:=_root_.id rfl
@[simp] theorem zG (b:J3):(AV.str b).isTup=false:=_root_.id rfl
@[simp] theorem zC (cs:G4):(AV.agg cs).isTup=false:=_root_.id rfl
@[simp] theorem Mg (cs:G4):(AV.agg cs).cells=cs:=_root_.id rfl
@[simp] theorem yh (k:IntKind) (n:Int):(AV.int k n).cells=[.int k n]:=_root_.id rfl
@[simp] theorem xL (b:Bool):(AV.bool b).cells=[.bool b]:=_root_.id rfl
@[simp] theorem yj (b:J3):(AV.str b).cells=[.str b]:=_root_.id rfl
@[simp] theorem vO (n:Nat) (cs:G4):AL true n cs=if n<=cs.length then some (.agg (cs.take n))else none:=_root_.id rfl
@[simp] theorem uF (n:Nat) (cs:G4):AL false n cs=cs.head?:=_root_.id rfl
def iaA (h:AH) (sz:Nat) (x i:AV):Option (AV×AH) :=
 match x,i with
 | .vs _ z xs,.int _ j=>if 0<=j/\z=sz then (match xs[j.toNat]? with|some e=>some (.pv e.cells,h)|none=>none)else none
 | .sl k n off len,.int _ j=>if 0<=j/\j<len then some (.ep k n (off+j.toNat) 0 sz,h)else none
 |_,_=>none
def bd (h:AH) (x:AV):Option (AV×AH) :=
 match x with
 | .vs _ _ xs=>some (.int .i64 xs.length,h)
 | .sl _ _ _ len=>some (.int .i64 len,h)
 |_=>none
def Yb (h:AH) (sz:Nat) (x:AV) (l u m:Option (Option Int)):Option (AV×AH) :=
 match l,u,m with
 |some l,some u,some m=>match Ok h sz x l u m with|some v=>some (v,h)|none=>none
 |_,_,_=>none
def nqA (neg:Bool) (h:AH) (x:AV):Option (AV×AH):=match x with | .vs _ z _=>some (.bool (if neg then !(z == 0)else z == 0),h)|_=>none
theorem Tb (neg:Bool) (h:AH) (m:I6) (sz:Nat) (J5:0<sz) (xs:G4):nqA neg h (sl m sz xs)=some (.bool (if neg then !(xs.isEmpty&&!m.2)else (xs.isEmpty&&!m.2)),h):=by
 unfold nqA sl;by_cases hx:(xs.isEmpty&&!m.2)=true
 .simp[hx]
 .have:(sz == 0)=false:=by simp;omega
  simp[hx,this]
section
variable {O:Orc} {c:Ctx} (fr:Fr) (h:AH)
@[simp] theorem op_mov (x:Opd):A9 O c (.mov x) fr h=some (get fr x,h):=_root_.id rfl
@[simp] theorem op_pick (q a b:Opd):A9 O c (.pick q a b) fr h=(match get fr q with | .bool t=>some (if t then get fr a else get fr b,h)|_=>none):=_root_.id rfl
@[simp] theorem op_box (x:Opd):A9 O c (.box x) fr h=if (get fr x).isTup then none else some (.ptr h.boxes.length 0,{h with boxes:=h.boxes++[(get fr x).cells]}):=_root_.id rfl
@[simp] theorem op_alloc (z:AV):A9 O c (.alloc z) fr h=some (.ptr h.boxes.length 0,{h with boxes:=h.boxes++[z.cells]}):=_root_.id rfl
@[simp] theorem op_build (z:AV) (parts:List (Nat×Nat×Opd)):A9 O c (.build z parts) fr h=(D2 fr z.cells.length parts).map λps=>(.agg (E4 z.cells ps),h):=by
 simp only[A9];cases D2 fr z.cells.length parts<;>rfl
@[simp] theorem zO (n:Nat) (z:AV) (parts:List (Nat×Opd)):A9 O c (.bslice n z parts) fr h=(A5 fr h (A0Q n z) parts).map λxs=>(sl (true,true) z.cells.length xs,h):=by
 simp only[A9,cz];cases A5 fr h (A0Q n z) parts<;>rfl
@[simp] theorem xp (n:Nat) (z:AV) (parts:List (Nat×Opd)):A9 O c (.bslicev n z parts) fr h=if parts.all (λp=>OH (get fr p.2))then (A5 fr h (A0Q n z) parts).map λxs=>(sl (true,true) z.cells.length xs,h)else none:=by
 simp only[A9,cz];cases A5 fr h (A0Q n z) parts<;>rfl
@[simp] theorem op_ldb (agg:Bool) (n:Nat) (x:Opd):A9 O c (.ldb agg n x) fr h=(match get fr x with | .ep ..=>none|p=>(match JU h agg n p with|some v=>some (v,h)|none=>none)):=_root_.id rfl
@[simp] theorem op_nilck (x:Opd):A9 O c (.nilck x) fr h=(match get fr x with | .pv cs=>some (.pv cs,h) | .ptr b o=>some (.ptr b o,h) | .ep k n i q s=>some (.ep k n i q s,h) | .fn f cs=>some (.fn f cs,h)|_=>none):=_root_.id rfl
@[simp] theorem op_bin (op:BinOp) (x y:Opd):A9 O c (.bin op x y) fr h=(G7 op (get fr x) (get fr y)).map λv=>(v,h):=by
 simp only[A9];cases G7 op (get fr x) (get fr y)<;>rfl
@[simp] theorem op_beq (neg:Bool) (x y:Opd):A9 O c (.beq neg x y) fr h=(match get fr x,get fr y with | .bool a,.bool b=>some (.bool (if neg then !(a == b)else a == b),h)|_,_=>none):=_root_.id rfl
@[simp] theorem op_nileq (neg:Bool) (x:Opd):A9 O c (.nileq neg x) fr h=nqA neg h (get fr x):=by
 simp only[A9,nqA];rfl
@[simp] theorem op_un (op:UnOp) (x:Opd):A9 O c (.un op x) fr h=(TR op (get fr x)).map λv=>(v,h):=by
 simp only[A9];cases TR op (get fr x)<;>rfl
@[simp] theorem op_conv (k:IntKind) (x:Opd):A9 O c (.conv k x) fr h=(match get fr x with | .int _ n=>some (.int k (k.wrap n),h)|_=>none):=_root_.id rfl
@[simp] theorem op_cstr (x:Opd):A9 O c (.cstr x) fr h=(match get fr x with | .str s=>some (.str s,h)|_=>none):=_root_.id rfl
@[simp] theorem op_bstr (x:Opd):A9 O c (.bstr x) fr h=So h (get fr x):=_root_.id rfl
def kro (b:Bool) (x y:Option (AV×AH)):Option (AV×AH):=if b then x else y
@[simp] theorem kro_t (x y:Option (AV×AH)):kro true x y=x:=_root_.id rfl
@[simp] theorem kro_f (x y:Option (AV×AH)):kro false x y=y:=_root_.id rfl
@[simp] theorem op_clos (f:FuncId) (caps:List Opd):A9 O c (.clos f caps) fr h=kro c.ro ((CM h (caps.map (get fr))).map λp=>(.fn f p.1,p.2)) (some (.fn f (caps.map (get fr)),h)):=_root_.id rfl
@[simp] theorem xr (z:AV) (bytes:Nat) (l q:Opd):A9 O c (.mkslice z bytes l q) fr h=(match get fr l,get fr q with
  | .int _ a,.int _ b =>
   if 0<=a/\a<=b/\b*bytes<=H3/\b<=maxLen then
    some (.sl h.fams.length a.toNat 0 a.toNat,{h with fams:=h.fams++[⟨A0Q a.toNat z,z.cells.length,true⟩]})
   else none
  |_,_=>none):=_root_.id rfl
@[simp] theorem op_faddr (off:Nat) (x:Opd):A9 O c (.faddr off x) fr h=(match get fr x with | .pv cs=>some (.pv (cs.drop off),h) | .ptr b o=>some (.ptr b (o+off),h) | .ep k n i q s=>some (.ep k n i (q+off) s,h)|_=>none):=_root_.id rfl
@[simp] theorem op_fld (agg:Bool) (off n:Nat) (x:Opd):A9 O c (.fld agg off n x) fr h=(match get fr x with | .agg cs=>(match AL agg n (cs.drop off)with|some v=>some (v,h)|none=>none)|_=>none):=_root_.id rfl
@[simp] theorem op_idx (x i:Opd):A9 O c (.idx x i) fr h=(match get fr x,get fr i with
  | .str s,.int _ j=>if 0<=j then (match s[j.toNat]? with|some b=>some (.int .u8 b.toNat,h)|none=>none)else none
  |_,_=>none):=_root_.id rfl
@[simp] theorem op_ext (x:Opd) (i:Nat):A9 O c (.ext x i) fr h=(match get fr x with | .tup vs=>(match vs[i]? with|some v=>some (v,h)|none=>none)|_=>none):=_root_.id rfl
@[simp] theorem op_slen (x:Opd):A9 O c (.len true x) fr h=(match get fr x with | .str s=>some (.int .i64 s.size,h)|_=>none):=_root_.id rfl
@[simp] theorem op_max (x y:Opd):A9 O c (.max x y) fr h=(match get fr x,get fr y with | .int k a,.int k' b=>if k=k' then some (.int k (if b > a then b else a),h)else none|_,_=>none):=_root_.id rfl
@[simp] theorem op_iaddr (sz:Nat) (x i:Opd):A9 O c (.iaddr sz x i) fr h=iaA h sz (get fr x) (get fr i):=_root_.id rfl
@[simp] theorem op_ste (n:Nat) (a x:Opd):A9 O c (.ste n a x) fr h=Yf h n (get fr a) (get fr x):=_root_.id rfl
@[simp] theorem op_stb (n:Nat) (a x:Opd):A9 O c (.stb n a x) fr h=Ye h n (get fr a) (get fr x):=_root_.id rfl
@[simp] theorem op_mkv (z:AV) (bytes:Nat) (l q:Opd):A9 O c (.mkv z bytes l q) fr h=jN h z bytes (get fr l) (get fr q):=_root_.id rfl
@[simp] theorem op_clr (z:AV) (x:Opd):A9 O c (.clr z x) fr h=Uz h z (get fr x):=_root_.id rfl
@[simp] theorem op_len (x:Opd):A9 O c (.len false x) fr h=bd h (get fr x):=_root_.id rfl
def mg (b:Bool) (x y:Unit->Option (AV×AH)):Option (AV×AH):=if b then x ()else y ()
@[simp] theorem kraw_t (x y:Unit->Option (AV×AH)):mg true x y=x ():=_root_.id rfl
@[simp] theorem kraw_f (x y:Unit->Option (AV×AH)):mg false x y=y ():=_root_.id rfl
@[congr] theorem xh {b b':Bool} {x y:Unit->Option (AV×AH)} (h:b=b'):mg b x y=mg b' x y:=by rw[h]
@[simp] theorem op_calls {C:Cfg} (f:FuncId) (xs:List Opd):A9 (K8 C) c (.call f xs) fr h=mg (c.raw f) (λ_=>WI (c.noB f) h (rc C f (xs.map (get fr)) h)) (λ_=>kcl (Bm h true (xs.map (get fr))) (λys=>pc C f ys) ((xs.map (get fr)).all (CO h)) h):=by
 cases hr:c.raw f with
 |false=>exact lJ hr xs fr h
 |true=>exact fJ hr xs fr h
def kif (b:Bool) (x:Option (AV×AH)):Option (AV×AH):=if b then none else x
@[simp] theorem kif_t (x:Option (AV×AH)):kif true x=none:=_root_.id rfl
@[simp] theorem kif_f (x:Option (AV×AH)):kif false x=x:=_root_.id rfl
@[simp] theorem op_callv {C:Cfg} (x:Opd) (xs:List Opd):A9 (K8 C) c (.callv x xs) fr h=(match get fr x with
  | .fn f caps=>kif (c.raw f&&!c.rawv) (mg (c.raw f) (λ_=>WI (c.noB f) h (rc C f (xs.map (get fr)++caps) h)) (λ_=>kcl (Bm h true (xs.map (get fr)++caps)) (λys=>pc C f ys) ((xs.map (get fr)++caps).all (CO h)) h))
  |_=>none):=by
 simp only[A9];cases get fr x with
 |fn f caps =>
  simp only;unfold kif;by_cases hq:(c.raw f&&!c.rawv)=true
  .rw[if_pos hq,if_pos hq]
  .rw[if_neg hq,if_neg hq];cases hr:c.raw f with
   |false =>
    have:=lJ (C:=C) hr ((xs.map (get fr)++caps).map Opd.c) fr h;simp only[A9,A0V]at this;rw[show (get fr∘Opd.c)=id from rfl,A0W]at this;exact this
   |true =>
    have:=fJ (C:=C) hr ((xs.map (get fr)++caps).map Opd.c) fr h;simp only[A9,A0V]at this;rw[show (get fr∘Opd.c)=id from rfl,A0W]at this;exact this
 |_=>rfl
@[simp] theorem op_mkmap:A9 O c .mkmap fr h=some (.mp h.boxes.length,{h with boxes:=h.boxes++[[.mbox [] []]]}):=_root_.id rfl
@[simp] theorem op_mlook (str ok:Bool) (z:AV) (x k:Opd):A9 O c (.mlook str ok z x k) fr h=Gb str ok z h (get fr x) (get fr k):=_root_.id rfl
@[simp] theorem op_mup (str:Bool) (x k v:Opd):A9 O c (.mup str x k v) fr h=ZA str h (get fr x) (get fr k) (get fr v):=_root_.id rfl
@[simp] theorem op_slc (sz:Nat) (x:Opd) (lo hi mx:Option Opd):A9 O c (.slc sz x lo hi mx) fr h=Yb h sz (get fr x) (L7 fr lo) (L7 fr hi) (L7 fr mx):=_root_.id rfl
@[simp] theorem op_app (sz bytes:Nat) (s x:Opd):A9 O c (.app sz bytes s x) fr h=K3 c h sz bytes (get fr s) (get fr x):=_root_.id rfl
@[simp] theorem op_ld (agg:Bool) (n:Nat) (x:Opd):A9 O c (.ld agg n x) fr h=(JU h agg n (get fr x)).map λv=>(v,h):=by
 simp only[A9];cases JU h agg n (get fr x)<;>rfl
@[simp] theorem op_st (n:Nat) (a x:Opd):A9 O c (.st n a x) fr h=(Lx h n (get fr x) (get fr a)).map λh'=>(C5,h'):=by
 simp only[A9];cases Lx h n (get fr x) (get fr a)<;>rfl
end
def Hm (xs:List AV) (i:Nat):Option AV:=xs[i]?
@[simp] theorem nth_zero (x:AV) (xs:G4):Hm (x::xs) 0=some x:=_root_.id rfl
@[simp] theorem nth_succ (x:AV) (xs:G4) (i:Nat):Hm (x::xs) (i+1)=Hm xs i:=_root_.id rfl
theorem G1 {α:Type} {f:α->AV} {l:List α} {i:Nat} {x:α} (h:l[i]?=some x):Hm (l.map f) i=some (f x):=by simp[Hm,h]
@[simp] theorem iaA_sl (h:AH) (m:I6) (sz:Nat) (xs:G4) (k:IntKind) (j:Int):iaA h sz (sl m sz xs) (.int k j)=if 0<=j then (Hm xs j.toNat).map (λe=>(.pv e.cells,h))else none:=by
 unfold iaA sl Hm;simp only;by_cases hj:0<=j
 .rw[if_pos hj];cases hx:xs[j.toNat]? with
  |none=>simp
  |some e =>
   cases xs with
   |nil=>simp at hx
   |cons y ys=>simp[hj]
 .rw[if_neg hj,if_neg (by omega)]
@[simp] theorem lenA_sl (h:AH) (m:I6) (sz:Nat) (xs:G4):bd h (sl m sz xs)=some (.int .i64 xs.length,h):=_root_.id rfl
@[simp] theorem zI (h:AH) (k n off len:Nat):bd h (.sl k n off len)=some (.int .i64 len,h):=_root_.id rfl
@[simp] theorem PS (h:AH) (am:Bool) (k n off len:Nat):KI h am (.sl k n off len)=Em h am (.sl k n off len):=_root_.id rfl
@[simp] theorem loadA_pv (h:AH) (agg:Bool) (n:Nat) (cs:G4):JU h agg n (.pv cs)=AL agg n cs:=_root_.id rfl
@[simp] theorem isMB_nil:Es []=false:=_root_.id rfl
@[simp] theorem isMB_two (x y:AV) (l:G4):Es (x::y::l)=false:=by cases x<;>rfl
@[simp] theorem isMB_int (k:IntKind) (n:Int):Es [.int k n]=false:=_root_.id rfl
@[simp] theorem yy (b:Bool):Es [.bool b]=false:=_root_.id rfl
@[simp] theorem isMB_str (b:J3):Es [.str b]=false:=_root_.id rfl
@[simp] theorem isMB_vs (f:Bool) (sz:Nat) (xs:G4):Es [.vs f sz xs]=false:=_root_.id rfl
@[simp] theorem isMB_sl (m:I6) (sz:Nat) (xs:G4):Es [sl m sz xs]=false:=_root_.id rfl
@[simp] theorem zB (k n off len:Nat):Es [.sl k n off len]=false:=_root_.id rfl
@[simp] theorem isMB_ptr (b off:Nat):Es [.ptr b off]=false:=_root_.id rfl
@[simp] theorem isMB_agg (cs:G4):Es [.agg cs]=false:=_root_.id rfl
@[simp] theorem isMB_mp (b:Nat):Es [.mp b]=false:=_root_.id rfl
@[simp] theorem isMB_vm (ks vs:G4):Es [.vm ks vs]=false:=_root_.id rfl
@[simp] theorem isMB_fn (f:FuncId) (cs:G4):Es [.fn f cs]=false:=_root_.id rfl
@[simp] theorem zA (cs:G4):Es [.rbox cs]=true:=_root_.id rfl
@[simp] theorem rdRo_r (agg:Bool) (n off:Nat) (ys:G4):vy agg n off [.rbox ys]=AL agg n (ys.drop off):=_root_.id rfl
@[simp] theorem zJ (h:AH) (agg:Bool) (n b off:Nat):JU h agg n (.ptr b off)=(h.boxes[b]?).bind λcs=>if Es cs then vy agg n off cs else AL agg n (cs.drop off):=by
 simp only[JU];cases h.boxes[b]?<;>rfl
@[simp] theorem yZ (h:AH) (n:Nat) (v:AV) (b off:Nat):Lx h n v (.ptr b off)=(h.boxes[b]?).bind λcs=>if Es cs=false/\v.isTup=false/\v.cells.length=n/\off+n<=cs.length then some {h with boxes:=h.boxes.set b (M5 cs off v.cells)} else none:=by
 simp only[Lx];cases h.boxes[b]?<;>rfl
@[simp] theorem layH_def (h:AH) (v:AV):bc h v=match KI h false v with|some _=>some h|none=>pg h v:=_root_.id rfl
@[simp] theorem rstF_sl (h:AH) (k n off len:Nat):pg h (.sl k n off len)=(h.fams[k]?).map λf=>{h with fams:=h.fams.set k {f with wr:=false}}:=by
 simp only[pg];cases h.fams[k]?<;>rfl
@[simp] theorem Sd (h:AH) (n:Nat) (v:AV) (k m i q sz:Nat):Lx h n v (.ep k m i q sz)=(bc h v).bind λh=>(h.fams[k]?).bind λf =>
  if f.xs.length=m/\f.sz=sz/\f.wr=true then
   (f.xs[i]?).bind λx=>(KI h false v).bind λu=>if u.cells.length=n/\q+n<=x.cells.length then
    (x.reform (M5 x.cells q u.cells)).map λy=>{h with fams:=h.fams.set k {f with xs:=f.xs.set i y}} else none
  else none:=by
 simp only[Lx];cases bc h v with
 |none=>rfl
 |some h =>
  simp only[A0O,Io];cases h.fams[k]? with
  |none=>rfl
  |some f =>
   simp only[A0O];split
   .cases f.xs[i]? with
    |none=>rfl
    |some x=>cases KI h false v<;>rfl
   .rfl
@[simp] theorem loadA_ep (h:AH) (agg:Bool) (n k m i q sz:Nat):JU h agg n (.ep k m i q sz)=(h.fams[k]?).bind λf=>if f.xs.length=m/\f.sz=sz then (f.xs[i]?).bind λx=>AL agg n (x.cells.drop q)else none:=by
 simp only[JU];cases h.fams[k]? with
 |none=>rfl
 |some f =>
  simp only[A0O];split
  .cases f.xs[i]?<;>rfl
  .rfl
@[simp] theorem iaA_view (h:AH) (sz k n off len:Nat) (kd:IntKind) (j:Int):iaA h sz (.sl k n off len) (.int kd j)=if 0<=j/\j<len then some (.ep k n (off+j.toNat) 0 sz,h)else none:=_root_.id rfl
@[simp] theorem yW (cs:G4) (off:Nat) (new:G4):M5 cs off new=cs.take off++new++cs.drop (off+new.length):=_root_.id rfl
@[simp] theorem bin_lss (k:IntKind) (a b:Int):G7 .lss (.int k a) (.int k b)=some (.bool (decide (a<b))):=by simp[G7]
@[simp] theorem bin_leq (k:IntKind) (a b:Int):G7 .leq (.int k a) (.int k b)=some (.bool (decide (a<=b))):=by simp[G7]
@[simp] theorem bin_gtr (k:IntKind) (a b:Int):G7 .gtr (.int k a) (.int k b)=some (.bool (decide (b<a))):=by simp[G7]
@[simp] theorem bin_geq (k:IntKind) (a b:Int):G7 .geq (.int k a) (.int k b)=some (.bool (decide (b<=a))):=by simp[G7]
@[simp] theorem bin_eql (k:IntKind) (a b:Int):G7 .eql (.int k a) (.int k b)=some (.bool (decide (a=b))):=by simp only[G7,if_true];rfl
@[simp] theorem bin_neq (k:IntKind) (a b:Int):G7 .neq (.int k a) (.int k b)=some (.bool (!decide (a=b))):=by simp only[G7,if_true];rfl
@[simp] theorem bin_add (k:IntKind) (a b:Int):G7 .add (.int k a) (.int k b)=some (.int k (k.wrap (a+b))):=by simp[G7]
@[simp] theorem bin_sub (k:IntKind) (a b:Int):G7 .sub (.int k a) (.int k b)=some (.int k (k.wrap (a-b))):=by simp[G7]
theorem bI (a b:List UInt8):(a == b)=decide (a=b):=by
 by_cases h:a=b<;>simp[h]
@[simp] theorem zq (a b:J3):G7 .lss (.str a) (.str b)=some (.bool (Op.bytesLess a.toList b.toList)):=_root_.id rfl
@[simp] theorem zp (a b:J3):G7 .gtr (.str a) (.str b)=some (.bool !(Op.bytesLess a.toList b.toList||decide (a.toList=b.toList))):=by simp only[G7];rw[bI]
@[simp] theorem zo (a b:J3):G7 .eql (.str a) (.str b)=some (.bool (decide (a.toList=b.toList))):=by simp only[G7];rw[bI]
@[simp] theorem zr (a b:J3):G7 .neq (.str a) (.str b)=some (.bool !(decide (a.toList=b.toList))):=by simp only[G7];rw[bI]
@[simp] theorem resA_nil (fr:Fr) (h:AH):Oh fr h []=some []:=_root_.id rfl
@[simp] theorem resA_tmp (fr:Fr) (h:AH) (t:Nat) (rs:List RRes):Oh fr h (.tmp t::rs)=(Oh fr h rs).map (A0 fr t::·):=_root_.id rfl
@[simp] theorem zU (fr:Fr) (h:AH) (a n:Nat) (agg:Bool) (rs:List RRes):Oh fr h (.cell a agg n::rs)=(JU h agg n (A0 fr a)).bind λv=>(Oh fr h rs).map (v::·):=_root_.id rfl
@[simp] theorem un_not (b:Bool):TR .not (.bool b)=some (.bool !b):=_root_.id rfl
theorem V0 {n:Int} (h0:-9223372036854775808<=n) (h1:n<=9223372036854775807):IntKind.i64.wrap n=n:=by
 simp only[IntKind.wrap,IntKind.bits,IntKind.signed];simp only[Bool.true_and,decide_eq_true_eq,ge_iff_le];split<;>omega
theorem C6 (i:Nat) (h:i<9223372036854775807):IntKind.i64.wrap ((i:Int)+1)=(i:Int)+1:=V0 (by omega) (by omega)
theorem dL (i:Nat) (h:i<9223372036854775807):IntKind.i64.wrap ((i:Int)+1)=((i+1:Nat):Int):=V0 (by omega) (by omega)
@[simp] theorem CU (h:AH) (am:Bool) (k n off len:Nat):Em h am (.sl k n off len)=(h.fams[k]?).bind λf=>if f.xs.length=n/\off+len<=n/\(am||!f.wr)=true then some (sl (false,true) f.sz ((f.xs.drop off).take len))else none:=by
 simp only[Em];cases h.fams[k]? with
 |none=>rfl
 |some f=>simp only[A0O,cz]
@[simp] theorem WY (h:AH) (am:Bool):KI h am (.vs true 0 [])=some (sl (true,false) 1 []):=_root_.id rfl
@[simp] theorem XN (h:AH) (am:Bool):Em h am (.vs true 0 [])=some (sl (true,false) 1 []):=_root_.id rfl
theorem l9 (m:I6) (hm:m.2=false) (a b:Nat):sl m a []=sl m b []:=by simp[sl,hm]
@[simp] theorem Po (c:Ctx) (h:AH) (sz bytes:Nat) (x:AV):K3 c h sz bytes (.vs true 0 []) x=(AS h sz x).bind λys =>
  if ys.length=0 then some (.vs true 0 [],h)else if ys.length*bytes<=H3/\ys.length<=maxLen then some (.sl h.fams.length ys.length 0 ys.length,{h with fams:=h.fams++[⟨ys,sz,c.mutApp⟩]})else none:=by
 simp only[K3];cases AS h sz x with
 |none=>rfl
 |some ys=>simp
@[simp] theorem LV (c:Ctx) (h:AH) (sz bytes k n off len:Nat) (x:AV):K3 c h sz bytes (.sl k n off len) x=(AS h sz x).bind λys=>(h.fams[k]?).bind λf =>
  if f.xs.length=n/\f.sz=sz/\off+len=n/\(n+ys.length)*bytes<=H3/\n+ys.length<=maxLen then some (.sl k (n+ys.length) off (len+ys.length),{h with fams:=h.fams.set k {f with xs:=f.xs++ys}})else none:=by
 simp only[K3];cases AS h sz x with
 |none=>rfl
 |some ys=>cases h.fams[k]?<;>rfl
theorem GY (c:Ctx) (h:AH) (sz bytes:Nat) (b:Bool) (xs:G4) (x:AV):K3 c h sz bytes (sl (true,b) sz xs) x=(AS h sz x).bind λys =>
  if ys.length=0 then some (sl (true,b) sz xs,h)else if (xs.length+ys.length)*bytes<=H3/\xs.length+ys.length<=maxLen then some (.sl h.fams.length (xs.length+ys.length) 0 (xs.length+ys.length),{h with fams:=h.fams++[⟨xs++ys,sz,c.mutApp⟩]})else none:=by
 simp only[K3,sl];cases AS h sz x with
 |none=>rfl
 |some ys =>
  simp only[A0O];cases xs<;>simp
inductive Tm where
 |mk (kind:Int) (name:ByteArray) (sort:Int) (m:Bool×Bool) (kids:List Tm)
abbrev G6:=List Tm
mutual
def B8:Tm->AV
 | .mk k n s m l=>.agg [.int .i64 k,.str n,.int .i64 s,sl m 4 (A4 l)]
def A4:List Tm->List AV
 | []=>[]
 |t::l=>B8 t::A4 l
end
theorem C9 (l:G6):A4 l=l.map B8:=by
 induction l with
 |nil=>rfl
 |cons t l ih=>simp[A4,ih]
theorem Gn {l:G6} {i:Nat} {t:Tm} (h:l[i]?=some t):Hm (A4 l) i=some (B8 t):=by rw[C9];exact G1 h
@[simp] theorem wm (l:G6):(A4 l).length=l.length:=by simp[C9]
mutual
def Tm.size:Tm->Nat
 | .mk _ _ _ _ l=>1+Tm.sizes l
def Tm.sizes:List Tm->Nat
 | []=>0
 |t::l=>t.size+Tm.sizes l
end
theorem Tm.size_pos (t:Tm):0<t.size:=by cases t;simp[Tm.size];omega
theorem Tm.sizes_append (l r:G6):Tm.sizes (l++r)=Tm.sizes l+Tm.sizes r:=by
 induction l with
 |nil=>simp[Tm.sizes]
 |cons t l ih=>simp[Tm.sizes,ih];omega
theorem Tm.size_le {t:Tm} {l:G6} (h:t∈l):t.size<=Tm.sizes l:=by
 induction l with
 |nil=>cases h
 |cons x l ih =>
  simp only[Tm.sizes];rcases A0U.1 h with rfl|h
  .omega
  .have:=ih h;omega
theorem Tm.length_le (l:G6):l.length<=Tm.sizes l:=by
 induction l with
 |nil=>simp
 |cons x l ih=>have:=x.size_pos;simp only[Tm.sizes,List.length_cons];omega
end Go.Abs
namespace Go.Abs
open Go.RowKit (Below)
open Go.ChangeShapes Go.WideShapes Go.Deep
open Go.Proofs.YtohjdamplbhdpaaGreatDoor (Rows.uptoBulk Rows.uptoBulkAll)
abbrev xn (w:World):Nat->Nat->Prop:=λb _=>b<w.heap.size
def CV (w:World) (ys:List AV) (cs:List Value):Prop:=Dk w (xn w) ys cs/\∀u∈cs,u.oneCell'=true
def OD (P:Program) (w:World) (t:TypeId) {T:Type} (cells:T->List AV) (good:T->Prop) (wt:T->Nat) (n:Nat):Prop :=
 ∀{H:Type} (enc:TypeId×Value->H) (cs:List Value) (x:DataW H×List MemPlace),DataW.trod enc P w 0 (λ_=>true) true n t cs=some x ->
  ∃a,good a/\wt a<=Rows.uptoBulk x.1/\CV w (cells a) cs
section
variable {P:Program} {w:World} {t e:TypeId}
theorem OD.le {T:Type} {cells:T->List AV} {good:T->Prop} {wt:T->Nat} {n m:Nat} (h:OD P w t cells good wt n) (hm:m<=n):OD P w t cells good wt m :=
 λenc cs x hx=>h enc cs x (DataW.trod_le hm hx)
theorem Wr {a:AV} {v:Value} (h:PV w (xn w) a v) (ho:v.oneCell'=true):CV w [a] [v]:=by
 refine⟨?_,λu hu=>by simp at hu;subst hu;exact ho⟩;simp only[Dk];exact⟨v,[],rfl,h,rfl⟩
theorem JE {k:IntKind} (ht:P.underlying t=some (.int k)) (n:Nat):OD P w t (λi:Int=>[.int k i]) (λi=>(Lit.int k i).wf=true) (λ_=>1) n:=by
 intro H enc cs x hx;obtain⟨i,rfl,rfl,hw⟩:=DataW.trod_int ht hx;exact⟨i,hw,by simp[Rows.uptoBulk],Wr (by simp[PV]) rfl⟩
theorem HQ (ht:P.underlying t=some .string) (n:Nat):OD P w t (λs:ByteArray=>[.str s]) (λs=>s.size<=maxLen) (λs=>s.size+1) n:=by
 intro H enc cs x hx;obtain⟨s,rfl,rfl,hw⟩:=DataW.trod_string ht hx;exact⟨s,hw,Nat.le_of_eq (by simp only[Rows.uptoBulk,Array.length_toList];rfl),Wr (by simp[PV]) rfl⟩
theorem lE {T:Type} {R:Nat->T->Prop}:∀{n:Nat},(∀i,i<n->∃a,R i a)->∃ys:List T,ys.length=n/\∀i a,ys[i]?=some a->R i a
 |0,_=>⟨[],rfl,λi a h=>by simp at h⟩
 |n+1,h=>by
  obtain⟨ys,hl,ha⟩:=lE (n:=n) λi hi=>h i (by omega);obtain⟨a,hr⟩:=h n (by omega);refine⟨ys++[a],by simp[hl],λi b hb=>?_⟩;by_cases hi:i<n
  .rw[List.getElem?_append_left (by omega)]at hb;exact ha i b hb
  .rw[List.getElem?_append_right (by omega),hl]at hb;have XT:i=n:=by
    have:=(A0R.1 hb).1;simp at this;omega
   subst XT;simp at hb;subst hb;exact hr
theorem gb {H T:Type} {wt:T->Nat}:∀{ys:List T} {l:List (DataW H)},ys.length=l.length->(∀(i:Nat) (a:T) (d:DataW H),ys[i]?=some a->l[i]?=some d->wt a<=Rows.uptoBulk d)->(ys.map wt).sum<=Rows.uptoBulkAll l
 | [],l,_,_=>by simp
 |a::ys,[],h,_=>by simp at h
 |a::ys,d::l,h,k=>by
  have h1:=k 0 a d rfl rfl;have h2:=gb (ys:=ys) (l:=l) (by simpa using h) λi a d ha hd=>k (i+1) a d (by simpa using ha) (by simpa using hd);simp only[List.map_cons,List.sum_cons,Rows.uptoBulkAll];omega
theorem zk {sz:Nat} {xs:G4} {a:Addr} {len cap:Nat} (B9:xs.length=len) (hc:len<=cap) (hm:cap<=maxLen) (J5:0<sz)
  (hx:∀(i:Nat) (x:AV),xs[i]?=some x->∃cs',w.cells? 0 (a.add (i*sz)) sz=some cs'/\CV w x.cells cs'):PV w (xn w) (.vs false sz xs) (.slice (some a) len cap):=by
 simp only[PV];refine⟨some a,len,cap,rfl,B9.symm,hc,hm,(by simp),⟨(by simp),⟨(by simp),λe=>absurd J5 (by omega)⟩⟩,λP6=>?_⟩;have spot:a.spot=none:=by
  cases xs with
  |nil=>exact absurd rfl P6
  |cons x xs =>
   obtain⟨cs',h1,h2,_⟩:=hx 0 x rfl;obtain⟨_,hl,hcell⟩:=World.cells?_some h1;have h0:=hcell 0 J5;rw[A0P (by omega)]at h0;simpa[Addr.add]using World.cell?_spot h0
 obtain⟨b,o,sp⟩:=a;subst spot;refine⟨b,o,rfl,J5,WS λj x hj=>?_⟩;obtain⟨cs',h1,h2,h3⟩:=hx j x hj;obtain⟨_,hl,hcell⟩:=World.cells?_some h1;obtain⟨g1,g2⟩:=JL h2;refine⟨by omega,PK λq c hq=>?_⟩;obtain⟨u,hu,hv⟩:=g2 hq;have hqlt:q<sz:=by
  have:=(A0R.1 hq).1;omega
 have GK:=hcell q hqlt;rw[hu,Go.WideShapes.add_plain,Go.WideShapes.add_plain]at GK;exact⟨u,World.block_lt_of_cell? _ _ GK,GK,h3 u (List.mem_of_getElem? hu),hv⟩
theorem JF {T:Type} {sz:Nat} {enc:T->AV} {good:T->Prop} {wt:T->Nat} {n:Nat} (ht:P.underlying t=some (.slice e)) (J5:P.cellsOf e=sz) (M3:0<sz)
  (elem:OD P w e (λa=>(enc a).cells) good wt n) :
  OD P w t (λys:Bool×List T=>[sl (false,ys.1) sz (ys.2.map enc)]) (λys=>∀a∈ys.2,good a) (λys=>(ys.2.map wt).sum+1) (n+1):=by
 intro H ec cs x hx;rcases DataW.trod_slice ht hx with ⟨rfl,rfl⟩|⟨a,len,cap,AS,rest,n',hn,rfl,rfl,hb,hl,hm,B9,Ul,hsp,hns⟩
 .exact⟨(false,[]),λa ha=>by simp at ha,by simp[Rows.uptoBulk],Wr (by simp only[sl,PV];exact⟨none,0,0,rfl,by simp,Nat.le_refl _,Nat.zero_le _,by simp,by simp,λh=>absurd rfl h⟩) rfl⟩
 .have yw:n'=n:=by omega
  subst yw;obtain⟨ys,Wc,hr⟩:=lE (T:=T) (n:=len) (R:=λi a'=>good a'/\(∀y,AS[i]?=some y->wt a'<=Rows.uptoBulk y.1)/\∃cs',w.cells? 0 (a.add (i*sz)) sz=some cs'/\CV w (enc a').cells cs') λi hi=>by
   have h1:=Ul i hi;rw[A0P (by omega),J5]at h1;obtain⟨cs',h2,h3⟩:=Option.bind_eq_some_iff.1 h1;obtain⟨a',k1,k2,k3⟩:=elem ec cs' _ h3;exact⟨a',k1,λy hy=>by rw[A0P (by omega)]at hy;cases hy;exact k2,cs',h2,k3⟩
  refine⟨(true,ys),λa' ha'=>?_,?_,Wr ((congrArg (λq=>PV w (xn w) q (.slice (some a) len cap)) (cz false sz (ys.map enc))).mp (zk (by simp[Wc]) hl hm M3 λi x hx=>?_)) rfl⟩
  .obtain⟨i,hi⟩:=List.mem_iff_getElem?.1 ha';exact(hr i a' hi).1
  .have:=gb (wt:=wt) (ys:=ys) (l:=AS.map (·.1)) (by simp[Wc,B9]) λi a' d ha' hd=>by
    simp only[A0T,A0S]at hd;obtain⟨y,hy,rfl⟩:=hd;exact(hr i a' ha').2.1 y hy
   simp only[Rows.uptoBulk];omega
  .simp only[A0T,A0S]at hx;obtain⟨a',ha',rfl⟩:=hx;exact(hr i a' ha').2.2
theorem CD {ys:G4} {cs:List Value} {y:AV} {c:Value} (h:CV w [y] [c]) (k:CV w ys cs):CV w (y::ys) (c::cs):=by
 obtain⟨h1,h2⟩:=h;refine⟨?_,λu hu=>?_⟩
 .simp only[Dk]at h1 ⊢;obtain⟨u,us,he,h3,rfl⟩:=h1;cases he;exact⟨c,cs,rfl,h3,k.1⟩
 .rcases A0U.1 hu with rfl|hu
  .exact h2 u (by simp)
  .exact k.2 u hu
end
section
variable {P:Program}
theorem TD {H:Type} {enc:TypeId×Value->H} {W W':World} (hl:laidOutB P=true) (hb:Below W.heap.size W W'):∀{ts:List TypeId} {vs:List Value} {ds:List (DataW H)} {ps:List MemPlace},(∀t∈ts,P.readableRec t=true/\t<P.types.size) ->
  DataW.TrodAll enc P W 0 (λ_=>true) true ts vs ds ps->(∀p∈ps,p.block<W.heap.size)->∀{sp:Nat->Bool},(∀p∈ps,sp p.block=true)->DataW.TrodAll enc P W' 0 sp true ts vs ds ps
 | [],[],[],_,_,h,_,_,_=>h
 |t::ts,v::vs,d::ds,ps,hr,h,A7,sp,hs=>by
  obtain⟨p,q,h1,h2,rfl⟩:=h;refine⟨p,q,WideElems.Trod_stays hl (hr t (by simp)).1 (hr t (by simp)).2 h1 (λx hx=>hb.same (A7 x (by simp[hx]))) (λx hx=>hs x (by simp[hx])),?_,rfl⟩;exact TD hl hb (λt ht=>hr t (by simp[ht])) h2 (λx hx=>A7 x (by simp[hx])) (λx hx=>hs x (by simp[hx]))
theorem fy {H:Type} {enc:TypeId×Value->H} {f:Func} {s:ChangeSpec} {W W':World} {args:Array Value} {v:Value} {ds gs:List (DataW H)} {w7 pa:List MemPlace}
  (hW:DataW.Whole enc P f.params.toList s.vars false W args.toList ds gs w7) (hps:w7=pa)
  (hres:∀(b:Nat) (sp:Nat->Bool) (hd:Bool),DataW.TrodAll enc P W' b sp hd f.resultTypes.toList (v.resultList f.resultTypes.size) (s.fn H (ds++gs)).results [])
  (hargs:∀sp:Nat->Bool,(∀p∈w7,sp p.block=true)->DataW.TrodAll enc P W' 0 sp true f.params.toList args.toList (s.fn H (ds++gs)).args pa)
  (hv:s.vars=[]) (hgs:(s.fn H (ds++gs)).vars=[]) (hk:W.keptBut W' (·∈w7)) (uD:∀a:Addr,a.block<W.heap.size->W'.frozen? a=W.frozen? a)
  (BF:∀(j:Nat) (t:TypeId) (r:Value),f.resultTypes[j]?=some t->(v.resultList f.resultTypes.size)[j]?=some r->Value.okWide P W' .any 0 t r) :
  s.post enc P f false true false false W args v W':=by
 subst hps;have hold:∀p∈w7,(λb=>decide (b<W.heap.size)) p.block=true:=λp hp=>by simpa using hW.lt p hp
 have hvars:∀sp:Nat->Bool,DataW.TrodVars enc P W' sp s.vars (s.fn H (ds++gs)).vars []:=λsp=>by rw[hv,hgs];rfl
 refine⟨ds,gs,w7,[],w7,[],hW,hres _ _ _,hargs _ hold,hvars _,World.keptBut_mono (λp hp=>⟨hp,?_⟩) hk,λ_=>?_⟩
 .exact Or.inr (Or.inl hp)
 .have A7:=hW.lt;obtain⟨_,_,_,_,_,hz,hn⟩:=hW;refine⟨BF,_,_,([]++w7)++[],⟨[]++w7,[],trodAll_append (hargs _ (λ_ _=>rfl)) (hres _ _ _),hvars _,rfl,?_,?_⟩,?_⟩
  .intro b off hp;have hp':MemPlace.cell b off∈w7:=by simpa using hp
   rw[uD _ (A7 _ hp')];exact hz b off hp'
  .intro ha;cases ha
  .intro p hp _;simpa using hp
theorem pr {C:Cfg} (hC:CfgS P C) (hl:laidOutB P=true) {f:FuncId} {fn:Func} {tb:TypeId} (hb:P.underlying tb=some .bool) (hres:fn.resultTypes=#[tb]) (hpar:∀t∈fn.params.toList,P.readableRec t=true/\t<P.types.size)
  {s:ChangeSpec} (hv:s.vars=[]) {H:Type} {enc:TypeId×Value->H} {W:World} {args:Array Value} {ds gs:List (DataW H)} {w7:List MemPlace}
  (hs:(s.fn H (ds++gs)).results=[.lit (.bool true)]/\(s.fn H (ds++gs)).args=ds/\(s.fn H (ds++gs)).vars=[])
  (hW:DataW.Whole enc P fn.params.toList s.vars false W args.toList ds gs w7) {ys:List AV} (hy:Dk W (xn W) ys args.toList) (h:pc C f ys=some (.bool true)) :
  Calls P f args W λe W'=>∃v,e=.returned v/\s.post enc P fn false true false false W args v W':=by
 have A7:=hW.lt;have hW':=hW;obtain⟨p,q,hA,hV,hpq,uD,hnd⟩:=hW;rw[hv]at hV;obtain⟨rfl,rfl⟩:=trodVars_none hV;rw[List.append_nil]at hpq;subst hpq;refine(su hC h W (xn W) args (λb o hb=>hb) hy).mono λe W' ⟨u,he,⟨hbel,_⟩,hu⟩=>?_;have hu':u=.bool true:=by simpa[PV]using hu
 subst hu' he;refine⟨_,rfl,fy hW' rfl (λb sp hd=>?_) (λsp hsp=>?_) hv hs.2.2 (hbel.frame _) (λa ha=>hbel.frozen ha) (RowKit.ok_one hres rfl (RowKit.okWide_bool_mk hb _))⟩
 .rw[hs.1,hres];exact trodAll_mk1 (RowKit.shut_bool hb _)
 .rw[hs.2.1];exact TD hl hbel hpar hA A7 hsp
end
end Go.Abs
