/- A part of the proof. -/
import Derived.Test.YtohjdamplbhdpaaGreatDoorSK8
import Derived.Test.YtohjdamplbhdpaaGreatDoorRows
import Derived.ProofKit
import Derived.OpenShut
import Derived.JoinedCond
import Derived.Deep.Slices
import Derived.Carry
set_option linter.all false
open Option renaming bind_some->A0A,map_eq_some_iff->A0G
open List renaming getElem?_eq_getElem->A0B,replicate->A0C,getElem?_append_right->A0D,getElem?_append_left->A0E,getElem?_eq_some_iff->A0F,getElem?_map->A0H,getD->A0I,mem_cons->A0J,map_map->A0K,set->A0L,map_id->A0M
namespace Go.Abs
def A0 (fr:Fr) (n:Nat):AV:=fr.getD n C3
@[simp] theorem zX (fr:Fr) (n:Nat):get fr (.t n)=A0 fr n:=_root_.id rfl
@[simp] theorem zW (fr:Fr) (v:AV):get fr (.c v)=v:=_root_.id rfl
@[simp] theorem vz (fr:Fr) (d:Nat) (v:AV):put fr (some d) v=A0L fr d v:=_root_.id rfl
@[simp] theorem vy (fr:Fr) (v:AV):put fr none v=fr:=_root_.id rfl
theorem D9 (fr:Fr) {i j:Nat} (v:AV) (h:i≠j):A0 (A0L fr i v) j=A0 fr j:=by
 simp[A0,A0I,List.getElem?_set_ne h]
theorem E4 (fr:Fr) {i j:Nat} (v:AV) (e:i=j) (h:i<fr.length):A0 (A0L fr i v) j=v:=by
 subst e;simp[A0,A0I,List.getElem?_set_self h]
def nC (r:Option (AV×AH)) (O:Orc) (c:Ctx) (d:Option Nat) (M5:List RO) (fr:Fr):Option (Fr×AH):=match r with|some (v,h)=>J7 O c M5 (put fr d v) h|none=>none
@[congr] theorem tY {r r':Option (AV×AH)} {O:Orc} {c:Ctx} {d:Option Nat} {M5:List RO} {fr:Fr} (h:r=r'):nC r O c d M5 fr=nC r' O c d M5 fr:=by rw[h]
@[simp] theorem vh (v:AV) (h:AH) (O:Orc) (c:Ctx) (d:Option Nat) (M5:List RO) (fr:Fr):nC (some (v,h)) O c d M5 fr=J7 O c M5 (put fr d v) h:=_root_.id rfl
def mz (b:AV) (w:Bool) (O:Orc) (c:Ctx) (d:Option Nat) (op:ROp) (M5:List RO) (fr:Fr) (h:AH):Option (Fr×AH) :=
 match b with
 | .bool b=>if b=w then nC (A8 O c op fr h) O c d M5 fr else J7 O c M5 (put fr d C3) h
 | .tup _=>J7 O c M5 (put fr d C3) h
 |_=>none
@[congr] theorem tF {b b':AV} {w:Bool} {O:Orc} {c:Ctx} {d:Option Nat} {op:ROp} {M5:List RO} {fr:Fr} {h:AH} (e:b=b'):mz b w O c d op M5 fr h=mz b' w O c d op M5 fr h:=by rw[e]
section
variable (O:Orc) (c:Ctx) (d:Option Nat) (op:ROp) (M5:List RO) (fr:Fr) (h:AH)
@[simp] theorem yU:mz (.bool true) true O c d op M5 fr h=nC (A8 O c op fr h) O c d M5 fr:=_root_.id rfl
@[simp] theorem yR:mz (.bool false) false O c d op M5 fr h=nC (A8 O c op fr h) O c d M5 fr:=_root_.id rfl
@[simp] theorem yT:mz (.bool true) false O c d op M5 fr h=J7 O c M5 (put fr d C3) h:=_root_.id rfl
@[simp] theorem yS:mz (.bool false) true O c d op M5 fr h=J7 O c M5 (put fr d C3) h:=_root_.id rfl
@[simp] theorem yV (l:G1) (w:Bool):mz (.tup l) w O c d op M5 fr h=J7 O c M5 (put fr d C3) h:=_root_.id rfl
end
@[simp] theorem uA:C3=.tup []:=_root_.id rfl
def qt (b:AV) (O:Orc) (c:Ctx) (x y:RCode) (fr:Fr) (h:AH):Option (Ex×St):=match b with | .bool true=>A3 O c x (fr,h) | .bool false=>A3 O c y (fr,h)|_=>none
@[congr] theorem sj {b b':AV} {O:Orc} {c:Ctx} {x y:RCode} {fr:Fr} {h:AH} (e:b=b'):qt b O c x y fr h=qt b' O c x y fr h:=by rw[e]
@[simp] theorem zV (O:Orc) (c:Ctx) (x y:RCode) (fr:Fr) (h:AH):qt (.bool true) O c x y fr h=A3 O c x (fr,h):=_root_.id rfl
@[simp] theorem zU (O:Orc) (c:Ctx) (x y:RCode) (fr:Fr) (h:AH):qt (.bool false) O c x y fr h=A3 O c y (fr,h):=_root_.id rfl
def qY (r:Option (Ex×St)) (O:Orc) (c:Ctx) (y:RCode):Option (Ex×St):=match r with|some (.normal,fr,h)=>A3 O c y (fr,h)|r=>r
@[congr] theorem ti {r r':Option (Ex×St)} {O:Orc} {c:Ctx} {y:RCode} (h:r=r'):qY r O c y=qY r' O c y:=by rw[h]
@[simp] theorem zm (fr:Fr) (h:AH) (O:Orc) (c:Ctx) (y:RCode):qY (some (.normal,fr,h)) O c y=A3 O c y (fr,h):=_root_.id rfl
@[simp] theorem zn (s:St) (O:Orc) (c:Ctx) (y:RCode):qY (some (.ret,s)) O c y=some (.ret,s):=_root_.id rfl
@[simp] theorem zl (i:Nat) (s:St) (O:Orc) (c:Ctx) (y:RCode):qY (some (.exit i,s)) O c y=some (.exit i,s):=_root_.id rfl
def ny (id:Nat) (r:Option (Ex×St)):Option (Ex×St):=match r with|some (.exit i,s)=>if i=id then some (.normal,s)else some (.exit i,s)|r=>r
@[simp] theorem zZ (id:Nat) (s:St):ny id (some (.normal,s))=some (.normal,s):=_root_.id rfl
@[simp] theorem za (id:Nat) (s:St):ny id (some (.ret,s))=some (.ret,s):=_root_.id rfl
@[simp] theorem zY (id:Nat) (s:St):ny id (some (.exit id,s))=some (.normal,s):=by simp[ny]
def oD {β:Type} (r:Option (Ex×St)) (k:Fr->AH->Option β):Option β:=match r with|some (.normal,fr,h)=>k fr h|some (.ret,fr,h)=>k fr h|_=>none
@[simp] theorem yZ {β:Type} (fr:Fr) (h:AH) (k:Fr->AH->Option β):oD (some (.normal,fr,h)) k=k fr h:=_root_.id rfl
@[simp] theorem ya {β:Type} (fr:Fr) (h:AH) (k:Fr->AH->Option β):oD (some (.ret,fr,h)) k=k fr h:=_root_.id rfl
section
variable {O:Orc} {c:Ctx}
@[simp] theorem xl (fr:Fr) (h:AH):J7 O c [] fr h=some (fr,h):=_root_.id rfl
@[simp] theorem vw (d:Option Nat) (op:ROp) (M5:List RO) (fr:Fr) (h:AH):J7 O c (⟨d,op,none⟩::M5) fr h=nC (A8 O c op fr h) O c d M5 fr:=by
 simp only[J7,Ep,nC];cases A8 O c op fr h with
 |none=>rfl
 |some x=>rfl
@[simp] theorem ta (d:Option Nat) (op:ROp) (s:Nat) (w:Bool) (M5:List RO) (fr:Fr) (h:AH) :
  J7 O c (⟨d,op,some (s,w)⟩::M5) fr h=mz (A0 fr s) w O c d op M5 fr h:=by
 simp only[J7,Ep,A0,mz,nC];cases fr.getD s C3 with
 |bool b =>
  dsimp only;cases b<;>cases w<;>simp<;>cases A8 O c op fr h<;>rfl
 |_=>rfl
def vQ (r:Option (Fr×AH)):Option (Ex×St):=match r with|some s=>some (.normal,s)|none=>none
@[simp] theorem ze (s:St):vQ (some s)=some (.normal,s):=_root_.id rfl
@[simp] theorem sw (s:St):A3 O c .skip s=some (.normal,s):=_root_.id rfl
@[simp] theorem qK (d:Bool) (ops:List RO) (fr:Fr) (h:AH):A3 O c (.region d ops) (fr,h)=vQ (J7 O c ops fr h):=_root_.id rfl
@[simp] theorem ua (a b:RCode) (s:St):A3 O c (.seq a b) s=qY (A3 O c a s) O c b:=by
 simp only[A3,qY];split<;>simp_all
@[simp] theorem su (q:Opd) (a b:RCode) (fr:Fr) (h:AH):A3 O c (.cond q a b) (fr,h)=qt (get fr q) O c a b fr h:=by
 simp only[A3,qt];cases get fr q with
 |bool b=>cases b<;>rfl
 |_=>rfl
@[simp] theorem rB (id:Nat) (a:RCode) (s:St):A3 O c (.block id a) s=ny id (A3 O c a s):=by
 simp only[A3,ny];split<;>simp_all
@[simp] theorem sv (id:Nat) (s:St):A3 O c (.exit id) s=some (.exit id,s):=_root_.id rfl
@[simp] theorem uY (s:St):A3 O c .bad s=none:=_root_.id rfl
@[simp] theorem uZ (s:St):A3 O c .ret s=some (.ret,s):=_root_.id rfl
theorem G6 {C:Cfg} (a:RCode) (s:St):A3 (L5 C) c (.loop a) s=lp (A3 (L5 C) c a) s:=_root_.id rfl
end
def vM (ys:Option (List AV)) (k:List AV->Option AV) (tm:Bool) (h:AH):Option (AV×AH) :=
 match ys with|none=>none|some ys=>match k ys with|some r=>if r.scalar||tm then some (r,h)else none|none=>none
theorem fO {C:Cfg} {c:Ctx} {f:FuncId} (hr:c.raw f=false) (xs:List Opd) (fr:Fr) (h:AH) :
  A8 (L5 C) c (.call f xs) fr h=vM (Ay h true (xs.map (get fr))) (λys=>pc C f ys) ((xs.map (get fr)).all (Ef h)) h:=by
 simp only[A8,Jn,hr,vM];rw[if_neg (by simp)];cases Ay h true (xs.map (get fr))with
 |none=>rfl
 |some ys =>
  show (match pc C f ys with|none=>none|some r=>_)=_
  cases hp:pc C f ys with
  |none=>simp only[hp]
  |some r=>simp only[hp]
theorem aP {C:Cfg} {c:Ctx} {f:FuncId} (hr:c.raw f=true) (xs:List Opd) (fr:Fr) (h:AH) :
  A8 (L5 C) c (.call f xs) fr h=Ve (c.noB f) h (rc C f (xs.map (get fr)) h):=by
 simp only[A8,Jn,hr];rfl
@[simp] theorem zd (h:AH) (r:Option (AV×AH)):Ve false h r=r:=_root_.id rfl
theorem vO (h:AH) (v:AV) (B:List (List AV)) (f:List Fam) (hv:OP v=true):Ve true h (some (v,⟨h.boxes++B,f⟩))=some (v,⟨h.boxes,f⟩):=by
 simp[Ve,hv,Na]
@[simp] theorem ku (h:AH) (v:AV) (f:List Fam):Ve true h (some (v,⟨h.boxes,f⟩))=some (v,⟨h.boxes,f⟩):=by simp[Ve,Na]
def fin (rs:List RRes) (fr:Fr) (h:AH):Option AV:=(Md fr h rs).bind λvs=>Cs h (I8 vs)
theorem Nm {rf:RFunc} {args:G1} (h:args.length<=rf.ntmps):(Fu rf args).length=rf.ntmps/\∀i,A0 (Fu rf args) i=args.getD i C3:=by
 refine⟨by simp[Fu];omega,λi=>?_⟩;simp only[A0,Fu,A0I];by_cases hi:i<args.length
 .rw[A0E hi]
 .rw[A0D (by omega),List.getElem?_eq_none (l:=args) (by omega),List.getElem?_replicate];split<;>rfl
theorem mB {C:Cfg} {f:FuncId} {rf:RFunc} {args:G1} {r:AV} (hs:C.spec f=none) (hc:C.code f=some rf) (hl:args.length<=rf.ntmps)
  (H:∀fr:Fr,fr.length=rf.ntmps->(∀i,A0 fr i=args.getD i C3)->oD (A3 (L5 C) (C.ctx f) rf.body (fr,⟨[],[]⟩)) (fin rf.results)=some r):pc C f args=some r:=by
 have:=H (Fu rf args) (Nm hl).1 (Nm hl).2;apply qT;unfold MK QH;simp only[hs,hc];unfold ND oD fin at *
 cases he:A3 (L5 C) (C.ctx f) rf.body (Fu rf args,AH.empty)with
 |none=>rw[show (⟨[],[]⟩:AH)=AH.empty from rfl,he]at this;cases this
 |some x =>
  rw[show (⟨[],[]⟩:AH)=AH.empty from rfl,he]at this;obtain⟨e,fr,h⟩:=x;cases e with
  |exit i=>cases this
  |normal=>cases hr:Md fr h rf.results with|none=>simp[hr]at this|some vs=>simpa[hr]using this
  |ret=>cases hr:Md fr h rf.results with|none=>simp[hr]at this|some vs=>simpa[hr]using this
def sl (m:Bool×Bool) (sz:Nat) (xs:List AV):AV:=.vs m.1 (if xs.isEmpty&&!m.2 then 0 else sz) xs
theorem Yf (f:Bool) (sz:Nat) (xs:G1):.vs f sz xs=sl (f,true) sz xs:=by simp[sl]
theorem IN (sz:Nat):.vs true 0 []=sl (true,false) sz []:=by simp[sl]
@[simp] theorem wR (m:J3) (sz:Nat) (xs:G1):(sl m sz xs).isTup=false:=_root_.id rfl
@[simp] theorem wQ (m:J3) (sz:Nat) (xs:G1):(sl m sz xs).cells=[sl m sz xs]:=_root_.id rfl
@[simp] theorem xr (h:AH) (am:Bool) (m:J3) (sz:Nat) (xs:G1):Dy h am (sl m sz xs)=some (sl m sz xs):=_root_.id rfl
@[simp] theorem sV (h:AH) (am:Bool) (m:J3) (sz:Nat) (xs:G1):JW h am (sl m sz xs)=some (sl m sz xs):=_root_.id rfl
@[simp] theorem wS (h:AH) (m:J3) (sz:Nat) (xs:G1):MO h (sl m sz xs)=true:=_root_.id rfl
@[simp] theorem xt (h:AH) (m:J3) (sz:Nat) (xs:G1):Ef h (sl m sz xs)=true:=_root_.id rfl
@[simp] theorem xq (m:J3) (sz:Nat) (xs:G1):(sl m sz xs).flat=true:=_root_.id rfl
@[simp] theorem sW (m:J3) (sz:Nat) (xs:G1) (rest:G1):s9 false 1 (sl m sz xs::rest)=some (sl m sz xs):=_root_.id rfl
@[simp] theorem T7 (h:AH) (m:J3) (sz:Nat) (xs:G1):y8 h sz (sl m sz xs)=some xs:=by
 cases xs with
 |nil=>simp[y8,sl]
 |cons x xs=>simp[y8,sl]
@[simp] theorem tg (m:J3) (sz:Nat) (xs:G1):(sl m sz xs).scalar=false:=_root_.id rfl
@[simp] theorem nv (h:AH) (am:Bool) (k:IntKind) (n:Int):JW h am (.int k n)=some (.int k n):=_root_.id rfl
@[simp] theorem uq (h:AH) (am:Bool) (b:Bool):JW h am (.bool b)=some (.bool b):=_root_.id rfl
@[simp] theorem xQ (h:AH) (am:Bool) (s:I3):JW h am (.str s)=some (.str s):=_root_.id rfl
@[simp] theorem yM (h:AH) (am:Bool) (f:FuncId):JW h am (.fn f [])=some (.fn f []):=_root_.id rfl
@[simp] theorem ut (h:AH) (am:Bool):JW h am .nilp=some .nilp:=_root_.id rfl
@[simp] theorem uo (h:AH) (am:Bool):Qi h am []=some []:=_root_.id rfl
@[simp] theorem tC (h:AH) (am:Bool) (x:AV) (xs:G1):Qi h am (x::xs)=(Dy h am x).bind λy=>(Qi h am xs).map (y::·):=_root_.id rfl
@[simp] theorem ul (h:AH) (am:Bool) (k:IntKind) (n:Int):Dy h am (.int k n)=some (.int k n):=_root_.id rfl
@[simp] theorem sy (h:AH) (am:Bool) (b:Bool):Dy h am (.bool b)=some (.bool b):=_root_.id rfl
@[simp] theorem um (h:AH) (am:Bool) (s:I3):Dy h am (.str s)=some (.str s):=_root_.id rfl
@[simp] theorem xO (h:AH) (am:Bool) (cs:G1):JW h am (.agg cs)=(Qi h am cs).map .agg:=_root_.id rfl
@[simp] theorem rJ (h:AH) (am:Bool):Ay h am []=some []:=_root_.id rfl
@[simp] theorem qM (h:AH) (am:Bool) (x:AV) (xs:G1):Ay h am (x::xs)=(JW h am x).bind λy=>(Ay h am xs).map (y::·):=_root_.id rfl
@[simp] theorem rL (h:AH) (k:IntKind) (n:Int):Cs h (.int k n)=some (.int k n):=_root_.id rfl
@[simp] theorem qN (h:AH) (b:Bool):Cs h (.bool b)=some (.bool b):=_root_.id rfl
@[simp] theorem rM (h:AH) (s:I3):Cs h (.str s)=some (.str s):=_root_.id rfl
@[simp] theorem tD (h:AH) (m:J3) (sz:Nat) (xs:G1):Cs h (sl m sz xs)=some (sl m sz xs):=_root_.id rfl
@[simp] theorem rK (h:AH) (cs:G1):Cs h (.agg cs)=(Qi h true cs).map .agg:=_root_.id rfl
@[simp] theorem rN (h:AH) (cs:G1):Cs h (.tup cs)=(Ay h true cs).map .tup:=_root_.id rfl
@[simp] theorem vN (ys:G1) (k:List AV->Option AV) (tm:Bool) (h:AH):vM (some ys) k tm h=(match k ys with|some r=>if r.scalar||tm then some (r,h)else none|none=>none):=_root_.id rfl
@[simp] theorem sS (k:IntKind) (n:Int):(AV.int k n).scalar=true:=_root_.id rfl
@[simp] theorem qX (b:Bool):(AV.bool b).scalar=true:=_root_.id rfl
@[simp] theorem sU (s:I3):(AV.str s).scalar=true:=_root_.id rfl
@[simp] theorem tN (k:IntKind) (n:Int):(AV.int k n).isTup=false:=_root_.id rfl
@[simp] theorem rR (b:Bool):(AV.bool b).isTup=false:=_root_.id rfl
@[simp] theorem tP (b:I3):(AV.str b).isTup=false:=_root_.id rfl
@[simp] theorem tM (cs:G1):(AV.agg cs).isTup=false:=_root_.id rfl
@[simp] theorem Kq (cs:G1):(AV.agg cs).cells=cs:=_root_.id rfl
@[simp] theorem sk (k:IntKind) (n:Int):(AV.int k n).cells=[.int k n]:=_root_.id rfl
@[simp] theorem qx (b:Bool):(AV.bool b).cells=[.bool b]:=_root_.id rfl
@[simp] theorem sr (b:I3):(AV.str b).cells=[.str b]:=_root_.id rfl
@[simp] theorem oh (n:Nat) (cs:G1):s9 true n cs=if n<=cs.length then some (.agg (cs.take n))else none:=_root_.id rfl
@[simp] theorem nD (n:Nat) (cs:G1):s9 false n cs=cs.head?:=_root_.id rfl
def xU (h:AH) (sz:Nat) (x i:AV):Option (AV×AH) :=
 match x,i with
 | .vs _ z xs,.int _ j=>if 0<=j/\z=sz then (match xs[j.toNat]? with|some e=>some (.pv e.cells,h)|none=>none)else none
 | .sl k n off len,.int _ j=>if 0<=j/\j<len then some (.ep k n (off+j.toNat) 0 sz,h)else none
 |_,_=>none
def Xv (h:AH) (x:AV):Option (AV×AH) :=
 match x with
 | .vs _ _ xs=>some (.int .i64 xs.length,h)
 | .sl _ _ _ len=>some (.int .i64 len,h)
 |_=>none
def Vz (h:AH) (sz:Nat) (x:AV) (l u m:Option (Option Int)):Option (AV×AH) :=
 match l,u,m with
 |some l,some u,some m=>match Mf h sz x l u m with|some v=>some (v,h)|none=>none
 |_,_,_=>none
def xe (neg:Bool) (h:AH) (x:AV):Option (AV×AH):=match x with | .vs _ z _=>some (.bool (if neg then !(z == 0)else z == 0),h)|_=>none
theorem Qo (neg:Bool) (h:AH) (m:J3) (sz:Nat) (I9:0<sz) (xs:G1):xe neg h (sl m sz xs)=some (.bool (if neg then !(xs.isEmpty&&!m.2)else (xs.isEmpty&&!m.2)),h):=by
 unfold xe sl;by_cases hx:(xs.isEmpty&&!m.2)=true
 .simp[hx]
 .have:(sz == 0)=false:=by simp;omega
  simp[hx,this]
section
variable {O:Orc} {c:Ctx} (fr:Fr) (h:AH)
@[simp] theorem yx (x:Opd):A8 O c (.mov x) fr h=some (get fr x,h):=_root_.id rfl
@[simp] theorem xj (q a b:Opd):A8 O c (.pick q a b) fr h=(match get fr q with | .bool t=>some (if t then get fr a else get fr b,h)|_=>none):=_root_.id rfl
@[simp] theorem yl (x:Opd):A8 O c (.box x) fr h=if (get fr x).isTup then none else some (.ptr h.boxes.length 0,{h with boxes:=h.boxes++[(get fr x).cells]}):=_root_.id rfl
@[simp] theorem vi (z:AV):A8 O c (.alloc z) fr h=some (.ptr h.boxes.length 0,{h with boxes:=h.boxes++[z.cells]}):=_root_.id rfl
@[simp] theorem vj (z:AV) (parts:List (Nat×Nat×Opd)):A8 O c (.build z parts) fr h=(D2 fr z.cells.length parts).map λps=>(.agg (E7 z.cells ps),h):=by
 simp only[A8];cases D2 fr z.cells.length parts<;>rfl
@[simp] theorem tZ (n:Nat) (z:AV) (parts:List (Nat×Opd)):A8 O c (.bslice n z parts) fr h=(A5 fr h (A0C n z) parts).map λxs=>(sl (true,true) z.cells.length xs,h):=by
 simp only[A8,Yf];cases A5 fr h (A0C n z) parts<;>rfl
@[simp] theorem rk (n:Nat) (z:AV) (parts:List (Nat×Opd)):A8 O c (.bslicev n z parts) fr h=if parts.all (λp=>MC (get fr p.2))then (A5 fr h (A0C n z) parts).map λxs=>(sl (true,true) z.cells.length xs,h)else none:=by
 simp only[A8,Yf];cases A5 fr h (A0C n z) parts<;>rfl
@[simp] theorem yq (agg:Bool) (n:Nat) (x:Opd):A8 O c (.ldb agg n x) fr h=(match get fr x with | .ep ..=>none|p=>(match Hs h agg n p with|some v=>some (v,h)|none=>none)):=_root_.id rfl
@[simp] theorem vt (x:Opd):A8 O c (.nilck x) fr h=(match get fr x with | .pv cs=>some (.pv cs,h) | .ptr b o=>some (.ptr b o,h) | .ep k n i q s=>some (.ep k n i q s,h) | .fn f cs=>some (.fn f cs,h)|_=>none):=_root_.id rfl
@[simp] theorem yk (op:BinOp) (x y:Opd):A8 O c (.bin op x y) fr h=(G7 op (get fr x) (get fr y)).map λv=>(v,h):=by
 simp only[A8];cases G7 op (get fr x) (get fr y)<;>rfl
@[simp] theorem yj (neg:Bool) (x y:Opd):A8 O c (.beq neg x y) fr h=(match get fr x,get fr y with | .bool a,.bool b=>some (.bool (if neg then !(a == b)else a == b),h)|_,_=>none):=_root_.id rfl
@[simp] theorem vu (neg:Bool) (x:Opd):A8 O c (.nileq neg x) fr h=xe neg h (get fr x):=by
 simp only[A8,xe];rfl
@[simp] theorem zj (op:UnOp) (x:Opd):A8 O c (.un op x) fr h=(Qe op (get fr x)).map λv=>(v,h):=by
 simp only[A8];cases Qe op (get fr x)<;>rfl
@[simp] theorem xh (k:IntKind) (x:Opd):A8 O c (.conv k x) fr h=(match get fr x with | .int _ n=>some (.int k (k.wrap n),h)|_=>none):=_root_.id rfl
@[simp] theorem xi (x:Opd):A8 O c (.cstr x) fr h=(match get fr x with | .str s=>some (.str s,h)|_=>none):=_root_.id rfl
@[simp] theorem xf (x:Opd):A8 O c (.bstr x) fr h=Sp h (get fr x):=_root_.id rfl
def ye (b:Bool) (x y:Option (AV×AH)):Option (AV×AH):=if b then x else y
@[simp] theorem zg (x y:Option (AV×AH)):ye true x y=x:=_root_.id rfl
@[simp] theorem zf (x y:Option (AV×AH)):ye false x y=y:=_root_.id rfl
@[simp] theorem xg (f:FuncId) (caps:List Opd):A8 O c (.clos f caps) fr h=ye c.ro ((BW h (caps.map (get fr))).map λp=>(.fn f p.1,p.2)) (some (.fn f (caps.map (get fr)),h)):=_root_.id rfl
@[simp] theorem rp (z:AV) (bytes:Nat) (l q:Opd):A8 O c (.mkslice z bytes l q) fr h=(match get fr l,get fr q with
  | .int _ a,.int _ b =>
   if 0<=a/\a<=b/\b*bytes<=H6/\b<=maxLen then
    some (.sl h.fams.length a.toNat 0 a.toNat,{h with fams:=h.fams++[⟨A0C a.toNat z,z.cells.length,true⟩]})
   else none
  |_,_=>none):=_root_.id rfl
@[simp] theorem vn (off:Nat) (x:Opd):A8 O c (.faddr off x) fr h=(match get fr x with | .pv cs=>some (.pv (cs.drop off),h) | .ptr b o=>some (.ptr b (o+off),h) | .ep k n i q s=>some (.ep k n i (q+off) s,h)|_=>none):=_root_.id rfl
@[simp] theorem yo (agg:Bool) (off n:Nat) (x:Opd):A8 O c (.fld agg off n x) fr h=(match get fr x with | .agg cs=>(match s9 agg n (cs.drop off)with|some v=>some (v,h)|none=>none)|_=>none):=_root_.id rfl
@[simp] theorem yp (x i:Opd):A8 O c (.idx x i) fr h=(match get fr x,get fr i with
  | .str s,.int _ j=>if 0<=j then (match s[j.toNat]? with|some b=>some (.int .u8 b.toNat,h)|none=>none)else none
  |_,_=>none):=_root_.id rfl
@[simp] theorem yn (x:Opd) (i:Nat):A8 O c (.ext x i) fr h=(match get fr x with | .tup vs=>(match vs[i]? with|some v=>some (v,h)|none=>none)|_=>none):=_root_.id rfl
@[simp] theorem xk (x:Opd):A8 O c (.len true x) fr h=(match get fr x with | .str s=>some (.int .i64 s.size,h)|_=>none):=_root_.id rfl
@[simp] theorem yu (x y:Opd):A8 O c (.max x y) fr h=(match get fr x,get fr y with | .int k a,.int k' b=>if k=k' then some (.int k (if b > a then b else a),h)else none|_,_=>none):=_root_.id rfl
@[simp] theorem vp (sz:Nat) (x i:Opd):A8 O c (.iaddr sz x i) fr h=xU h sz (get fr x) (get fr i):=_root_.id rfl
@[simp] theorem zB (n:Nat) (a x:Opd):A8 O c (.ste n a x) fr h=VV h n (get fr a) (get fr x):=_root_.id rfl
@[simp] theorem zA (n:Nat) (a x:Opd):A8 O c (.stb n a x) fr h=VU h n (get fr a) (get fr x):=_root_.id rfl
@[simp] theorem yw (z:AV) (bytes:Nat) (l q:Opd):A8 O c (.mkv z bytes l q) fr h=dM h z bytes (get fr l) (get fr q):=_root_.id rfl
@[simp] theorem ym (z:AV) (x:Opd):A8 O c (.clr z x) fr h=SM h z (get fr x):=_root_.id rfl
@[simp] theorem yt (x:Opd):A8 O c (.len false x) fr h=Xv h (get fr x):=_root_.id rfl
def gj (b:Bool) (x y:Unit->Option (AV×AH)):Option (AV×AH):=if b then x ()else y ()
@[simp] theorem yd (x y:Unit->Option (AV×AH)):gj true x y=x ():=_root_.id rfl
@[simp] theorem yc (x y:Unit->Option (AV×AH)):gj false x y=y ():=_root_.id rfl
@[congr] theorem rW {b b':Bool} {x y:Unit->Option (AV×AH)} (h:b=b'):gj b x y=gj b' x y:=by rw[h]
@[simp] theorem vk {C:Cfg} (f:FuncId) (xs:List Opd):A8 (L5 C) c (.call f xs) fr h=gj (c.raw f) (λ_=>Ve (c.noB f) h (rc C f (xs.map (get fr)) h)) (λ_=>vM (Ay h true (xs.map (get fr))) (λys=>pc C f ys) ((xs.map (get fr)).all (Ef h)) h):=by
 cases hr:c.raw f with
 |false=>exact fO hr xs fr h
 |true=>exact aP hr xs fr h
def xa (b:Bool) (x:Option (AV×AH)):Option (AV×AH):=if b then none else x
@[simp] theorem zc (x:Option (AV×AH)):xa true x=none:=_root_.id rfl
@[simp] theorem zb (x:Option (AV×AH)):xa false x=x:=_root_.id rfl
@[simp] theorem vl {C:Cfg} (x:Opd) (xs:List Opd):A8 (L5 C) c (.callv x xs) fr h=(match get fr x with
  | .fn f caps=>xa (c.raw f&&!c.rawv) (gj (c.raw f) (λ_=>Ve (c.noB f) h (rc C f (xs.map (get fr)++caps) h)) (λ_=>vM (Ay h true (xs.map (get fr)++caps)) (λys=>pc C f ys) ((xs.map (get fr)++caps).all (Ef h)) h))
  |_=>none):=by
 simp only[A8];cases get fr x with
 |fn f caps =>
  simp only;unfold xa;by_cases hq:(c.raw f&&!c.rawv)=true
  .rw[if_pos hq,if_pos hq]
  .rw[if_neg hq,if_neg hq];cases hr:c.raw f with
   |false =>
    have:=fO (C:=C) hr ((xs.map (get fr)++caps).map Opd.c) fr h;simp only[A8,A0K]at this;rw[show (get fr∘Opd.c)=id from rfl,A0M]at this;exact this
   |true =>
    have:=aP (C:=C) hr ((xs.map (get fr)++caps).map Opd.c) fr h;simp only[A8,A0K]at this;rw[show (get fr∘Opd.c)=id from rfl,A0M]at this;exact this
 |_=>rfl
@[simp] theorem vq:A8 O c .mkmap fr h=some (.mp h.boxes.length,{h with boxes:=h.boxes++[[.mbox [] []]]}):=_root_.id rfl
@[simp] theorem vr (str ok:Bool) (z:AV) (x k:Opd):A8 O c (.mlook str ok z x k) fr h=Ht str ok z h (get fr x) (get fr k):=_root_.id rfl
@[simp] theorem yy (str:Bool) (x k v:Opd):A8 O c (.mup str x k v) fr h=dP str h (get fr x) (get fr k) (get fr v):=_root_.id rfl
@[simp] theorem yz (sz:Nat) (x:Opd) (lo hi mx:Option Opd):A8 O c (.slc sz x lo hi mx) fr h=Vz h sz (get fr x) (J6 fr lo) (J6 fr hi) (J6 fr mx):=_root_.id rfl
@[simp] theorem yi (sz bytes:Nat) (s x:Opd):A8 O c (.app sz bytes s x) fr h=N1 c h sz bytes (get fr s) (get fr x):=_root_.id rfl
@[simp] theorem zh (agg:Bool) (n:Nat) (x:Opd):A8 O c (.ld agg n x) fr h=(Hs h agg n (get fr x)).map λv=>(v,h):=by
 simp only[A8];cases Hs h agg n (get fr x)<;>rfl
@[simp] theorem zi (n:Nat) (a x:Opd):A8 O c (.st n a x) fr h=(KJ h n (get fr x) (get fr a)).map λh'=>(C3,h'):=by
 simp only[A8];cases KJ h n (get fr x) (get fr a)<;>rfl
end
def Jb (xs:List AV) (i:Nat):Option AV:=xs[i]?
@[simp] theorem vg (x:AV) (xs:G1):Jb (x::xs) 0=some x:=_root_.id rfl
@[simp] theorem vf (x:AV) (xs:G1) (i:Nat):Jb (x::xs) (i+1)=Jb xs i:=_root_.id rfl
theorem G0 {α:Type} {f:α->AV} {l:List α} {i:Nat} {x:α} (h:l[i]?=some x):Jb (l.map f) i=some (f x):=by simp[Jb,h]
@[simp] theorem yY (h:AH) (m:J3) (sz:Nat) (xs:G1) (k:IntKind) (j:Int):xU h sz (sl m sz xs) (.int k j)=if 0<=j then (Jb xs j.toNat).map (λe=>(.pv e.cells,h))else none:=by
 unfold xU sl Jb;simp only;by_cases hj:0<=j
 .rw[if_pos hj];cases hx:xs[j.toNat]? with
  |none=>simp
  |some e =>
   cases xs with
   |nil=>simp at hx
   |cons y ys=>simp[hj]
 .rw[if_neg hj,if_neg (by omega)]
@[simp] theorem xb (h:AH) (m:J3) (sz:Nat) (xs:G1):Xv h (sl m sz xs)=some (.int .i64 xs.length,h):=_root_.id rfl
@[simp] theorem tT (h:AH) (k n off len:Nat):Xv h (.sl k n off len)=some (.int .i64 len,h):=_root_.id rfl
@[simp] theorem Ou (h:AH) (am:Bool) (k n off len:Nat):JW h am (.sl k n off len)=Dy h am (.sl k n off len):=_root_.id rfl
@[simp] theorem vW (h:AH) (agg:Bool) (n:Nat) (cs:G1):Hs h agg n (.pv cs)=s9 agg n cs:=_root_.id rfl
@[simp] theorem vC:EA []=false:=_root_.id rfl
@[simp] theorem vG (x y:AV) (l:G1):EA (x::y::l)=false:=by cases x<;>rfl
@[simp] theorem vB (k:IntKind) (n:Int):EA [.int k n]=false:=_root_.id rfl
@[simp] theorem tI (b:Bool):EA [.bool b]=false:=_root_.id rfl
@[simp] theorem vF (b:I3):EA [.str b]=false:=_root_.id rfl
@[simp] theorem xZ (f:Bool) (sz:Nat) (xs:G1):EA [.vs f sz xs]=false:=_root_.id rfl
@[simp] theorem xX (m:J3) (sz:Nat) (xs:G1):EA [sl m sz xs]=false:=_root_.id rfl
@[simp] theorem tL (k n off len:Nat):EA [.sl k n off len]=false:=_root_.id rfl
@[simp] theorem vD (b off:Nat):EA [.ptr b off]=false:=_root_.id rfl
@[simp] theorem vA (cs:G1):EA [.agg cs]=false:=_root_.id rfl
@[simp] theorem xW (b:Nat):EA [.mp b]=false:=_root_.id rfl
@[simp] theorem xY (ks vs:G1):EA [.vm ks vs]=false:=_root_.id rfl
@[simp] theorem xV (f:FuncId) (cs:G1):EA [.fn f cs]=false:=_root_.id rfl
@[simp] theorem tK (cs:G1):EA [.rbox cs]=true:=_root_.id rfl
@[simp] theorem zF (agg:Bool) (n off:Nat) (ys:G1):po agg n off [.rbox ys]=s9 agg n (ys.drop off):=_root_.id rfl
@[simp] theorem tU (h:AH) (agg:Bool) (n b off:Nat):Hs h agg n (.ptr b off)=(h.boxes[b]?).bind λcs=>if EA cs then po agg n off cs else s9 agg n (cs.drop off):=by
 simp only[Hs];cases h.boxes[b]?<;>rfl
@[simp] theorem sa (h:AH) (n:Nat) (v:AV) (b off:Nat):KJ h n v (.ptr b off)=(h.boxes[b]?).bind λcs=>if EA cs=false/\v.isTup=false/\v.cells.length=n/\off+n<=cs.length then some {h with boxes:=h.boxes.set b (L9 cs off v.cells)} else none:=by
 simp only[KJ];cases h.boxes[b]?<;>rfl
@[simp] theorem vR (h:AH) (v:AV):Xu h v=match JW h false v with|some _=>some h|none=>jQ h v:=_root_.id rfl
@[simp] theorem xo (h:AH) (k n off len:Nat):jQ h (.sl k n off len)=(h.fams[k]?).map λf=>{h with fams:=h.fams.set k {f with wr:=false}}:=by
 simp only[jQ];cases h.fams[k]?<;>rfl
@[simp] theorem QD (h:AH) (n:Nat) (v:AV) (k m i q sz:Nat):KJ h n v (.ep k m i q sz)=(Xu h v).bind λh=>(h.fams[k]?).bind λf =>
  if f.xs.length=m/\f.sz=sz/\f.wr=true then
   (f.xs[i]?).bind λx=>(JW h false v).bind λu=>if u.cells.length=n/\q+n<=x.cells.length then
    (x.reform (L9 x.cells q u.cells)).map λy=>{h with fams:=h.fams.set k {f with xs:=f.xs.set i y}} else none
  else none:=by
 simp only[KJ];cases Xu h v with
 |none=>rfl
 |some h =>
  simp only[A0A,HO];cases h.fams[k]? with
  |none=>rfl
  |some f =>
   simp only[A0A];split
   .cases f.xs[i]? with
    |none=>rfl
    |some x=>cases JW h false v<;>rfl
   .rfl
@[simp] theorem vV (h:AH) (agg:Bool) (n k m i q sz:Nat):Hs h agg n (.ep k m i q sz)=(h.fams[k]?).bind λf=>if f.xs.length=m/\f.sz=sz then (f.xs[i]?).bind λx=>s9 agg n (x.cells.drop q)else none:=by
 simp only[Hs];cases h.fams[k]? with
 |none=>rfl
 |some f =>
  simp only[A0A];split
  .cases f.xs[i]?<;>rfl
  .rfl
@[simp] theorem uz (h:AH) (sz k n off len:Nat) (kd:IntKind) (j:Int):xU h sz (.sl k n off len) (.int kd j)=if 0<=j/\j<len then some (.ep k n (off+j.toNat) 0 sz,h)else none:=_root_.id rfl
@[simp] theorem sX (cs:G1) (off:Nat) (new:G1):L9 cs off new=cs.take off++new++cs.drop (off+new.length):=_root_.id rfl
@[simp] theorem ww (k:IntKind) (a b:Int):G7 .lss (.int k a) (.int k b)=some (.bool (decide (a<b))):=by simp[G7]
@[simp] theorem wv (k:IntKind) (a b:Int):G7 .leq (.int k a) (.int k b)=some (.bool (decide (a<=b))):=by simp[G7]
@[simp] theorem wu (k:IntKind) (a b:Int):G7 .gtr (.int k a) (.int k b)=some (.bool (decide (b<a))):=by simp[G7]
@[simp] theorem wq (k:IntKind) (a b:Int):G7 .geq (.int k a) (.int k b)=some (.bool (decide (b<=a))):=by simp[G7]
@[simp] theorem wo (k:IntKind) (a b:Int):G7 .eql (.int k a) (.int k b)=some (.bool (decide (a=b))):=by simp only[G7,if_true];rfl
@[simp] theorem wx (k:IntKind) (a b:Int):G7 .neq (.int k a) (.int k b)=some (.bool (!decide (a=b))):=by simp only[G7,if_true];rfl
@[simp] theorem wn (k:IntKind) (a b:Int):G7 .add (.int k a) (.int k b)=some (.int k (k.wrap (a+b))):=by simp[G7]
@[simp] theorem wy (k:IntKind) (a b:Int):G7 .sub (.int k a) (.int k b)=some (.int k (k.wrap (a-b))):=by simp[G7]
theorem Xa (a b:List UInt8):(a == b)=decide (a=b):=by
 by_cases h:a=b<;>simp[h]
@[simp] theorem uM (a b:I3):G7 .lss (.str a) (.str b)=some (.bool (Op.bytesLess a.toList b.toList)):=_root_.id rfl
@[simp] theorem uL (a b:I3):G7 .gtr (.str a) (.str b)=some (.bool !(Op.bytesLess a.toList b.toList||decide (a.toList=b.toList))):=by simp only[G7];rw[Xa]
@[simp] theorem uK (a b:I3):G7 .eql (.str a) (.str b)=some (.bool (decide (a.toList=b.toList))):=by simp only[G7];rw[Xa]
@[simp] theorem uN (a b:I3):G7 .neq (.str a) (.str b)=some (.bool !(decide (a.toList=b.toList))):=by simp only[G7];rw[Xa]
@[simp] theorem wL (fr:Fr) (h:AH):Md fr h []=some []:=_root_.id rfl
@[simp] theorem wM (fr:Fr) (h:AH) (t:Nat) (rs:List RRes):Md fr h (.tmp t::rs)=(Md fr h rs).map (A0 fr t::·):=_root_.id rfl
@[simp] theorem tf (fr:Fr) (h:AH) (a n:Nat) (agg:Bool) (rs:List RRes):Md fr h (.cell a agg n::rs)=(Hs h agg n (A0 fr a)).bind λv=>(Md fr h rs).map (v::·):=_root_.id rfl
@[simp] theorem zM (b:Bool):Qe .not (.bool b)=some (.bool !b):=_root_.id rfl
theorem U4 {n:Int} (h0:-9223372036854775808<=n) (h1:n<=9223372036854775807):IntKind.i64.wrap n=n:=by
 simp only[IntKind.wrap,IntKind.bits,IntKind.signed];simp only[Bool.true_and,decide_eq_true_eq,ge_iff_le];split<;>omega
theorem D1 (i:Nat) (h:i<9223372036854775807):IntKind.i64.wrap ((i:Int)+1)=(i:Int)+1:=U4 (by omega) (by omega)
theorem Yp (i:Nat) (h:i<9223372036854775807):IntKind.i64.wrap ((i:Int)+1)=((i+1:Nat):Int):=U4 (by omega) (by omega)
@[simp] theorem Cr (h:AH) (am:Bool) (k n off len:Nat):Dy h am (.sl k n off len)=(h.fams[k]?).bind λf=>if f.xs.length=n/\off+len<=n/\(am||!f.wr)=true then some (sl (false,true) f.sz ((f.xs.drop off).take len))else none:=by
 simp only[Dy];cases h.fams[k]? with
 |none=>rfl
 |some f=>simp only[A0A,Yf]
@[simp] theorem Xn (h:AH) (am:Bool):JW h am (.vs true 0 [])=some (sl (true,false) 1 []):=_root_.id rfl
@[simp] theorem UO (h:AH) (am:Bool):Dy h am (.vs true 0 [])=some (sl (true,false) 1 []):=_root_.id rfl
theorem o7 (m:J3) (hm:m.2=false) (a b:Nat):sl m a []=sl m b []:=by simp[sl,hm]
@[simp] theorem Pj (c:Ctx) (h:AH) (sz bytes:Nat) (x:AV):N1 c h sz bytes (.vs true 0 []) x=(y8 h sz x).bind λys =>
  if ys.length=0 then some (.vs true 0 [],h)else if ys.length*bytes<=H6/\ys.length<=maxLen then some (.sl h.fams.length ys.length 0 ys.length,{h with fams:=h.fams++[⟨ys,sz,c.mutApp⟩]})else none:=by
 simp only[N1];cases y8 h sz x with
 |none=>rfl
 |some ys=>simp
@[simp] theorem Kx (c:Ctx) (h:AH) (sz bytes k n off len:Nat) (x:AV):N1 c h sz bytes (.sl k n off len) x=(y8 h sz x).bind λys=>(h.fams[k]?).bind λf =>
  if f.xs.length=n/\f.sz=sz/\off+len=n/\(n+ys.length)*bytes<=H6/\n+ys.length<=maxLen then some (.sl k (n+ys.length) off (len+ys.length),{h with fams:=h.fams.set k {f with xs:=f.xs++ys}})else none:=by
 simp only[N1];cases y8 h sz x with
 |none=>rfl
 |some ys=>cases h.fams[k]?<;>rfl
theorem Hm (c:Ctx) (h:AH) (sz bytes:Nat) (b:Bool) (xs:G1) (x:AV):N1 c h sz bytes (sl (true,b) sz xs) x=(y8 h sz x).bind λys =>
  if ys.length=0 then some (sl (true,b) sz xs,h)else if (xs.length+ys.length)*bytes<=H6/\xs.length+ys.length<=maxLen then some (.sl h.fams.length (xs.length+ys.length) 0 (xs.length+ys.length),{h with fams:=h.fams++[⟨xs++ys,sz,c.mutApp⟩]})else none:=by
 simp only[N1,sl];cases y8 h sz x with
 |none=>rfl
 |some ys =>
  simp only[A0A];cases xs<;>simp
inductive Tm where
 |mk (kind:Int) (name:ByteArray) (sort:Int) (m:Bool×Bool) (kids:List Tm)
abbrev I6:=List Tm
mutual
def B7:Tm->AV
 | .mk k n s m l=>.agg [.int .i64 k,.str n,.int .i64 s,sl m 4 (A4 l)]
def A4:List Tm->List AV
 | []=>[]
 |t::l=>B7 t::A4 l
end
theorem D6 (l:I6):A4 l=l.map B7:=by
 induction l with
 |nil=>rfl
 |cons t l ih=>simp[A4,ih]
theorem FM {l:I6} {i:Nat} {t:Tm} (h:l[i]?=some t):Jb (A4 l) i=some (B7 t):=by rw[D6];exact G0 h
@[simp] theorem qb (l:I6):(A4 l).length=l.length:=by simp[D6]
mutual
def Tm.size:Tm->Nat
 | .mk _ _ _ _ l=>1+Tm.sizes l
def Tm.sizes:List Tm->Nat
 | []=>0
 |t::l=>t.size+Tm.sizes l
end
theorem Tm.size_pos (t:Tm):0<t.size:=by cases t;simp[Tm.size];omega
theorem Tm.sizes_append (l r:I6):Tm.sizes (l++r)=Tm.sizes l+Tm.sizes r:=by
 induction l with
 |nil=>simp[Tm.sizes]
 |cons t l ih=>simp[Tm.sizes,ih];omega
theorem Tm.size_le {t:Tm} {l:I6} (h:t∈l):t.size<=Tm.sizes l:=by
 induction l with
 |nil=>cases h
 |cons x l ih =>
  simp only[Tm.sizes];rcases A0J.1 h with rfl|h
  .omega
  .have:=ih h;omega
theorem Tm.length_le (l:I6):l.length<=Tm.sizes l:=by
 induction l with
 |nil=>simp
 |cons x l ih=>have:=x.size_pos;simp only[Tm.sizes,List.length_cons];omega
end Go.Abs
namespace Go.Abs
open Go.RowKit (Below)
open Go.ChangeShapes Go.WideShapes Go.Deep
open Go.Proofs.YtohjdamplbhdpaaGreatDoor (Rows.uptoBulk Rows.uptoBulkAll)
abbrev rh (w:World):Nat->Nat->Prop:=λb _=>b<w.heap.size
def CV (w:World) (ys:List AV) (cs:List Value):Prop:=Cg w (rh w) ys cs/\∀u∈cs,u.oneCell'=true
def Ob (P:Program) (w:World) (t:TypeId) {T:Type} (cells:T->List AV) (good:T->Prop) (wt:T->Nat) (n:Nat):Prop :=
 ∀{H:Type} (enc:TypeId×Value->H) (cs:List Value) (x:DataW H×List MemPlace),DataW.trod enc P w 0 (λ_=>true) true n t cs=some x ->
  ∃a,good a/\wt a<=Rows.uptoBulk x.1/\CV w (cells a) cs
section
variable {P:Program} {w:World} {t e:TypeId}
theorem Tw {a:AV} {v:Value} (h:PV w (rh w) a v) (ho:v.oneCell'=true):CV w [a] [v]:=by
 refine⟨?_,λu hu=>by simp at hu;subst hu;exact ho⟩;simp only[Cg];exact⟨v,[],rfl,h,rfl⟩
theorem Hf {k:IntKind} (ht:P.underlying t=some (.int k)) (n:Nat):Ob P w t (λi:Int=>[.int k i]) (λi=>(Lit.int k i).wf=true) (λ_=>1) n:=by
 intro H enc cs x hx;obtain⟨i,rfl,rfl,hw⟩:=DataW.trod_int ht hx;exact⟨i,hw,by simp[Rows.uptoBulk],Tw (by simp[PV]) rfl⟩
theorem Fo (ht:P.underlying t=some .string) (n:Nat):Ob P w t (λs:ByteArray=>[.str s]) (λs=>s.size<=maxLen) (λs=>s.size+1) n:=by
 intro H enc cs x hx;obtain⟨s,rfl,rfl,hw⟩:=DataW.trod_string ht hx;exact⟨s,hw,Nat.le_of_eq (by simp only[Rows.uptoBulk,Array.length_toList];rfl),Tw (by simp[PV]) rfl⟩
theorem fI {T:Type} {R:Nat->T->Prop}:∀{n:Nat},(∀i,i<n->∃a,R i a)->∃ys:List T,ys.length=n/\∀i a,ys[i]?=some a->R i a
 |0,_=>⟨[],rfl,λi a h=>by simp at h⟩
 |n+1,h=>by
  obtain⟨ys,hl,ha⟩:=fI (n:=n) λi hi=>h i (by omega);obtain⟨a,hr⟩:=h n (by omega);refine⟨ys++[a],by simp[hl],λi b hb=>?_⟩;by_cases hi:i<n
  .rw[A0E (by omega)]at hb;exact ha i b hb
  .rw[A0D (by omega),hl]at hb;have Ys:i=n:=by
    have:=(A0F.1 hb).1;simp at this;omega
   subst Ys;simp at hb;subst hb;exact hr
theorem bn {H T:Type} {wt:T->Nat}:∀{ys:List T} {l:List (DataW H)},ys.length=l.length->(∀(i:Nat) (a:T) (d:DataW H),ys[i]?=some a->l[i]?=some d->wt a<=Rows.uptoBulk d)->(ys.map wt).sum<=Rows.uptoBulkAll l
 | [],l,_,_=>by simp
 |a::ys,[],h,_=>by simp at h
 |a::ys,d::l,h,k=>by
  have h1:=k 0 a d rfl rfl;have h2:=bn (ys:=ys) (l:=l) (by simpa using h) λi a d ha hd=>k (i+1) a d (by simpa using ha) (by simpa using hd);simp only[List.map_cons,List.sum_cons,Rows.uptoBulkAll];omega
theorem uG {sz:Nat} {xs:G1} {a:Addr} {len cap:Nat} (B8:xs.length=len) (hc:len<=cap) (hm:cap<=maxLen) (I9:0<sz)
  (hx:∀(i:Nat) (x:AV),xs[i]?=some x->∃cs',w.cells? 0 (a.add (i*sz)) sz=some cs'/\CV w x.cells cs'):PV w (rh w) (.vs false sz xs) (.slice (some a) len cap):=by
 simp only[PV];refine⟨some a,len,cap,rfl,B8.symm,hc,hm,(by simp),⟨(by simp),⟨(by simp),λe=>absurd I9 (by omega)⟩⟩,λP1=>?_⟩;have spot:a.spot=none:=by
  cases xs with
  |nil=>exact absurd rfl P1
  |cons x xs =>
   obtain⟨cs',h1,h2,_⟩:=hx 0 x rfl;obtain⟨_,hl,hcell⟩:=World.cells?_some h1;have h0:=hcell 0 I9;rw[A0B (by omega)]at h0;simpa[Addr.add]using World.cell?_spot h0
 obtain⟨b,o,sp⟩:=a;subst spot;refine⟨b,o,rfl,I9,Tb λj x hj=>?_⟩;obtain⟨cs',h1,h2,h3⟩:=hx j x hj;obtain⟨_,hl,hcell⟩:=World.cells?_some h1;obtain⟨g1,g2⟩:=Hk h2;refine⟨by omega,Mx λq c hq=>?_⟩;obtain⟨u,hu,hv⟩:=g2 hq;have hqlt:q<sz:=by
  have:=(A0F.1 hq).1;omega
 have GF:=hcell q hqlt;rw[hu,Go.WideShapes.add_plain,Go.WideShapes.add_plain]at GF;exact⟨u,World.block_lt_of_cell? _ _ GF,GF,h3 u (List.mem_of_getElem? hu),hv⟩
theorem Hg {T:Type} {sz:Nat} {enc:T->AV} {good:T->Prop} {wt:T->Nat} {n:Nat} (ht:P.underlying t=some (.slice e)) (I9:P.cellsOf e=sz) (K1:0<sz)
  (elem:Ob P w e (λa=>(enc a).cells) good wt n) :
  Ob P w t (λys:Bool×List T=>[sl (false,ys.1) sz (ys.2.map enc)]) (λys=>∀a∈ys.2,good a) (λys=>(ys.2.map wt).sum+1) (n+1):=by
 intro H ec cs x hx;rcases DataW.trod_slice ht hx with ⟨rfl,rfl⟩|⟨a,len,cap,y8,rest,n',hn,rfl,rfl,hb,hl,hm,B8,Rw,hsp,uy⟩
 .exact⟨(false,[]),λa ha=>by simp at ha,by simp[Rows.uptoBulk],Tw (by simp only[sl,PV];exact⟨none,0,0,rfl,by simp,Nat.le_refl _,Nat.zero_le _,by simp,by simp,λh=>absurd rfl h⟩) rfl⟩
 .have tG:n'=n:=by omega
  subst tG;obtain⟨ys,Ti,hr⟩:=fI (T:=T) (n:=len) (R:=λi a'=>good a'/\(∀y,y8[i]?=some y->wt a'<=Rows.uptoBulk y.1)/\∃cs',w.cells? 0 (a.add (i*sz)) sz=some cs'/\CV w (enc a').cells cs') λi hi=>by
   have h1:=Rw i hi;rw[A0B (by omega),I9]at h1;obtain⟨cs',h2,h3⟩:=Option.bind_eq_some_iff.1 h1;obtain⟨a',k1,k2,k3⟩:=elem ec cs' _ h3;exact⟨a',k1,λy hy=>by rw[A0B (by omega)]at hy;cases hy;exact k2,cs',h2,k3⟩
  refine⟨(true,ys),λa' ha'=>?_,?_,Tw ((congrArg (λq=>PV w (rh w) q (.slice (some a) len cap)) (Yf false sz (ys.map enc))).mp (uG (by simp[Ti]) hl hm K1 λi x hx=>?_)) rfl⟩
  .obtain⟨i,hi⟩:=List.mem_iff_getElem?.1 ha';exact(hr i a' hi).1
  .have:=bn (wt:=wt) (ys:=ys) (l:=y8.map (·.1)) (by simp[Ti,B8]) λi a' d ha' hd=>by
    simp only[A0H,A0G]at hd;obtain⟨y,hy,rfl⟩:=hd;exact(hr i a' ha').2.1 y hy
   simp only[Rows.uptoBulk];omega
  .simp only[A0H,A0G]at hx;obtain⟨a',ha',rfl⟩:=hx;exact(hr i a' ha').2.2
theorem BO {ys:G1} {cs:List Value} {y:AV} {c:Value} (h:CV w [y] [c]) (k:CV w ys cs):CV w (y::ys) (c::cs):=by
 obtain⟨h1,h2⟩:=h;refine⟨?_,λu hu=>?_⟩
 .simp only[Cg]at h1 ⊢;obtain⟨u,us,he,h3,rfl⟩:=h1;cases he;exact⟨c,cs,rfl,h3,k.1⟩
 .rcases A0J.1 hu with rfl|hu
  .exact h2 u (by simp)
  .exact k.2 u hu
end
section
variable {P:Program}
theorem QQ {H:Type} {enc:TypeId×Value->H} {W W':World} (hl:laidOutB P=true) (hb:Below W.heap.size W W'):∀{ts:List TypeId} {vs:List Value} {ds:List (DataW H)} {ps:List MemPlace},(∀t∈ts,P.readableRec t=true/\t<P.types.size) ->
  DataW.TrodAll enc P W 0 (λ_=>true) true ts vs ds ps->(∀p∈ps,p.block<W.heap.size)->∀{sp:Nat->Bool},(∀p∈ps,sp p.block=true)->DataW.TrodAll enc P W' 0 sp true ts vs ds ps
 | [],[],[],_,_,h,_,_,_=>h
 |t::ts,v::vs,d::ds,ps,hr,h,A7,sp,hs=>by
  obtain⟨p,q,h1,h2,rfl⟩:=h;refine⟨p,q,WideElems.Trod_stays hl (hr t (by simp)).1 (hr t (by simp)).2 h1 (λx hx=>hb.same (A7 x (by simp[hx]))) (λx hx=>hs x (by simp[hx])),?_,rfl⟩;exact QQ hl hb (λt ht=>hr t (by simp[ht])) h2 (λx hx=>A7 x (by simp[hx])) (λx hx=>hs x (by simp[hx]))
theorem az {H:Type} {enc:TypeId×Value->H} {f:Func} {s:ChangeSpec} {W W':World} {args:Array Value} {v:Value} {ds gs:List (DataW H)} {j7 pa:List MemPlace}
  (hW:DataW.Whole enc P f.params.toList s.vars false W args.toList ds gs j7) (hps:j7=pa)
  (hres:∀(b:Nat) (sp:Nat->Bool) (hd:Bool),DataW.TrodAll enc P W' b sp hd f.resultTypes.toList (v.resultList f.resultTypes.size) (s.fn H (ds++gs)).results [])
  (hargs:∀sp:Nat->Bool,(∀p∈j7,sp p.block=true)->DataW.TrodAll enc P W' 0 sp true f.params.toList args.toList (s.fn H (ds++gs)).args pa)
  (hv:s.vars=[]) (hgs:(s.fn H (ds++gs)).vars=[]) (hk:W.keptBut W' (·∈j7)) (yW:∀a:Addr,a.block<W.heap.size->W'.frozen? a=W.frozen? a)
  (Cq:∀(j:Nat) (t:TypeId) (r:Value),f.resultTypes[j]?=some t->(v.resultList f.resultTypes.size)[j]?=some r->Value.okWide P W' .any 0 t r) :
  s.post enc P f false true false false W args v W':=by
 subst hps;have hold:∀p∈j7,(λb=>decide (b<W.heap.size)) p.block=true:=λp hp=>by simpa using hW.lt p hp
 have hvars:∀sp:Nat->Bool,DataW.TrodVars enc P W' sp s.vars (s.fn H (ds++gs)).vars []:=λsp=>by rw[hv,hgs];rfl
 refine⟨ds,gs,j7,[],j7,[],hW,hres _ _ _,hargs _ hold,hvars _,World.keptBut_mono (λp hp=>⟨hp,?_⟩) hk,λ_=>?_⟩
 .exact Or.inr (Or.inl hp)
 .have A7:=hW.lt;obtain⟨_,_,_,_,_,hz,hn⟩:=hW;refine⟨Cq,_,_,([]++j7)++[],⟨[]++j7,[],trodAll_append (hargs _ (λ_ _=>rfl)) (hres _ _ _),hvars _,rfl,?_,?_⟩,?_⟩
  .intro b off hp;have hp':MemPlace.cell b off∈j7:=by simpa using hp
   rw[yW _ (A7 _ hp')];exact hz b off hp'
  .intro ha;cases ha
  .intro p hp _;simpa using hp
theorem jZ {C:Cfg} (hC:CfgS P C) (hl:laidOutB P=true) {f:FuncId} {fn:Func} {tb:TypeId} (hb:P.underlying tb=some .bool) (hres:fn.resultTypes=#[tb]) (hpar:∀t∈fn.params.toList,P.readableRec t=true/\t<P.types.size)
  {s:ChangeSpec} (hv:s.vars=[]) {H:Type} {enc:TypeId×Value->H} {W:World} {args:Array Value} {ds gs:List (DataW H)} {j7:List MemPlace}
  (hs:(s.fn H (ds++gs)).results=[.lit (.bool true)]/\(s.fn H (ds++gs)).args=ds/\(s.fn H (ds++gs)).vars=[])
  (hW:DataW.Whole enc P fn.params.toList s.vars false W args.toList ds gs j7) {ys:List AV} (hy:Cg W (rh W) ys args.toList) (h:pc C f ys=some (.bool true)) :
  Calls P f args W λe W'=>∃v,e=.returned v/\s.post enc P fn false true false false W args v W':=by
 have A7:=hW.lt;have hW':=hW;obtain⟨p,q,hA,hV,hpq,yW,zy⟩:=hW;rw[hv]at hV;obtain⟨rfl,rfl⟩:=trodVars_none hV;rw[List.append_nil]at hpq;subst hpq;refine(mE hC h W (rh W) args (λb o hb=>hb) hy).mono λe W' ⟨u,he,⟨hbel,_⟩,hu⟩=>?_;have hu':u=.bool true:=by simpa[PV]using hu
 subst hu' he;refine⟨_,rfl,az hW' rfl (λb sp hd=>?_) (λsp hsp=>?_) hv hs.2.2 (hbel.frame _) (λa ha=>hbel.frozen ha) (RowKit.ok_one hres rfl (RowKit.okWide_bool_mk hb _))⟩
 .rw[hs.1,hres];exact trodAll_mk1 (RowKit.shut_bool hb _)
 .rw[hs.2.1];exact QQ hl hbel hpar hA A7 hsp
end
end Go.Abs
