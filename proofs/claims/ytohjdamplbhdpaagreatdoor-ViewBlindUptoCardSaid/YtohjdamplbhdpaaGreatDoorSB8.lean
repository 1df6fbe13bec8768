/- A part of the proof. -/
import Derived.Test.YtohjdamplbhdpaaGreatDoorSB6
import Derived.Test.YtohjdamplbhdpaaGreatDoorSB7
import Derived.Test.YtohjdamplbhdpaaGreatDoorRows
import Derived.KernelRfl
import Derived.Shelf.SlSortCmp.NoneTotal
import Derived.Lib.Strings
set_option linter.all false
open List renaming drop_eq_getElem_cons->A0O,drop_eq_nil_of_le->A0P,getElem_mem->A0Q,getElem?_eq_getElem->A0S,mem_append_right->A0U,mem_append_left->A0V,mem_flatMap->A0Y,mem_range->A0a,mem_map->A0b,range->A0c
open Nat renaming le_refl->A0R
open Option renaming getD_some->A0T,getD_none->A0Z
open Array renaming ext_getElem?->A0W
open Int renaming toNat_natCast->A0X
namespace Go.Abs.Q
open Go.Proofs
noncomputable def BQ (f:FuncId):Option RFunc:=if rspF f then none else cu Tryz.prog D6 f
theorem WM:BQ IA=some LO:=by kernel_rfl
theorem YR:BQ Ey=some QP:=by kernel_rfl
theorem UX:BQ At=some Lz:=by kernel_rfl
theorem VO:BQ C4=some Nl:=by kernel_rfl
theorem VN:BQ Bp=some Nb:=by kernel_rfl
theorem ZJ:BQ Gi=some Rt:=by kernel_rfl
theorem NM:BQ X0=some AM:=by kernel_rfl
theorem YT:BQ BM=some V3:=by kernel_rfl
theorem YS:BQ FD=some FL:=by kernel_rfl
theorem Tc:BQ Z0=some He:=by kernel_rfl
theorem ZI:BQ Gg=some Gz:=by kernel_rfl
theorem WO:BQ Dd=some IN:=by kernel_rfl
theorem WN:BQ Dc=some LP:=by kernel_rfl
theorem UY:BQ FV=some Ig:=by kernel_rfl
theorem RZ:BQ T6=some FM:=by kernel_rfl
end Go.Abs.Q
namespace Go.Abs
def B7 (r:Option (Ex×St)) (Ψ:Ex->Fr->AH->Prop):Prop:=match r with|some (e,fr,h)=>Ψ e fr h|none=>False
@[congr] theorem ww {r r':Option (Ex×St)} {Ψ:Ex->Fr->AH->Prop} (h:r=r'):B7 r Ψ=B7 r' Ψ:=by rw[h]
@[simp] theorem yf (e:Ex) (fr:Fr) (h:AH) (Ψ:Ex->Fr->AH->Prop):B7 (some (e,fr,h)) Ψ=Ψ e fr h:=_root_.id rfl
def SQ (O:Orc) (c:Ctx) (y:RCode) (Ψ:Ex->Fr->AH->Prop):Ex->Fr->AH->Prop
 | .normal,fr,h=>B7 (A2 O c y (fr,h)) Ψ
 |e,fr,h=>Ψ e fr h
section
variable (O:Orc) (c:Ctx) (y:RCode) (Ψ:Ex->Fr->AH->Prop)
@[simp] theorem SQ_n (fr:Fr) (h:AH):SQ O c y Ψ .normal fr h=B7 (A2 O c y (fr,h)) Ψ:=_root_.id rfl
@[simp] theorem SQ_r (fr:Fr) (h:AH):SQ O c y Ψ .ret fr h=Ψ .ret fr h:=_root_.id rfl
@[simp] theorem SQ_e (i:Nat) (fr:Fr) (h:AH):SQ O c y Ψ (.exit i) fr h=Ψ (.exit i) fr h:=_root_.id rfl
@[simp] theorem zg (r:Option (Ex×St)):B7 (wj r O c y) Ψ=B7 r (SQ O c y Ψ):=by
 cases r with
 |none=>rfl
 |some x=>obtain⟨e,fr,h⟩:=x;cases e<;>rfl
end
def BL (id:Nat) (Ψ:Ex->Fr->AH->Prop):Ex->Fr->AH->Prop
 | .exit i,fr,h=>if i=id then Ψ .normal fr h else Ψ (.exit i) fr h
 |e,fr,h=>Ψ e fr h
@[simp] theorem BL_n (id:Nat) (Ψ:Ex->Fr->AH->Prop) (fr:Fr) (h:AH):BL id Ψ .normal fr h=Ψ .normal fr h:=_root_.id rfl
@[simp] theorem BL_r (id:Nat) (Ψ:Ex->Fr->AH->Prop) (fr:Fr) (h:AH):BL id Ψ .ret fr h=Ψ .ret fr h:=_root_.id rfl
@[simp] theorem BL_e (id i:Nat) (Ψ:Ex->Fr->AH->Prop) (fr:Fr) (h:AH):BL id Ψ (.exit i) fr h=if i=id then Ψ .normal fr h else Ψ (.exit i) fr h:=_root_.id rfl
@[simp] theorem zf (id:Nat) (r:Option (Ex×St)) (Ψ:Ex->Fr->AH->Prop):B7 (vA id r) Ψ=B7 r (BL id Ψ):=by
 cases r with
 |none=>rfl
 |some x =>
  obtain⟨e,fr,h⟩:=x;cases e with
  |exit i =>
   by_cases hi:i=id
   .subst hi;simp[vA,BL]
   .simp[vA,BL,hi]
  |_=>rfl
theorem B7.mono {r:Option (Ex×St)} {Φ Ψ:Ex->Fr->AH->Prop} (h:B7 r Φ) (k:∀e fr h,Φ e fr h->Ψ e fr h):B7 r Ψ:=by
 cases r with
 |none=>exact h.elim
 |some x=>exact k _ _ _ h
theorem B7.elim' {r:Option (Ex×St)} {Φ:Ex->Fr->AH->Prop} (h:B7 r Φ):∃e fr h',r=some (e,fr,h')/\Φ e fr h':=by
 cases r with
 |none=>exact h.elim
 |some x=>exact⟨_,_,_,rfl,h⟩
theorem Pj {step:St->Option (Ex×St)} {Ψ:Ex->Fr->AH->Prop} (Inv:Nat->Fr->AH->Prop)
  (H:∀n fr h,Inv n fr h->B7 (step (fr,h)) λe C3 h'=>(e=.normal/\∃m,m<n/\Inv m C3 h')\/(e≠.normal/\Ψ e C3 h')) :
  ∀(n:Nat) (fr:Fr) (h:AH),Inv n fr h->B7 (lp step (fr,h)) Ψ:=by
 intro n
 induction n using Nat.strongRecOn with
 |_ n ih =>
  intro fr h hi;obtain⟨e,C3,h',he,hp⟩:=(H n fr h hi).elim';rcases hp with ⟨rfl,m,hm,Cx⟩|⟨P6,hp⟩
  .obtain⟨e2,R3,h2,he2,hp2⟩:=(ih m hm C3 h' Cx).elim';rw[wY he he2];exact hp2
  .cases e with
   |normal=>exact absurd rfl P6
   |exit i=>rw[lF he];exact hp
   |ret=>rw[rp he];exact hp
theorem ZN {α:Type} {step:St->Option (Ex×St)} {Ψ:Ex->Fr->AH->Prop} (all:List α) (Inv:List α->Fr->AH->Prop)
  (last:∀fr h,Inv all fr h->B7 (step (fr,h)) λe C3 h'=>e≠.normal/\Ψ e C3 h')
  (next:∀done x rest,done++x::rest=all->∀fr h,Inv done fr h->B7 (step (fr,h)) λe C3 h'=>(e=.normal/\Inv (done++[x]) C3 h')\/(e≠.normal/\Ψ e C3 h')) :
  ∀(fr:Fr) (h:AH),Inv [] fr h->B7 (lp step (fr,h)) Ψ:=by
 intro fr h hi;refine Pj (λn fr h=>∃done rest,done++rest=all/\rest.length=n/\Inv done fr h) (λn fr h ⟨done,rest,he,hn,hi⟩=>?_) all.length fr h ⟨[],all,rfl,rfl,hi⟩;cases rest with
 |nil =>
  rw[List.append_nil]at he;subst he;exact(last fr h hi).mono λe C3 h' hp=>.inr hp
 |cons x rest =>
  refine(next done x rest he fr h hi).mono λe C3 h' hp=>?_
  rcases hp with ⟨h1,h2⟩|hp
  .exact .inl ⟨h1,rest.length,by simp at hn;omega,done++[x],rest,by simpa using he,rfl,h2⟩
  .exact .inr hp
def kK (rs:List RRes) (r:AV):Ex->Fr->AH->Prop
 | .exit _,_,_=>False
 |_,fr,h=>fin rs fr h=some r
@[simp] theorem FIN_n (rs:List RRes) (r:AV) (fr:Fr) (h:AH):kK rs r .normal fr h=(fin rs fr h=some r):=_root_.id rfl
@[simp] theorem FIN_r (rs:List RRes) (r:AV) (fr:Fr) (h:AH):kK rs r .ret fr h=(fin rs fr h=some r):=_root_.id rfl
theorem vW {C:Cfg} {f:FuncId} {rf:RFunc} {args:G4} {r:AV} (hs:C.spec f=none) (hc:C.code f=some rf) (hl:args.length<=rf.ntmps)
  (H:∀fr:Fr,fr.length=rf.ntmps->(∀i,A0 fr i=args.getD i C5)->B7 (A2 (K8 C) (C.ctx f) rf.body (fr,⟨[],[]⟩)) (kK rf.results r)):pc C f args=some r:=by
 refine sj hs hc hl λfr h1 h2=>?_;obtain⟨e,C3,h',he,hp⟩:=(H fr h1 h2).elim';rw[he];cases e with
 |exit i=>exact hp.elim
 |normal=>exact hp
 |ret=>exact hp
def dY (rs:List RRes) (Φ:AV->AH->Prop):Ex->Fr->AH->Prop
 | .exit _,_,_=>False
 |_,fr,h=>∃vs,Oh fr h rs=some vs/\Φ (K1 vs) h
@[simp] theorem RFIN_n (rs:List RRes) (Φ:AV->AH->Prop) (fr:Fr) (h:AH):dY rs Φ .normal fr h=(∃vs,Oh fr h rs=some vs/\Φ (K1 vs) h):=_root_.id rfl
@[simp] theorem RFIN_r (rs:List RRes) (Φ:AV->AH->Prop) (fr:Fr) (h:AH):dY rs Φ .ret fr h=(∃vs,Oh fr h rs=some vs/\Φ (K1 vs) h):=_root_.id rfl
theorem vw {C:Cfg} {f:FuncId} {rf:RFunc} {args:G4} {h:AH} {Φ:AV->AH->Prop} (hc:C.code f=some rf) (hl:args.length<=rf.ntmps)
  (H:∀fr:Fr,fr.length=rf.ntmps->(∀i,A0 fr i=args.getD i C5)->B7 (A2 (K8 C) (C.ctx f) rf.body (fr,h)) (dY rf.results Φ)):∃v h',rc C f args h=some (v,h')/\Φ v h':=by
 obtain⟨hl',hlook⟩:=Pz hl;obtain⟨e,C3,h',he,hp⟩:=(H _ hl' hlook).elim';have key:∃vs,Oh C3 h' rf.results=some vs/\Φ (K1 vs) h':=by
  cases e with
  |exit i=>exact hp.elim
  |normal=>exact hp
  |ret=>exact hp
 obtain⟨vs,hv,hΦ⟩:=key;refine⟨K1 vs,h',wh C ?_,hΦ⟩;unfold Sl;simp only[hc];unfold PQ;rw[he];cases e with
 |exit i=>exact hp.elim
 |normal=>simp only[hv];rfl
 |ret=>simp only[hv];rfl
def RCode.wr:RCode->List Nat
 | .region _ ops=>ops.filterMap (·.dst)
 | .seq a b=>a.wr++b.wr
 | .cond _ a b=>a.wr++b.wr
 | .block _ a=>a.wr
 | .loop a=>a.wr
 |_=>[]
def Kp (ws:List Nat) (fr C3:Fr):Prop:=C3.length=fr.length/\∀j,j∉ws->A0 C3 j=A0 fr j
theorem A8 {ws:List Nat} {fr C3:Fr} {v:AV} (K:Kp ws fr C3) (i:Nat) (h:A0 fr i=v) (d:i∉ws:=by decide):A0 C3 i=v:=(K.2 i d).trans h
theorem Kp.refl (ws:List Nat) (fr:Fr):Kp ws fr fr:=⟨rfl,λ_ _=>rfl⟩
theorem Kp.trans {ws:List Nat} {a b c:Fr} (h:Kp ws a b) (k:Kp ws b c):Kp ws a c:=⟨k.1.trans h.1,λj hj=>(k.2 j hj).trans (h.2 j hj)⟩
theorem Kp.mono {ws ws':List Nat} {a b:Fr} (h:Kp ws a b) (hs:∀j,j∈ws->j∈ws'):Kp ws' a b:=⟨h.1,λj hj=>h.2 j λk=>hj (hs j k)⟩
theorem Kp.put (fr:Fr) (d:Option Nat) (v:AV) {ws:List Nat} (hd:∀x,d=some x->x∈ws):Kp ws fr (put fr d v):=by
 cases d with
 |none=>exact Kp.refl _ _
 |some d =>
  refine⟨by simp,λj hj=>?_⟩;have P6:d≠j:=λe=>hj (e ▸ hd d rfl);simp[E6 fr v P6]
section
variable {C:Cfg} {c:Ctx}
theorem Xt {O:Orc}:∀{O2:List RO} {fr:Fr} {h:AH} {x:Fr×AH} {ws:List Nat},(∀j,j∈O2.filterMap (·.dst)->j∈ws)->L8 O c O2 fr h=some x->Kp ws fr x.1
 | [],fr,h,x,ws,_,he=>by
  simp only[L8]at he;cases he;exact Kp.refl _ _
 |o::O2,fr,h,x,ws,hs,he=>by
  have h1:∀y,o.dst=some y->y∈ws:=λy hy=>hs y (by simp[hy]);have h2:∀j,j∈O2.filterMap (·.dst)->j∈ws:=λj hj=>hs j (by
   rw[List.filterMap_cons];split
   .exact hj
   .exact List.mem_cons_of_mem _ hj)
  simp only[L8]at he;cases hw:GS fr o.guard with
  |none=>rw[hw]at he;cases he
  |some b =>
   rw[hw]at he;cases b with
   |false=>exact(Kp.put fr o.dst _ h1).trans (Xt h2 he)
   |true =>
    dsimp only at he;cases CL:A9 O c o.op fr h with
    |none=>rw[CL]at he;cases he
    |some y =>
     rw[CL]at he;exact(Kp.put fr o.dst _ h1).trans (Xt h2 he)
theorem Zt {step:St->Option (Ex×St)} {ws:List Nat} (hs:∀s x,step s=some x->Kp ws s.1 x.2.1):∀(n:Nat) (s:St) (x:Ex×St),Ms step n s=some x->Kp ws s.1 x.2.1
 |0,s,x,he=>by simp[Ms]at he
 |n+1,s,x,he=>by
  simp only[Ms]at he;cases h1:step s with
  |none=>rw[h1]at he;cases he
  |some y =>
   rw[h1]at he;have k:=hs s y h1;obtain⟨e,s'⟩:=y;cases e with
   |normal=>exact k.trans (Zt hs n s' x he)
   |exit id=>cases he;exact k
   |ret=>cases he;exact k
theorem mP:∀(rc:RCode) (s:St) (x:Ex×St),A2 (K8 C) c rc s=some x->Kp rc.wr s.1 x.2.1:=by
 intro rc
 induction rc with
 |skip=>intro s x he;cases he;exact Kp.refl _ _
 |region d O2 =>
  intro s x he;simp only[A2]at he;cases hs:L8 (K8 C) c O2 s.1 s.2 with
  |none=>rw[hs]at he;cases he
  |some y =>
   rw[hs]at he;cases he;exact Xt (λj hj=>hj) hs
 |seq a b iha ihb =>
  intro s x he;simp only[A2]at he;cases hs:A2 (K8 C) c a s with
  |none=>rw[hs]at he;cases he
  |some y =>
   rw[hs]at he;have k:=(iha s y hs).mono (ws':=(RCode.seq a b).wr) λj hj=>A0V _ hj;obtain⟨e,s'⟩:=y;cases e with
   |normal=>exact k.trans ((ihb _ _ he).mono λj hj=>A0U _ hj)
   |exit id=>cases he;exact k
   |ret=>cases he;exact k
 |cond q a b iha ihb =>
  intro s x he;simp only[A2]at he;split at he
  .exact(iha _ _ he).mono λj hj=>A0V _ hj
  .exact(ihb _ _ he).mono λj hj=>A0U _ hj
  .cases he
 |block id a ih =>
  intro s x he;simp only[A2]at he;cases hs:A2 (K8 C) c a s with
  |none=>rw[hs]at he;cases he
  |some y =>
   rw[hs]at he;have k:=ih s y hs;obtain⟨e,s'⟩:=y;cases e with
   |normal=>cases he;exact k
   |exit i =>
    simp only at he;split at he<;>cases he<;>exact k
   |ret=>cases he;exact k
 |loop a ih =>
  intro s x he;obtain⟨n,hn⟩:=bz he;exact Zt ih n s x hn
 |exit id=>intro s x he;cases he;exact Kp.refl _ _
 |ret=>intro s x he;cases he;exact Kp.refl _ _
 |bad=>intro s x he;cases he
theorem lq {rc:RCode} {ws:List Nat} (hw:rc.wr=ws) {fr:Fr} {h:AH} {Ψ:Ex->Fr->AH->Prop} (H:B7 (A2 (K8 C) c rc (fr,h)) Ψ):B7 (A2 (K8 C) c rc (fr,h)) λe C3 h'=>Kp ws fr C3/\Ψ e C3 h':=by
 subst hw;obtain⟨e,C3,h',he,hp⟩:=H.elim';have k:=mP rc _ _ he;rw[he];exact⟨k,hp⟩
theorem qD {body:RCode} {Ψ:Ex->Fr->AH->Prop} {ws:List Nat} (hw:body.wr=ws) (fr0:Fr) (Inv:Nat->Fr->AH->Prop)
  (H:∀n fr h,Kp ws fr0 fr->Inv n fr h->B7 (A2 (K8 C) c body (fr,h)) λe C3 h'=>(e=.normal/\∃m,m<n/\Inv m C3 h')\/(e≠.normal/\Ψ e C3 h'))
  (n:Nat) (h:AH) (hi:Inv n fr0 h):B7 (lp (A2 (K8 C) c body) (fr0,h)) λe C3 h'=>Kp ws fr0 C3/\Ψ e C3 h':=by
 refine Pj (λn fr h=>Kp ws fr0 fr/\Inv n fr h) (λn fr h ⟨k,hi⟩=>?_) n fr0 h ⟨Kp.refl _ _,hi⟩;refine(lq hw (H n fr h k hi)).mono λe C3 h' ⟨k',hp⟩=>?_;rcases hp with ⟨h1,m,h2,h3⟩|⟨h1,h2⟩
 .exact .inl ⟨h1,m,h2,k.trans k',h3⟩
 .exact .inr ⟨h1,k.trans k',h2⟩
end
theorem G0 {n:Nat} {I J:Nat->Fr->AH->Prop} {fr:Fr} {h:AH} (hJ:∀n fr h,I n fr h->J n fr h) (hi:I (n-1) fr h) (h0:n-1<n:=by omega):∃m,m<n/\J m fr h:=⟨n-1,h0,hJ _ _ _ hi⟩
theorem B4 {C:Cfg} {c:Ctx} {body:RCode} {Ψ:Ex->Fr->AH->Prop} {ws:List Nat} (hw:body.wr=ws) (fr0:Fr) (Inv:Nat->Fr->AH->Prop)
  (H:∀(J:Nat->Fr->AH->Prop) (Φ:Ex->Fr->AH->Prop),(∀n fr h,Inv n fr h->J n fr h)->(∀e fr h,Ψ e fr h->Φ e fr h)->∀n fr h,Kp ws fr0 fr->Inv n fr h ->
   B7 (A2 (K8 C) c body (fr,h)) λe C3 h'=>(e=.normal/\∃m,m<n/\J m C3 h')\/(e≠.normal/\Φ e C3 h'))
  (n:Nat) (h:AH) (hi:Inv n fr0 h):B7 (lp (A2 (K8 C) c body) (fr0,h)) λe C3 h'=>Kp ws fr0 C3/\Ψ e C3 h' :=
 qD hw fr0 Inv (H Inv Ψ (λ_ _ _ h=>h) (λ_ _ _ h=>h)) n h hi
def gw (rs:List RRes) (Φ:AV->Prop):Ex->Fr->AH->Prop
 | .exit _,_,_=>False
 |_,fr,h=>∃r,fin rs fr h=some r/\Φ r
@[simp] theorem EFIN_n (rs:List RRes) (Φ:AV->Prop) (fr:Fr) (h:AH):gw rs Φ .normal fr h=(∃r,fin rs fr h=some r/\Φ r):=_root_.id rfl
@[simp] theorem EFIN_r (rs:List RRes) (Φ:AV->Prop) (fr:Fr) (h:AH):gw rs Φ .ret fr h=(∃r,fin rs fr h=some r/\Φ r):=_root_.id rfl
theorem fX {C:Cfg} {f:FuncId} {rf:RFunc} {args:G4} {Φ:AV->Prop} (hs:C.spec f=none) (hc:C.code f=some rf) (hl:args.length<=rf.ntmps)
  (H:∀fr:Fr,fr.length=rf.ntmps->(∀i,A0 fr i=args.getD i C5)->B7 (A2 (K8 C) (C.ctx f) rf.body (fr,⟨[],[]⟩)) (gw rf.results Φ)):∃r,pc C f args=some r/\Φ r:=by
 obtain⟨hl',hlook⟩:=Pz hl;obtain⟨e,C3,h',he,hp⟩:=(H _ hl' hlook).elim';have key:∃r,fin rf.results C3 h'=some r/\Φ r:=by
  cases e with
  |exit i=>exact hp.elim
  |normal=>exact hp
  |ret=>exact hp
 obtain⟨r,hr,hΦ⟩:=key;refine⟨r,sj hs hc hl λfr h1 h2=>?_,hΦ⟩;have hfr:fr=HW rf args:=by
  apply List.ext_getElem (h1.trans hl'.symm);intro i g1 g2;have a:=h2 i;have b:=hlook i;simp only[A0,List.getD,A0S g1,A0S g2,A0T]at a b;exact a.trans b.symm
 subst hfr;rw[he];cases e with
 |exit i=>exact hp.elim
 |normal=>exact hr
 |ret=>exact hr
theorem QF {C:Cfg} {f:FuncId} {rf:RFunc} {args:G4} {Φ:AV->Prop} (hs:C.spec f=none) (hc:C.code f=some rf) (hl:args.length<=rf.ntmps)
  (H:∀Ψ:AV->Prop,(∀r,Φ r->Ψ r)->∀fr:Fr,fr.length=rf.ntmps->(∀i,A0 fr i=args.getD i C5)->B7 (A2 (K8 C) (C.ctx f) rf.body (fr,⟨[],[]⟩)) (gw rf.results Ψ)):∃r,pc C f args=some r/\Φ r :=
 fX hs hc hl (H Φ λ_ h=>h)
@[simp] theorem tame_int (h:AH) (k:IntKind) (n:Int):CO h (.int k n)=true:=_root_.id rfl
@[simp] theorem zb (h:AH) (b:Bool):CO h (.bool b)=true:=_root_.id rfl
@[simp] theorem tame_str (h:AH) (s:J3):CO h (.str s)=true:=_root_.id rfl
@[simp] theorem tame_agg (h:AH) (cs:G4):CO h (.agg cs)=cs.all (KM h):=_root_.id rfl
@[simp] theorem zZ (h:AH) (k:IntKind) (n:Int):KM h (.int k n)=true:=_root_.id rfl
@[simp] theorem yc (h:AH) (b:Bool):KM h (.bool b)=true:=_root_.id rfl
@[simp] theorem za (h:AH) (s:J3):KM h (.str s)=true:=_root_.id rfl
@[simp] theorem tame_vs (h:AH) (f:Bool) (sz:Nat) (xs:G4):CO h (.vs f sz xs)=true:=_root_.id rfl
@[simp] theorem tame1_vs (h:AH) (f:Bool) (sz:Nat) (xs:G4):KM h (.vs f sz xs)=true:=_root_.id rfl
@[simp] theorem xe (k n off len:Nat):(AV.sl k n off len).isTup=false:=_root_.id rfl
@[simp] theorem xM (k n off len:Nat):(AV.sl k n off len).cells=[.sl k n off len]:=_root_.id rfl
@[simp] theorem zF (b off:Nat):(AV.ptr b off).isTup=false:=_root_.id rfl
@[simp] theorem yi (b off:Nat):(AV.ptr b off).cells=[.ptr b off]:=_root_.id rfl
@[simp] theorem isTup_vs (f:Bool) (sz:Nat) (xs:G4):(AV.vs f sz xs).isTup=false:=_root_.id rfl
@[simp] theorem A0E (f:Bool) (sz:Nat) (xs:G4):(AV.vs f sz xs).cells=[.vs f sz xs]:=_root_.id rfl
end Go.Abs
namespace Go.Abs
open Go.RowKit (Below)
open Go.Proofs (ltOf CmpLays sortWorldK)
def bN (O:Orc) (g:FuncId) (caps xs:List AV) (i j:Nat):Int :=
 match O.pure g ([xs.getD i C5,xs.getD j C5]++caps)with|some (.int .i64 c)=>c|_=>0
def d8 (n i:Nat):Nat:=if i<n then i else 0
def mJ (O:Orc) (g:FuncId) (caps xs:List AV) (i j:Nat):Int:=bN O g caps xs (d8 xs.length i) (d8 xs.length j)
structure SortOk (O:Orc) (g:FuncId) (caps xs:List AV):Prop where
 ans:∀i j,i<xs.length->j<xs.length->∃c,O.pure g ([xs.getD i C5,xs.getD j C5]++caps)=some (.int .i64 c)
 swo:Go.Sort.SWO (ltOf (mJ O g caps xs))
def FE (O:Orc) (g:FuncId) (caps xs:List AV):Array Nat:=Go.Sort.pdq (ltOf (mJ O g caps xs)) (Array.range xs.length) 0 xs.length (Lib.bitLen xs.length) true true
def AV.isAgg:AV->Bool
 | .agg _=>true
 |_=>false
open Classical in
noncomputable def LM (K:Nat) (O:Orc) (args:List AV) (h:AH):Option (AV×AH) :=
 match args with
 | [.sl k n off len,.fn g caps] =>
  match h.fams[k]? with
  |some f =>
   if f.xs.length=n/\off=0/\len=n/\0<n/\n<4611686018427387904/\f.wr=true/\f.sz=K/\caps.all AV.flat=true/\f.xs.all AV.isAgg=true/\SortOk O g caps f.xs then
    some (C5,{h with fams:=h.fams.set k {f with xs:=(FE O g caps f.xs).toList.map λi=>f.xs.getD i C5}})
   else none
  |none=>none
 | [.vs _ _ xs,.fn _ _]=>if xs.length<=1 then some (C5,h)else none
 |_=>none
theorem JN {n i:Nat} (hn:0<n):d8 n i<n:=by unfold d8;split<;>omega
theorem tX (K:Nat) (O:Orc) (args:G4) (h:AH) (x:AV×AH) (he:LM K O args h=some x) :
  ∃l:List (FuncId×List AV×AV),(∀p∈l,O.pure p.1 p.2.1=some p.2.2)/\∀O':Orc,(∀p∈l,O'.pure p.1 p.2.1=some p.2.2)->LM K O' args h=some x:=by
 unfold LM at he;split at he
 .rename_i k n off len g caps;split at he
  .rename_i f hf;split at he
   .rename_i hc;obtain⟨c1,c2,c3,c4,c5,c6,c7,c8,c9,BF⟩:=hc;have M3:0<f.xs.length:=by omega
    refine⟨(A0c f.xs.length).flatMap λi=>(A0c f.xs.length).map λj=>(g,[f.xs.getD i C5,f.xs.getD j C5]++caps,.int .i64 (bN O g caps f.xs i j)),?_,?_⟩
    .intro p hp;simp only[A0Y,A0b,A0a]at hp;obtain⟨i,hi,j,hj,rfl⟩:=hp;obtain⟨c,hc⟩:=BF.ans i j hi hj;simp only[bN,hc]
    .intro O' hO';have key:∀i j,i<f.xs.length->j<f.xs.length->O'.pure g ([f.xs.getD i C5,f.xs.getD j C5]++caps)=some (.int .i64 (bN O g caps f.xs i j)):=λi j hi hj =>
      hO' (g,[f.xs.getD i C5,f.xs.getD j C5]++caps,.int .i64 (bN O g caps f.xs i j)) (by
       simp only[A0Y,A0b,A0a];exact⟨i,hi,j,hj,rfl⟩)
     have hcf:mJ O' g caps f.xs=mJ O g caps f.xs:=by
      funext i j;show bN O' g caps f.xs _ _=_;unfold bN;rw[key _ _ (JN M3) (JN M3)];rfl
     have hok':SortOk O' g caps f.xs:=⟨λi j hi hj=>⟨_,key i j hi hj⟩,by rw[hcf];exact BF.swo⟩;unfold LM;simp only[hf];rw[if_pos ⟨c1,c2,c3,c4,c5,c6,c7,c8,c9,hok'⟩,←he];unfold FE;rw[hcf]
   .cases he
  .cases he
 .exact⟨[],λp hp=>by simp at hp,λO' _=>by unfold LM;exact he⟩
 .cases he
noncomputable def af (K:Nat):RSpec:=⟨LM K,tX K⟩
theorem iT {w w':World} (h:Bl w.heap.size w w'):∃q os,w'=Go.Sort.grow (w.drewN q) os:=by
 refine⟨w'.drawn-w.drawn,w'.heap.extract w.heap.size w'.heap.size,?_⟩;obtain⟨⟨e1,e2,e3,e4,e5⟩,e6⟩:=h;have hh:w'.heap=w.heap++w'.heap.extract w.heap.size w'.heap.size:=by
  apply A0W;intro k;by_cases hk:k<w.heap.size
  .rw[Array.getElem?_append_left hk,e5 k hk]
  .rw[Array.getElem?_append_right (by omega),Array.getElem?_extract];by_cases Dv:k<w'.heap.size
   .rw[if_pos (by omega)];congr 1;omega
   .rw[if_neg (by omega),Array.getElem?_eq_none (by omega)]
 obtain⟨hp,tp,dr,os,ou⟩:=w';obtain⟨hp0,tp0,dr0,os0,ou0⟩:=w;simp only at e1 e2 e3 e4 e6 hh;subst e1 e2 e3;simp only[Go.Sort.grow,World.drewN];congr 1;omega
theorem VL {w:World} {blk off:Nat} {F cur:Array Value} {t:TypeId} (h:w.heap[blk]?=some (.cells cur t (0,0))) :
  Go.Sort.putRow id w blk off F=w.setRow blk (Go.Sort.putCells id off F cur):=by
 unfold Go.Sort.putRow Go.Sort.mapBlock World.setRow;congr 1;apply A0W;intro k;simp only[Array.getElem?_modify];by_cases hk:blk=k
 .subst hk;rw[if_pos rfl,if_pos rfl,h];rfl
 .rw[if_neg hk,if_neg hk]
theorem bX {off:Nat} {F cur:Array Value} {k:Nat}:(Go.Sort.putCells id off F cur)[k]?=(cur[k]?).map λx=>if off<=k/\k<off+F.size then F[k-off]! else x:=by
 unfold Go.Sort.putCells;rw[Array.getElem?_mapIdx];rfl
theorem ZL {off:Nat} {F cur:Array Value}:(Go.Sort.putCells id off F cur).size=cur.size:=by
 unfold Go.Sort.putCells;simp
end Go.Abs
namespace Go.Abs
def RSpec.of (run:List AV->AH->Option (AV×AH)):RSpec:=⟨λ_=>run,λ_ _ _ _ he=>⟨[],λ_ hp=>(nomatch hp),λ_ _=>he⟩⟩
def Pv (K bytes:Nat) (args:List AV) (h:AH):Option (AV×AH) :=
 match args with
 | [s,.int .i64 i,.vs _ z [x]] =>
  if z=K/\x.isAgg=true then
   match s with
   | .sl k n off len =>
    match h.fams[k]? with
    |some f =>
     if f.xs.length=n/\off=0/\len=n/\0<n/\f.wr=true/\f.sz=K/\0<=i/\i<=n/\(n+1)*bytes<=H3/\n+1<=maxLen then
      some (.sl k (n+1) 0 (n+1),{h with fams:=h.fams.set k {f with xs:=f.xs.take i.toNat++x::f.xs.drop i.toNat}})
     else none
    |none=>none
   | .vs true _ []=>if i=0/\bytes<=H3 then some (.sl h.fams.length 1 0 1,{h with fams:=h.fams++[⟨[x],K,true⟩]})else none
   |_=>none
  else none
 |_=>none
def mY (K bytes:Nat):RSpec:=.of (Pv K bytes)
def UE (K bytes:Nat) (args:List AV) (h:AH):Option (AV×AH) :=
 match args with
 | [.vs true z [],i,x]=>Pv K bytes [.vs true z [],i,x] h
 |_=>none
def kz (K bytes:Nat):RSpec:=.of (UE K bytes)
def SI (K bytes:Nat) (args:List AV) (h:AH):Option (AV×AH) :=
 match args with
 | [.vs true z [],.int .i64 n] =>
  if n=0 then some (.vs true z [],h)
  else if 0<n/\n*bytes<=H3/\n<=maxLen then some (.sl h.fams.length 0 0 0,{h with fams:=h.fams++[⟨[],K,false⟩]})
  else none
 |_=>none
def Zn (K bytes:Nat):RSpec:=.of (SI K bytes)
end Go.Abs
namespace Go.Abs.Q
open Go.Proofs
def V4 (a b:ByteArray):Int:=if Op.bytesLess a.toList b.toList then -1 else if a.toList=b.toList then 0 else 1
def dC:List AV->Option AV
 | [.str a,.str b]=>some (.int .i64 (V4 a b))
 |_=>none
def dD:List AV->Option AV
 | [.str a,.str b]=>match b.data.toList with | [c]=>some (.bool (a.data.toList.contains c))|_=>none
 |_=>none
def Qk (f:FuncId):Option (List AV->Option AV):=if f=Y5 then some dC else if f=Bs then some dD else none
noncomputable def YU (f:FuncId):Option RSpec:=if f=D9 then some (af 4)else if f=N5 then some (mY 4 56)else if f=O7 then some (kz 5 64)else if f=Q1 then some (Zn 4 56)else none
noncomputable def Q:Cfg:=⟨BQ,D6,Qk,YU⟩
theorem Qr (f:FuncId):Q.code f=BQ f:=by
 simp only[Q]
theorem Uq (f:FuncId):Q.spec f=Qk f:=by
 simp only[Q]
@[simp] theorem ZP (f:FuncId):Q.ctx f=D6 f:=by
 simp only[Q]
@[simp] theorem A0K (f:FuncId):(D6 f).raw=C2:=_root_.id rfl
@[simp] theorem A0I (f:FuncId):(D6 f).mutApp=ZB f:=_root_.id rfl
@[simp] theorem yn (f:FuncId):(D6 f).rawv=Lk f:=_root_.id rfl
@[simp] theorem A0J (f:FuncId):(D6 f).noB=Ds:=_root_.id rfl
@[simp] theorem ctxF_ro (f:FuncId):(D6 f).ro=pe f:=_root_.id rfl
theorem lQ {f:FuncId} {s:List AV->Option AV} (h:Qk f=some s) {args:G4} {r:AV} (hr:s args=some r):pc Q f args=some r:=by
 apply wc;unfold OR;have e:Q.spec f=some s:=h;rw[e];exact hr
theorem yE (a b:J3):pc Q Y5 [.str a,.str b]=some (.int .i64 (V4 a b)):=lQ (s:=dC) rfl rfl
theorem yG (a:J3) (c:UInt8):pc Q Bs [.str a,.str ⟨#[c]⟩]=some (.bool (a.data.toList.contains c)):=lQ (s:=dD) rfl rfl
theorem OT {f:FuncId} {s:RSpec} (hc:BQ f=none) (hs:YU f=some s) {args:G4} {h:AH} {x:AV×AH} (hr:s.run (K8 Q) args h=some x):rc Q f args h=some x:=by
 apply wh;unfold Sl;have e1:Q.code f=none:=(Qr f).trans hc;have e2:Q.rspec f=some s:=hs;rw[e1];simp only[e2];exact hr
theorem jU {f:FuncId} {rf:RFunc} {args:G4} {r:AV} (hc:BQ f=some rf) (hs:Qk f=none) (hl:args.length<=rf.ntmps)
  (H:∀fr:Fr,fr.length=rf.ntmps->(∀i,A0 fr i=args.getD i C5)->B7 (A2 (K8 Q) (D6 f) rf.body (fr,⟨[],[]⟩)) (kK rf.results r)):pc Q f args=some r :=
 vW (C:=Q) ((Uq f).trans hs) ((Qr f).trans hc) hl λfr h1 h2=>by
  rw[ZP];exact H fr h1 h2
theorem rcQ {f:FuncId} {rf:RFunc} {args:G4} {h:AH} {Φ:AV->AH->Prop} (hc:BQ f=some rf) (hl:args.length<=rf.ntmps)
  (H:∀fr:Fr,fr.length=rf.ntmps->(∀i,A0 fr i=args.getD i C5)->B7 (A2 (K8 Q) (D6 f) rf.body (fr,h)) (dY rf.results Φ)):∃v h',rc Q f args h=some (v,h')/\Φ v h' :=
 vw (C:=Q) ((Qr f).trans hc) hl λfr h1 h2=>by
  rw[ZP];exact H fr h1 h2
theorem H8 {f:FuncId} (rf:RFunc) {a r:AV} (H:∀fr:Fr,fr.length=rf.ntmps->A0 fr 0=a->B7 (A2 (K8 Q) (D6 f) rf.body (fr,⟨[],[]⟩)) (kK rf.results r)) (hl:1<=rf.ntmps:=by decide) (hs:Qk f=none:=by rfl) (hc:BQ f=some rf:=by kernel_rfl):pc Q f [a]=some r:=
 jU hc hs hl λfr h1 h2=>H fr h1 (h2 0)
theorem M9 {f:FuncId} (rf:RFunc) {a b r:AV} (H:∀fr:Fr,fr.length=rf.ntmps->A0 fr 0=a->A0 fr 1=b->B7 (A2 (K8 Q) (D6 f) rf.body (fr,⟨[],[]⟩)) (kK rf.results r)) (hl:2<=rf.ntmps:=by decide) (hs:Qk f=none:=by rfl) (hc:BQ f=some rf:=by kernel_rfl):pc Q f [a,b]=some r:=
 jU hc hs hl λfr h1 h2=>H fr h1 (h2 0) (h2 1)
theorem Gp {f:FuncId} (rf:RFunc) {a b c r:AV} (H:∀fr:Fr,fr.length=rf.ntmps->A0 fr 0=a->A0 fr 1=b->A0 fr 2=c->B7 (A2 (K8 Q) (D6 f) rf.body (fr,⟨[],[]⟩)) (kK rf.results r)) (hl:3<=rf.ntmps:=by decide) (hs:Qk f=none:=by rfl) (hc:BQ f=some rf:=by kernel_rfl):pc Q f [a,b,c]=some r:=
 jU hc hs hl λfr h1 h2=>H fr h1 (h2 0) (h2 1) (h2 2)
theorem GV {f:FuncId} (rf:RFunc) {a:AV} {Φ:AV->Prop} (H:∀Ψ:AV->Prop,(∀v,Φ v->Ψ v)->∀fr:Fr,fr.length=rf.ntmps->A0 fr 0=a->B7 (A2 (K8 Q) (D6 f) rf.body (fr,⟨[],[]⟩)) (gw rf.results Ψ)) (hl:1<=rf.ntmps:=by decide) (hs:Qk f=none:=by rfl) (hc:BQ f=some rf:=by kernel_rfl):∃v,pc Q f [a]=some v/\Φ v:=
 QF (C:=Q) ((Uq _).trans hs) ((Qr _).trans hc) hl λΨ hΨ fr h1 h2=>by rw[ZP];exact H Ψ hΨ fr h1 (h2 0)
theorem Sk {f:FuncId} (rf:RFunc) {a b:AV} {Φ:AV->Prop} (H:∀Ψ:AV->Prop,(∀v,Φ v->Ψ v)->∀fr:Fr,fr.length=rf.ntmps->A0 fr 0=a->A0 fr 1=b->B7 (A2 (K8 Q) (D6 f) rf.body (fr,⟨[],[]⟩)) (gw rf.results Ψ)) (hl:2<=rf.ntmps:=by decide) (hs:Qk f=none:=by rfl) (hc:BQ f=some rf:=by kernel_rfl):∃v,pc Q f [a,b]=some v/\Φ v:=
 QF (C:=Q) ((Uq _).trans hs) ((Qr _).trans hc) hl λΨ hΨ fr h1 h2=>by rw[ZP];exact H Ψ hΨ fr h1 (h2 0) (h2 1)
theorem WL {f:FuncId} (rf:RFunc) {a b c:AV} {Φ:AV->Prop} (H:∀Ψ:AV->Prop,(∀v,Φ v->Ψ v)->∀fr:Fr,fr.length=rf.ntmps->A0 fr 0=a->A0 fr 1=b->A0 fr 2=c->B7 (A2 (K8 Q) (D6 f) rf.body (fr,⟨[],[]⟩)) (gw rf.results Ψ)) (hl:3<=rf.ntmps:=by decide) (hs:Qk f=none:=by rfl) (hc:BQ f=some rf:=by kernel_rfl):∃v,pc Q f [a,b,c]=some v/\Φ v:=
 QF (C:=Q) ((Uq _).trans hs) ((Qr _).trans hc) hl λΨ hΨ fr h1 h2=>by rw[ZP];exact H Ψ hΨ fr h1 (h2 0) (h2 1) (h2 2)
theorem gD {f:FuncId} (rf:RFunc) {a:AV} {h:AH} {Φ:AV->AH->Prop} (H:∀fr:Fr,fr.length=rf.ntmps->A0 fr 0=a->B7 (A2 (K8 Q) (D6 f) rf.body (fr,h)) (dY rf.results Φ)) (hl:1<=rf.ntmps:=by decide) (hc:BQ f=some rf:=by kernel_rfl):∃v h',rc Q f [a] h=some (v,h')/\Φ v h':=
 rcQ hc hl λfr h1 h2=>H fr h1 (h2 0)
theorem Df {f:FuncId} (rf:RFunc) {a b:AV} {h:AH} {Φ:AV->AH->Prop} (H:∀fr:Fr,fr.length=rf.ntmps->A0 fr 0=a->A0 fr 1=b->B7 (A2 (K8 Q) (D6 f) rf.body (fr,h)) (dY rf.results Φ)) (hl:2<=rf.ntmps:=by decide) (hc:BQ f=some rf:=by kernel_rfl):∃v h',rc Q f [a,b] h=some (v,h')/\Φ v h':=
 rcQ hc hl λfr h1 h2=>H fr h1 (h2 0) (h2 1)
theorem cn {f:FuncId} (rf:RFunc) {a b c:AV} {h:AH} {Φ:AV->AH->Prop} (H:∀fr:Fr,fr.length=rf.ntmps->A0 fr 0=a->A0 fr 1=b->A0 fr 2=c->B7 (A2 (K8 Q) (D6 f) rf.body (fr,h)) (dY rf.results Φ)) (hl:3<=rf.ntmps:=by decide) (hc:BQ f=some rf:=by kernel_rfl):∃v h',rc Q f [a,b,c] h=some (v,h')/\Φ v h':=
 rcQ hc hl λfr h1 h2=>H fr h1 (h2 0) (h2 1) (h2 2)
end Go.Abs.Q
namespace Go.Abs.Q
attribute [local simp] E6 E7 fin K1 H4
def Hw (a b:Int):Int:=if a<b then -1 else if b<a then 1 else 0
theorem SV (a b:Int):pc Q Gi [.int .i64 a,.int .i64 b]=some (.int .i64 (Hw a b)):=by
 refine jU ZJ rfl (by simp[Rt]) λfr hl ha=>?_;have h0:=ha 0;have h1:=ha 1;simp[Rt]at hl h0 h1 ⊢;by_cases h:a<b
 .simp[*,Hw]
 .by_cases h':b<a<;>simp[*,Hw]
theorem Kd (a b:Int):pc Q Bp [.int .i64 a,.int .i64 b]=some (.int .i64 (Hw a b)):=by
 refine jU VN rfl (by simp[Nb]) λfr hl ha=>?_;have h0:=ha 0;have h1:=ha 1;simp[Nb]at hl h0 h1 ⊢;by_cases h:a<b
 .simp[*,Hw]
 .by_cases h':b<a<;>simp[*,Hw]
theorem cM:∀(n:Nat) (t:Tm),t.size<=n->t.size<=1099511627776->pc Q JA [B8 t]=some (.int .i64 t.size):=by
 intro n
 induction n with
 |zero=>intro t h;have:=t.size_pos;omega
 |succ n ih =>
  intro t hn hb;obtain⟨k,nm,s,m,kids⟩:=t;have J5:Tm.size (.mk k nm s m kids)=1+Tm.sizes kids:=rfl;refine H8 WG λfr hl h0=>?_;simp[WG,B8]at hl h0 ⊢;simp[*];refine(ZN (Ψ:=λe fr h=>e=.exit 0/\A0 fr 3=.int .i64 (1+Tm.sizes kids:Nat)/\fr.length=19) kids
   (λdone fr h=>fr.length=19/\A0 fr 3=.int .i64 (1+Tm.sizes done:Nat)/\A0 fr 7=sl m 4 (A4 kids)/\A0 fr 8=.int .i64 kids.length/\A0 fr 9=.int .i64 done.length) ?_ ?_ _ _ ?_).mono ?_
  .rintro fr h ⟨hl,h3,h7,h8,h9⟩;simp[PE, *]
  .rintro done t rest he fr h ⟨hl,h3,h7,h8,h9⟩;have hget:Hm (A4 kids) done.length=some (B8 t):=Gn (by rw[←he];simp);have A7:done.length<kids.length:=by rw[←he];simp
   have hts:t.size<=Tm.sizes kids:=Tm.size_le (by rw[←he];simp);have hT:=ih t (by omega) (by omega);have B9:=Tm.length_le kids;have hsum:Tm.sizes done+(t.size+Tm.sizes rest)=Tm.sizes kids:=by rw[←he,Tm.sizes_append];rfl
   have hw1:IntKind.i64.wrap (1+(Tm.sizes done:Int)+(t.size:Int))=1+(Tm.sizes (done++[t]):Int):=by
    rw[Tm.sizes_append,V0 (by omega) (by omega)];simp only[Tm.sizes];omega
   have hw2:IntKind.i64.wrap ((done.length:Int)+1)=((done++[t]).length:Nat):=by
    rw[V0 (by omega) (by omega)];simp
   obtain⟨tk,tn,ts,tm,tl⟩:=t;simp only[B8]at hT hget;simp[PE, *]
  .simp[*,Tm.sizes,C9]
  .rintro e fr h ⟨rfl,h3,hl⟩;simp[*]
theorem QG:∀(n:Nat) (t:Tm),t.size<=n->t.size<=1099511627776->pc Q Ez [B8 t]=some (.int .i64 t.size):=by
 intro n
 induction n with
 |zero=>intro t h;have:=t.size_pos;omega
 |succ n ih =>
  intro t hn hb;obtain⟨k,nm,s,m,kids⟩:=t;have J5:Tm.size (.mk k nm s m kids)=1+Tm.sizes kids:=rfl;refine H8 Uh λfr hl h0=>?_;simp[Uh,B8]at hl h0 ⊢;simp[h0];refine(ZN (Ψ:=λe fr h=>e=.exit 0/\A0 fr 3=.int .i64 (1+Tm.sizes kids:Nat)/\fr.length=21) kids
   (λdone fr h=>fr.length=21/\A0 fr 1=.ptr 0 0/\h=⟨[[.int .i64 k,.str nm,.int .i64 s,sl m 4 (A4 kids)]],[]⟩/\A0 fr 3=.int .i64 (1+Tm.sizes done:Nat)/\A0 fr 4=.int .i64 done.length) ?_ ?_ _ _ ?_).mono ?_
  .rintro fr h ⟨hl,h1,rfl,h3,h4⟩;simp[NZ,C9, *]
  .rintro done t rest he fr h ⟨hl,h1,rfl,h3,h4⟩;have hget:Hm (A4 kids) done.length=some (B8 t):=Gn (by rw[←he];simp);have A7:done.length<kids.length:=by rw[←he];simp
   have hts:t.size<=Tm.sizes kids:=Tm.size_le (by rw[←he];simp);have hT:=ih t (by omega) (by omega);have B9:=Tm.length_le kids;have hsum:Tm.sizes done+(t.size+Tm.sizes rest)=Tm.sizes kids:=by rw[←he,Tm.sizes_append];rfl
   have hw1:IntKind.i64.wrap (1+(Tm.sizes done:Int)+(t.size:Int))=1+(Tm.sizes (done++[t]):Int):=by
    rw[Tm.sizes_append,V0 (by omega) (by omega)];simp only[Tm.sizes];omega
   have hw2:IntKind.i64.wrap ((done.length:Int)+1)=((done++[t]).length:Nat):=by
    rw[V0 (by omega) (by omega)];simp
   obtain⟨tk,tn,ts,tm,tl⟩:=t;simp only[B8]at hT hget;simp[NZ, *]
  .simp[*,Tm.sizes]
  .rintro e fr h ⟨rfl,h3,hl⟩;simp[*]
theorem SW (a b:J3):pc Q Jj [.str a,.str b]=some (.int .i64 (V4 a b)):=by
 refine M9 OW λfr hl h0 h1=>?_;simp[OW]at hl h0 h1 ⊢;simp[*,yE]
def nz (a b:Int):Int:=if a=0 then b else a
mutual
def H6:Tm->Tm->Int
 | .mk k n s _ l,.mk k' n' s' _ l'=>nz (Hw (1+Tm.sizes l:Nat) (1+Tm.sizes l':Nat)) (nz (Hw k k') (nz (V4 n n') (nz (Hw s s') (nz (Hw l.length l'.length) (Ix l l')))))
def Ix:List Tm->List Tm->Int
 |t::l,t'::l'=>nz (H6 t t') (Ix l l')
 |_,_=>0
end
theorem Ty {a b:Nat} (h:Hw (a:Int) (b:Int)=0):a=b:=by
 unfold Hw at h;split at h
 .omega
 .split at h<;>omega
theorem SF (l:G6):Ix [] l=0:=by cases l<;>rfl
theorem x7:∀(n:Nat) (t t':Tm),t.size<=n->t.size<=1099511627776->t'.size<=1099511627776->pc Q C4 [B8 t,B8 t']=some (.int .i64 (H6 t t')):=by
 intro n
 induction n with
 |zero=>intro t t' h;have:=t.size_pos;omega
 |succ n ih =>
  intro t t' hn hb hb';have hS:=cM _ t (A0R _) hb;have hS':=cM _ t' (A0R _) hb';obtain⟨k,nm,s,m,l⟩:=t;obtain⟨k',nm',s',m',l'⟩:=t';have J5:Tm.size (.mk k nm s m l)=1+Tm.sizes l:=rfl;have hsz':Tm.size (.mk k' nm' s' m' l')=1+Tm.sizes l':=rfl;have B9:=Tm.length_le l;simp only[B8,J5,hsz']at hS hS';have loop:∀(fr:Fr) (c:Int),fr.length=65->A0 fr 2=.ptr 0 0->A0 fr 3=.ptr 1 0->A0 fr 5=.int .i64 c->A0 fr 6=.int .i64 0->(c=0->l.length=l'.length) ->
    B7 (lp (A2 (K8 Q) (D6 C4) Ee) (fr,⟨[[.int .i64 k,.str nm,.int .i64 s,sl m 4 (A4 l)],[.int .i64 k',.str nm',.int .i64 s',sl m' 4 (A4 l')]],[]⟩))
     λe C3 _=>e=.exit 0/\C3.length=65/\A0 C3 5=.int .i64 (nz c (Ix l l')):=by
   intro fr c hl h2 h3 h5 h6 hc;refine Pj (λn fr h=>∃i c',i+n=l.length/\fr.length=65/\A0 fr 2=.ptr 0 0/\A0 fr 3=.ptr 1 0/\A0 fr 5=.int .i64 c'/\A0 fr 6=.int .i64 (i:Nat)/\(c'=0->l.length=l'.length) /\
    nz c' (Ix (l.drop i) (l'.drop i))=nz c (Ix l l')/\h=⟨[[.int .i64 k,.str nm,.int .i64 s,sl m 4 (A4 l)],[.int .i64 k',.str nm',.int .i64 s',sl m' 4 (A4 l')]],[]⟩) ?_ l.length fr _ ⟨0,c,by omega,hl,h2,h3,h5,h6,hc,rfl,rfl⟩
   rintro n fr h ⟨i,c',hi,hl,h2,h3,h5,h6,hc',hr,rfl⟩;by_cases hc0:c'=0
   .subst hc0;have OI:=hc' rfl;by_cases A7:i<l.length
    .have hx:Hm (A4 l) i=some (B8 l[i]):=Gn (by simp[A7]);have hx':Hm (A4 l') i=some (B8 (l'[i]'(by omega))):=Gn (by simp[show i<l'.length by omega]);have s1:=Tm.size_le (A0Q A7);have s2:=Tm.size_le (A0Q (show i<l'.length by omega));have hT:=ih l[i] (l'[i]'(by omega)) (by omega) (by omega) (by omega);have hw:=C6 i (by omega);rw[A0O A7,A0O (show i<l'.length by omega)]at hr;simp only[Ix,nz,if_true]at hr;generalize l[i]=t at *
     generalize l'[i]'(by omega)=t' at *
     obtain⟨tk,tn,ts,tm,tl⟩:=t;obtain⟨tk',tn',ts',tm',tl'⟩:=t';simp only[B8]at hT hx hx';clear ih hS hS' hc J5 hsz';simp[Ee,hl,h2,h3,h5,h6,A7,hx,hx',hT,hw];exact⟨n-1,by omega,i+1,by omega,by simp,λ_=>OI,hr⟩
    .have h0:l.length<=i:=by omega
     rw[A0P h0,SF]at hr;clear ih hS hS' hc J5 hsz' OI hc';simp[Ee,hl,h2,h3,h5,h6,A7];exact hr
   .clear ih hS hS' hc J5 hsz';simp[Ee, *];simpa[nz,hc0]using hr
  refine jU VO rfl (by simp[Nl]) λfr hl ha=>?_;have h0:=ha 0;have h1:=ha 1;clear ha ih;simp[Nl,B8]at hl h0 h1 ⊢;by_cases e0:Hw (1+(Tm.sizes l:Int)) (1+(Tm.sizes l':Int))=0
  .by_cases e1:Hw k k'=0
   .by_cases e2:V4 nm nm'=0
    .by_cases e3:Hw s s'=0
     .by_cases e4:Hw (l.length:Int) (l'.length:Int)=0
      .simp[e0,e1,e2,e3,e4,h0,h1,hl,hS,hS',SV,SW];refine(loop _ (0) (by simp[hl]) (by simp[hl]) (by simp[hl]) (by simp[hl]) (by simp[hl]) ?_).mono ?_
       .intro hc;exact Ty e4
       .rintro e fr h ⟨rfl,hl,h5⟩;simp[hl,h5,H6,nz,e0,e1,e2,e3,e4]
      .simp[e0,e1,e2,e3,h0,h1,hl,hS,hS',SV,SW];refine(loop _ (Hw (l.length:Int) (l'.length:Int)) (by simp[hl]) (by simp[hl]) (by simp[hl]) (by simp[hl]) (by simp[hl]) ?_).mono ?_
       .intro hc;exact absurd hc e4
       .rintro e fr h ⟨rfl,hl,h5⟩;simp[hl,h5,H6,nz,e0,e1,e2,e3,e4]
     .simp[e0,e1,e2,e3,h0,h1,hl,hS,hS',SV,SW];refine(loop _ (Hw s s') (by simp[hl]) (by simp[hl]) (by simp[hl]) (by simp[hl]) (by simp[hl]) ?_).mono ?_
      .intro hc;exact absurd hc e3
      .rintro e fr h ⟨rfl,hl,h5⟩;simp[hl,h5,H6,nz,e0,e1,e2,e3]
    .simp[e0,e1,e2,h0,h1,hl,hS,hS',SV,SW];refine(loop _ (V4 nm nm') (by simp[hl]) (by simp[hl]) (by simp[hl]) (by simp[hl]) (by simp[hl]) ?_).mono ?_
     .intro hc;exact absurd hc e2
     .rintro e fr h ⟨rfl,hl,h5⟩;simp[hl,h5,H6,nz,e0,e1,e2]
   .simp[e0,e1,h0,h1,hl,hS,hS',SV];refine(loop _ (Hw k k') (by simp[hl]) (by simp[hl]) (by simp[hl]) (by simp[hl]) (by simp[hl]) ?_).mono ?_
    .intro hc;exact absurd hc e1
    .rintro e fr h ⟨rfl,hl,h5⟩;simp[hl,h5,H6,nz,e0,e1]
  .simp[e0,h0,h1,hl,hS,hS',SV];refine(loop _ (Hw (1+(Tm.sizes l:Int)) (1+(Tm.sizes l':Int))) (by simp[hl]) (by simp[hl]) (by simp[hl]) (by simp[hl]) (by simp[hl]) ?_).mono ?_
   .intro hc;exact absurd hc e0
   .rintro e fr h ⟨rfl,hl,h5⟩;simp[hl,h5,H6,nz,e0]
theorem Sx:∀(n:Nat) (t t':Tm),t.size<=n->t.size<=1099511627776->t'.size<=1099511627776->pc Q At [B8 t,B8 t']=some (.int .i64 (H6 t t')):=by
 intro n
 induction n with
 |zero=>intro t t' h;have:=t.size_pos;omega
 |succ n ih =>
  intro t t' hn hb hb';have hS:=QG _ t (A0R _) hb;have hS':=QG _ t' (A0R _) hb';obtain⟨k,nm,s,m,l⟩:=t;obtain⟨k',nm',s',m',l'⟩:=t';have J5:Tm.size (.mk k nm s m l)=1+Tm.sizes l:=rfl;have hsz':Tm.size (.mk k' nm' s' m' l')=1+Tm.sizes l':=rfl;have B9:=Tm.length_le l;simp only[B8,J5,hsz']at hS hS';have loop:∀(fr:Fr),fr.length=76->A0 fr 2=.ptr 0 0->A0 fr 3=.ptr 1 0->A0 fr 9=.int .i64 0->l.length=l'.length ->
    B7 (lp (A2 (K8 Q) (D6 At) DN) (fr,⟨[[.int .i64 k,.str nm,.int .i64 s,sl m 4 (A4 l)],[.int .i64 k',.str nm',.int .i64 s',sl m' 4 (A4 l')]],[]⟩))
     λe C3 _=>C3.length=76/\(e=.exit 0/\Ix l l'=0\/e=.ret/\A0 C3 4=.int .i64 (Ix l l')):=by
   intro fr hl h2 h3 h9 OI;refine Pj (λn fr h=>∃i,i+n=l.length/\fr.length=76/\A0 fr 2=.ptr 0 0/\A0 fr 3=.ptr 1 0/\A0 fr 9=.int .i64 (i:Nat) /\
    Ix (l.drop i) (l'.drop i)=Ix l l'/\h=⟨[[.int .i64 k,.str nm,.int .i64 s,sl m 4 (A4 l)],[.int .i64 k',.str nm',.int .i64 s',sl m' 4 (A4 l')]],[]⟩) ?_ l.length fr _ ⟨0,by omega,hl,h2,h3,h9,rfl,rfl⟩
   rintro n fr h ⟨i,hi,hl,h2,h3,h9,hr,rfl⟩;by_cases A7:i<l.length
   .have hx:Hm (A4 l) i=some (B8 l[i]):=Gn (by simp[A7]);have hx':Hm (A4 l') i=some (B8 (l'[i]'(by omega))):=Gn (by simp[show i<l'.length by omega]);have s1:=Tm.size_le (A0Q A7);have s2:=Tm.size_le (A0Q (show i<l'.length by omega));have hT:=ih l[i] (l'[i]'(by omega)) (by omega) (by omega) (by omega);have hw:=C6 i (by omega);rw[A0O A7,A0O (show i<l'.length by omega)]at hr;simp only[Ix,nz]at hr;generalize l[i]=t at *
    generalize l'[i]'(by omega)=t' at *
    obtain⟨tk,tn,ts,tm,tl⟩:=t;obtain⟨tk',tn',ts',tm',tl'⟩:=t';simp only[B8]at hT hx hx';by_cases hc:H6 (Tm.mk tk tn ts tm tl) (Tm.mk tk' tn' ts' tm' tl')=0
    .rw[if_pos hc]at hr;simp[DN,hl,h2,h3,h9,A7,hx,hx',hT,hw,hc];exact⟨n-1,by omega,i+1,by omega,by simp,hr⟩
    .rw[if_neg hc]at hr;simp[DN,hl,h2,h3,h9,A7,hx,hx',hT,hc];exact hr
   .have h0:l.length<=i:=by omega
    rw[A0P h0,SF]at hr;simp[DN,hl,h2,h3,h9,A7];exact hr.symm
  refine jU UX rfl (by simp[Lz]) λfr hl ha=>?_;have h0:=ha 0;have h1:=ha 1;clear ha ih;simp[Lz,B8]at hl h0 h1 ⊢;by_cases e0:Hw (1+(Tm.sizes l:Int)) (1+(Tm.sizes l':Int))=0
  .by_cases e1:Hw k k'=0
   .by_cases e2:Op.bytesLess nm.toList nm'.toList=true
    .simp[e0,e1,e2,h0,h1,hl,hS,hS',Kd];simp[H6,nz,e0,e1,e2,V4]
    .by_cases e3:nm.toList=nm'.toList
     .have e2':=e2;rw[e3]at e2';by_cases e5:Hw s s'=0
      .by_cases e4:Hw (l.length:Int) (l'.length:Int)=0
       .simp[e0,e1,e2',e3,e5,e4,h0,h1,hl,hS,hS',Kd];refine(loop _ (by simp[hl]) (by simp[hl]) (by simp[hl]) (by simp[hl]) (Ty e4)).mono ?_;rintro e fr h ⟨hl,⟨rfl,hz⟩|⟨rfl,h5⟩⟩
        .simp[hl,H6,nz,e0,e1,e2',e3,e5,e4,V4,hz]
        .simp[h5,H6,nz,e0,e1,e2',e3,e5,e4,V4]
       .simp[e0,e1,e2',e3,e5,e4,h0,h1,hl,hS,hS',Kd];simp[H6,nz,e0,e1,e2',e3,e5,e4,V4]
      .simp[e0,e1,e2',e3,e5,h0,h1,hl,hS,hS',Kd];simp[H6,nz,e0,e1,e2',e3,e5,V4]
     .simp[e0,e1,e2,e3,h0,h1,hl,hS,hS',Kd];simp[H6,nz,e0,e1,e2,e3,V4]
   .simp[e0,e1,h0,h1,hl,hS,hS',Kd];simp[H6,nz,e0,e1]
  .simp[e0,h0,h1,hl,hS,hS',Kd];simp[H6,nz,e0]
def JQ (t t':Tm):Bool:=decide (H6 t t'=0)
def TQ:List Tm->List Tm->Bool
 | [],[]=>true
 |t::l,t'::l'=>JQ t t'&&TQ l l'
 |_,_=>false
theorem eC:∀{l l':G6},TQ l l'=true->l.length=l'.length
 | [],[],_=>rfl
 | [],_::_,h=>by simp[TQ]at h
 |_::_,[],h=>by simp[TQ]at h
 |_::_,_::_,h=>by simp[TQ]at h;simp[eC h.2]
theorem Wi (t t':Tm) (h:t.size<=1099511627776) (h':t'.size<=1099511627776):pc Q Ey [B8 t,B8 t']=some (.bool (JQ t t')):=by
 have hC:=Sx _ t t' (A0R _) h h';refine jU YR rfl (by simp[QP]) λfr hl ha=>?_;have h0:=ha 0;have h1:=ha 1;clear ha h h';obtain⟨tk,tn,ts,tm,tl⟩:=t;obtain⟨tk',tn',ts',tm',tl'⟩:=t';simp only[B8]at hC;simp[QP,B8]at hl h0 h1 ⊢;simp[h0,h1,hl,hC,JQ]
theorem sJ (m m':I6) (l l':G6) (h:Tm.sizes l<=1099511627776) (h':Tm.sizes l'<=1099511627776) :
  pc Q Ob [sl m 4 (A4 l),sl m' 4 (A4 l')]=some (.bool (TQ l l')):=by
 refine M9 TG λfr hl h0 h1=>?_;simp[TG]at hl h0 h1 ⊢;have B9:=Tm.length_le l;by_cases OI:l.length=l'.length
 .have hle':(l.length:Int)=(l'.length:Int):=by omega
  simp[h0,h1,hl,OI];refine(Pj (Ψ:=λe fr h=>fr.length=27/\(e=.exit 0/\TQ l l'=true\/e=.ret/\A0 fr 4=.bool false/\TQ l l'=false))
   (λn fr h=>∃i,i+n=l.length/\fr.length=27/\A0 fr 0=sl m 4 (A4 l)/\A0 fr 1=sl m' 4 (A4 l')/\A0 fr 5=.int .i64 (i:Nat)/\TQ (l.drop i) (l'.drop i)=TQ l l') ?_ l.length _ _ ?_).mono ?_
  .rintro n fr h ⟨i,hi,hl,h0,h1,h5,hr⟩;by_cases A7:i<l.length
   .have hx:Hm (A4 l) i=some (B8 l[i]):=Gn (by simp[A7]);have hx':Hm (A4 l') i=some (B8 (l'[i]'(by omega))):=Gn (by simp[show i<l'.length by omega]);have s1:=Tm.size_le (A0Q A7);have s2:=Tm.size_le (A0Q (show i<l'.length by omega));have hT:=Wi l[i] (l'[i]'(by omega)) (by omega) (by omega);have hw:=C6 i (by omega);rw[A0O A7,A0O (show i<l'.length by omega)]at hr;simp only[TQ]at hr;generalize l[i]=t at *
    generalize l'[i]'(by omega)=t' at *
    obtain⟨tk,tn,ts,tm,tl⟩:=t;obtain⟨tk',tn',ts',tm',tl'⟩:=t';simp only[B8]at hT hx hx';cases hc:JQ (Tm.mk tk tn ts tm tl) (Tm.mk tk' tn' ts' tm' tl')with
    |true =>
     rw[hc]at hT hr;simp[If,hl,h0,h1,h5,A7,hx,hx',hT,hw];exact⟨n-1,by omega,i+1,by omega,by simp,by simpa using hr⟩
    |false =>
     rw[hc]at hT hr;simp[If,hl,h0,h1,h5,A7,hx,hx',hT];simpa using hr.symm
   .have e0:l.length<=i:=by omega
    rw[A0P e0,A0P (by omega)]at hr;simp[If,hl,h0,h5,A7];exact hr.symm
  .exact⟨0,by omega,by simp[hl],by simp[h0],by simp[h1],by simp[hl],rfl⟩
  .rintro e fr h ⟨hl,⟨rfl,he⟩|⟨rfl,h6,he⟩⟩
   .simp[hl,he]
   .simp[h6,he]
 .have hle':¬(l.length:Int)=(l'.length:Int):=by omega
  have hf:TQ l l'=false:=by
   cases hq:TQ l l' with
   |false=>rfl
   |true=>exact absurd (eC hq) OI
  simp[h0,h1,hl,hle',hf]
mutual
def iH:Tm->Int->Int
 | .mk _ n _ _ l,most=>if most<=0\/(40:Int)<n.size then -1 else XC l (most-1)
def XC:List Tm->Int->Int
 | [],most=>most
 |t::l,most=>if iH t most<0 then -1 else XC l (iH t most)
end
mutual
theorem iI:∀(t:Tm) (m:Int),iH t m<=m\/iH t m=-1
 | .mk _ n _ _ l,m=>by
  simp only[iH];split
  .exact .inr rfl
  .rcases kT l (m-1)with h|h
   .exact .inl (by omega)
   .exact .inr h
theorem kT:∀(l:G6) (m:Int),XC l m<=m\/XC l m=-1
 | [],m=>.inl (Int.le_refl _)
 |t::l,m=>by
  simp only[XC];split
  .exact .inr rfl
  .rename_i hb;rcases iI t m with h|h
   .rcases kT l (iH t m)with h' | h'
    .exact .inl (by omega)
    .exact .inr h'
   .omega
end
theorem nv:∀(n:Nat) (t:Tm) (most:Int),t.size<=n->t.size<=1099511627776->most<=9223372036854775807->pc Q JY [B8 t,.int .i64 most]=some (.int .i64 (iH t most)):=by
 intro n
 induction n with
 |zero=>intro t _ h;have:=t.size_pos;omega
 |succ n ih =>
  intro t most hn hb hm;obtain⟨k,nm,s,m,kids⟩:=t;have J5:Tm.size (.mk k nm s m kids)=1+Tm.sizes kids:=rfl;have B9:=Tm.length_le kids;refine M9 Gu λfr hl h0 h1=>?_;simp[Gu,B8]at hl h0 h1;by_cases h2:most<=0
  .simp[Gu,hl,h0,h1,h2,iH]
  by_cases h3:(40:Int)<nm.size
  .simp[Gu,hl,h0,h1,h2,h3,iH]
  have hw0:IntKind.i64.wrap (most-1)=most-1:=V0 (by omega) (by omega);simp[Gu,hl,h0,h1,h2,h3,hw0];refine(Pj (Ψ:=λe fr h=>fr.length=33/\(e=.exit 0/\A0 fr 1=.int .i64 (XC kids (most-1))\/e=.ret/\A0 fr 4=.int .i64 (-1)/\XC kids (most-1)=-1))
   (λn fr h=>∃i cur,i+n=kids.length/\fr.length=33/\cur<=9223372036854775807/\A0 fr 1=.int .i64 cur/\A0 fr 2=.ptr 0 0/\A0 fr 5=.int .i64 (i:Nat)/\XC (kids.drop i) cur=XC kids (most-1) /\
    h=⟨[[.int .i64 k,.str nm,.int .i64 s,sl m 4 (A4 kids)]],[]⟩) ?_ kids.length _ _ ?_).mono ?_
  .rintro n fr h ⟨i,cur,hi,hl,hcur,h1,h2,h5,hr,rfl⟩;by_cases A7:i<kids.length
   .have hx:Hm (A4 kids) i=some (B8 kids[i]):=Gn (by simp[A7]);have s1:=Tm.size_le (A0Q A7);have hT:=ih kids[i] cur (by omega) (by omega) hcur;have OI:=iI kids[i] cur;have hw:=C6 i (by omega);rw[A0O A7]at hr;simp only[XC]at hr;generalize kids[i]=t at *
    obtain⟨tk,tn,ts,tm,tl⟩:=t;simp only[B8]at hT hx;by_cases hc:iH (Tm.mk tk tn ts tm tl) cur<0
    .rw[if_pos hc]at hr;simp[HX,hl,h1,h2,h5,A7,hx,hT,hc];exact hr.symm
    .rw[if_neg hc]at hr;simp[HX,hl,h1,h2,h5,A7,hx,hT,hw,hc];refine⟨n-1,by omega,i+1,by omega,_,?_,rfl,by simp,hr⟩;omega
   .have h0:kids.length<=i:=by omega
    rw[A0P h0]at hr;simp only[XC]at hr;simp[HX,hl,h1,h2,h5,A7];exact hr
  .exact⟨0,most-1,by omega,by simp[hl],by omega,by simp[hl],by simp[hl],by simp[hl],rfl,rfl⟩
  .rintro e fr h ⟨hl,⟨rfl,h1⟩|⟨rfl,h4,he⟩⟩
   .simp[hl,h1,iH,h2,h3]
   .simp[h4,he,iH,h2,h3]
def eF:List Tm->Int->Bool
 | [],_=>true
 |t::l,most=>if iH t most<0 then false else eF l (iH t most)
def uu (l:List Tm) (n most:Int):Bool:=if n<l.length then false else eF l most
theorem yB (m:I6) (l:G6) (q most:Int) (h:Tm.sizes l<=1099511627776) (hm:most<=9223372036854775807):pc Q Lf [sl m 4 (A4 l),.int .i64 q,.int .i64 most]=some (.bool (uu l q most)):=by
 have B9:=Tm.length_le l;refine Gp OU λfr hl h0 h1 h2=>?_;simp[OU]at hl h0 h1 h2;by_cases hq:q<l.length
 .simp[OU,hl,h0,h1,hq,uu]
 simp[OU,hl,h0,h1,hq];refine(Pj (Ψ:=λe fr h=>fr.length=26/\(e=.exit 0/\eF l most=true\/e=.ret/\A0 fr 6=.bool false/\eF l most=false))
  (λn fr h=>∃i cur,i+n=l.length/\fr.length=26/\cur<=9223372036854775807/\A0 fr 0=sl m 4 (A4 l)/\A0 fr 2=.int .i64 cur/\A0 fr 7=.int .i64 (i:Nat)/\eF (l.drop i) cur=eF l most) ?_ l.length _ _ ?_).mono ?_
 .rintro n fr h ⟨i,cur,hi,hl,hcur,h0,h2,h7,hr⟩;by_cases A7:i<l.length
  .have hx:Hm (A4 l) i=some (B8 l[i]):=Gn (by simp[A7]);have s1:=Tm.size_le (A0Q A7);have hT:=nv _ l[i] cur (A0R _) (by omega) hcur;have OI:=iI l[i] cur;have hw:=C6 i (by omega);rw[A0O A7]at hr;simp only[eF]at hr;generalize l[i]=t at *
   obtain⟨tk,tn,ts,tm,tl⟩:=t;simp only[B8]at hT hx;by_cases hc:iH (Tm.mk tk tn ts tm tl) cur<0
   .rw[if_pos hc]at hr;simp[LQ,hl,h0,h2,h7,A7,hx,hT,hc];exact hr.symm
   .rw[if_neg hc]at hr;simp[LQ,hl,h0,h2,h7,A7,hx,hT,hw,hc];refine⟨n-1,by omega,i+1,by omega,_,?_,rfl,by simp,hr⟩;omega
  .have e0:l.length<=i:=by omega
   rw[A0P e0]at hr;simp only[eF]at hr;simp[LQ,hl,h0,h7,A7];exact hr.symm
 .exact⟨0,most,by omega,by simp[hl],by omega,by simp[h0],by simp[h2],by simp[hl],rfl⟩
 .rintro e fr h ⟨hl,⟨rfl,he⟩|⟨rfl,h4,he⟩⟩
  .simp[hl,he,uu,hq]
  .simp[h4,he,uu,hq]
theorem dB (h:AH) (m:I6) (sz:Nat) (J5:0<sz) (xs:G4) (lo hi:Option Int):Yb h sz (sl m sz xs) (some lo) (some hi) (some none) =
  if 0<=lo.getD 0/\lo.getD 0<=hi.getD xs.length/\hi.getD xs.length<=xs.length then
   some (sl (m.1&&decide (hi.getD xs.length=xs.length),m.2||!xs.isEmpty) sz ((xs.drop (lo.getD 0).toNat).take (hi.getD xs.length-lo.getD 0).toNat),h)else none:=by
 have hz:(if (xs.isEmpty&&!m.2)=true then 0 else sz)=sz\/xs.length=0:=by
  cases xs with
  |nil=>exact .inr rfl
  |cons x xs=>exact .inl rfl
 simp only[Yb,sl,Ok];rw[if_pos ⟨J5,hz⟩];by_cases hc:0<=lo.getD 0/\lo.getD 0<=hi.getD xs.length/\hi.getD xs.length<=xs.length
 .rw[if_pos hc,if_pos hc];have e:((if (xs.isEmpty&&!m.2)=true then 0 else sz):Nat)=(if (((xs.drop (lo.getD 0).toNat).take (hi.getD xs.length-lo.getD 0).toNat).isEmpty&&!(m.2||!xs.isEmpty))=true then 0 else sz):=by
   cases xs with
   |nil=>simp
   |cons x xs=>simp
  rw[e]
 .rw[if_neg hc,if_neg hc]
theorem slc_drop (h:AH) (m:I6) (sz:Nat) (J5:0<sz) (xs:G4) (k:Nat) (hk:k<=xs.length) :
  Yb h sz (sl m sz xs) (some (some (k:Int))) (some none) (some none)=some (sl (m.1,m.2||!xs.isEmpty) sz (xs.drop k),h):=by
 rw[dB _ _ _ J5];have e:((xs.length:Int)-(k:Int)).toNat=xs.length-k:=by omega
 simp only[A0T,A0Z,decide_true,Bool.and_true,A0X,e];rw[if_pos ⟨by omega,by omega,by omega⟩,List.take_of_length_le (by simp)]
theorem gR (h:AH) (m:I6) (sz:Nat) (J5:0<sz) (xs:G4) (k:Nat) (hk:k<=xs.length) :
  Yb h sz (sl m sz xs) (some none) (some (some (k:Int))) (some none)=some (sl (m.1&&decide (k=xs.length),m.2||!xs.isEmpty) sz (xs.take k),h):=by
 rw[dB _ _ _ J5];have e:decide ((k:Int)=(xs.length:Int))=decide (k=xs.length):=by
  rw[Bool.eq_iff_iff];simp only[decide_eq_true_eq];omega
 simp only[A0T,A0Z,Int.sub_zero,A0X,e,Int.toNat_zero,List.drop_zero];rw[if_pos ⟨by omega,by omega,by omega⟩]
def S9 {α:Type} (p:α->Bool):Nat->List α->Int
 |_,[]=>-1
 |i,a::r=>if p a=true then (i:Int)else S9 p (i+1) r
def idx {α:Type} (p:α->Bool) (l:List α):Int:=S9 p 0 l
theorem Da {α:Type} (p:α->Bool):∀(l:List α) (i:Nat),(0<=S9 p i l)↔l.any p=true
 | [],i=>by simp[S9]
 |a::l,i=>by
  simp only[S9,List.any_cons,Bool.or_eq_true];by_cases h:p a=true
  .simp[h]
  .rw[if_neg h,Da p l (i+1)];simp[h]
end Go.Abs.Q
