/- A part of the proof. -/
import Derived.Test.YtohjdamplbhdpaaGreatDoorSE6
import Derived.Test.YtohjdamplbhdpaaGreatDoorSE7
import Derived.Test.YtohjdamplbhdpaaGreatDoorRows
import Derived.KernelRfl
import Derived.Shelf.SlSortCmp.NoneTotal
import Derived.Lib.Strings
set_option linter.all false
open List renaming drop_eq_getElem_cons->A0Z,drop_eq_nil_of_le->A0a,getElem?_eq_getElem->A0b,getElem_mem->A0c,length_set->A0e,mem_append_right->A0h,mem_append_left->A0i,length_cons->A0m,mem_flatMap->A0n,mem_range->A0q,all_cons->A0s,mem_map->A0u,range->A0v
open Nat renaming le_refl->A0d
open Option renaming getD_some->A0f,getD_none->A0o
open Bool renaming or_eq_true->A0g,or_false->A0r,or_true->A0t
open Array renaming ext_getElem?->A0j
open Int renaming cast_ofNat_Int->A0k,toNat_natCast->A0l
open ByteArray renaming size->A0p
namespace Go.Abs.Q
open Go.Proofs
noncomputable def BU (f:FuncId):Option RFunc:=if rspF f then none else dF Tryz.prog D6 f
theorem WZ:BU IQ=some LX:=by kernel_rfl
theorem YX:BU FJ=some Qa:=by kernel_rfl
theorem Uk:BU Ax=some MI:=by kernel_rfl
theorem Vc:BU C4=some Nv:=by kernel_rfl
theorem Vb:BU Bu=some Nm:=by kernel_rfl
theorem ZQ:BU Gx=some SH:=by kernel_rfl
theorem NV:BU X3=some AR:=by kernel_rfl
theorem YZ:BU BQ=some V5:=by kernel_rfl
theorem YY:BU FM=some FU:=by kernel_rfl
theorem Tp:BU Z5=some Ht:=by kernel_rfl
theorem ZP:BU Gv=some HM:=by kernel_rfl
theorem Wb:BU Dk=some If:=by kernel_rfl
theorem Wa:BU Dj=some LY:=by kernel_rfl
theorem Ul:BU Ff=some Iv:=by kernel_rfl
theorem Rl:BU T8=some FV:=by kernel_rfl
end Go.Abs.Q
namespace Go.Abs
def B6 (r:Option (Ex×St)) (Ψ:Ex->Fr->AH->Prop):Prop:=match r with|some (e,fr,h)=>Ψ e fr h|none=>False
@[congr] theorem xI {r r':Option (Ex×St)} {Ψ:Ex->Fr->AH->Prop} (h:r=r'):B6 r Ψ=B6 r' Ψ:=by rw[h]
@[simp] theorem yq (e:Ex) (fr:Fr) (h:AH) (Ψ:Ex->Fr->AH->Prop):B6 (some (e,fr,h)) Ψ=Ψ e fr h:=_root_.id rfl
def SQ (O:Orc) (c:Ctx) (y:RCode) (Ψ:Ex->Fr->AH->Prop):Ex->Fr->AH->Prop
 | .normal,fr,h=>B6 (A2 O c y (fr,h)) Ψ
 |e,fr,h=>Ψ e fr h
section
variable (O:Orc) (c:Ctx) (y:RCode) (Ψ:Ex->Fr->AH->Prop)
@[simp] theorem SQ_n (fr:Fr) (h:AH):SQ O c y Ψ .normal fr h=B6 (A2 O c y (fr,h)) Ψ:=_root_.id rfl
@[simp] theorem SQ_r (fr:Fr) (h:AH):SQ O c y Ψ .ret fr h=Ψ .ret fr h:=_root_.id rfl
@[simp] theorem SQ_e (i:Nat) (fr:Fr) (h:AH):SQ O c y Ψ (.exit i) fr h=Ψ (.exit i) fr h:=_root_.id rfl
@[simp] theorem zr (r:Option (Ex×St)):B6 (ww r O c y) Ψ=B6 r (SQ O c y Ψ):=by
 cases r with
 |none=>rfl
 |some x=>obtain⟨e,fr,h⟩:=x;cases e<;>rfl
end
def BL (id:Nat) (Ψ:Ex->Fr->AH->Prop):Ex->Fr->AH->Prop
 | .exit i,fr,h=>if i=id then Ψ .normal fr h else Ψ (.exit i) fr h
 |e,fr,h=>Ψ e fr h
@[simp] theorem BL_n (id:Nat) (Ψ:Ex->Fr->AH->Prop) (fr:Fr) (h:AH):BL id Ψ .normal fr h=Ψ .normal fr h:=_root_.id rfl
@[simp] theorem BL_r (id:Nat) (Ψ:Ex->Fr->AH->Prop) (fr:Fr) (h:AH):BL id Ψ .ret fr h=Ψ .ret fr h:=_root_.id rfl
@[simp] theorem BL_e (id i:Nat) (Ψ:Ex->Fr->AH->Prop) (fr:Fr) (h:AH):BL id Ψ (.exit i) fr h=if i=id then Ψ .normal fr h else Ψ (.exit i) fr h:=_root_.id rfl
@[simp] theorem zq (id:Nat) (r:Option (Ex×St)) (Ψ:Ex->Fr->AH->Prop):B6 (vN id r) Ψ=B6 r (BL id Ψ):=by
 cases r with
 |none=>rfl
 |some x =>
  obtain⟨e,fr,h⟩:=x;cases e with
  |exit i =>
   by_cases hi:i=id
   .subst hi;simp[vN,BL]
   .simp[vN,BL,hi]
  |_=>rfl
theorem B6.mono {r:Option (Ex×St)} {Φ Ψ:Ex->Fr->AH->Prop} (h:B6 r Φ) (k:∀e fr h,Φ e fr h->Ψ e fr h):B6 r Ψ:=by
 cases r with
 |none=>exact h.elim
 |some x=>exact k _ _ _ h
theorem B6.elim' {r:Option (Ex×St)} {Φ:Ex->Fr->AH->Prop} (h:B6 r Φ):∃e fr h',r=some (e,fr,h')/\Φ e fr h':=by
 cases r with
 |none=>exact h.elim
 |some x=>exact⟨_,_,_,rfl,h⟩
theorem SO {step:St->Option (Ex×St)} {Ψ:Ex->Fr->AH->Prop} (Inv:Nat->Fr->AH->Prop)
  (H:∀n fr h,Inv n fr h->B6 (step (fr,h)) λe C3 h'=>(e=.normal/\∃m,m<n/\Inv m C3 h')\/(e≠.normal/\Ψ e C3 h')) :
  ∀(n:Nat) (fr:Fr) (h:AH),Inv n fr h->B6 (lp step (fr,h)) Ψ:=by
 intro n
 induction n using Nat.strongRecOn with
 |_ n ih =>
  intro fr h hi;obtain⟨e,C3,h',he,hp⟩:=(H n fr h hi).elim';rcases hp with ⟨rfl,m,hm,DE⟩|⟨P4,hp⟩
  .obtain⟨e2,Q6,h2,he2,hp2⟩:=(ih m hm C3 h' DE).elim';rw[wk he he2];exact hp2
  .cases e with
   |normal=>exact absurd rfl P4
   |exit i=>rw[lS he];exact hp
   |ret=>rw[sF he];exact hp
theorem ZU {α:Type} {step:St->Option (Ex×St)} {Ψ:Ex->Fr->AH->Prop} (all:List α) (Inv:List α->Fr->AH->Prop)
  (last:∀fr h,Inv all fr h->B6 (step (fr,h)) λe C3 h'=>e≠.normal/\Ψ e C3 h')
  (next:∀done x rest,done++x::rest=all->∀fr h,Inv done fr h->B6 (step (fr,h)) λe C3 h'=>(e=.normal/\Inv (done++[x]) C3 h')\/(e≠.normal/\Ψ e C3 h')) :
  ∀(fr:Fr) (h:AH),Inv [] fr h->B6 (lp step (fr,h)) Ψ:=by
 intro fr h hi;refine SO (λn fr h=>∃done rest,done++rest=all/\rest.length=n/\Inv done fr h) (λn fr h ⟨done,rest,he,hn,hi⟩=>?_) all.length fr h ⟨[],all,rfl,rfl,hi⟩;cases rest with
 |nil =>
  rw[List.append_nil]at he;subst he;exact(last fr h hi).mono λe C3 h' hp=>.inr hp
 |cons x rest =>
  refine(next done x rest he fr h hi).mono λe C3 h' hp=>?_
  rcases hp with ⟨h1,h2⟩|hp
  .exact .inl ⟨h1,rest.length,by simp at hn;omega,done++[x],rest,by simpa using he,rfl,h2⟩
  .exact .inr hp
def kU (rs:List RRes) (r:AV):Ex->Fr->AH->Prop
 | .exit _,_,_=>False
 |_,fr,h=>fin rs fr h=some r
@[simp] theorem FIN_n (rs:List RRes) (r:AV) (fr:Fr) (h:AH):kU rs r .normal fr h=(fin rs fr h=some r):=_root_.id rfl
@[simp] theorem FIN_r (rs:List RRes) (r:AV) (fr:Fr) (h:AH):kU rs r .ret fr h=(fin rs fr h=some r):=_root_.id rfl
theorem vl {C:Cfg} {f:FuncId} {rf:RFunc} {args:G6} {r:AV} (hs:C.spec f=none) (hc:C.code f=some rf) (hl:args.length<=rf.ntmps)
  (H:∀fr:Fr,fr.length=rf.ntmps->(∀i,A0 fr i=args.getD i C5)->B6 (A2 (K8 C) (C.ctx f) rf.body (fr,⟨[],[]⟩)) (kU rf.results r)):pc C f args=some r:=by
 refine tF hs hc hl λfr h1 h2=>?_;obtain⟨e,C3,h',he,hp⟩:=(H fr h1 h2).elim';rw[he];cases e with
 |exit i=>exact hp.elim
 |normal=>exact hp
 |ret=>exact hp
def dn (rs:List RRes) (Φ:AV->AH->Prop):Ex->Fr->AH->Prop
 | .exit _,_,_=>False
 |_,fr,h=>∃vs,Om fr h rs=some vs/\Φ (K1 vs) h
@[simp] theorem RFIN_n (rs:List RRes) (Φ:AV->AH->Prop) (fr:Fr) (h:AH):dn rs Φ .normal fr h=(∃vs,Om fr h rs=some vs/\Φ (K1 vs) h):=_root_.id rfl
@[simp] theorem RFIN_r (rs:List RRes) (Φ:AV->AH->Prop) (fr:Fr) (h:AH):dn rs Φ .ret fr h=(∃vs,Om fr h rs=some vs/\Φ (K1 vs) h):=_root_.id rfl
theorem wI {C:Cfg} {f:FuncId} {rf:RFunc} {args:G6} {h:AH} {Φ:AV->AH->Prop} (hc:C.code f=some rf) (hl:args.length<=rf.ntmps)
  (H:∀fr:Fr,fr.length=rf.ntmps->(∀i,A0 fr i=args.getD i C5)->B6 (A2 (K8 C) (C.ctx f) rf.body (fr,h)) (dn rf.results Φ)):∃v h',rc C f args h=some (v,h')/\Φ v h':=by
 obtain⟨hl',hlook⟩:=QG hl;obtain⟨e,C3,h',he,hp⟩:=(H _ hl' hlook).elim';have key:∃vs,Om C3 h' rf.results=some vs/\Φ (K1 vs) h':=by
  cases e with
  |exit i=>exact hp.elim
  |normal=>exact hp
  |ret=>exact hp
 obtain⟨vs,hv,hΦ⟩:=key;refine⟨K1 vs,h',wu C ?_,hΦ⟩;unfold TA;simp only[hc];unfold PX;rw[he];cases e with
 |exit i=>exact hp.elim
 |normal=>simp only[hv];rfl
 |ret=>simp only[hv];rfl
def RCode.wr:RCode->List Nat
 | .region _ ops=>ops.filterMap (·.dst)
 | .seq a b=>a.wr++b.wr
 | .cond _ a b=>a.wr++b.wr
 | .block _ a=>a.wr
 | .loop a=>a.wr
 |_=>[]
def Kp (ws:List Nat) (fr C3:Fr):Prop:=C3.length=fr.length/\∀j,j∉ws->A0 C3 j=A0 fr j
theorem A8 {ws:List Nat} {fr C3:Fr} {v:AV} (K:Kp ws fr C3) (i:Nat) (h:A0 fr i=v) (d:i∉ws:=by decide):A0 C3 i=v:=(K.2 i d).trans h
theorem Kp.refl (ws:List Nat) (fr:Fr):Kp ws fr fr:=⟨rfl,λ_ _=>rfl⟩
theorem Kp.trans {ws:List Nat} {a b c:Fr} (h:Kp ws a b) (k:Kp ws b c):Kp ws a c:=⟨k.1.trans h.1,λj hj=>(k.2 j hj).trans (h.2 j hj)⟩
theorem Kp.mono {ws ws':List Nat} {a b:Fr} (h:Kp ws a b) (hs:∀j,j∈ws->j∈ws'):Kp ws' a b:=⟨h.1,λj hj=>h.2 j λk=>hj (hs j k)⟩
theorem Kp.put (fr:Fr) (d:Option Nat) (v:AV) {ws:List Nat} (hd:∀x,d=some x->x∈ws):Kp ws fr (put fr d v):=by
 cases d with
 |none=>exact Kp.refl _ _
 |some d =>
  refine⟨by simp,λj hj=>?_⟩;have P4:d≠j:=λe=>hj (e ▸ hd d rfl);simp[E6 fr v P4]
section
variable {C:Cfg} {c:Ctx}
theorem Xy {O:Orc}:∀{O3:List RO} {fr:Fr} {h:AH} {x:Fr×AH} {ws:List Nat},(∀j,j∈O3.filterMap (·.dst)->j∈ws)->M0 O c O3 fr h=some x->Kp ws fr x.1
 | [],fr,h,x,ws,_,he=>by
  simp only[M0]at he;cases he;exact Kp.refl _ _
 |o::O3,fr,h,x,ws,hs,he=>by
  have h1:∀y,o.dst=some y->y∈ws:=λy hy=>hs y (by simp[hy]);have h2:∀j,j∈O3.filterMap (·.dst)->j∈ws:=λj hj=>hs j (by
   rw[List.filterMap_cons];split
   .exact hj
   .exact List.mem_cons_of_mem _ hj)
  simp only[M0]at he;cases hw:Gf fr o.guard with
  |none=>rw[hw]at he;cases he
  |some b =>
   rw[hw]at he;cases b with
   |false=>exact(Kp.put fr o.dst _ h1).trans (Xy h2 he)
   |true =>
    dsimp only at he;cases CQ:B4 O c o.op fr h with
    |none=>rw[CQ]at he;cases he
    |some y =>
     rw[CQ]at he;exact(Kp.put fr o.dst _ h1).trans (Xy h2 he)
theorem Zz {step:St->Option (Ex×St)} {ws:List Nat} (hs:∀s x,step s=some x->Kp ws s.1 x.2.1):∀(n:Nat) (s:St) (x:Ex×St),NB step n s=some x->Kp ws s.1 x.2.1
 |0,s,x,he=>by simp[NB]at he
 |n+1,s,x,he=>by
  simp only[NB]at he;cases h1:step s with
  |none=>rw[h1]at he;cases he
  |some y =>
   rw[h1]at he;have k:=hs s y h1;obtain⟨e,s'⟩:=y;cases e with
   |normal=>exact k.trans (Zz hs n s' x he)
   |exit id=>cases he;exact k
   |ret=>cases he;exact k
theorem mh:∀(rc:RCode) (s:St) (x:Ex×St),A2 (K8 C) c rc s=some x->Kp rc.wr s.1 x.2.1:=by
 intro rc
 induction rc with
 |skip=>intro s x he;cases he;exact Kp.refl _ _
 |region d O3 =>
  intro s x he;simp only[A2]at he;cases hs:M0 (K8 C) c O3 s.1 s.2 with
  |none=>rw[hs]at he;cases he
  |some y =>
   rw[hs]at he;cases he;exact Xy (λj hj=>hj) hs
 |seq a b iha ihb =>
  intro s x he;simp only[A2]at he;cases hs:A2 (K8 C) c a s with
  |none=>rw[hs]at he;cases he
  |some y =>
   rw[hs]at he;have k:=(iha s y hs).mono (ws':=(RCode.seq a b).wr) λj hj=>A0i _ hj;obtain⟨e,s'⟩:=y;cases e with
   |normal=>exact k.trans ((ihb _ _ he).mono λj hj=>A0h _ hj)
   |exit id=>cases he;exact k
   |ret=>cases he;exact k
 |cond q a b iha ihb =>
  intro s x he;simp only[A2]at he;split at he
  .exact(iha _ _ he).mono λj hj=>A0i _ hj
  .exact(ihb _ _ he).mono λj hj=>A0h _ hj
  .cases he
 |block id a ih =>
  intro s x he;simp only[A2]at he;cases hs:A2 (K8 C) c a s with
  |none=>rw[hs]at he;cases he
  |some y =>
   rw[hs]at he;have k:=ih s y hs;obtain⟨e,s'⟩:=y;cases e with
   |normal=>cases he;exact k
   |exit i =>
    simp only at he;split at he<;>cases he<;>exact k
   |ret=>cases he;exact k
 |loop a ih =>
  intro s x he;obtain⟨n,hn⟩:=cK he;exact Zz ih n s x hn
 |exit id=>intro s x he;cases he;exact Kp.refl _ _
 |ret=>intro s x he;cases he;exact Kp.refl _ _
 |bad=>intro s x he;cases he
theorem mF {rc:RCode} {ws:List Nat} (hw:rc.wr=ws) {fr:Fr} {h:AH} {Ψ:Ex->Fr->AH->Prop} (H:B6 (A2 (K8 C) c rc (fr,h)) Ψ):B6 (A2 (K8 C) c rc (fr,h)) λe C3 h'=>Kp ws fr C3/\Ψ e C3 h':=by
 subst hw;obtain⟨e,C3,h',he,hp⟩:=H.elim';have k:=mh rc _ _ he;rw[he];exact⟨k,hp⟩
theorem qS {body:RCode} {Ψ:Ex->Fr->AH->Prop} {ws:List Nat} (hw:body.wr=ws) (fr0:Fr) (Inv:Nat->Fr->AH->Prop)
  (H:∀n fr h,Kp ws fr0 fr->Inv n fr h->B6 (A2 (K8 C) c body (fr,h)) λe C3 h'=>(e=.normal/\∃m,m<n/\Inv m C3 h')\/(e≠.normal/\Ψ e C3 h'))
  (n:Nat) (h:AH) (hi:Inv n fr0 h):B6 (lp (A2 (K8 C) c body) (fr0,h)) λe C3 h'=>Kp ws fr0 C3/\Ψ e C3 h':=by
 refine SO (λn fr h=>Kp ws fr0 fr/\Inv n fr h) (λn fr h ⟨k,hi⟩=>?_) n fr0 h ⟨Kp.refl _ _,hi⟩;refine(mF hw (H n fr h k hi)).mono λe C3 h' ⟨k',hp⟩=>?_;rcases hp with ⟨h1,m,h2,h3⟩|⟨h1,h2⟩
 .exact .inl ⟨h1,m,h2,k.trans k',h3⟩
 .exact .inr ⟨h1,k.trans k',h2⟩
end
theorem G0 {n:Nat} {I J:Nat->Fr->AH->Prop} {fr:Fr} {h:AH} (hJ:∀n fr h,I n fr h->J n fr h) (hi:I (n-1) fr h) (h0:n-1<n:=by omega):∃m,m<n/\J m fr h:=⟨n-1,h0,hJ _ _ _ hi⟩
theorem A9 {C:Cfg} {c:Ctx} {body:RCode} {Ψ:Ex->Fr->AH->Prop} {ws:List Nat} (hw:body.wr=ws) (fr0:Fr) (Inv:Nat->Fr->AH->Prop)
  (H:∀(J:Nat->Fr->AH->Prop) (Φ:Ex->Fr->AH->Prop),(∀n fr h,Inv n fr h->J n fr h)->(∀e fr h,Ψ e fr h->Φ e fr h)->∀n fr h,Kp ws fr0 fr->Inv n fr h ->
   B6 (A2 (K8 C) c body (fr,h)) λe C3 h'=>(e=.normal/\∃m,m<n/\J m C3 h')\/(e≠.normal/\Φ e C3 h'))
  (n:Nat) (h:AH) (hi:Inv n fr0 h):B6 (lp (A2 (K8 C) c body) (fr0,h)) λe C3 h'=>Kp ws fr0 C3/\Ψ e C3 h' :=
 qS hw fr0 Inv (H Inv Ψ (λ_ _ _ h=>h) (λ_ _ _ h=>h)) n h hi
def iH (rs:List RRes) (Φ:AV->Prop):Ex->Fr->AH->Prop
 | .exit _,_,_=>False
 |_,fr,h=>∃r,fin rs fr h=some r/\Φ r
@[simp] theorem EFIN_n (rs:List RRes) (Φ:AV->Prop) (fr:Fr) (h:AH):iH rs Φ .normal fr h=(∃r,fin rs fr h=some r/\Φ r):=_root_.id rfl
@[simp] theorem EFIN_r (rs:List RRes) (Φ:AV->Prop) (fr:Fr) (h:AH):iH rs Φ .ret fr h=(∃r,fin rs fr h=some r/\Φ r):=_root_.id rfl
theorem fk {C:Cfg} {f:FuncId} {rf:RFunc} {args:G6} {Φ:AV->Prop} (hs:C.spec f=none) (hc:C.code f=some rf) (hl:args.length<=rf.ntmps)
  (H:∀fr:Fr,fr.length=rf.ntmps->(∀i,A0 fr i=args.getD i C5)->B6 (A2 (K8 C) (C.ctx f) rf.body (fr,⟨[],[]⟩)) (iH rf.results Φ)):∃r,pc C f args=some r/\Φ r:=by
 obtain⟨hl',hlook⟩:=QG hl;obtain⟨e,C3,h',he,hp⟩:=(H _ hl' hlook).elim';have key:∃r,fin rf.results C3 h'=some r/\Φ r:=by
  cases e with
  |exit i=>exact hp.elim
  |normal=>exact hp
  |ret=>exact hp
 obtain⟨r,hr,hΦ⟩:=key;refine⟨r,tF hs hc hl λfr h1 h2=>?_,hΦ⟩;have hfr:fr=Hl rf args:=by
  apply List.ext_getElem (h1.trans hl'.symm);intro i g1 g2;have a:=h2 i;have b:=hlook i;simp only[A0,List.getD,A0b g1,A0b g2,A0f]at a b;exact a.trans b.symm
 subst hfr;rw[he];cases e with
 |exit i=>exact hp.elim
 |normal=>exact hr
 |ret=>exact hr
theorem QN {C:Cfg} {f:FuncId} {rf:RFunc} {args:G6} {Φ:AV->Prop} (hs:C.spec f=none) (hc:C.code f=some rf) (hl:args.length<=rf.ntmps)
  (H:∀Ψ:AV->Prop,(∀r,Φ r->Ψ r)->∀fr:Fr,fr.length=rf.ntmps->(∀i,A0 fr i=args.getD i C5)->B6 (A2 (K8 C) (C.ctx f) rf.body (fr,⟨[],[]⟩)) (iH rf.results Ψ)):∃r,pc C f args=some r/\Φ r :=
 fk hs hc hl (H Φ λ_ h=>h)
@[simp] theorem tame_int (h:AH) (k:IntKind) (n:Int):CS h (.int k n)=true:=_root_.id rfl
@[simp] theorem zm (h:AH) (b:Bool):CS h (.bool b)=true:=_root_.id rfl
@[simp] theorem tame_str (h:AH) (s:J1):CS h (.str s)=true:=_root_.id rfl
@[simp] theorem tame_agg (h:AH) (cs:G6):CS h (.agg cs)=cs.all (KW h):=_root_.id rfl
@[simp] theorem zk (h:AH) (k:IntKind) (n:Int):KW h (.int k n)=true:=_root_.id rfl
@[simp] theorem yn (h:AH) (b:Bool):KW h (.bool b)=true:=_root_.id rfl
@[simp] theorem zl (h:AH) (s:J1):KW h (.str s)=true:=_root_.id rfl
@[simp] theorem tame_vs (h:AH) (f:Bool) (sz:Nat) (xs:G6):CS h (.vs f sz xs)=true:=_root_.id rfl
@[simp] theorem tame1_vs (h:AH) (f:Bool) (sz:Nat) (xs:G6):KW h (.vs f sz xs)=true:=_root_.id rfl
@[simp] theorem xq (k n off len:Nat):(AV.sl k n off len).isTup=false:=_root_.id rfl
@[simp] theorem xZ (k n off len:Nat):(AV.sl k n off len).cells=[.sl k n off len]:=_root_.id rfl
@[simp] theorem zQ (b off:Nat):(AV.ptr b off).isTup=false:=_root_.id rfl
@[simp] theorem yw (b off:Nat):(AV.ptr b off).cells=[.ptr b off]:=_root_.id rfl
@[simp] theorem isTup_vs (f:Bool) (sz:Nat) (xs:G6):(AV.vs f sz xs).isTup=false:=_root_.id rfl
@[simp] theorem A0P (f:Bool) (sz:Nat) (xs:G6):(AV.vs f sz xs).cells=[.vs f sz xs]:=_root_.id rfl
end Go.Abs
namespace Go.Abs
open Go.RowKit (Below)
open Go.Proofs (ltOf CmpLays sortWorldK)
def bW (O:Orc) (g:FuncId) (caps xs:List AV) (i j:Nat):Int :=
 match O.pure g ([xs.getD i C5,xs.getD j C5]++caps)with|some (.int .i64 c)=>c|_=>0
def i7 (n i:Nat):Nat:=if i<n then i else 0
def mW (O:Orc) (g:FuncId) (caps xs:List AV) (i j:Nat):Int:=bW O g caps xs (i7 xs.length i) (i7 xs.length j)
structure SortOk (O:Orc) (g:FuncId) (caps xs:List AV):Prop where
 ans:∀i j,i<xs.length->j<xs.length->∃c,O.pure g ([xs.getD i C5,xs.getD j C5]++caps)=some (.int .i64 c)
 swo:Go.Sort.SWO (ltOf (mW O g caps xs))
def FN (O:Orc) (g:FuncId) (caps xs:List AV):Array Nat:=Go.Sort.pdq (ltOf (mW O g caps xs)) (Array.range xs.length) 0 xs.length (Lib.bitLen xs.length) true true
def AV.isAgg:AV->Bool
 | .agg _=>true
 |_=>false
open Classical in
noncomputable def LV (K:Nat) (O:Orc) (args:List AV) (h:AH):Option (AV×AH) :=
 match args with
 | [.sl k n off len,.fn g caps] =>
  match h.fams[k]? with
  |some f =>
   if f.xs.length=n/\off=0/\len=n/\0<n/\n<4611686018427387904/\f.wr=true/\f.sz=K/\caps.all AV.flat=true/\f.xs.all AV.isAgg=true/\SortOk O g caps f.xs then
    some (C5,{h with fams:=h.fams.set k {f with xs:=(FN O g caps f.xs).toList.map λi=>f.xs.getD i C5}})
   else none
  |none=>none
 | [.vs _ _ xs,.fn _ _]=>if xs.length<=1 then some (C5,h)else none
 |_=>none
theorem JY {n i:Nat} (hn:0<n):i7 n i<n:=by unfold i7;split<;>omega
theorem tq (K:Nat) (O:Orc) (args:G6) (h:AH) (x:AV×AH) (he:LV K O args h=some x) :
  ∃l:List (FuncId×List AV×AV),(∀p∈l,O.pure p.1 p.2.1=some p.2.2)/\∀O':Orc,(∀p∈l,O'.pure p.1 p.2.1=some p.2.2)->LV K O' args h=some x:=by
 unfold LV at he;split at he
 .rename_i k n off len g caps;split at he
  .rename_i f hf;split at he
   .rename_i hc;obtain⟨c1,c2,c3,c4,c5,c6,c7,c8,c9,BJ⟩:=hc;have L8:0<f.xs.length:=by omega
    refine⟨(A0v f.xs.length).flatMap λi=>(A0v f.xs.length).map λj=>(g,[f.xs.getD i C5,f.xs.getD j C5]++caps,.int .i64 (bW O g caps f.xs i j)),?_,?_⟩
    .intro p hp;simp only[A0n,A0u,A0q]at hp;obtain⟨i,hi,j,hj,rfl⟩:=hp;obtain⟨c,hc⟩:=BJ.ans i j hi hj;simp only[bW,hc]
    .intro O' hO';have key:∀i j,i<f.xs.length->j<f.xs.length->O'.pure g ([f.xs.getD i C5,f.xs.getD j C5]++caps)=some (.int .i64 (bW O g caps f.xs i j)):=λi j hi hj =>
      hO' (g,[f.xs.getD i C5,f.xs.getD j C5]++caps,.int .i64 (bW O g caps f.xs i j)) (by
       simp only[A0n,A0u,A0q];exact⟨i,hi,j,hj,rfl⟩)
     have hcf:mW O' g caps f.xs=mW O g caps f.xs:=by
      funext i j;show bW O' g caps f.xs _ _=_;unfold bW;rw[key _ _ (JY L8) (JY L8)];rfl
     have hok':SortOk O' g caps f.xs:=⟨λi j hi hj=>⟨_,key i j hi hj⟩,by rw[hcf];exact BJ.swo⟩;unfold LV;simp only[hf];rw[if_pos ⟨c1,c2,c3,c4,c5,c6,c7,c8,c9,hok'⟩,←he];unfold FN;rw[hcf]
   .cases he
  .cases he
 .exact⟨[],λp hp=>by simp at hp,λO' _=>by unfold LV;exact he⟩
 .cases he
noncomputable def ap (K:Nat):RSpec:=⟨LV K,tq K⟩
theorem ig {w w':World} (h:Bl w.heap.size w w'):∃q os,w'=Go.Sort.grow (w.drewN q) os:=by
 refine⟨w'.drawn-w.drawn,w'.heap.extract w.heap.size w'.heap.size,?_⟩;obtain⟨⟨e1,e2,e3,e4,e5⟩,e6⟩:=h;have hh:w'.heap=w.heap++w'.heap.extract w.heap.size w'.heap.size:=by
  apply A0j;intro k;by_cases hk:k<w.heap.size
  .rw[Array.getElem?_append_left hk,e5 k hk]
  .rw[Array.getElem?_append_right (by omega),Array.getElem?_extract];by_cases EC:k<w'.heap.size
   .rw[if_pos (by omega)];congr 1;omega
   .rw[if_neg (by omega),Array.getElem?_eq_none (by omega)]
 obtain⟨hp,tp,dr,os,ou⟩:=w';obtain⟨hp0,tp0,dr0,os0,ou0⟩:=w;simp only at e1 e2 e3 e4 e6 hh;subst e1 e2 e3;simp only[Go.Sort.grow,World.drewN];congr 1;omega
theorem VZ {w:World} {blk off:Nat} {F cur:Array Value} {t:TypeId} (h:w.heap[blk]?=some (.cells cur t (0,0))) :
  Go.Sort.putRow id w blk off F=w.setRow blk (Go.Sort.putCells id off F cur):=by
 unfold Go.Sort.putRow Go.Sort.mapBlock World.setRow;congr 1;apply A0j;intro k;simp only[Array.getElem?_modify];by_cases hk:blk=k
 .subst hk;rw[if_pos rfl,if_pos rfl,h];rfl
 .rw[if_neg hk,if_neg hk]
theorem be {off:Nat} {F cur:Array Value} {k:Nat}:(Go.Sort.putCells id off F cur)[k]?=(cur[k]?).map λx=>if off<=k/\k<off+F.size then F[k-off]! else x:=by
 unfold Go.Sort.putCells;rw[Array.getElem?_mapIdx];rfl
theorem ZS {off:Nat} {F cur:Array Value}:(Go.Sort.putCells id off F cur).size=cur.size:=by
 unfold Go.Sort.putCells;simp
end Go.Abs
namespace Go.Abs
def RSpec.of (run:List AV->AH->Option (AV×AH)):RSpec:=⟨λ_=>run,λ_ _ _ _ he=>⟨[],λ_ hp=>(nomatch hp),λ_ _=>he⟩⟩
def QC (K bytes:Nat) (args:List AV) (h:AH):Option (AV×AH) :=
 match args with
 | [s,.int .i64 i,.vs _ z [x]] =>
  if z=K/\x.isAgg=true then
   match s with
   | .sl k n off len =>
    match h.fams[k]? with
    |some f =>
     if f.xs.length=n/\off=0/\len=n/\0<n/\f.wr=true/\f.sz=K/\0<=i/\i<=n/\(n+1)*bytes<=H3/\n+1<=maxLen then
      some (.sl k (n+1) 0 (n+1),{h with fams:=h.fams.set k {f with xs:=f.xs.take i.toNat++x::f.xs.drop i.toNat}})
     else none
    |none=>none
   | .vs true _ []=>if i=0/\bytes<=H3 then some (.sl h.fams.length 1 0 1,{h with fams:=h.fams++[⟨[x],K,true⟩]})else none
   |_=>none
  else none
 |_=>none
def mw (K bytes:Nat):RSpec:=.of (QC K bytes)
def UP (K bytes:Nat) (args:List AV) (h:AH):Option (AV×AH) :=
 match args with
 | [.vs true z [],i,x]=>QC K bytes [.vs true z [],i,x] h
 |_=>none
def lL (K bytes:Nat):RSpec:=.of (UP K bytes)
def SY (K bytes:Nat) (args:List AV) (h:AH):Option (AV×AH) :=
 match args with
 | [.vs true z [],.int .i64 n] =>
  if n=0 then some (.vs true z [],h)
  else if 0<n/\n*bytes<=H3/\n<=maxLen then some (.sl h.fams.length 0 0 0,{h with fams:=h.fams++[⟨[],K,false⟩]})
  else none
 |_=>none
def Zu (K bytes:Nat):RSpec:=.of (SY K bytes)
end Go.Abs
namespace Go.Abs.Q
open Go.Proofs
def V6 (a b:ByteArray):Int:=if Op.bytesLess a.toList b.toList then -1 else if a.toList=b.toList then 0 else 1
def dK:List AV->Option AV
 | [.str a,.str b]=>some (.int .i64 (V6 a b))
 |_=>none
def dL:List AV->Option AV
 | [.str a,.str b]=>match b.data.toList with | [c]=>some (.bool (a.data.toList.contains c))|_=>none
 |_=>none
def Qu (f:FuncId):Option (List AV->Option AV):=if f=Z0 then some dK else if f=Bx then some dL else none
noncomputable def Ya (f:FuncId):Option RSpec:=if f=E1 then some (ap 4)else if f=N6 then some (mw 4 56)else if f=O8 then some (lL 5 64)else if f=Q3 then some (Zu 4 56)else none
noncomputable def Q:Cfg:=⟨BU,D6,Qu,Ya⟩
theorem RA (f:FuncId):Q.code f=BU f:=by
 simp only[Q]
theorem VE (f:FuncId):Q.spec f=Qu f:=by
 simp only[Q]
@[simp] theorem ZW (f:FuncId):Q.ctx f=D6 f:=by
 simp only[Q]
@[simp] theorem A0V (f:FuncId):(D6 f).raw=C2:=_root_.id rfl
@[simp] theorem A0T (f:FuncId):(D6 f).mutApp=ZI f:=_root_.id rfl
@[simp] theorem zB (f:FuncId):(D6 f).rawv=Lt f:=_root_.id rfl
@[simp] theorem A0U (f:FuncId):(D6 f).noB=Dz:=_root_.id rfl
@[simp] theorem ctxF_ro (f:FuncId):(D6 f).ro=qA f:=_root_.id rfl
theorem lh {f:FuncId} {s:List AV->Option AV} (h:Qu f=some s) {args:G6} {r:AV} (hr:s args=some r):pc Q f args=some r:=by
 apply wn;unfold OX;have e:Q.spec f=some s:=h;rw[e];exact hr
theorem yP (a b:J1):pc Q Z0 [.str a,.str b]=some (.int .i64 (V6 a b)):=lh (s:=dK) rfl rfl
theorem yR (a:J1) (c:UInt8):pc Q Bx [.str a,.str ⟨#[c]⟩]=some (.bool (a.data.toList.contains c)):=lh (s:=dL) rfl rfl
theorem OZ {f:FuncId} {s:RSpec} (hc:BU f=none) (hs:Ya f=some s) {args:G6} {h:AH} {x:AV×AH} (hr:s.run (K8 Q) args h=some x):rc Q f args h=some x:=by
 apply wu;unfold TA;have e1:Q.code f=none:=(RA f).trans hc;have e2:Q.rspec f=some s:=hs;rw[e1];simp only[e2];exact hr
theorem je {f:FuncId} {rf:RFunc} {args:G6} {r:AV} (hc:BU f=some rf) (hs:Qu f=none) (hl:args.length<=rf.ntmps)
  (H:∀fr:Fr,fr.length=rf.ntmps->(∀i,A0 fr i=args.getD i C5)->B6 (A2 (K8 Q) (D6 f) rf.body (fr,⟨[],[]⟩)) (kU rf.results r)):pc Q f args=some r :=
 vl (C:=Q) ((VE f).trans hs) ((RA f).trans hc) hl λfr h1 h2=>by
  rw[ZW];exact H fr h1 h2
theorem rcQ {f:FuncId} {rf:RFunc} {args:G6} {h:AH} {Φ:AV->AH->Prop} (hc:BU f=some rf) (hl:args.length<=rf.ntmps)
  (H:∀fr:Fr,fr.length=rf.ntmps->(∀i,A0 fr i=args.getD i C5)->B6 (A2 (K8 Q) (D6 f) rf.body (fr,h)) (dn rf.results Φ)):∃v h',rc Q f args h=some (v,h')/\Φ v h' :=
 wI (C:=Q) ((RA f).trans hc) hl λfr h1 h2=>by
  rw[ZW];exact H fr h1 h2
theorem H6 {f:FuncId} (rf:RFunc) {a r:AV} (H:∀fr:Fr,fr.length=rf.ntmps->A0 fr 0=a->B6 (A2 (K8 Q) (D6 f) rf.body (fr,⟨[],[]⟩)) (kU rf.results r)) (hl:1<=rf.ntmps:=by decide) (hs:Qu f=none:=by rfl) (hc:BU f=some rf:=by kernel_rfl):pc Q f [a]=some r:=
 je hc hs hl λfr h1 h2=>H fr h1 (h2 0)
theorem N3 {f:FuncId} (rf:RFunc) {a b r:AV} (H:∀fr:Fr,fr.length=rf.ntmps->A0 fr 0=a->A0 fr 1=b->B6 (A2 (K8 Q) (D6 f) rf.body (fr,⟨[],[]⟩)) (kU rf.results r)) (hl:2<=rf.ntmps:=by decide) (hs:Qu f=none:=by rfl) (hc:BU f=some rf:=by kernel_rfl):pc Q f [a,b]=some r:=
 je hc hs hl λfr h1 h2=>H fr h1 (h2 0) (h2 1)
theorem HC {f:FuncId} (rf:RFunc) {a b c r:AV} (H:∀fr:Fr,fr.length=rf.ntmps->A0 fr 0=a->A0 fr 1=b->A0 fr 2=c->B6 (A2 (K8 Q) (D6 f) rf.body (fr,⟨[],[]⟩)) (kU rf.results r)) (hl:3<=rf.ntmps:=by decide) (hs:Qu f=none:=by rfl) (hc:BU f=some rf:=by kernel_rfl):pc Q f [a,b,c]=some r:=
 je hc hs hl λfr h1 h2=>H fr h1 (h2 0) (h2 1) (h2 2)
theorem Fj {f:FuncId} (rf:RFunc) {a:AV} {Φ:AV->Prop} (H:∀Ψ:AV->Prop,(∀v,Φ v->Ψ v)->∀fr:Fr,fr.length=rf.ntmps->A0 fr 0=a->B6 (A2 (K8 Q) (D6 f) rf.body (fr,⟨[],[]⟩)) (iH rf.results Ψ)) (hl:1<=rf.ntmps:=by decide) (hs:Qu f=none:=by rfl) (hc:BU f=some rf:=by kernel_rfl):∃v,pc Q f [a]=some v/\Φ v:=
 QN (C:=Q) ((VE _).trans hs) ((RA _).trans hc) hl λΨ hΨ fr h1 h2=>by rw[ZW];exact H Ψ hΨ fr h1 (h2 0)
theorem Sz {f:FuncId} (rf:RFunc) {a b:AV} {Φ:AV->Prop} (H:∀Ψ:AV->Prop,(∀v,Φ v->Ψ v)->∀fr:Fr,fr.length=rf.ntmps->A0 fr 0=a->A0 fr 1=b->B6 (A2 (K8 Q) (D6 f) rf.body (fr,⟨[],[]⟩)) (iH rf.results Ψ)) (hl:2<=rf.ntmps:=by decide) (hs:Qu f=none:=by rfl) (hc:BU f=some rf:=by kernel_rfl):∃v,pc Q f [a,b]=some v/\Φ v:=
 QN (C:=Q) ((VE _).trans hs) ((RA _).trans hc) hl λΨ hΨ fr h1 h2=>by rw[ZW];exact H Ψ hΨ fr h1 (h2 0) (h2 1)
theorem gI {f:FuncId} (rf:RFunc) {a b c:AV} {Φ:AV->Prop} (H:∀Ψ:AV->Prop,(∀v,Φ v->Ψ v)->∀fr:Fr,fr.length=rf.ntmps->A0 fr 0=a->A0 fr 1=b->A0 fr 2=c->B6 (A2 (K8 Q) (D6 f) rf.body (fr,⟨[],[]⟩)) (iH rf.results Ψ)) (hl:3<=rf.ntmps:=by decide) (hs:Qu f=none:=by rfl) (hc:BU f=some rf:=by kernel_rfl):∃v,pc Q f [a,b,c]=some v/\Φ v:=
 QN (C:=Q) ((VE _).trans hs) ((RA _).trans hc) hl λΨ hΨ fr h1 h2=>by rw[ZW];exact H Ψ hΨ fr h1 (h2 0) (h2 1) (h2 2)
theorem gO {f:FuncId} (rf:RFunc) {a:AV} {h:AH} {Φ:AV->AH->Prop} (H:∀fr:Fr,fr.length=rf.ntmps->A0 fr 0=a->B6 (A2 (K8 Q) (D6 f) rf.body (fr,h)) (dn rf.results Φ)) (hl:1<=rf.ntmps:=by decide) (hc:BU f=some rf:=by kernel_rfl):∃v h',rc Q f [a] h=some (v,h')/\Φ v h':=
 rcQ hc hl λfr h1 h2=>H fr h1 (h2 0)
theorem Dm {f:FuncId} (rf:RFunc) {a b:AV} {h:AH} {Φ:AV->AH->Prop} (H:∀fr:Fr,fr.length=rf.ntmps->A0 fr 0=a->A0 fr 1=b->B6 (A2 (K8 Q) (D6 f) rf.body (fr,h)) (dn rf.results Φ)) (hl:2<=rf.ntmps:=by decide) (hc:BU f=some rf:=by kernel_rfl):∃v h',rc Q f [a,b] h=some (v,h')/\Φ v h':=
 rcQ hc hl λfr h1 h2=>H fr h1 (h2 0) (h2 1)
theorem cz {f:FuncId} (rf:RFunc) {a b c:AV} {h:AH} {Φ:AV->AH->Prop} (H:∀fr:Fr,fr.length=rf.ntmps->A0 fr 0=a->A0 fr 1=b->A0 fr 2=c->B6 (A2 (K8 Q) (D6 f) rf.body (fr,h)) (dn rf.results Φ)) (hl:3<=rf.ntmps:=by decide) (hc:BU f=some rf:=by kernel_rfl):∃v h',rc Q f [a,b,c] h=some (v,h')/\Φ v h':=
 rcQ hc hl λfr h1 h2=>H fr h1 (h2 0) (h2 1) (h2 2)
end Go.Abs.Q
namespace Go.Abs.Q
attribute [local simp] E6 E8 fin K1 H2
def IL (a b:Int):Int:=if a<b then -1 else if b<a then 1 else 0
theorem Sj (a b:Int):pc Q Gx [.int .i64 a,.int .i64 b]=some (.int .i64 (IL a b)):=by
 refine je ZQ rfl (by simp[SH]) λfr hl ha=>?_;have h0:=ha 0;have h1:=ha 1;simp[SH]at hl h0 h1 ⊢;by_cases h:a<b
 .simp[*,IL]
 .by_cases h':b<a<;>simp[*,IL]
theorem Km (a b:Int):pc Q Bu [.int .i64 a,.int .i64 b]=some (.int .i64 (IL a b)):=by
 refine je Vb rfl (by simp[Nm]) λfr hl ha=>?_;have h0:=ha 0;have h1:=ha 1;simp[Nm]at hl h0 h1 ⊢;by_cases h:a<b
 .simp[*,IL]
 .by_cases h':b<a<;>simp[*,IL]
theorem cZ:∀(n:Nat) (t:Tm),t.size<=n->t.size<=1099511627776->pc Q JN [B9 t]=some (.int .i64 t.size):=by
 intro n
 induction n with
 |zero=>intro t h;have:=t.size_pos;omega
 |succ n ih =>
  intro t hn hb;obtain⟨k,nm,s,m,kids⟩:=t;have J4:Tm.size (.mk k nm s m kids)=1+Tm.sizes kids:=rfl;refine H6 WT λfr hl h0=>?_;simp[WT,B9]at hl h0 ⊢;simp[*];refine(ZU (Ψ:=λe fr h=>e=.exit 0/\A0 fr 3=.int .i64 (1+Tm.sizes kids:Nat)/\fr.length=19) kids
   (λdone fr h=>fr.length=19/\A0 fr 3=.int .i64 (1+Tm.sizes done:Nat)/\A0 fr 7=sl m 4 (A4 kids)/\A0 fr 8=.int .i64 kids.length/\A0 fr 9=.int .i64 done.length) ?_ ?_ _ _ ?_).mono ?_
  .rintro fr h ⟨hl,h3,h7,h8,h9⟩;simp[PJ, *]
  .rintro done t rest he fr h ⟨hl,h3,h7,h8,h9⟩;have hget:IZ (A4 kids) done.length=some (B9 t):=Js (by rw[←he];simp);have A7:done.length<kids.length:=by rw[←he];simp
   have hts:t.size<=Tm.sizes kids:=Tm.size_le (by rw[←he];simp);have hT:=ih t (by omega) (by omega);have B8:=Tm.length_le kids;have hsum:Tm.sizes done+(t.size+Tm.sizes rest)=Tm.sizes kids:=by rw[←he,Tm.sizes_append];rfl
   have hw1:IntKind.i64.wrap (1+(Tm.sizes done:Int)+(t.size:Int))=1+(Tm.sizes (done++[t]):Int):=by
    rw[Tm.sizes_append,W8 (by omega) (by omega)];simp only[Tm.sizes];omega
   have hw2:IntKind.i64.wrap ((done.length:Int)+1)=((done++[t]).length:Nat):=by
    rw[W8 (by omega) (by omega)];simp
   obtain⟨tk,tn,ts,tm,tl⟩:=t;simp only[B9]at hT hget;simp[PJ, *]
  .simp[*,Tm.sizes,C9]
  .rintro e fr h ⟨rfl,h3,hl⟩;simp[*]
theorem QO:∀(n:Nat) (t:Tm),t.size<=n->t.size<=1099511627776->pc Q FK [B9 t]=some (.int .i64 t.size):=by
 intro n
 induction n with
 |zero=>intro t h;have:=t.size_pos;omega
 |succ n ih =>
  intro t hn hb;obtain⟨k,nm,s,m,kids⟩:=t;have J4:Tm.size (.mk k nm s m kids)=1+Tm.sizes kids:=rfl;refine H6 Uv λfr hl h0=>?_;simp[Uv,B9]at hl h0 ⊢;simp[h0];refine(ZU (Ψ:=λe fr h=>e=.exit 0/\A0 fr 3=.int .i64 (1+Tm.sizes kids:Nat)/\fr.length=21) kids
   (λdone fr h=>fr.length=21/\A0 fr 1=.ptr 0 0/\h=⟨[[.int .i64 k,.str nm,.int .i64 s,sl m 4 (A4 kids)]],[]⟩/\A0 fr 3=.int .i64 (1+Tm.sizes done:Nat)/\A0 fr 4=.int .i64 done.length) ?_ ?_ _ _ ?_).mono ?_
  .rintro fr h ⟨hl,h1,rfl,h3,h4⟩;simp[Nk,C9, *]
  .rintro done t rest he fr h ⟨hl,h1,rfl,h3,h4⟩;have hget:IZ (A4 kids) done.length=some (B9 t):=Js (by rw[←he];simp);have A7:done.length<kids.length:=by rw[←he];simp
   have hts:t.size<=Tm.sizes kids:=Tm.size_le (by rw[←he];simp);have hT:=ih t (by omega) (by omega);have B8:=Tm.length_le kids;have hsum:Tm.sizes done+(t.size+Tm.sizes rest)=Tm.sizes kids:=by rw[←he,Tm.sizes_append];rfl
   have hw1:IntKind.i64.wrap (1+(Tm.sizes done:Int)+(t.size:Int))=1+(Tm.sizes (done++[t]):Int):=by
    rw[Tm.sizes_append,W8 (by omega) (by omega)];simp only[Tm.sizes];omega
   have hw2:IntKind.i64.wrap ((done.length:Int)+1)=((done++[t]).length:Nat):=by
    rw[W8 (by omega) (by omega)];simp
   obtain⟨tk,tn,ts,tm,tl⟩:=t;simp only[B9]at hT hget;simp[Nk, *]
  .simp[*,Tm.sizes]
  .rintro e fr h ⟨rfl,h3,hl⟩;simp[*]
theorem Sk (a b:J1):pc Q Jr [.str a,.str b]=some (.int .i64 (V6 a b)):=by
 refine N3 Oc λfr hl h0 h1=>?_;simp[Oc]at hl h0 h1 ⊢;simp[*,yP]
def nz (a b:Int):Int:=if a=0 then b else a
mutual
def H7:Tm->Tm->Int
 | .mk k n s _ l,.mk k' n' s' _ l'=>nz (IL (1+Tm.sizes l:Nat) (1+Tm.sizes l':Nat)) (nz (IL k k') (nz (V6 n n') (nz (IL s s') (nz (IL l.length l'.length) (JK l l')))))
def JK:List Tm->List Tm->Int
 |t::l,t'::l'=>nz (H7 t t') (JK l l')
 |_,_=>0
end
theorem UK {a b:Nat} (h:IL (a:Int) (b:Int)=0):a=b:=by
 unfold IL at h;split at h
 .omega
 .split at h<;>omega
theorem SU (l:G7):JK [] l=0:=by cases l<;>rfl
theorem y7:∀(n:Nat) (t t':Tm),t.size<=n->t.size<=1099511627776->t'.size<=1099511627776->pc Q C4 [B9 t,B9 t']=some (.int .i64 (H7 t t')):=by
 intro n
 induction n with
 |zero=>intro t t' h;have:=t.size_pos;omega
 |succ n ih =>
  intro t t' hn hb hb';have hS:=cZ _ t (A0d _) hb;have hS':=cZ _ t' (A0d _) hb';obtain⟨k,nm,s,m,l⟩:=t;obtain⟨k',nm',s',m',l'⟩:=t';have J4:Tm.size (.mk k nm s m l)=1+Tm.sizes l:=rfl;have hsz':Tm.size (.mk k' nm' s' m' l')=1+Tm.sizes l':=rfl;have B8:=Tm.length_le l;simp only[B9,J4,hsz']at hS hS';have loop:∀(fr:Fr) (c:Int),fr.length=65->A0 fr 2=.ptr 0 0->A0 fr 3=.ptr 1 0->A0 fr 5=.int .i64 c->A0 fr 6=.int .i64 0->(c=0->l.length=l'.length) ->
    B6 (lp (A2 (K8 Q) (D6 C4) En) (fr,⟨[[.int .i64 k,.str nm,.int .i64 s,sl m 4 (A4 l)],[.int .i64 k',.str nm',.int .i64 s',sl m' 4 (A4 l')]],[]⟩))
     λe C3 _=>e=.exit 0/\C3.length=65/\A0 C3 5=.int .i64 (nz c (JK l l')):=by
   intro fr c hl h2 h3 h5 h6 hc;refine SO (λn fr h=>∃i c',i+n=l.length/\fr.length=65/\A0 fr 2=.ptr 0 0/\A0 fr 3=.ptr 1 0/\A0 fr 5=.int .i64 c'/\A0 fr 6=.int .i64 (i:Nat)/\(c'=0->l.length=l'.length) /\
    nz c' (JK (l.drop i) (l'.drop i))=nz c (JK l l')/\h=⟨[[.int .i64 k,.str nm,.int .i64 s,sl m 4 (A4 l)],[.int .i64 k',.str nm',.int .i64 s',sl m' 4 (A4 l')]],[]⟩) ?_ l.length fr _ ⟨0,c,by omega,hl,h2,h3,h5,h6,hc,rfl,rfl⟩
   rintro n fr h ⟨i,c',hi,hl,h2,h3,h5,h6,hc',hr,rfl⟩;by_cases hc0:c'=0
   .subst hc0;have Pa:=hc' rfl;by_cases A7:i<l.length
    .have hx:IZ (A4 l) i=some (B9 l[i]):=Js (by simp[A7]);have hx':IZ (A4 l') i=some (B9 (l'[i]'(by omega))):=Js (by simp[show i<l'.length by omega]);have s1:=Tm.size_le (A0c A7);have s2:=Tm.size_le (A0c (show i<l'.length by omega));have hT:=ih l[i] (l'[i]'(by omega)) (by omega) (by omega) (by omega);have hw:=C6 i (by omega);rw[A0Z A7,A0Z (show i<l'.length by omega)]at hr;simp only[JK,nz,if_true]at hr;generalize l[i]=t at *
     generalize l'[i]'(by omega)=t' at *
     obtain⟨tk,tn,ts,tm,tl⟩:=t;obtain⟨tk',tn',ts',tm',tl'⟩:=t';simp only[B9]at hT hx hx';clear ih hS hS' hc J4 hsz';simp[En,hl,h2,h3,h5,h6,A7,hx,hx',hT,hw];exact⟨n-1,by omega,i+1,by omega,by simp,λ_=>Pa,hr⟩
    .have h0:l.length<=i:=by omega
     rw[A0a h0,SU]at hr;clear ih hS hS' hc J4 hsz' Pa hc';simp[En,hl,h2,h3,h5,h6,A7];exact hr
   .clear ih hS hS' hc J4 hsz';simp[En, *];simpa[nz,hc0]using hr
  refine je Vc rfl (by simp[Nv]) λfr hl ha=>?_;have h0:=ha 0;have h1:=ha 1;clear ha ih;simp[Nv,B9]at hl h0 h1 ⊢;by_cases e0:IL (1+(Tm.sizes l:Int)) (1+(Tm.sizes l':Int))=0
  .by_cases e1:IL k k'=0
   .by_cases e2:V6 nm nm'=0
    .by_cases e3:IL s s'=0
     .by_cases e4:IL (l.length:Int) (l'.length:Int)=0
      .simp[e0,e1,e2,e3,e4,h0,h1,hl,hS,hS',Sj,Sk];refine(loop _ (0) (by simp[hl]) (by simp[hl]) (by simp[hl]) (by simp[hl]) (by simp[hl]) ?_).mono ?_
       .intro hc;exact UK e4
       .rintro e fr h ⟨rfl,hl,h5⟩;simp[hl,h5,H7,nz,e0,e1,e2,e3,e4]
      .simp[e0,e1,e2,e3,h0,h1,hl,hS,hS',Sj,Sk];refine(loop _ (IL (l.length:Int) (l'.length:Int)) (by simp[hl]) (by simp[hl]) (by simp[hl]) (by simp[hl]) (by simp[hl]) ?_).mono ?_
       .intro hc;exact absurd hc e4
       .rintro e fr h ⟨rfl,hl,h5⟩;simp[hl,h5,H7,nz,e0,e1,e2,e3,e4]
     .simp[e0,e1,e2,e3,h0,h1,hl,hS,hS',Sj,Sk];refine(loop _ (IL s s') (by simp[hl]) (by simp[hl]) (by simp[hl]) (by simp[hl]) (by simp[hl]) ?_).mono ?_
      .intro hc;exact absurd hc e3
      .rintro e fr h ⟨rfl,hl,h5⟩;simp[hl,h5,H7,nz,e0,e1,e2,e3]
    .simp[e0,e1,e2,h0,h1,hl,hS,hS',Sj,Sk];refine(loop _ (V6 nm nm') (by simp[hl]) (by simp[hl]) (by simp[hl]) (by simp[hl]) (by simp[hl]) ?_).mono ?_
     .intro hc;exact absurd hc e2
     .rintro e fr h ⟨rfl,hl,h5⟩;simp[hl,h5,H7,nz,e0,e1,e2]
   .simp[e0,e1,h0,h1,hl,hS,hS',Sj];refine(loop _ (IL k k') (by simp[hl]) (by simp[hl]) (by simp[hl]) (by simp[hl]) (by simp[hl]) ?_).mono ?_
    .intro hc;exact absurd hc e1
    .rintro e fr h ⟨rfl,hl,h5⟩;simp[hl,h5,H7,nz,e0,e1]
  .simp[e0,h0,h1,hl,hS,hS',Sj];refine(loop _ (IL (1+(Tm.sizes l:Int)) (1+(Tm.sizes l':Int))) (by simp[hl]) (by simp[hl]) (by simp[hl]) (by simp[hl]) (by simp[hl]) ?_).mono ?_
   .intro hc;exact absurd hc e0
   .rintro e fr h ⟨rfl,hl,h5⟩;simp[hl,h5,H7,nz,e0]
theorem TL:∀(n:Nat) (t t':Tm),t.size<=n->t.size<=1099511627776->t'.size<=1099511627776->pc Q Ax [B9 t,B9 t']=some (.int .i64 (H7 t t')):=by
 intro n
 induction n with
 |zero=>intro t t' h;have:=t.size_pos;omega
 |succ n ih =>
  intro t t' hn hb hb';have hS:=QO _ t (A0d _) hb;have hS':=QO _ t' (A0d _) hb';obtain⟨k,nm,s,m,l⟩:=t;obtain⟨k',nm',s',m',l'⟩:=t';have J4:Tm.size (.mk k nm s m l)=1+Tm.sizes l:=rfl;have hsz':Tm.size (.mk k' nm' s' m' l')=1+Tm.sizes l':=rfl;have B8:=Tm.length_le l;simp only[B9,J4,hsz']at hS hS';have loop:∀(fr:Fr),fr.length=76->A0 fr 2=.ptr 0 0->A0 fr 3=.ptr 1 0->A0 fr 9=.int .i64 0->l.length=l'.length ->
    B6 (lp (A2 (K8 Q) (D6 Ax) DU) (fr,⟨[[.int .i64 k,.str nm,.int .i64 s,sl m 4 (A4 l)],[.int .i64 k',.str nm',.int .i64 s',sl m' 4 (A4 l')]],[]⟩))
     λe C3 _=>C3.length=76/\(e=.exit 0/\JK l l'=0\/e=.ret/\A0 C3 4=.int .i64 (JK l l')):=by
   intro fr hl h2 h3 h9 Pa;refine SO (λn fr h=>∃i,i+n=l.length/\fr.length=76/\A0 fr 2=.ptr 0 0/\A0 fr 3=.ptr 1 0/\A0 fr 9=.int .i64 (i:Nat) /\
    JK (l.drop i) (l'.drop i)=JK l l'/\h=⟨[[.int .i64 k,.str nm,.int .i64 s,sl m 4 (A4 l)],[.int .i64 k',.str nm',.int .i64 s',sl m' 4 (A4 l')]],[]⟩) ?_ l.length fr _ ⟨0,by omega,hl,h2,h3,h9,rfl,rfl⟩
   rintro n fr h ⟨i,hi,hl,h2,h3,h9,hr,rfl⟩;by_cases A7:i<l.length
   .have hx:IZ (A4 l) i=some (B9 l[i]):=Js (by simp[A7]);have hx':IZ (A4 l') i=some (B9 (l'[i]'(by omega))):=Js (by simp[show i<l'.length by omega]);have s1:=Tm.size_le (A0c A7);have s2:=Tm.size_le (A0c (show i<l'.length by omega));have hT:=ih l[i] (l'[i]'(by omega)) (by omega) (by omega) (by omega);have hw:=C6 i (by omega);rw[A0Z A7,A0Z (show i<l'.length by omega)]at hr;simp only[JK,nz]at hr;generalize l[i]=t at *
    generalize l'[i]'(by omega)=t' at *
    obtain⟨tk,tn,ts,tm,tl⟩:=t;obtain⟨tk',tn',ts',tm',tl'⟩:=t';simp only[B9]at hT hx hx';by_cases hc:H7 (Tm.mk tk tn ts tm tl) (Tm.mk tk' tn' ts' tm' tl')=0
    .rw[if_pos hc]at hr;simp[DU,hl,h2,h3,h9,A7,hx,hx',hT,hw,hc];exact⟨n-1,by omega,i+1,by omega,by simp,hr⟩
    .rw[if_neg hc]at hr;simp[DU,hl,h2,h3,h9,A7,hx,hx',hT,hc];exact hr
   .have h0:l.length<=i:=by omega
    rw[A0a h0,SU]at hr;simp[DU,hl,h2,h3,h9,A7];exact hr.symm
  refine je Uk rfl (by simp[MI]) λfr hl ha=>?_;have h0:=ha 0;have h1:=ha 1;clear ha ih;simp[MI,B9]at hl h0 h1 ⊢;by_cases e0:IL (1+(Tm.sizes l:Int)) (1+(Tm.sizes l':Int))=0
  .by_cases e1:IL k k'=0
   .by_cases e2:Op.bytesLess nm.toList nm'.toList=true
    .simp[e0,e1,e2,h0,h1,hl,hS,hS',Km];simp[H7,nz,e0,e1,e2,V6]
    .by_cases e3:nm.toList=nm'.toList
     .have e2':=e2;rw[e3]at e2';by_cases e5:IL s s'=0
      .by_cases e4:IL (l.length:Int) (l'.length:Int)=0
       .simp[e0,e1,e2',e3,e5,e4,h0,h1,hl,hS,hS',Km];refine(loop _ (by simp[hl]) (by simp[hl]) (by simp[hl]) (by simp[hl]) (UK e4)).mono ?_;rintro e fr h ⟨hl,⟨rfl,hz⟩|⟨rfl,h5⟩⟩
        .simp[hl,H7,nz,e0,e1,e2',e3,e5,e4,V6,hz]
        .simp[h5,H7,nz,e0,e1,e2',e3,e5,e4,V6]
       .simp[e0,e1,e2',e3,e5,e4,h0,h1,hl,hS,hS',Km];simp[H7,nz,e0,e1,e2',e3,e5,e4,V6]
      .simp[e0,e1,e2',e3,e5,h0,h1,hl,hS,hS',Km];simp[H7,nz,e0,e1,e2',e3,e5,V6]
     .simp[e0,e1,e2,e3,h0,h1,hl,hS,hS',Km];simp[H7,nz,e0,e1,e2,e3,V6]
   .simp[e0,e1,h0,h1,hl,hS,hS',Km];simp[H7,nz,e0,e1]
  .simp[e0,h0,h1,hl,hS,hS',Km];simp[H7,nz,e0]
def KU (t t':Tm):Bool:=decide (H7 t t'=0)
theorem Wv (t t':Tm) (h:t.size<=1099511627776) (h':t'.size<=1099511627776):pc Q FJ [B9 t,B9 t']=some (.bool (KU t t')):=by
 have hC:=TL _ t t' (A0d _) h h';refine je YX rfl (by simp[Qa]) λfr hl ha=>?_;have h0:=ha 0;have h1:=ha 1;clear ha h h';obtain⟨tk,tn,ts,tm,tl⟩:=t;obtain⟨tk',tn',ts',tm',tl'⟩:=t';simp only[B9]at hC;simp[Qa,B9]at hl h0 h1 ⊢;simp[h0,h1,hl,hC,KU]
mutual
def iT:Tm->Int->Int
 | .mk _ n _ _ l,most=>if most<=0\/(40:Int)<n.size then -1 else XK l (most-1)
def XK:List Tm->Int->Int
 | [],most=>most
 |t::l,most=>if iT t most<0 then -1 else XK l (iT t most)
end
mutual
theorem iU:∀(t:Tm) (m:Int),iT t m<=m\/iT t m=-1
 | .mk _ n _ _ l,m=>by
  simp only[iT];split
  .exact .inr rfl
  .rcases ki l (m-1)with h|h
   .exact .inl (by omega)
   .exact .inr h
theorem ki:∀(l:G7) (m:Int),XK l m<=m\/XK l m=-1
 | [],m=>.inl (Int.le_refl _)
 |t::l,m=>by
  simp only[XK];split
  .exact .inr rfl
  .rename_i hb;rcases iU t m with h|h
   .rcases ki l (iT t m)with h' | h'
    .exact .inl (by omega)
    .exact .inr h'
   .omega
end
theorem oo:∀(n:Nat) (t:Tm) (most:Int),t.size<=n->t.size<=1099511627776->most<=9223372036854775807->pc Q Jh [B9 t,.int .i64 most]=some (.int .i64 (iT t most)):=by
 intro n
 induction n with
 |zero=>intro t _ h;have:=t.size_pos;omega
 |succ n ih =>
  intro t most hn hb hm;obtain⟨k,nm,s,m,kids⟩:=t;have J4:Tm.size (.mk k nm s m kids)=1+Tm.sizes kids:=rfl;have B8:=Tm.length_le kids;refine N3 HH λfr hl h0 h1=>?_;simp[HH,B9]at hl h0 h1;by_cases h2:most<=0
  .simp[HH,hl,h0,h1,h2,iT]
  by_cases h3:(40:Int)<nm.size
  .simp[HH,hl,h0,h1,h2,h3,iT]
  have hw0:IntKind.i64.wrap (most-1)=most-1:=W8 (by omega) (by omega);simp[HH,hl,h0,h1,h2,h3,hw0];refine(SO (Ψ:=λe fr h=>fr.length=33/\(e=.exit 0/\A0 fr 1=.int .i64 (XK kids (most-1))\/e=.ret/\A0 fr 4=.int .i64 (-1)/\XK kids (most-1)=-1))
   (λn fr h=>∃i cur,i+n=kids.length/\fr.length=33/\cur<=9223372036854775807/\A0 fr 1=.int .i64 cur/\A0 fr 2=.ptr 0 0/\A0 fr 5=.int .i64 (i:Nat)/\XK (kids.drop i) cur=XK kids (most-1) /\
    h=⟨[[.int .i64 k,.str nm,.int .i64 s,sl m 4 (A4 kids)]],[]⟩) ?_ kids.length _ _ ?_).mono ?_
  .rintro n fr h ⟨i,cur,hi,hl,hcur,h1,h2,h5,hr,rfl⟩;by_cases A7:i<kids.length
   .have hx:IZ (A4 kids) i=some (B9 kids[i]):=Js (by simp[A7]);have s1:=Tm.size_le (A0c A7);have hT:=ih kids[i] cur (by omega) (by omega) hcur;have Pa:=iU kids[i] cur;have hw:=C6 i (by omega);rw[A0Z A7]at hr;simp only[XK]at hr;generalize kids[i]=t at *
    obtain⟨tk,tn,ts,tm,tl⟩:=t;simp only[B9]at hT hx;by_cases hc:iT (Tm.mk tk tn ts tm tl) cur<0
    .rw[if_pos hc]at hr;simp[Hm,hl,h1,h2,h5,A7,hx,hT,hc];exact hr.symm
    .rw[if_neg hc]at hr;simp[Hm,hl,h1,h2,h5,A7,hx,hT,hw,hc];refine⟨n-1,by omega,i+1,by omega,_,?_,rfl,by simp,hr⟩;omega
   .have h0:kids.length<=i:=by omega
    rw[A0a h0]at hr;simp only[XK]at hr;simp[Hm,hl,h1,h2,h5,A7];exact hr
  .exact⟨0,most-1,by omega,by simp[hl],by omega,by simp[hl],by simp[hl],by simp[hl],rfl,rfl⟩
  .rintro e fr h ⟨hl,⟨rfl,h1⟩|⟨rfl,h4,he⟩⟩
   .simp[hl,h1,iT,h2,h3]
   .simp[h4,he,iT,h2,h3]
def eQ:List Tm->Int->Bool
 | [],_=>true
 |t::l,most=>if iT t most<0 then false else eQ l (iT t most)
def vG (l:List Tm) (n most:Int):Bool:=if n<l.length then false else eQ l most
theorem yM (m:I6) (l:G7) (q most:Int) (h:Tm.sizes l<=1099511627776) (hm:most<=9223372036854775807):pc Q Lo [sl m 4 (A4 l),.int .i64 q,.int .i64 most]=some (.bool (vG l q most)):=by
 have B8:=Tm.length_le l;refine HC Oa λfr hl h0 h1 h2=>?_;simp[Oa]at hl h0 h1 h2;by_cases hq:q<l.length
 .simp[Oa,hl,h0,h1,hq,vG]
 simp[Oa,hl,h0,h1,hq];refine(SO (Ψ:=λe fr h=>fr.length=26/\(e=.exit 0/\eQ l most=true\/e=.ret/\A0 fr 6=.bool false/\eQ l most=false))
  (λn fr h=>∃i cur,i+n=l.length/\fr.length=26/\cur<=9223372036854775807/\A0 fr 0=sl m 4 (A4 l)/\A0 fr 2=.int .i64 cur/\A0 fr 7=.int .i64 (i:Nat)/\eQ (l.drop i) cur=eQ l most) ?_ l.length _ _ ?_).mono ?_
 .rintro n fr h ⟨i,cur,hi,hl,hcur,h0,h2,h7,hr⟩;by_cases A7:i<l.length
  .have hx:IZ (A4 l) i=some (B9 l[i]):=Js (by simp[A7]);have s1:=Tm.size_le (A0c A7);have hT:=oo _ l[i] cur (A0d _) (by omega) hcur;have Pa:=iU l[i] cur;have hw:=C6 i (by omega);rw[A0Z A7]at hr;simp only[eQ]at hr;generalize l[i]=t at *
   obtain⟨tk,tn,ts,tm,tl⟩:=t;simp only[B9]at hT hx;by_cases hc:iT (Tm.mk tk tn ts tm tl) cur<0
   .rw[if_pos hc]at hr;simp[LZ,hl,h0,h2,h7,A7,hx,hT,hc];exact hr.symm
   .rw[if_neg hc]at hr;simp[LZ,hl,h0,h2,h7,A7,hx,hT,hw,hc];refine⟨n-1,by omega,i+1,by omega,_,?_,rfl,by simp,hr⟩;omega
  .have e0:l.length<=i:=by omega
   rw[A0a e0]at hr;simp only[eQ]at hr;simp[LZ,hl,h0,h7,A7];exact hr.symm
 .exact⟨0,most,by omega,by simp[hl],by omega,by simp[h0],by simp[h2],by simp[hl],rfl⟩
 .rintro e fr h ⟨hl,⟨rfl,he⟩|⟨rfl,h4,he⟩⟩
  .simp[hl,he,vG,hq]
  .simp[h4,he,vG,hq]
theorem dJ (h:AH) (m:I6) (sz:Nat) (J4:0<sz) (xs:G6) (lo hi:Option Int):Yh h sz (sl m sz xs) (some lo) (some hi) (some none) =
  if 0<=lo.getD 0/\lo.getD 0<=hi.getD xs.length/\hi.getD xs.length<=xs.length then
   some (sl (m.1&&decide (hi.getD xs.length=xs.length),m.2||!xs.isEmpty) sz ((xs.drop (lo.getD 0).toNat).take (hi.getD xs.length-lo.getD 0).toNat),h)else none:=by
 have hz:(if (xs.isEmpty&&!m.2)=true then 0 else sz)=sz\/xs.length=0:=by
  cases xs with
  |nil=>exact .inr rfl
  |cons x xs=>exact .inl rfl
 simp only[Yh,sl,Oo];rw[if_pos ⟨J4,hz⟩];by_cases hc:0<=lo.getD 0/\lo.getD 0<=hi.getD xs.length/\hi.getD xs.length<=xs.length
 .rw[if_pos hc,if_pos hc];have e:((if (xs.isEmpty&&!m.2)=true then 0 else sz):Nat)=(if (((xs.drop (lo.getD 0).toNat).take (hi.getD xs.length-lo.getD 0).toNat).isEmpty&&!(m.2||!xs.isEmpty))=true then 0 else sz):=by
   cases xs with
   |nil=>simp
   |cons x xs=>simp
  rw[e]
 .rw[if_neg hc,if_neg hc]
theorem slc_drop (h:AH) (m:I6) (sz:Nat) (J4:0<sz) (xs:G6) (k:Nat) (hk:k<=xs.length) :
  Yh h sz (sl m sz xs) (some (some (k:Int))) (some none) (some none)=some (sl (m.1,m.2||!xs.isEmpty) sz (xs.drop k),h):=by
 rw[dJ _ _ _ J4];have e:((xs.length:Int)-(k:Int)).toNat=xs.length-k:=by omega
 simp only[A0f,A0o,decide_true,Bool.and_true,A0l,e];rw[if_pos ⟨by omega,by omega,by omega⟩,List.take_of_length_le (by simp)]
theorem gd (h:AH) (m:I6) (sz:Nat) (J4:0<sz) (xs:G6) (k:Nat) (hk:k<=xs.length) :
  Yh h sz (sl m sz xs) (some none) (some (some (k:Int))) (some none)=some (sl (m.1&&decide (k=xs.length),m.2||!xs.isEmpty) sz (xs.take k),h):=by
 rw[dJ _ _ _ J4];have e:decide ((k:Int)=(xs.length:Int))=decide (k=xs.length):=by
  rw[Bool.eq_iff_iff];simp only[decide_eq_true_eq];omega
 simp only[A0f,A0o,Int.sub_zero,A0l,e,Int.toNat_zero,List.drop_zero];rw[if_pos ⟨by omega,by omega,by omega⟩]
def Q2 {α:Type} (p:α->Bool):Nat->List α->Int
 |_,[]=>-1
 |i,a::r=>if p a=true then (i:Int)else Q2 p (i+1) r
def idx {α:Type} (p:α->Bool) (l:List α):Int:=Q2 p 0 l
theorem Dh {α:Type} (p:α->Bool):∀(l:List α) (i:Nat),(0<=Q2 p i l)↔l.any p=true
 | [],i=>by simp[Q2]
 |a::l,i=>by
  simp only[Q2,List.any_cons,A0g];by_cases h:p a=true
  .simp[h]
  .rw[if_neg h,Dh p l (i+1)];simp[h]
theorem B7 {p:Prop} [Decidable p] (h:p):decide p=true:=by simp[h]
theorem A3 {p:Prop} [Decidable p] (h:¬p):decide p=false:=by simp[h]
def JU (c:Nat):Bool:=decide (97<=c/\c<=122)||decide (65<=c/\c<=90)
def OD (c:Nat):Bool:=decide (48<=c/\c<=57)
def d9 (c:Nat):Bool:=JU c||OD c||decide (c=95)||decide (c=35)
theorem YT (c:Nat):c<35\/c=35\/(36<=c/\c<=47)\/(48<=c/\c<=57)\/(58<=c/\c<=64)\/(65<=c/\c<=90)\/(91<=c/\c<=94)\/c=95\/c=96\/(97<=c/\c<=122)\/123<=c:=by omega
theorem lg (c:Nat):pc Q OU [.int .u8 c]=some (.bool (d9 c)):=by
 refine H6 SG λfr hl h0=>?_;simp[SG]at hl h0;rcases YT c with h|h|h|h|h|h|h|h|h|h|h<;>simp(disch:=omega) only[d9,JU,OD,B7,A3,A0t,A0r]<;>simp(disch:=first|omega|(simp only[A0e];omega)) [SG,h0,B7,A3]
theorem aU (c:Nat):pc Q Ji [.int .u8 c]=some (.bool (JU c)):=by
 refine H6 Nl λfr hl h0=>?_;simp[Nl]at hl h0;rcases YT c with h|h|h|h|h|h|h|h|h|h|h<;>simp(disch:=omega) only[JU,B7,A3,A0t,A0r]<;>simp(disch:=first|omega|(simp only[A0e];omega)) [Nl,h0,B7,A3]
theorem sh (c:Nat):pc Q Oh [.int .u8 c]=some (.bool (OD c)):=by
 refine H6 Oy λfr hl h0=>?_;simp[Oy]at hl h0;rcases YT c with h|h|h|h|h|h|h|h|h|h|h<;>simp(disch:=omega) only[OD,B7,A3]<;>simp(disch:=first|omega|(simp only[A0e];omega)) [Oy,h0,B7,A3]
abbrev M3 (s:ByteArray):List UInt8:=s.data.toList
theorem GV (s:J1) (j:Nat):s[j]?=(M3 s)[j]?:=by
 obtain⟨⟨l⟩⟩:=s;by_cases h:j<l.length
 .have h1:j<A0p ⟨⟨l⟩⟩:=h;rw[getElem?_pos (⟨⟨l⟩⟩:ByteArray) j h1];simp only[M3];rw[A0b h];rfl
 .have h1:¬j<A0p ⟨⟨l⟩⟩:=h;rw[getElem?_neg (⟨⟨l⟩⟩:ByteArray) j h1];simp only[M3];rw[List.getElem?_eq_none (by omega)]
theorem K7 (s:J1):(M3 s).length=s.size:=by
 obtain⟨⟨l⟩⟩:=s;rfl
def U8 (s:ByteArray):Bool:=match M3 s with | []=>false|c::r=>decide (s.size<=24)&&JU c.toNat&&(c::r).all λc=>d9 c.toNat
def Qn (s:ByteArray):Bool:=(M3 s).contains 35
theorem fE (s:J1) (hs:s.size<=24) (fr:Fr) (h:AH) (hl:fr.length=48) (h0:A0 fr 0=.str s) (h38:A0 fr 38=.int .i64 s.size) (h39:A0 fr 39=.int .i64 0) :
  B6 (lp (A2 (K8 Q) (D6 IW) Cx) (fr,h)) λe C3 h'=>Kp Cx.wr fr C3/\(e=.exit 0/\((M3 s).all λc=>d9 c.toNat)=true\/e=.ret/\A0 C3 2=.bool false/\((M3 s).all λc=>d9 c.toNat)=false):=by
 refine A9 rfl fr (λn fr h=>∃i:Nat,i+n=s.size/\A0 fr 39=.int .i64 (i:Nat)/\(((M3 s).drop i).all λc=>d9 c.toNat)=((M3 s).all λc=>d9 c.toNat)) ?_ s.size h ⟨0,by omega,h39,rfl⟩;rintro J Φ hJ hΦ n D4 DD K ⟨i,hi,k39,hr⟩;have A6:=K.1.trans hl;have k0:=A8 K 0 h0;have k38:=A8 K 38 h38;have B8:=K7 s;by_cases A7:i<s.size
 .have u5:i<(M3 s).length:=by omega
  have hx:s[i]?=some (M3 s)[i]:=by rw[GV,A0b u5]
  have hw:=C6 i (by omega);rw[A0Z u5,A0s]at hr;generalize (M3 s)[i]=c at *
  have hP:=lg c.toNat;have HU:s[i]'A7=c:=by rw[getElem?_pos s i A7]at hx;exact Option.some.inj hx
  cases hc:d9 c.toNat with
  |true =>
   rw[hc]at hP hr;simp[Cx,A6,k0,k38,k39,A7,HU,hw,hP];exact G0 hJ ⟨i+1,by omega,by simp[A6],by simpa using hr⟩
  |false =>
   rw[hc]at hP hr;simp[Cx,A6,k0,k38,k39,A7,HU,hP];exact hΦ _ _ _ (.inr ⟨rfl,by simp[A6],by simpa using hr.symm⟩)
 .rw[A0a (by omega)]at hr;simp[Cx,A6,k38,k39,A7];exact hΦ _ _ _ (.inl ⟨rfl,by simpa using hr.symm⟩)
theorem bV {s:J1} (h:M3 s=[]):s=bs []:=by
 obtain⟨⟨l⟩⟩:=s;simp[M3]at h;subst h;rfl
theorem ox (s:J1):pc Q IW [.str s]=some (.bool (U8 s)):=by
 have B8:=K7 s;refine H6 AW λfr hl h0=>?_;simp[AW]at hl h0;cases hb:M3 s with
 |nil =>
  have e:=bV hb;subst e;simp[AW,hl,h0,U8,hb]
 |cons c r =>
  rw[hb]at B8;simp only[A0m]at B8;have P4:¬(s.toList=(bs []).toList):=by
   rw[Lib.toList_data,Lib.toList_data,show s.data.toList=c::r from hb];intro e;cases e
  have L8:0<s.size:=by omega
  have hx:s[0]?=some c:=by rw[GV,hb];rfl
  have HU:s[0]'L8=c:=by rw[getElem?_pos s 0 L8]at hx;exact Option.some.inj hx
  by_cases h24:24<s.size
  .have h24':(24:Int)<(s.size:Int):=by omega
   have h24n:¬s.size<=24:=by omega
   simp[AW,hl,h0,P4,h24',U8,hb,h24n]
  .have h24':¬(24:Int)<(s.size:Int):=by omega
   have h24n:s.size<=24:=by omega
   have hP:=lg c.toNat;cases hL:JU c.toNat with
   |false =>
    have hv:U8 s=false:=by simp[U8,hb,hL]
    rw[hv];cases hp:d9 c.toNat with
    |false =>
     rw[hp]at hP;simp[AW,hl,h0,P4,h24',L8,HU,hP]
    |true =>
     rw[hp]at hP;have hcc:(48<=c.toNat/\c.toNat<=57)\/c.toNat=95\/c.toNat=35:=by
      simp only[d9,hL,OD,Bool.false_or,A0g,decide_eq_true_eq]at hp;omega
     generalize hzv:c.toNat=z at *
     rcases hcc with hz|hz|hz<;>simp(disch:=first|omega|(simp only[A0e];omega)) [AW,h0,P4,h24',HU,hzv,hP,B7,A3]
   |true =>
    have hp:d9 c.toNat=true:=by simp[d9,hL]
    rw[hp]at hP;have hcc:(97<=c.toNat/\c.toNat<=122)\/(65<=c.toNat/\c.toNat<=90):=by
     simp only[JU,A0g,decide_eq_true_eq]at hL;exact hL
    have hv:U8 s=(M3 s).all λc=>d9 c.toNat:=by simp[U8,hb,hL,h24n]
    rw[hv];have key:∀b,((M3 s).all λc=>d9 c.toNat)=b->B6 (A2 (K8 Q) (D6 IW) AW.body (fr,⟨[],[]⟩)) (kU AW.results (.bool b)):=by
     intro b hbv;generalize hzv:c.toNat=z at *
     have q1:¬(z:Int)=95:=by omega
     have q2:¬(z:Int)=35:=by omega
     have q3:¬((z:Int)<=57):=by omega
     have q4:(48:Int)<=(z:Int):=by omega
     simp[AW,hl,h0,P4,h24',L8,HU,hzv,hP,q1,q2,q3,q4];refine(fE s h24n _ _ (by simp[hl]) (by simp[h0]) (by simp[hl]) (by simp[hl])).mono ?_;rintro e C3 h' ⟨K,⟨rfl,he⟩|⟨rfl,h2,he⟩⟩
     .have hl':C3.length=48:=K.1.trans (by simp[hl]);rw[hbv]at he;simp[hl',he]
     .rw[hbv]at he;simp[h2,he]
    exact key _ rfl
theorem dH (s:J1) (hs:s.size<=24) (fr:Fr) (h:AH) (hl:fr.length=48) (h0:A0 fr 0=.str s) (h3:A0 fr 3=.int .i64 0) :
  B6 (lp (A2 (K8 Q) (D6 EG) V3) (fr,h)) λe C3 h'=>Kp V3.wr fr C3/\(e=.exit 0/\((M3 s).all λc=>d9 c.toNat)=true\/e=.ret/\A0 C3 2=.bool false/\((M3 s).all λc=>d9 c.toNat)=false):=by
 refine A9 rfl fr (λn fr h=>∃i:Nat,i+n=s.size/\A0 fr 3=.int .i64 (i:Nat)/\(((M3 s).drop i).all λc=>d9 c.toNat)=((M3 s).all λc=>d9 c.toNat)) ?_ s.size h ⟨0,by omega,h3,rfl⟩;rintro J Φ hJ hΦ n D4 DD K ⟨i,hi,k3,hr⟩;have A6:=K.1.trans hl;have k0:=A8 K 0 h0;have B8:=K7 s;by_cases A7:i<s.size
 .have u5:i<(M3 s).length:=by omega
  have hx:s[i]?=some (M3 s)[i]:=by rw[GV,A0b u5]
  have hw:=C6 i (by omega);rw[A0Z u5,A0s]at hr;generalize (M3 s)[i]=c at *
  have hL:=aU c.toNat;have hD:=sh c.toNat;have HU:s[i]'A7=c:=by rw[getElem?_pos s i A7]at hx;exact Option.some.inj hx
  have fwd:d9 c.toNat=true->(((M3 s).drop (i+1)).all λc=>d9 c.toNat)=((M3 s).all λc=>d9 c.toNat):=λhp=>by rw[hp]at hr;simpa using hr
  have bad:d9 c.toNat=false->((M3 s).all λc=>d9 c.toNat)=false:=λhp=>by rw[hp]at hr;simpa using hr.symm
  clear hr;generalize hz:c.toNat=z at *
  cases hLv:JU z with
  |true =>
   rw[hLv]at hL;simp[V3,A6,k0,k3,A7,HU,hz,hw,hL];exact G0 hJ ⟨i+1,by omega,by simp[A6],fwd (by simp[d9,hLv])⟩
  |false =>
   rw[hLv]at hL;cases hDv:OD z with
   |true =>
    rw[hDv]at hD;simp[V3,A6,k0,k3,A7,HU,hz,hw,hL,hD];exact G0 hJ ⟨i+1,by omega,by simp[A6],fwd (by simp[d9,hDv])⟩
   |false =>
    rw[hDv]at hD;by_cases h95:z=95
    .subst h95;simp only[A0k]at hL hD;simp[V3,A6,k0,k3,A7,HU,hz,hw,hL,hD];exact G0 hJ ⟨i+1,by omega,by simp[A6],fwd (by simp[d9])⟩
    .have h95':¬(z:Int)=95:=by omega
     by_cases h35:z=35
     .subst h35;simp only[A0k]at hL hD;simp[V3,A6,k0,k3,A7,HU,hz,hw,hL,hD];exact G0 hJ ⟨i+1,by omega,by simp[A6],fwd (by simp[d9])⟩
     .have h35':¬(z:Int)=35:=by omega
      simp[V3,A6,k0,k3,A7,HU,hz,hL,hD,h95',h35'];exact hΦ _ _ _ (.inr ⟨rfl,by simp[A6],bad (by simp[d9,hLv,hDv,h95,h35])⟩)
 .rw[A0a (by omega)]at hr;simp[V3,A6,k0,k3,A7];exact hΦ _ _ _ (.inl ⟨rfl,by simpa using hr.symm⟩)
theorem aP (s:J1):pc Q EG [.str s]=some (.bool (U8 s)):=by
 have B8:=K7 s;refine H6 Ag λfr hl h0=>?_;simp[Ag]at hl h0;cases hb:M3 s with
 |nil =>
  have e:=bV hb;subst e;simp[Ag,hl,h0,U8,hb,show (bs []).size=0 from rfl]
 |cons c r =>
  rw[hb]at B8;simp only[A0m]at B8;have P4:¬(s.size:Int)=0:=by omega
  have hne':¬s.size=0:=by omega
  have L8:0<s.size:=by omega
  have hx:s[0]?=some c:=by rw[GV,hb];rfl
  have HU:s[0]'L8=c:=by rw[getElem?_pos s 0 L8]at hx;exact Option.some.inj hx
  by_cases h24:24<s.size
  .have h24':(24:Int)<(s.size:Int):=by omega
   have h24n:¬s.size<=24:=by omega
   simp[Ag,hl,h0,hne',h24',U8,hb,h24n]
  .have h24':¬(24:Int)<(s.size:Int):=by omega
   have h24n:s.size<=24:=by omega
   have hL:=aU c.toNat;cases hLv:JU c.toNat with
   |false =>
    rw[hLv]at hL;have hv:U8 s=false:=by simp[U8,hb,hLv]
    rw[hv];simp[Ag,hl,h0,hne',h24',L8,HU,hL]
   |true =>
    rw[hLv]at hL;have hv:U8 s=(M3 s).all λc=>d9 c.toNat:=by simp[U8,hb,hLv,h24n]
    rw[hv];have key:∀b,((M3 s).all λc=>d9 c.toNat)=b->B6 (A2 (K8 Q) (D6 EG) Ag.body (fr,⟨[],[]⟩)) (kU Ag.results (.bool b)):=by
     intro b hbv;simp[Ag,hl,h0,hne',h24',L8,HU,hL];refine(dH s h24n _ _ (by simp[hl]) (by simp[h0]) (by simp[hl])).mono ?_;rintro e C3 h' ⟨K,⟨rfl,he⟩|⟨rfl,h2,he⟩⟩
     .have hl':C3.length=48:=K.1.trans (by simp[hl]);rw[hbv]at he;simp[hl',he]
     .rw[hbv]at he;simp[h2,he]
    exact key _ rfl
end Go.Abs.Q
