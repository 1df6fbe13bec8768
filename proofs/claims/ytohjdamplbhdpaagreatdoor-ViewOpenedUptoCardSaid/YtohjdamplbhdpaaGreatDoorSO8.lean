/- A part of the proof. -/
import Derived.Test.YtohjdamplbhdpaaGreatDoorSO6
import Derived.Test.YtohjdamplbhdpaaGreatDoorSO7
import Derived.Test.YtohjdamplbhdpaaGreatDoorRows
import Derived.KernelRfl
import Derived.Shelf.SlSortCmp.NoneTotal
import Derived.Lib.Strings
set_option linter.all false
open List renaming drop_eq_getElem_cons->A0Q,drop_eq_nil_of_le->A0R,getElem?_eq_getElem->A0S,getElem_mem->A0T,length_set->A0V,mem_append_right->A0Y,mem_append_left->A0Z,length_cons->A0d,mem_flatMap->A0e,mem_range->A0h,all_cons->A0j,mem_map->A0l,range->A0m
open Nat renaming le_refl->A0U
open Option renaming getD_some->A0W,getD_none->A0f
open Bool renaming or_eq_true->A0X,or_false->A0i,or_true->A0k
open Array renaming ext_getElem?->A0a
open Int renaming cast_ofNat_Int->A0b,toNat_natCast->A0c
open ByteArray renaming size->A0g
namespace Go.Abs.Q
open Go.Proofs
noncomputable def Ag (f:FuncId):Option RFunc:=if rspF f then none else cn Tryz.prog D6 f
theorem WL:Ag IA=some LQ:=by kernel_rfl
theorem YJ:Ag HK=some QP:=by kernel_rfl
theorem Lw:Ag Fw=some d5:=by kernel_rfl
theorem PX:Ag Jh=some CB:=by kernel_rfl
theorem UX:Ag At=some MA:=by kernel_rfl
theorem VN:Ag C3=some Nh:=by kernel_rfl
theorem VM:Ag Bn=some NX:=by kernel_rfl
theorem ZD:Ag Gi=some Rx:=by kernel_rfl
theorem NK:Ag W7=some AK:=by kernel_rfl
theorem YL:Ag BK=some U8:=by kernel_rfl
theorem YK:Ag FC=some FK:=by kernel_rfl
theorem Te:Ag Y7=some Hd:=by kernel_rfl
theorem ZC:Ag Gg=some Gx:=by kernel_rfl
theorem WN:Ag Db=some IN:=by kernel_rfl
theorem WM:Ag Da=some LR:=by kernel_rfl
theorem UY:Ag FT=some If:=by kernel_rfl
theorem Rg:Ag T1=some FL:=by kernel_rfl
end Go.Abs.Q
namespace Go.Abs
def B7 (r:Option (Ex×St)) (Ψ:Ex->Fr->AH->Prop):Prop:=match r with|some (e,fr,h)=>Ψ e fr h|none=>False
@[congr] theorem wv {r r':Option (Ex×St)} {Ψ:Ex->Fr->AH->Prop} (h:r=r'):B7 r Ψ=B7 r' Ψ:=by rw[h]
@[simp] theorem yh (e:Ex) (fr:Fr) (h:AH) (Ψ:Ex->Fr->AH->Prop):B7 (some (e,fr,h)) Ψ=Ψ e fr h:=_root_.id rfl
def SQ (O:Orc) (c:Ctx) (y:RCode) (Ψ:Ex->Fr->AH->Prop):Ex->Fr->AH->Prop
 | .normal,fr,h=>B7 (A2 O c y (fr,h)) Ψ
 |e,fr,h=>Ψ e fr h
section
variable (O:Orc) (c:Ctx) (y:RCode) (Ψ:Ex->Fr->AH->Prop)
@[simp] theorem SQ_n (fr:Fr) (h:AH):SQ O c y Ψ .normal fr h=B7 (A2 O c y (fr,h)) Ψ:=_root_.id rfl
@[simp] theorem SQ_r (fr:Fr) (h:AH):SQ O c y Ψ .ret fr h=Ψ .ret fr h:=_root_.id rfl
@[simp] theorem SQ_e (i:Nat) (fr:Fr) (h:AH):SQ O c y Ψ (.exit i) fr h=Ψ (.exit i) fr h:=_root_.id rfl
@[simp] theorem zi (r:Option (Ex×St)):B7 (wi r O c y) Ψ=B7 r (SQ O c y Ψ):=by
 cases r with
 |none=>rfl
 |some x=>obtain⟨e,fr,h⟩:=x;cases e<;>rfl
end
def BL (id:Nat) (Ψ:Ex->Fr->AH->Prop):Ex->Fr->AH->Prop
 | .exit i,fr,h=>if i=id then Ψ .normal fr h else Ψ (.exit i) fr h
 |e,fr,h=>Ψ e fr h
@[simp] theorem BL_n (id:Nat) (Ψ:Ex->Fr->AH->Prop) (fr:Fr) (h:AH):BL id Ψ .normal fr h=Ψ .normal fr h:=_root_.id rfl
@[simp] theorem BL_r (id:Nat) (Ψ:Ex->Fr->AH->Prop) (fr:Fr) (h:AH):BL id Ψ .ret fr h=Ψ .ret fr h:=_root_.id rfl
@[simp] theorem BL_e (id i:Nat) (Ψ:Ex->Fr->AH->Prop) (fr:Fr) (h:AH):BL id Ψ (.exit i) fr h=if i=id then Ψ .normal fr h else Ψ (.exit i) fr h:=_root_.id rfl
@[simp] theorem zh (id:Nat) (r:Option (Ex×St)) (Ψ:Ex->Fr->AH->Prop):B7 (vC id r) Ψ=B7 r (BL id Ψ):=by
 cases r with
 |none=>rfl
 |some x =>
  obtain⟨e,fr,h⟩:=x;cases e with
  |exit i =>
   by_cases hi:i=id
   .subst hi;simp[vC,BL]
   .simp[vC,BL,hi]
  |_=>rfl
theorem B7.mono {r:Option (Ex×St)} {Φ Ψ:Ex->Fr->AH->Prop} (h:B7 r Φ) (k:∀e fr h,Φ e fr h->Ψ e fr h):B7 r Ψ:=by
 cases r with
 |none=>exact h.elim
 |some x=>exact k _ _ _ h
theorem B7.elim' {r:Option (Ex×St)} {Φ:Ex->Fr->AH->Prop} (h:B7 r Φ):∃e fr h',r=some (e,fr,h')/\Φ e fr h':=by
 cases r with
 |none=>exact h.elim
 |some x=>exact⟨_,_,_,rfl,h⟩
theorem SH {step:St->Option (Ex×St)} {Ψ:Ex->Fr->AH->Prop} (Inv:Nat->Fr->AH->Prop)
  (H:∀n fr h,Inv n fr h->B7 (step (fr,h)) λe C4 h'=>(e=.normal/\∃m,m<n/\Inv m C4 h')\/(e≠.normal/\Ψ e C4 h')) :
  ∀(n:Nat) (fr:Fr) (h:AH),Inv n fr h->B7 (lp step (fr,h)) Ψ:=by
 intro n
 induction n using Nat.strongRecOn with
 |_ n ih =>
  intro fr h hi;obtain⟨e,C4,h',he,hp⟩:=(H n fr h hi).elim';rcases hp with ⟨rfl,m,hm,Cw⟩|⟨P0,hp⟩
  .obtain⟨e2,R1,h2,he2,hp2⟩:=(ih m hm C4 h' Cw).elim';rw[wY he he2];exact hp2
  .cases e with
   |normal=>exact absurd rfl P0
   |exit i=>rw[lJ he];exact hp
   |ret=>rw[rq he];exact hp
theorem ZI {α:Type} {step:St->Option (Ex×St)} {Ψ:Ex->Fr->AH->Prop} (all:List α) (Inv:List α->Fr->AH->Prop)
  (last:∀fr h,Inv all fr h->B7 (step (fr,h)) λe C4 h'=>e≠.normal/\Ψ e C4 h')
  (next:∀done x rest,done++x::rest=all->∀fr h,Inv done fr h->B7 (step (fr,h)) λe C4 h'=>(e=.normal/\Inv (done++[x]) C4 h')\/(e≠.normal/\Ψ e C4 h')) :
  ∀(fr:Fr) (h:AH),Inv [] fr h->B7 (lp step (fr,h)) Ψ:=by
 intro fr h hi;refine SH (λn fr h=>∃done rest,done++rest=all/\rest.length=n/\Inv done fr h) (λn fr h ⟨done,rest,he,hn,hi⟩=>?_) all.length fr h ⟨[],all,rfl,rfl,hi⟩;cases rest with
 |nil =>
  rw[List.append_nil]at he;subst he;exact(last fr h hi).mono λe C4 h' hp=>.inr hp
 |cons x rest =>
  refine(next done x rest he fr h hi).mono λe C4 h' hp=>?_
  rcases hp with ⟨h1,h2⟩|hp
  .exact .inl ⟨h1,rest.length,by simp at hn;omega,done++[x],rest,by simpa using he,rfl,h2⟩
  .exact .inr hp
def kM (rs:List RRes) (r:AV):Ex->Fr->AH->Prop
 | .exit _,_,_=>False
 |_,fr,h=>fin rs fr h=some r
@[simp] theorem FIN_n (rs:List RRes) (r:AV) (fr:Fr) (h:AH):kM rs r .normal fr h=(fin rs fr h=some r):=_root_.id rfl
@[simp] theorem FIN_r (rs:List RRes) (r:AV) (fr:Fr) (h:AH):kM rs r .ret fr h=(fin rs fr h=some r):=_root_.id rfl
theorem vY {C:Cfg} {f:FuncId} {rf:RFunc} {args:G3} {r:AV} (hs:C.spec f=none) (hc:C.code f=some rf) (hl:args.length<=rf.ntmps)
  (H:∀fr:Fr,fr.length=rf.ntmps->(∀i,A0 fr i=args.getD i C5)->B7 (A2 (K8 C) (C.ctx f) rf.body (fr,⟨[],[]⟩)) (kM rf.results r)):pc C f args=some r:=by
 refine sk hs hc hl λfr h1 h2=>?_;obtain⟨e,C4,h',he,hp⟩:=(H fr h1 h2).elim';rw[he];cases e with
 |exit i=>exact hp.elim
 |normal=>exact hp
 |ret=>exact hp
def dV (rs:List RRes) (Φ:AV->AH->Prop):Ex->Fr->AH->Prop
 | .exit _,_,_=>False
 |_,fr,h=>∃vs,Oa fr h rs=some vs/\Φ (J7 vs) h
@[simp] theorem RFIN_n (rs:List RRes) (Φ:AV->AH->Prop) (fr:Fr) (h:AH):dV rs Φ .normal fr h=(∃vs,Oa fr h rs=some vs/\Φ (J7 vs) h):=_root_.id rfl
@[simp] theorem RFIN_r (rs:List RRes) (Φ:AV->AH->Prop) (fr:Fr) (h:AH):dV rs Φ .ret fr h=(∃vs,Oa fr h rs=some vs/\Φ (J7 vs) h):=_root_.id rfl
theorem vx {C:Cfg} {f:FuncId} {rf:RFunc} {args:G3} {h:AH} {Φ:AV->AH->Prop} (hc:C.code f=some rf) (hl:args.length<=rf.ntmps)
  (H:∀fr:Fr,fr.length=rf.ntmps->(∀i,A0 fr i=args.getD i C5)->B7 (A2 (K8 C) (C.ctx f) rf.body (fr,h)) (dV rf.results Φ)):∃v h',rc C f args h=some (v,h')/\Φ v h':=by
 obtain⟨hl',hlook⟩:=Px hl;obtain⟨e,C4,h',he,hp⟩:=(H _ hl' hlook).elim';have key:∃vs,Oa C4 h' rf.results=some vs/\Φ (J7 vs) h':=by
  cases e with
  |exit i=>exact hp.elim
  |normal=>exact hp
  |ret=>exact hp
 obtain⟨vs,hv,hΦ⟩:=key;refine⟨J7 vs,h',wg C ?_,hΦ⟩;unfold Sq;simp only[hc];unfold PI;rw[he];cases e with
 |exit i=>exact hp.elim
 |normal=>simp only[hv];rfl
 |ret=>simp only[hv];rfl
def RCode.wr:RCode->List Nat
 | .region _ ops=>ops.filterMap (·.dst)
 | .seq a b=>a.wr++b.wr
 | .cond _ a b=>a.wr++b.wr
 | .block _ a=>a.wr
 | .loop a=>a.wr
 |_=>[]
def Kp (ws:List Nat) (fr C4:Fr):Prop:=C4.length=fr.length/\∀j,j∉ws->A0 C4 j=A0 fr j
theorem A8 {ws:List Nat} {fr C4:Fr} {v:AV} (K:Kp ws fr C4) (i:Nat) (h:A0 fr i=v) (d:i∉ws:=by decide):A0 C4 i=v:=(K.2 i d).trans h
theorem Kp.refl (ws:List Nat) (fr:Fr):Kp ws fr fr:=⟨rfl,λ_ _=>rfl⟩
theorem Kp.trans {ws:List Nat} {a b c:Fr} (h:Kp ws a b) (k:Kp ws b c):Kp ws a c:=⟨k.1.trans h.1,λj hj=>(k.2 j hj).trans (h.2 j hj)⟩
theorem Kp.mono {ws ws':List Nat} {a b:Fr} (h:Kp ws a b) (hs:∀j,j∈ws->j∈ws'):Kp ws' a b:=⟨h.1,λj hj=>h.2 j λk=>hj (hs j k)⟩
theorem Kp.put (fr:Fr) (d:Option Nat) (v:AV) {ws:List Nat} (hd:∀x,d=some x->x∈ws):Kp ws fr (put fr d v):=by
 cases d with
 |none=>exact Kp.refl _ _
 |some d =>
  refine⟨by simp,λj hj=>?_⟩;have P0:d≠j:=λe=>hj (e ▸ hd d rfl);simp[E1 fr v P0]
section
variable {C:Cfg} {c:Ctx}
theorem Xl {O:Orc}:∀{N8:List RO} {fr:Fr} {h:AH} {x:Fr×AH} {ws:List Nat},(∀j,j∈N8.filterMap (·.dst)->j∈ws)->L7 O c N8 fr h=some x->Kp ws fr x.1
 | [],fr,h,x,ws,_,he=>by
  simp only[L7]at he;cases he;exact Kp.refl _ _
 |o::N8,fr,h,x,ws,hs,he=>by
  have h1:∀y,o.dst=some y->y∈ws:=λy hy=>hs y (by simp[hy]);have h2:∀j,j∈N8.filterMap (·.dst)->j∈ws:=λj hj=>hs j (by
   rw[List.filterMap_cons];split
   .exact hj
   .exact List.mem_cons_of_mem _ hj)
  simp only[L7]at he;cases hw:GR fr o.guard with
  |none=>rw[hw]at he;cases he
  |some b =>
   rw[hw]at he;cases b with
   |false=>exact(Kp.put fr o.dst _ h1).trans (Xl h2 he)
   |true =>
    dsimp only at he;cases CL:A9 O c o.op fr h with
    |none=>rw[CL]at he;cases he
    |some y =>
     rw[CL]at he;exact(Kp.put fr o.dst _ h1).trans (Xl h2 he)
theorem Zn {step:St->Option (Ex×St)} {ws:List Nat} (hs:∀s x,step s=some x->Kp ws s.1 x.2.1):∀(n:Nat) (s:St) (x:Ex×St),Mr step n s=some x->Kp ws s.1 x.2.1
 |0,s,x,he=>by simp[Mr]at he
 |n+1,s,x,he=>by
  simp only[Mr]at he;cases h1:step s with
  |none=>rw[h1]at he;cases he
  |some y =>
   rw[h1]at he;have k:=hs s y h1;obtain⟨e,s'⟩:=y;cases e with
   |normal=>exact k.trans (Zn hs n s' x he)
   |exit id=>cases he;exact k
   |ret=>cases he;exact k
theorem mW:∀(rc:RCode) (s:St) (x:Ex×St),A2 (K8 C) c rc s=some x->Kp rc.wr s.1 x.2.1:=by
 intro rc
 induction rc with
 |skip=>intro s x he;cases he;exact Kp.refl _ _
 |region d N8 =>
  intro s x he;simp only[A2]at he;cases hs:L7 (K8 C) c N8 s.1 s.2 with
  |none=>rw[hs]at he;cases he
  |some y =>
   rw[hs]at he;cases he;exact Xl (λj hj=>hj) hs
 |seq a b iha ihb =>
  intro s x he;simp only[A2]at he;cases hs:A2 (K8 C) c a s with
  |none=>rw[hs]at he;cases he
  |some y =>
   rw[hs]at he;have k:=(iha s y hs).mono (ws':=(RCode.seq a b).wr) λj hj=>A0Z _ hj;obtain⟨e,s'⟩:=y;cases e with
   |normal=>exact k.trans ((ihb _ _ he).mono λj hj=>A0Y _ hj)
   |exit id=>cases he;exact k
   |ret=>cases he;exact k
 |cond q a b iha ihb =>
  intro s x he;simp only[A2]at he;split at he
  .exact(iha _ _ he).mono λj hj=>A0Z _ hj
  .exact(ihb _ _ he).mono λj hj=>A0Y _ hj
  .cases he
 |block id a ih =>
  intro s x he;simp only[A2]at he;cases hs:A2 (K8 C) c a s with
  |none=>rw[hs]at he;cases he
  |some y =>
   rw[hs]at he;have k:=ih s y hs;obtain⟨e,s'⟩:=y;cases e with
   |normal=>cases he;exact k
   |exit i =>
    simp only at he;split at he<;>cases he<;>exact k
   |ret=>cases he;exact k
 |loop a ih =>
  intro s x he;obtain⟨n,hn⟩:=bt he;exact Zn ih n s x hn
 |exit id=>intro s x he;cases he;exact Kp.refl _ _
 |ret=>intro s x he;cases he;exact Kp.refl _ _
 |bad=>intro s x he;cases he
theorem ly {rc:RCode} {ws:List Nat} (hw:rc.wr=ws) {fr:Fr} {h:AH} {Ψ:Ex->Fr->AH->Prop} (H:B7 (A2 (K8 C) c rc (fr,h)) Ψ):B7 (A2 (K8 C) c rc (fr,h)) λe C4 h'=>Kp ws fr C4/\Ψ e C4 h':=by
 subst hw;obtain⟨e,C4,h',he,hp⟩:=H.elim';have k:=mW rc _ _ he;rw[he];exact⟨k,hp⟩
theorem qH {body:RCode} {Ψ:Ex->Fr->AH->Prop} {ws:List Nat} (hw:body.wr=ws) (fr0:Fr) (Inv:Nat->Fr->AH->Prop)
  (H:∀n fr h,Kp ws fr0 fr->Inv n fr h->B7 (A2 (K8 C) c body (fr,h)) λe C4 h'=>(e=.normal/\∃m,m<n/\Inv m C4 h')\/(e≠.normal/\Ψ e C4 h'))
  (n:Nat) (h:AH) (hi:Inv n fr0 h):B7 (lp (A2 (K8 C) c body) (fr0,h)) λe C4 h'=>Kp ws fr0 C4/\Ψ e C4 h':=by
 refine SH (λn fr h=>Kp ws fr0 fr/\Inv n fr h) (λn fr h ⟨k,hi⟩=>?_) n fr0 h ⟨Kp.refl _ _,hi⟩;refine(ly hw (H n fr h k hi)).mono λe C4 h' ⟨k',hp⟩=>?_;rcases hp with ⟨h1,m,h2,h3⟩|⟨h1,h2⟩
 .exact .inl ⟨h1,m,h2,k.trans k',h3⟩
 .exact .inr ⟨h1,k.trans k',h2⟩
end
theorem E9 {n:Nat} {I J:Nat->Fr->AH->Prop} {fr:Fr} {h:AH} (hJ:∀n fr h,I n fr h->J n fr h) (hi:I (n-1) fr h) (h0:n-1<n:=by omega):∃m,m<n/\J m fr h:=⟨n-1,h0,hJ _ _ _ hi⟩
theorem B4 {C:Cfg} {c:Ctx} {body:RCode} {Ψ:Ex->Fr->AH->Prop} {ws:List Nat} (hw:body.wr=ws) (fr0:Fr) (Inv:Nat->Fr->AH->Prop)
  (H:∀(J:Nat->Fr->AH->Prop) (Φ:Ex->Fr->AH->Prop),(∀n fr h,Inv n fr h->J n fr h)->(∀e fr h,Ψ e fr h->Φ e fr h)->∀n fr h,Kp ws fr0 fr->Inv n fr h ->
   B7 (A2 (K8 C) c body (fr,h)) λe C4 h'=>(e=.normal/\∃m,m<n/\J m C4 h')\/(e≠.normal/\Φ e C4 h'))
  (n:Nat) (h:AH) (hi:Inv n fr0 h):B7 (lp (A2 (K8 C) c body) (fr0,h)) λe C4 h'=>Kp ws fr0 C4/\Ψ e C4 h' :=
 qH hw fr0 Inv (H Inv Ψ (λ_ _ _ h=>h) (λ_ _ _ h=>h)) n h hi
def gw (rs:List RRes) (Φ:AV->Prop):Ex->Fr->AH->Prop
 | .exit _,_,_=>False
 |_,fr,h=>∃r,fin rs fr h=some r/\Φ r
@[simp] theorem EFIN_n (rs:List RRes) (Φ:AV->Prop) (fr:Fr) (h:AH):gw rs Φ .normal fr h=(∃r,fin rs fr h=some r/\Φ r):=_root_.id rfl
@[simp] theorem EFIN_r (rs:List RRes) (Φ:AV->Prop) (fr:Fr) (h:AH):gw rs Φ .ret fr h=(∃r,fin rs fr h=some r/\Φ r):=_root_.id rfl
theorem fV {C:Cfg} {f:FuncId} {rf:RFunc} {args:G3} {Φ:AV->Prop} (hs:C.spec f=none) (hc:C.code f=some rf) (hl:args.length<=rf.ntmps)
  (H:∀fr:Fr,fr.length=rf.ntmps->(∀i,A0 fr i=args.getD i C5)->B7 (A2 (K8 C) (C.ctx f) rf.body (fr,⟨[],[]⟩)) (gw rf.results Φ)):∃r,pc C f args=some r/\Φ r:=by
 obtain⟨hl',hlook⟩:=Px hl;obtain⟨e,C4,h',he,hp⟩:=(H _ hl' hlook).elim';have key:∃r,fin rf.results C4 h'=some r/\Φ r:=by
  cases e with
  |exit i=>exact hp.elim
  |normal=>exact hp
  |ret=>exact hp
 obtain⟨r,hr,hΦ⟩:=key;refine⟨r,sk hs hc hl λfr h1 h2=>?_,hΦ⟩;have hfr:fr=HV rf args:=by
  apply List.ext_getElem (h1.trans hl'.symm);intro i g1 g2;have a:=h2 i;have b:=hlook i;simp only[A0,List.getD,A0S g1,A0S g2,A0W]at a b;exact a.trans b.symm
 subst hfr;rw[he];cases e with
 |exit i=>exact hp.elim
 |normal=>exact hr
 |ret=>exact hr
theorem QE {C:Cfg} {f:FuncId} {rf:RFunc} {args:G3} {Φ:AV->Prop} (hs:C.spec f=none) (hc:C.code f=some rf) (hl:args.length<=rf.ntmps)
  (H:∀Ψ:AV->Prop,(∀r,Φ r->Ψ r)->∀fr:Fr,fr.length=rf.ntmps->(∀i,A0 fr i=args.getD i C5)->B7 (A2 (K8 C) (C.ctx f) rf.body (fr,⟨[],[]⟩)) (gw rf.results Ψ)):∃r,pc C f args=some r/\Φ r :=
 fV hs hc hl (H Φ λ_ h=>h)
@[simp] theorem tame_int (h:AH) (k:IntKind) (n:Int):CM h (.int k n)=true:=_root_.id rfl
@[simp] theorem zd (h:AH) (b:Bool):CM h (.bool b)=true:=_root_.id rfl
@[simp] theorem tame_str (h:AH) (s:J2):CM h (.str s)=true:=_root_.id rfl
@[simp] theorem tame_agg (h:AH) (cs:G3):CM h (.agg cs)=cs.all (KO h):=_root_.id rfl
@[simp] theorem zb (h:AH) (k:IntKind) (n:Int):KO h (.int k n)=true:=_root_.id rfl
@[simp] theorem ye (h:AH) (b:Bool):KO h (.bool b)=true:=_root_.id rfl
@[simp] theorem zc (h:AH) (s:J2):KO h (.str s)=true:=_root_.id rfl
@[simp] theorem tame_vs (h:AH) (f:Bool) (sz:Nat) (xs:G3):CM h (.vs f sz xs)=true:=_root_.id rfl
@[simp] theorem tame1_vs (h:AH) (f:Bool) (sz:Nat) (xs:G3):KO h (.vs f sz xs)=true:=_root_.id rfl
@[simp] theorem xg (k n off len:Nat):(AV.sl k n off len).isTup=false:=_root_.id rfl
@[simp] theorem xP (k n off len:Nat):(AV.sl k n off len).cells=[.sl k n off len]:=_root_.id rfl
@[simp] theorem zH (b off:Nat):(AV.ptr b off).isTup=false:=_root_.id rfl
@[simp] theorem yk (b off:Nat):(AV.ptr b off).cells=[.ptr b off]:=_root_.id rfl
@[simp] theorem isTup_vs (f:Bool) (sz:Nat) (xs:G3):(AV.vs f sz xs).isTup=false:=_root_.id rfl
@[simp] theorem A0G (f:Bool) (sz:Nat) (xs:G3):(AV.vs f sz xs).cells=[.vs f sz xs]:=_root_.id rfl
end Go.Abs
namespace Go.Abs
open Go.RowKit (Below)
open Go.Proofs (ltOf CmpLays sortWorldK)
def bG (O:Orc) (g:FuncId) (caps xs:List AV) (i j:Nat):Int :=
 match O.pure g ([xs.getD i C5,xs.getD j C5]++caps)with|some (.int .i64 c)=>c|_=>0
def d7 (n i:Nat):Nat:=if i<n then i else 0
def mO (O:Orc) (g:FuncId) (caps xs:List AV) (i j:Nat):Int:=bG O g caps xs (d7 xs.length i) (d7 xs.length j)
structure SortOk (O:Orc) (g:FuncId) (caps xs:List AV):Prop where
 ans:∀i j,i<xs.length->j<xs.length->∃c,O.pure g ([xs.getD i C5,xs.getD j C5]++caps)=some (.int .i64 c)
 swo:Go.Sort.SWO (ltOf (mO O g caps xs))
def FD (O:Orc) (g:FuncId) (caps xs:List AV):Array Nat:=Go.Sort.pdq (ltOf (mO O g caps xs)) (Array.range xs.length) 0 xs.length (Lib.bitLen xs.length) true true
def AV.isAgg:AV->Bool
 | .agg _=>true
 |_=>false
open Classical in
noncomputable def LO (K:Nat) (O:Orc) (args:List AV) (h:AH):Option (AV×AH) :=
 match args with
 | [.sl k n off len,.fn g caps] =>
  match h.fams[k]? with
  |some f =>
   if f.xs.length=n/\off=0/\len=n/\0<n/\n<4611686018427387904/\f.wr=true/\f.sz=K/\caps.all AV.flat=true/\f.xs.all AV.isAgg=true/\SortOk O g caps f.xs then
    some (C5,{h with fams:=h.fams.set k {f with xs:=(FD O g caps f.xs).toList.map λi=>f.xs.getD i C5}})
   else none
  |none=>none
 | [.vs _ _ xs,.fn _ _]=>if xs.length<=1 then some (C5,h)else none
 |_=>none
theorem JN {n i:Nat} (hn:0<n):d7 n i<n:=by unfold d7;split<;>omega
theorem tX (K:Nat) (O:Orc) (args:G3) (h:AH) (x:AV×AH) (he:LO K O args h=some x) :
  ∃l:List (FuncId×List AV×AV),(∀p∈l,O.pure p.1 p.2.1=some p.2.2)/\∀O':Orc,(∀p∈l,O'.pure p.1 p.2.1=some p.2.2)->LO K O' args h=some x:=by
 unfold LO at he;split at he
 .rename_i k n off len g caps;split at he
  .rename_i f hf;split at he
   .rename_i hc;obtain⟨c1,c2,c3,c4,c5,c6,c7,c8,c9,Bf⟩:=hc;have M2:0<f.xs.length:=by omega
    refine⟨(A0m f.xs.length).flatMap λi=>(A0m f.xs.length).map λj=>(g,[f.xs.getD i C5,f.xs.getD j C5]++caps,.int .i64 (bG O g caps f.xs i j)),?_,?_⟩
    .intro p hp;simp only[A0e,A0l,A0h]at hp;obtain⟨i,hi,j,hj,rfl⟩:=hp;obtain⟨c,hc⟩:=Bf.ans i j hi hj;simp only[bG,hc]
    .intro O' hO';have key:∀i j,i<f.xs.length->j<f.xs.length->O'.pure g ([f.xs.getD i C5,f.xs.getD j C5]++caps)=some (.int .i64 (bG O g caps f.xs i j)):=λi j hi hj =>
      hO' (g,[f.xs.getD i C5,f.xs.getD j C5]++caps,.int .i64 (bG O g caps f.xs i j)) (by
       simp only[A0e,A0l,A0h];exact⟨i,hi,j,hj,rfl⟩)
     have hcf:mO O' g caps f.xs=mO O g caps f.xs:=by
      funext i j;show bG O' g caps f.xs _ _=_;unfold bG;rw[key _ _ (JN M2) (JN M2)];rfl
     have hok':SortOk O' g caps f.xs:=⟨λi j hi hj=>⟨_,key i j hi hj⟩,by rw[hcf];exact Bf.swo⟩;unfold LO;simp only[hf];rw[if_pos ⟨c1,c2,c3,c4,c5,c6,c7,c8,c9,hok'⟩,←he];unfold FD;rw[hcf]
   .cases he
  .cases he
 .exact⟨[],λp hp=>by simp at hp,λO' _=>by unfold LO;exact he⟩
 .cases he
noncomputable def aX (K:Nat):RSpec:=⟨LO K,tX K⟩
theorem iV {w w':World} (h:Bl w.heap.size w w'):∃q os,w'=Go.Sort.grow (w.drewN q) os:=by
 refine⟨w'.drawn-w.drawn,w'.heap.extract w.heap.size w'.heap.size,?_⟩;obtain⟨⟨e1,e2,e3,e4,e5⟩,e6⟩:=h;have hh:w'.heap=w.heap++w'.heap.extract w.heap.size w'.heap.size:=by
  apply A0a;intro k;by_cases hk:k<w.heap.size
  .rw[Array.getElem?_append_left hk,e5 k hk]
  .rw[Array.getElem?_append_right (by omega),Array.getElem?_extract];by_cases Dt:k<w'.heap.size
   .rw[if_pos (by omega)];congr 1;omega
   .rw[if_neg (by omega),Array.getElem?_eq_none (by omega)]
 obtain⟨hp,tp,dr,os,ou⟩:=w';obtain⟨hp0,tp0,dr0,os0,ou0⟩:=w;simp only at e1 e2 e3 e4 e6 hh;subst e1 e2 e3;simp only[Go.Sort.grow,World.drewN];congr 1;omega
theorem VK {w:World} {blk off:Nat} {F cur:Array Value} {t:TypeId} (h:w.heap[blk]?=some (.cells cur t (0,0))) :
  Go.Sort.putRow id w blk off F=w.setRow blk (Go.Sort.putCells id off F cur):=by
 unfold Go.Sort.putRow Go.Sort.mapBlock World.setRow;congr 1;apply A0a;intro k;simp only[Array.getElem?_modify];by_cases hk:blk=k
 .subst hk;rw[if_pos rfl,if_pos rfl,h];rfl
 .rw[if_neg hk,if_neg hk]
theorem bR {off:Nat} {F cur:Array Value} {k:Nat}:(Go.Sort.putCells id off F cur)[k]?=(cur[k]?).map λx=>if off<=k/\k<off+F.size then F[k-off]! else x:=by
 unfold Go.Sort.putCells;rw[Array.getElem?_mapIdx];rfl
theorem ZF {off:Nat} {F cur:Array Value}:(Go.Sort.putCells id off F cur).size=cur.size:=by
 unfold Go.Sort.putCells;simp
end Go.Abs
namespace Go.Abs
def RSpec.of (run:List AV->AH->Option (AV×AH)):RSpec:=⟨λ_=>run,λ_ _ _ _ he=>⟨[],λ_ hp=>(nomatch hp),λ_ _=>he⟩⟩
def Ps (K bytes:Nat) (args:List AV) (h:AH):Option (AV×AH) :=
 match args with
 | [s,.int .i64 i,.vs _ z [x]] =>
  if z=K/\x.isAgg=true then
   match s with
   | .sl k n off len =>
    match h.fams[k]? with
    |some f =>
     if f.xs.length=n/\off=0/\len=n/\0<n/\f.wr=true/\f.sz=K/\0<=i/\i<=n/\(n+1)*bytes<=H2/\n+1<=maxLen then
      some (.sl k (n+1) 0 (n+1),{h with fams:=h.fams.set k {f with xs:=f.xs.take i.toNat++x::f.xs.drop i.toNat}})
     else none
    |none=>none
   | .vs true _ []=>if i=0/\bytes<=H2 then some (.sl h.fams.length 1 0 1,{h with fams:=h.fams++[⟨[x],K,true⟩]})else none
   |_=>none
  else none
 |_=>none
def ml (K bytes:Nat):RSpec:=.of (Ps K bytes)
def UF (K bytes:Nat) (args:List AV) (h:AH):Option (AV×AH) :=
 match args with
 | [.vs true z [],i,x]=>Ps K bytes [.vs true z [],i,x] h
 |_=>none
def lC (K bytes:Nat):RSpec:=.of (UF K bytes)
def SP (K bytes:Nat) (args:List AV) (h:AH):Option (AV×AH) :=
 match args with
 | [.vs true z [],.int .i64 n] =>
  if n=0 then some (.vs true z [],h)
  else if 0<n/\n*bytes<=H2/\n<=maxLen then some (.sl h.fams.length 0 0 0,{h with fams:=h.fams++[⟨[],K,false⟩]})
  else none
 |_=>none
def Zh (K bytes:Nat):RSpec:=.of (SP K bytes)
end Go.Abs
namespace Go.Abs.Q
open Go.Proofs
def U9 (a b:ByteArray):Int:=if Op.bytesLess a.toList b.toList then -1 else if a.toList=b.toList then 0 else 1
def cu:List AV->Option AV
 | [.str a,.str b]=>some (.int .i64 (U9 a b))
 |_=>none
def cv:List AV->Option AV
 | [.str a,.str b]=>match b.data.toList with | [c]=>some (.bool (a.data.toList.contains c))|_=>none
 |_=>none
def Ql (f:FuncId):Option (List AV->Option AV):=if f=Y3 then some cu else if f=Bq then some cv else none
noncomputable def YM (f:FuncId):Option RSpec:=if f=D9 then some (aX 4)else if f=N3 then some (ml 4 56)else if f=O4 then some (lC 5 64)else if f=Q0 then some (Zh 4 56)else none
noncomputable def Q:Cfg:=⟨Ag,D6,Ql,YM⟩
theorem Qt (f:FuncId):Q.code f=Ag f:=by
 simp only[Q]
theorem Uq (f:FuncId):Q.spec f=Ql f:=by
 simp only[Q]
@[simp] theorem ZJ (f:FuncId):Q.ctx f=D6 f:=by
 simp only[Q]
@[simp] theorem A0M (f:FuncId):(D6 f).raw=C2:=_root_.id rfl
@[simp] theorem A0K (f:FuncId):(D6 f).mutApp=Yu f:=_root_.id rfl
@[simp] theorem yp (f:FuncId):(D6 f).rawv=Lj f:=_root_.id rfl
@[simp] theorem A0L (f:FuncId):(D6 f).noB=Dp:=_root_.id rfl
@[simp] theorem ctxF_ro (f:FuncId):(D6 f).ro=pj f:=_root_.id rfl
theorem lV {f:FuncId} {s:List AV->Option AV} (h:Ql f=some s) {args:G3} {r:AV} (hr:s args=some r):pc Q f args=some r:=by
 apply wa;unfold OL;have e:Q.spec f=some s:=h;rw[e];exact hr
theorem yG (a b:J2):pc Q Y3 [.str a,.str b]=some (.int .i64 (U9 a b)):=lV (s:=cu) rfl rfl
theorem yI (a:J2) (c:UInt8):pc Q Bq [.str a,.str ⟨#[c]⟩]=some (.bool (a.data.toList.contains c)):=lV (s:=cv) rfl rfl
theorem ON {f:FuncId} {s:RSpec} (hc:Ag f=none) (hs:YM f=some s) {args:G3} {h:AH} {x:AV×AH} (hr:s.run (K8 Q) args h=some x):rc Q f args h=some x:=by
 apply wg;unfold Sq;have e1:Q.code f=none:=(Qt f).trans hc;have e2:Q.rspec f=some s:=hs;rw[e1];simp only[e2];exact hr
theorem aA {f:FuncId} {rf:RFunc} {args:G3} {r:AV} (hc:Ag f=some rf) (hs:Ql f=none) (hl:args.length<=rf.ntmps)
  (H:∀fr:Fr,fr.length=rf.ntmps->(∀i,A0 fr i=args.getD i C5)->B7 (A2 (K8 Q) (D6 f) rf.body (fr,⟨[],[]⟩)) (kM rf.results r)):pc Q f args=some r :=
 vY (C:=Q) ((Uq f).trans hs) ((Qt f).trans hc) hl λfr h1 h2=>by
  rw[ZJ];exact H fr h1 h2
theorem rcQ {f:FuncId} {rf:RFunc} {args:G3} {h:AH} {Φ:AV->AH->Prop} (hc:Ag f=some rf) (hl:args.length<=rf.ntmps)
  (H:∀fr:Fr,fr.length=rf.ntmps->(∀i,A0 fr i=args.getD i C5)->B7 (A2 (K8 Q) (D6 f) rf.body (fr,h)) (dV rf.results Φ)):∃v h',rc Q f args h=some (v,h')/\Φ v h' :=
 vx (C:=Q) ((Qt f).trans hc) hl λfr h1 h2=>by
  rw[ZJ];exact H fr h1 h2
theorem H5 {f:FuncId} (rf:RFunc) {a r:AV} (H:∀fr:Fr,fr.length=rf.ntmps->A0 fr 0=a->B7 (A2 (K8 Q) (D6 f) rf.body (fr,⟨[],[]⟩)) (kM rf.results r)) (hl:1<=rf.ntmps:=by decide) (hs:Ql f=none:=by rfl) (hc:Ag f=some rf:=by kernel_rfl):pc Q f [a]=some r:=
 aA hc hs hl λfr h1 h2=>H fr h1 (h2 0)
theorem O9 {f:FuncId} (rf:RFunc) {a b r:AV} (H:∀fr:Fr,fr.length=rf.ntmps->A0 fr 0=a->A0 fr 1=b->B7 (A2 (K8 Q) (D6 f) rf.body (fr,⟨[],[]⟩)) (kM rf.results r)) (hl:2<=rf.ntmps:=by decide) (hs:Ql f=none:=by rfl) (hc:Ag f=some rf:=by kernel_rfl):pc Q f [a,b]=some r:=
 aA hc hs hl λfr h1 h2=>H fr h1 (h2 0) (h2 1)
theorem FX {f:FuncId} (rf:RFunc) {a b c r:AV} (H:∀fr:Fr,fr.length=rf.ntmps->A0 fr 0=a->A0 fr 1=b->A0 fr 2=c->B7 (A2 (K8 Q) (D6 f) rf.body (fr,⟨[],[]⟩)) (kM rf.results r)) (hl:3<=rf.ntmps:=by decide) (hs:Ql f=none:=by rfl) (hc:Ag f=some rf:=by kernel_rfl):pc Q f [a,b,c]=some r:=
 aA hc hs hl λfr h1 h2=>H fr h1 (h2 0) (h2 1) (h2 2)
theorem GU {f:FuncId} (rf:RFunc) {a:AV} {Φ:AV->Prop} (H:∀Ψ:AV->Prop,(∀v,Φ v->Ψ v)->∀fr:Fr,fr.length=rf.ntmps->A0 fr 0=a->B7 (A2 (K8 Q) (D6 f) rf.body (fr,⟨[],[]⟩)) (gw rf.results Ψ)) (hl:1<=rf.ntmps:=by decide) (hs:Ql f=none:=by rfl) (hc:Ag f=some rf:=by kernel_rfl):∃v,pc Q f [a]=some v/\Φ v:=
 QE (C:=Q) ((Uq _).trans hs) ((Qt _).trans hc) hl λΨ hΨ fr h1 h2=>by rw[ZJ];exact H Ψ hΨ fr h1 (h2 0)
theorem Sp {f:FuncId} (rf:RFunc) {a b:AV} {Φ:AV->Prop} (H:∀Ψ:AV->Prop,(∀v,Φ v->Ψ v)->∀fr:Fr,fr.length=rf.ntmps->A0 fr 0=a->A0 fr 1=b->B7 (A2 (K8 Q) (D6 f) rf.body (fr,⟨[],[]⟩)) (gw rf.results Ψ)) (hl:2<=rf.ntmps:=by decide) (hs:Ql f=none:=by rfl) (hc:Ag f=some rf:=by kernel_rfl):∃v,pc Q f [a,b]=some v/\Φ v:=
 QE (C:=Q) ((Uq _).trans hs) ((Qt _).trans hc) hl λΨ hΨ fr h1 h2=>by rw[ZJ];exact H Ψ hΨ fr h1 (h2 0) (h2 1)
theorem fu {f:FuncId} (rf:RFunc) {a b c:AV} {Φ:AV->Prop} (H:∀Ψ:AV->Prop,(∀v,Φ v->Ψ v)->∀fr:Fr,fr.length=rf.ntmps->A0 fr 0=a->A0 fr 1=b->A0 fr 2=c->B7 (A2 (K8 Q) (D6 f) rf.body (fr,⟨[],[]⟩)) (gw rf.results Ψ)) (hl:3<=rf.ntmps:=by decide) (hs:Ql f=none:=by rfl) (hc:Ag f=some rf:=by kernel_rfl):∃v,pc Q f [a,b,c]=some v/\Φ v:=
 QE (C:=Q) ((Uq _).trans hs) ((Qt _).trans hc) hl λΨ hΨ fr h1 h2=>by rw[ZJ];exact H Ψ hΨ fr h1 (h2 0) (h2 1) (h2 2)
theorem gC {f:FuncId} (rf:RFunc) {a:AV} {h:AH} {Φ:AV->AH->Prop} (H:∀fr:Fr,fr.length=rf.ntmps->A0 fr 0=a->B7 (A2 (K8 Q) (D6 f) rf.body (fr,h)) (dV rf.results Φ)) (hl:1<=rf.ntmps:=by decide) (hc:Ag f=some rf:=by kernel_rfl):∃v h',rc Q f [a] h=some (v,h')/\Φ v h':=
 rcQ hc hl λfr h1 h2=>H fr h1 (h2 0)
theorem Hl {f:FuncId} (rf:RFunc) {a b:AV} {h:AH} {Φ:AV->AH->Prop} (H:∀fr:Fr,fr.length=rf.ntmps->A0 fr 0=a->A0 fr 1=b->B7 (A2 (K8 Q) (D6 f) rf.body (fr,h)) (dV rf.results Φ)) (hl:2<=rf.ntmps:=by decide) (hc:Ag f=some rf:=by kernel_rfl):∃v h',rc Q f [a,b] h=some (v,h')/\Φ v h':=
 rcQ hc hl λfr h1 h2=>H fr h1 (h2 0) (h2 1)
theorem ch {f:FuncId} (rf:RFunc) {a b c:AV} {h:AH} {Φ:AV->AH->Prop} (H:∀fr:Fr,fr.length=rf.ntmps->A0 fr 0=a->A0 fr 1=b->A0 fr 2=c->B7 (A2 (K8 Q) (D6 f) rf.body (fr,h)) (dV rf.results Φ)) (hl:3<=rf.ntmps:=by decide) (hc:Ag f=some rf:=by kernel_rfl):∃v h',rc Q f [a,b,c] h=some (v,h')/\Φ v h':=
 rcQ hc hl λfr h1 h2=>H fr h1 (h2 0) (h2 1) (h2 2)
end Go.Abs.Q
namespace Go.Abs.Q
attribute [local simp] E1 E5 fin J7 G4
def Hw (a b:Int):Int:=if a<b then -1 else if b<a then 1 else 0
theorem Sb (a b:Int):pc Q Gi [.int .i64 a,.int .i64 b]=some (.int .i64 (Hw a b)):=by
 refine aA ZD rfl (by simp[Rx]) λfr hl ha=>?_;have h0:=ha 0;have h1:=ha 1;simp[Rx]at hl h0 h1 ⊢;by_cases h:a<b
 .simp[*,Hw]
 .by_cases h':b<a<;>simp[*,Hw]
theorem Kf (a b:Int):pc Q Bn [.int .i64 a,.int .i64 b]=some (.int .i64 (Hw a b)):=by
 refine aA VM rfl (by simp[NX]) λfr hl ha=>?_;have h0:=ha 0;have h1:=ha 1;simp[NX]at hl h0 h1 ⊢;by_cases h:a<b
 .simp[*,Hw]
 .by_cases h':b<a<;>simp[*,Hw]
theorem cH:∀(n:Nat) (t:Tm),t.size<=n->t.size<=1099511627776->pc Q Iy [B9 t]=some (.int .i64 t.size):=by
 intro n
 induction n with
 |zero=>intro t h;have:=t.size_pos;omega
 |succ n ih =>
  intro t hn hb;obtain⟨k,nm,s,m,kids⟩:=t;have J4:Tm.size (.mk k nm s m kids)=1+Tm.sizes kids:=rfl;refine H5 WG λfr hl h0=>?_;simp[WG,B9]at hl h0 ⊢;simp[*];refine(ZI (Ψ:=λe fr h=>e=.exit 0/\A0 fr 3=.int .i64 (1+Tm.sizes kids:Nat)/\fr.length=19) kids
   (λdone fr h=>fr.length=19/\A0 fr 3=.int .i64 (1+Tm.sizes done:Nat)/\A0 fr 7=sl m 4 (A4 kids)/\A0 fr 8=.int .i64 kids.length/\A0 fr 9=.int .i64 done.length) ?_ ?_ _ _ ?_).mono ?_
  .rintro fr h ⟨hl,h3,h7,h8,h9⟩;simp[Ow, *]
  .rintro done t rest he fr h ⟨hl,h3,h7,h8,h9⟩;have hget:KN (A4 kids) done.length=some (B9 t):=Jl (by rw[←he];simp);have A7:done.length<kids.length:=by rw[←he];simp
   have hts:t.size<=Tm.sizes kids:=Tm.size_le (by rw[←he];simp);have hT:=ih t (by omega) (by omega);have B8:=Tm.length_le kids;have hsum:Tm.sizes done+(t.size+Tm.sizes rest)=Tm.sizes kids:=by rw[←he,Tm.sizes_append];rfl
   have hw1:IntKind.i64.wrap (1+(Tm.sizes done:Int)+(t.size:Int))=1+(Tm.sizes (done++[t]):Int):=by
    rw[Tm.sizes_append,W2 (by omega) (by omega)];simp only[Tm.sizes];omega
   have hw2:IntKind.i64.wrap ((done.length:Int)+1)=((done++[t]).length:Nat):=by
    rw[W2 (by omega) (by omega)];simp
   obtain⟨tk,tn,ts,tm,tl⟩:=t;simp only[B9]at hT hget;simp[Ow, *]
  .simp[*,Tm.sizes,D0]
  .rintro e fr h ⟨rfl,h3,hl⟩;simp[*]
theorem QF:∀(n:Nat) (t:Tm),t.size<=n->t.size<=1099511627776->pc Q Ey [B9 t]=some (.int .i64 t.size):=by
 intro n
 induction n with
 |zero=>intro t h;have:=t.size_pos;omega
 |succ n ih =>
  intro t hn hb;obtain⟨k,nm,s,m,kids⟩:=t;have J4:Tm.size (.mk k nm s m kids)=1+Tm.sizes kids:=rfl;refine H5 Uh λfr hl h0=>?_;simp[Uh,B9]at hl h0 ⊢;simp[h0];refine(ZI (Ψ:=λe fr h=>e=.exit 0/\A0 fr 3=.int .i64 (1+Tm.sizes kids:Nat)/\fr.length=21) kids
   (λdone fr h=>fr.length=21/\A0 fr 1=.ptr 0 0/\h=⟨[[.int .i64 k,.str nm,.int .i64 s,sl m 4 (A4 kids)]],[]⟩/\A0 fr 3=.int .i64 (1+Tm.sizes done:Nat)/\A0 fr 4=.int .i64 done.length) ?_ ?_ _ _ ?_).mono ?_
  .rintro fr h ⟨hl,h1,rfl,h3,h4⟩;simp[NV,D0, *]
  .rintro done t rest he fr h ⟨hl,h1,rfl,h3,h4⟩;have hget:KN (A4 kids) done.length=some (B9 t):=Jl (by rw[←he];simp);have A7:done.length<kids.length:=by rw[←he];simp
   have hts:t.size<=Tm.sizes kids:=Tm.size_le (by rw[←he];simp);have hT:=ih t (by omega) (by omega);have B8:=Tm.length_le kids;have hsum:Tm.sizes done+(t.size+Tm.sizes rest)=Tm.sizes kids:=by rw[←he,Tm.sizes_append];rfl
   have hw1:IntKind.i64.wrap (1+(Tm.sizes done:Int)+(t.size:Int))=1+(Tm.sizes (done++[t]):Int):=by
    rw[Tm.sizes_append,W2 (by omega) (by omega)];simp only[Tm.sizes];omega
   have hw2:IntKind.i64.wrap ((done.length:Int)+1)=((done++[t]).length:Nat):=by
    rw[W2 (by omega) (by omega)];simp
   obtain⟨tk,tn,ts,tm,tl⟩:=t;simp only[B9]at hT hget;simp[NV, *]
  .simp[*,Tm.sizes]
  .rintro e fr h ⟨rfl,h3,hl⟩;simp[*]
theorem Sc (a b:J2):pc Q Jj [.str a,.str b]=some (.int .i64 (U9 a b)):=by
 refine O9 OQ λfr hl h0 h1=>?_;simp[OQ]at hl h0 h1 ⊢;simp[*,yG]
def nz (a b:Int):Int:=if a=0 then b else a
mutual
def H6:Tm->Tm->Int
 | .mk k n s _ l,.mk k' n' s' _ l'=>nz (Hw (1+Tm.sizes l:Nat) (1+Tm.sizes l':Nat)) (nz (Hw k k') (nz (U9 n n') (nz (Hw s s') (nz (Hw l.length l'.length) (Iw l l')))))
def Iw:List Tm->List Tm->Int
 |t::l,t'::l'=>nz (H6 t t') (Iw l l')
 |_,_=>0
end
theorem Tz {a b:Nat} (h:Hw (a:Int) (b:Int)=0):a=b:=by
 unfold Hw at h;split at h
 .omega
 .split at h<;>omega
theorem SL (l:G7):Iw [] l=0:=by cases l<;>rfl
theorem j7:∀(n:Nat) (t t':Tm),t.size<=n->t.size<=1099511627776->t'.size<=1099511627776->pc Q C3 [B9 t,B9 t']=some (.int .i64 (H6 t t')):=by
 intro n
 induction n with
 |zero=>intro t t' h;have:=t.size_pos;omega
 |succ n ih =>
  intro t t' hn hb hb';have hS:=cH _ t (A0U _) hb;have hS':=cH _ t' (A0U _) hb';obtain⟨k,nm,s,m,l⟩:=t;obtain⟨k',nm',s',m',l'⟩:=t';have J4:Tm.size (.mk k nm s m l)=1+Tm.sizes l:=rfl;have hsz':Tm.size (.mk k' nm' s' m' l')=1+Tm.sizes l':=rfl;have B8:=Tm.length_le l;simp only[B9,J4,hsz']at hS hS';have loop:∀(fr:Fr) (c:Int),fr.length=65->A0 fr 2=.ptr 0 0->A0 fr 3=.ptr 1 0->A0 fr 5=.int .i64 c->A0 fr 6=.int .i64 0->(c=0->l.length=l'.length) ->
    B7 (lp (A2 (K8 Q) (D6 C3) Ec) (fr,⟨[[.int .i64 k,.str nm,.int .i64 s,sl m 4 (A4 l)],[.int .i64 k',.str nm',.int .i64 s',sl m' 4 (A4 l')]],[]⟩))
     λe C4 _=>e=.exit 0/\C4.length=65/\A0 C4 5=.int .i64 (nz c (Iw l l')):=by
   intro fr c hl h2 h3 h5 h6 hc;refine SH (λn fr h=>∃i c',i+n=l.length/\fr.length=65/\A0 fr 2=.ptr 0 0/\A0 fr 3=.ptr 1 0/\A0 fr 5=.int .i64 c'/\A0 fr 6=.int .i64 (i:Nat)/\(c'=0->l.length=l'.length) /\
    nz c' (Iw (l.drop i) (l'.drop i))=nz c (Iw l l')/\h=⟨[[.int .i64 k,.str nm,.int .i64 s,sl m 4 (A4 l)],[.int .i64 k',.str nm',.int .i64 s',sl m' 4 (A4 l')]],[]⟩) ?_ l.length fr _ ⟨0,c,by omega,hl,h2,h3,h5,h6,hc,rfl,rfl⟩
   rintro n fr h ⟨i,c',hi,hl,h2,h3,h5,h6,hc',hr,rfl⟩;by_cases hc0:c'=0
   .subst hc0;have PL:=hc' rfl;by_cases A7:i<l.length
    .have hx:KN (A4 l) i=some (B9 l[i]):=Jl (by simp[A7]);have hx':KN (A4 l') i=some (B9 (l'[i]'(by omega))):=Jl (by simp[show i<l'.length by omega]);have s1:=Tm.size_le (A0T A7);have s2:=Tm.size_le (A0T (show i<l'.length by omega));have hT:=ih l[i] (l'[i]'(by omega)) (by omega) (by omega) (by omega);have hw:=C6 i (by omega);rw[A0Q A7,A0Q (show i<l'.length by omega)]at hr;simp only[Iw,nz,if_true]at hr;generalize l[i]=t at *
     generalize l'[i]'(by omega)=t' at *
     obtain⟨tk,tn,ts,tm,tl⟩:=t;obtain⟨tk',tn',ts',tm',tl'⟩:=t';simp only[B9]at hT hx hx';clear ih hS hS' hc J4 hsz';simp[Ec,hl,h2,h3,h5,h6,A7,hx,hx',hT,hw];exact⟨n-1,by omega,i+1,by omega,by simp,λ_=>PL,hr⟩
    .have h0:l.length<=i:=by omega
     rw[A0R h0,SL]at hr;clear ih hS hS' hc J4 hsz' PL hc';simp[Ec,hl,h2,h3,h5,h6,A7];exact hr
   .clear ih hS hS' hc J4 hsz';simp[Ec, *];simpa[nz,hc0]using hr
  refine aA VN rfl (by simp[Nh]) λfr hl ha=>?_;have h0:=ha 0;have h1:=ha 1;clear ha ih;simp[Nh,B9]at hl h0 h1 ⊢;by_cases e0:Hw (1+(Tm.sizes l:Int)) (1+(Tm.sizes l':Int))=0
  .by_cases e1:Hw k k'=0
   .by_cases e2:U9 nm nm'=0
    .by_cases e3:Hw s s'=0
     .by_cases e4:Hw (l.length:Int) (l'.length:Int)=0
      .simp[e0,e1,e2,e3,e4,h0,h1,hl,hS,hS',Sb,Sc];refine(loop _ (0) (by simp[hl]) (by simp[hl]) (by simp[hl]) (by simp[hl]) (by simp[hl]) ?_).mono ?_
       .intro hc;exact Tz e4
       .rintro e fr h ⟨rfl,hl,h5⟩;simp[hl,h5,H6,nz,e0,e1,e2,e3,e4]
      .simp[e0,e1,e2,e3,h0,h1,hl,hS,hS',Sb,Sc];refine(loop _ (Hw (l.length:Int) (l'.length:Int)) (by simp[hl]) (by simp[hl]) (by simp[hl]) (by simp[hl]) (by simp[hl]) ?_).mono ?_
       .intro hc;exact absurd hc e4
       .rintro e fr h ⟨rfl,hl,h5⟩;simp[hl,h5,H6,nz,e0,e1,e2,e3,e4]
     .simp[e0,e1,e2,e3,h0,h1,hl,hS,hS',Sb,Sc];refine(loop _ (Hw s s') (by simp[hl]) (by simp[hl]) (by simp[hl]) (by simp[hl]) (by simp[hl]) ?_).mono ?_
      .intro hc;exact absurd hc e3
      .rintro e fr h ⟨rfl,hl,h5⟩;simp[hl,h5,H6,nz,e0,e1,e2,e3]
    .simp[e0,e1,e2,h0,h1,hl,hS,hS',Sb,Sc];refine(loop _ (U9 nm nm') (by simp[hl]) (by simp[hl]) (by simp[hl]) (by simp[hl]) (by simp[hl]) ?_).mono ?_
     .intro hc;exact absurd hc e2
     .rintro e fr h ⟨rfl,hl,h5⟩;simp[hl,h5,H6,nz,e0,e1,e2]
   .simp[e0,e1,h0,h1,hl,hS,hS',Sb];refine(loop _ (Hw k k') (by simp[hl]) (by simp[hl]) (by simp[hl]) (by simp[hl]) (by simp[hl]) ?_).mono ?_
    .intro hc;exact absurd hc e1
    .rintro e fr h ⟨rfl,hl,h5⟩;simp[hl,h5,H6,nz,e0,e1]
  .simp[e0,h0,h1,hl,hS,hS',Sb];refine(loop _ (Hw (1+(Tm.sizes l:Int)) (1+(Tm.sizes l':Int))) (by simp[hl]) (by simp[hl]) (by simp[hl]) (by simp[hl]) (by simp[hl]) ?_).mono ?_
   .intro hc;exact absurd hc e0
   .rintro e fr h ⟨rfl,hl,h5⟩;simp[hl,h5,H6,nz,e0]
theorem TB:∀(n:Nat) (t t':Tm),t.size<=n->t.size<=1099511627776->t'.size<=1099511627776->pc Q At [B9 t,B9 t']=some (.int .i64 (H6 t t')):=by
 intro n
 induction n with
 |zero=>intro t t' h;have:=t.size_pos;omega
 |succ n ih =>
  intro t t' hn hb hb';have hS:=QF _ t (A0U _) hb;have hS':=QF _ t' (A0U _) hb';obtain⟨k,nm,s,m,l⟩:=t;obtain⟨k',nm',s',m',l'⟩:=t';have J4:Tm.size (.mk k nm s m l)=1+Tm.sizes l:=rfl;have hsz':Tm.size (.mk k' nm' s' m' l')=1+Tm.sizes l':=rfl;have B8:=Tm.length_le l;simp only[B9,J4,hsz']at hS hS';have loop:∀(fr:Fr),fr.length=76->A0 fr 2=.ptr 0 0->A0 fr 3=.ptr 1 0->A0 fr 9=.int .i64 0->l.length=l'.length ->
    B7 (lp (A2 (K8 Q) (D6 At) DL) (fr,⟨[[.int .i64 k,.str nm,.int .i64 s,sl m 4 (A4 l)],[.int .i64 k',.str nm',.int .i64 s',sl m' 4 (A4 l')]],[]⟩))
     λe C4 _=>C4.length=76/\(e=.exit 0/\Iw l l'=0\/e=.ret/\A0 C4 4=.int .i64 (Iw l l')):=by
   intro fr hl h2 h3 h9 PL;refine SH (λn fr h=>∃i,i+n=l.length/\fr.length=76/\A0 fr 2=.ptr 0 0/\A0 fr 3=.ptr 1 0/\A0 fr 9=.int .i64 (i:Nat) /\
    Iw (l.drop i) (l'.drop i)=Iw l l'/\h=⟨[[.int .i64 k,.str nm,.int .i64 s,sl m 4 (A4 l)],[.int .i64 k',.str nm',.int .i64 s',sl m' 4 (A4 l')]],[]⟩) ?_ l.length fr _ ⟨0,by omega,hl,h2,h3,h9,rfl,rfl⟩
   rintro n fr h ⟨i,hi,hl,h2,h3,h9,hr,rfl⟩;by_cases A7:i<l.length
   .have hx:KN (A4 l) i=some (B9 l[i]):=Jl (by simp[A7]);have hx':KN (A4 l') i=some (B9 (l'[i]'(by omega))):=Jl (by simp[show i<l'.length by omega]);have s1:=Tm.size_le (A0T A7);have s2:=Tm.size_le (A0T (show i<l'.length by omega));have hT:=ih l[i] (l'[i]'(by omega)) (by omega) (by omega) (by omega);have hw:=C6 i (by omega);rw[A0Q A7,A0Q (show i<l'.length by omega)]at hr;simp only[Iw,nz]at hr;generalize l[i]=t at *
    generalize l'[i]'(by omega)=t' at *
    obtain⟨tk,tn,ts,tm,tl⟩:=t;obtain⟨tk',tn',ts',tm',tl'⟩:=t';simp only[B9]at hT hx hx';by_cases hc:H6 (Tm.mk tk tn ts tm tl) (Tm.mk tk' tn' ts' tm' tl')=0
    .rw[if_pos hc]at hr;simp[DL,hl,h2,h3,h9,A7,hx,hx',hT,hw,hc];exact⟨n-1,by omega,i+1,by omega,by simp,hr⟩
    .rw[if_neg hc]at hr;simp[DL,hl,h2,h3,h9,A7,hx,hx',hT,hc];exact hr
   .have h0:l.length<=i:=by omega
    rw[A0R h0,SL]at hr;simp[DL,hl,h2,h3,h9,A7];exact hr.symm
  refine aA UX rfl (by simp[MA]) λfr hl ha=>?_;have h0:=ha 0;have h1:=ha 1;clear ha ih;simp[MA,B9]at hl h0 h1 ⊢;by_cases e0:Hw (1+(Tm.sizes l:Int)) (1+(Tm.sizes l':Int))=0
  .by_cases e1:Hw k k'=0
   .by_cases e2:Op.bytesLess nm.toList nm'.toList=true
    .simp[e0,e1,e2,h0,h1,hl,hS,hS',Kf];simp[H6,nz,e0,e1,e2,U9]
    .by_cases e3:nm.toList=nm'.toList
     .have e2':=e2;rw[e3]at e2';by_cases e5:Hw s s'=0
      .by_cases e4:Hw (l.length:Int) (l'.length:Int)=0
       .simp[e0,e1,e2',e3,e5,e4,h0,h1,hl,hS,hS',Kf];refine(loop _ (by simp[hl]) (by simp[hl]) (by simp[hl]) (by simp[hl]) (Tz e4)).mono ?_;rintro e fr h ⟨hl,⟨rfl,hz⟩|⟨rfl,h5⟩⟩
        .simp[hl,H6,nz,e0,e1,e2',e3,e5,e4,U9,hz]
        .simp[h5,H6,nz,e0,e1,e2',e3,e5,e4,U9]
       .simp[e0,e1,e2',e3,e5,e4,h0,h1,hl,hS,hS',Kf];simp[H6,nz,e0,e1,e2',e3,e5,e4,U9]
      .simp[e0,e1,e2',e3,e5,h0,h1,hl,hS,hS',Kf];simp[H6,nz,e0,e1,e2',e3,e5,U9]
     .simp[e0,e1,e2,e3,h0,h1,hl,hS,hS',Kf];simp[H6,nz,e0,e1,e2,e3,U9]
   .simp[e0,e1,h0,h1,hl,hS,hS',Kf];simp[H6,nz,e0,e1]
  .simp[e0,h0,h1,hl,hS,hS',Kf];simp[H6,nz,e0]
def JK (t t':Tm):Bool:=decide (H6 t t'=0)
theorem cG (t t':Tm) (h:t.size<=1099511627776) (h':t'.size<=1099511627776):pc Q HK [B9 t,B9 t']=some (.bool (JK t t')):=by
 have hC:=TB _ t t' (A0U _) h h';refine aA YJ rfl (by simp[QP]) λfr hl ha=>?_;have h0:=ha 0;have h1:=ha 1;clear ha h h';obtain⟨tk,tn,ts,tm,tl⟩:=t;obtain⟨tk',tn',ts',tm',tl'⟩:=t';simp only[B9]at hC;simp[QP,B9]at hl h0 h1 ⊢;simp[h0,h1,hl,hC,JK]
mutual
def iJ:Tm->Int->Int
 | .mk _ n _ _ l,most=>if most<=0\/(40:Int)<n.size then -1 else Wr l (most-1)
def Wr:List Tm->Int->Int
 | [],most=>most
 |t::l,most=>if iJ t most<0 then -1 else Wr l (iJ t most)
end
mutual
theorem iK:∀(t:Tm) (m:Int),iJ t m<=m\/iJ t m=-1
 | .mk _ n _ _ l,m=>by
  simp only[iJ];split
  .exact .inr rfl
  .rcases kW l (m-1)with h|h
   .exact .inl (by omega)
   .exact .inr h
theorem kW:∀(l:G7) (m:Int),Wr l m<=m\/Wr l m=-1
 | [],m=>.inl (Int.le_refl _)
 |t::l,m=>by
  simp only[Wr];split
  .exact .inr rfl
  .rename_i hb;rcases iK t m with h|h
   .rcases kW l (iJ t m)with h' | h'
    .exact .inl (by omega)
    .exact .inr h'
   .omega
end
theorem ob:∀(n:Nat) (t:Tm) (most:Int),t.size<=n->t.size<=1099511627776->most<=9223372036854775807->pc Q JX [B9 t,.int .i64 most]=some (.int .i64 (iJ t most)):=by
 intro n
 induction n with
 |zero=>intro t _ h;have:=t.size_pos;omega
 |succ n ih =>
  intro t most hn hb hm;obtain⟨k,nm,s,m,kids⟩:=t;have J4:Tm.size (.mk k nm s m kids)=1+Tm.sizes kids:=rfl;have B8:=Tm.length_le kids;refine O9 Gs λfr hl h0 h1=>?_;simp[Gs,B9]at hl h0 h1;by_cases h2:most<=0
  .simp[Gs,hl,h0,h1,h2,iJ]
  by_cases h3:(40:Int)<nm.size
  .simp[Gs,hl,h0,h1,h2,h3,iJ]
  have hw0:IntKind.i64.wrap (most-1)=most-1:=W2 (by omega) (by omega);simp[Gs,hl,h0,h1,h2,h3,hw0];refine(SH (Ψ:=λe fr h=>fr.length=33/\(e=.exit 0/\A0 fr 1=.int .i64 (Wr kids (most-1))\/e=.ret/\A0 fr 4=.int .i64 (-1)/\Wr kids (most-1)=-1))
   (λn fr h=>∃i cur,i+n=kids.length/\fr.length=33/\cur<=9223372036854775807/\A0 fr 1=.int .i64 cur/\A0 fr 2=.ptr 0 0/\A0 fr 5=.int .i64 (i:Nat)/\Wr (kids.drop i) cur=Wr kids (most-1) /\
    h=⟨[[.int .i64 k,.str nm,.int .i64 s,sl m 4 (A4 kids)]],[]⟩) ?_ kids.length _ _ ?_).mono ?_
  .rintro n fr h ⟨i,cur,hi,hl,hcur,h1,h2,h5,hr,rfl⟩;by_cases A7:i<kids.length
   .have hx:KN (A4 kids) i=some (B9 kids[i]):=Jl (by simp[A7]);have s1:=Tm.size_le (A0T A7);have hT:=ih kids[i] cur (by omega) (by omega) hcur;have PL:=iK kids[i] cur;have hw:=C6 i (by omega);rw[A0Q A7]at hr;simp only[Wr]at hr;generalize kids[i]=t at *
    obtain⟨tk,tn,ts,tm,tl⟩:=t;simp only[B9]at hT hx;by_cases hc:iJ (Tm.mk tk tn ts tm tl) cur<0
    .rw[if_pos hc]at hr;simp[HW,hl,h1,h2,h5,A7,hx,hT,hc];exact hr.symm
    .rw[if_neg hc]at hr;simp[HW,hl,h1,h2,h5,A7,hx,hT,hw,hc];refine⟨n-1,by omega,i+1,by omega,_,?_,rfl,by simp,hr⟩;omega
   .have h0:kids.length<=i:=by omega
    rw[A0R h0]at hr;simp only[Wr]at hr;simp[HW,hl,h1,h2,h5,A7];exact hr
  .exact⟨0,most-1,by omega,by simp[hl],by omega,by simp[hl],by simp[hl],by simp[hl],rfl,rfl⟩
  .rintro e fr h ⟨hl,⟨rfl,h1⟩|⟨rfl,h4,he⟩⟩
   .simp[hl,h1,iJ,h2,h3]
   .simp[h4,he,iJ,h2,h3]
def eD:List Tm->Int->Bool
 | [],_=>true
 |t::l,most=>if iJ t most<0 then false else eD l (iJ t most)
def uw (l:List Tm) (n most:Int):Bool:=if n<l.length then false else eD l most
theorem sH (m:I7) (l:G7) (q most:Int) (h:Tm.sizes l<=1099511627776) (hm:most<=9223372036854775807):pc Q Ge [sl m 4 (A4 l),.int .i64 q,.int .i64 most]=some (.bool (uw l q most)):=by
 have B8:=Tm.length_le l;refine FX OO λfr hl h0 h1 h2=>?_;simp[OO]at hl h0 h1 h2;by_cases hq:q<l.length
 .simp[OO,hl,h0,h1,hq,uw]
 simp[OO,hl,h0,h1,hq];refine(SH (Ψ:=λe fr h=>fr.length=26/\(e=.exit 0/\eD l most=true\/e=.ret/\A0 fr 6=.bool false/\eD l most=false))
  (λn fr h=>∃i cur,i+n=l.length/\fr.length=26/\cur<=9223372036854775807/\A0 fr 0=sl m 4 (A4 l)/\A0 fr 2=.int .i64 cur/\A0 fr 7=.int .i64 (i:Nat)/\eD (l.drop i) cur=eD l most) ?_ l.length _ _ ?_).mono ?_
 .rintro n fr h ⟨i,cur,hi,hl,hcur,h0,h2,h7,hr⟩;by_cases A7:i<l.length
  .have hx:KN (A4 l) i=some (B9 l[i]):=Jl (by simp[A7]);have s1:=Tm.size_le (A0T A7);have hT:=ob _ l[i] cur (A0U _) (by omega) hcur;have PL:=iK l[i] cur;have hw:=C6 i (by omega);rw[A0Q A7]at hr;simp only[eD]at hr;generalize l[i]=t at *
   obtain⟨tk,tn,ts,tm,tl⟩:=t;simp only[B9]at hT hx;by_cases hc:iJ (Tm.mk tk tn ts tm tl) cur<0
   .rw[if_pos hc]at hr;simp[LS,hl,h0,h2,h7,A7,hx,hT,hc];exact hr.symm
   .rw[if_neg hc]at hr;simp[LS,hl,h0,h2,h7,A7,hx,hT,hw,hc];refine⟨n-1,by omega,i+1,by omega,_,?_,rfl,by simp,hr⟩;omega
  .have e0:l.length<=i:=by omega
   rw[A0R e0]at hr;simp only[eD]at hr;simp[LS,hl,h0,h7,A7];exact hr.symm
 .exact⟨0,most,by omega,by simp[hl],by omega,by simp[h0],by simp[h2],by simp[hl],rfl⟩
 .rintro e fr h ⟨hl,⟨rfl,he⟩|⟨rfl,h4,he⟩⟩
  .simp[hl,he,uw,hq]
  .simp[h4,he,uw,hq]
theorem ct (h:AH) (m:I7) (sz:Nat) (J4:0<sz) (xs:G3) (lo hi:Option Int):YT h sz (sl m sz xs) (some lo) (some hi) (some none) =
  if 0<=lo.getD 0/\lo.getD 0<=hi.getD xs.length/\hi.getD xs.length<=xs.length then
   some (sl (m.1&&decide (hi.getD xs.length=xs.length),m.2||!xs.isEmpty) sz ((xs.drop (lo.getD 0).toNat).take (hi.getD xs.length-lo.getD 0).toNat),h)else none:=by
 have hz:(if (xs.isEmpty&&!m.2)=true then 0 else sz)=sz\/xs.length=0:=by
  cases xs with
  |nil=>exact .inr rfl
  |cons x xs=>exact .inl rfl
 simp only[YT,sl,Oc];rw[if_pos ⟨J4,hz⟩];by_cases hc:0<=lo.getD 0/\lo.getD 0<=hi.getD xs.length/\hi.getD xs.length<=xs.length
 .rw[if_pos hc,if_pos hc];have e:((if (xs.isEmpty&&!m.2)=true then 0 else sz):Nat)=(if (((xs.drop (lo.getD 0).toNat).take (hi.getD xs.length-lo.getD 0).toNat).isEmpty&&!(m.2||!xs.isEmpty))=true then 0 else sz):=by
   cases xs with
   |nil=>simp
   |cons x xs=>simp
  rw[e]
 .rw[if_neg hc,if_neg hc]
theorem slc_drop (h:AH) (m:I7) (sz:Nat) (J4:0<sz) (xs:G3) (k:Nat) (hk:k<=xs.length) :
  YT h sz (sl m sz xs) (some (some (k:Int))) (some none) (some none)=some (sl (m.1,m.2||!xs.isEmpty) sz (xs.drop k),h):=by
 rw[ct _ _ _ J4];have e:((xs.length:Int)-(k:Int)).toNat=xs.length-k:=by omega
 simp only[A0W,A0f,decide_true,Bool.and_true,A0c,e];rw[if_pos ⟨by omega,by omega,by omega⟩,List.take_of_length_le (by simp)]
theorem gR (h:AH) (m:I7) (sz:Nat) (J4:0<sz) (xs:G3) (k:Nat) (hk:k<=xs.length) :
  YT h sz (sl m sz xs) (some none) (some (some (k:Int))) (some none)=some (sl (m.1&&decide (k=xs.length),m.2||!xs.isEmpty) sz (xs.take k),h):=by
 rw[ct _ _ _ J4];have e:decide ((k:Int)=(xs.length:Int))=decide (k=xs.length):=by
  rw[Bool.eq_iff_iff];simp only[decide_eq_true_eq];omega
 simp only[A0W,A0f,Int.sub_zero,A0c,e,Int.toNat_zero,List.drop_zero];rw[if_pos ⟨by omega,by omega,by omega⟩]
def S6 {α:Type} (p:α->Bool):Nat->List α->Int
 |_,[]=>-1
 |i,a::r=>if p a=true then (i:Int)else S6 p (i+1) r
def idx {α:Type} (p:α->Bool) (l:List α):Int:=S6 p 0 l
theorem DY {α:Type} (p:α->Bool):∀(l:List α) (i:Nat),(0<=S6 p i l)↔l.any p=true
 | [],i=>by simp[S6]
 |a::l,i=>by
  simp only[S6,List.any_cons,A0X];by_cases h:p a=true
  .simp[h]
  .rw[if_neg h,DY p l (i+1)];simp[h]
theorem B6 {p:Prop} [Decidable p] (h:p):decide p=true:=by simp[h]
theorem A3 {p:Prop} [Decidable p] (h:¬p):decide p=false:=by simp[h]
def JJ (c:Nat):Bool:=decide (97<=c/\c<=122)||decide (65<=c/\c<=90)
def Np (c:Nat):Bool:=decide (48<=c/\c<=57)
def Z9 (c:Nat):Bool:=JJ c||Np c||decide (c=95)||decide (c=35)
theorem YF (c:Nat):c<35\/c=35\/(36<=c/\c<=47)\/(48<=c/\c<=57)\/(58<=c/\c<=64)\/(65<=c/\c<=90)\/(91<=c/\c<=94)\/c=95\/c=96\/(97<=c/\c<=122)\/123<=c:=by omega
theorem lU (c:Nat):pc Q OI [.int .u8 c]=some (.bool (Z9 c)):=by
 refine H5 Rw λfr hl h0=>?_;simp[Rw]at hl h0;rcases YF c with h|h|h|h|h|h|h|h|h|h|h<;>simp(disch:=omega) only[Z9,JJ,Np,B6,A3,A0k,A0i]<;>simp(disch:=first|omega|(simp only[A0V];omega)) [Rw,h0,B6,A3]
theorem aI (c:Nat):pc Q JY [.int .u8 c]=some (.bool (JJ c)):=by
 refine H5 NW λfr hl h0=>?_;simp[NW]at hl h0;rcases YF c with h|h|h|h|h|h|h|h|h|h|h<;>simp(disch:=omega) only[JJ,B6,A3,A0k,A0i]<;>simp(disch:=first|omega|(simp only[A0V];omega)) [NW,h0,B6,A3]
theorem sU (c:Nat):pc Q OW [.int .u8 c]=some (.bool (Np c)):=by
 refine H5 Oj λfr hl h0=>?_;simp[Oj]at hl h0;rcases YF c with h|h|h|h|h|h|h|h|h|h|h<;>simp(disch:=omega) only[Np,B6,A3]<;>simp(disch:=first|omega|(simp only[A0V];omega)) [Oj,h0,B6,A3]
abbrev M0 (s:ByteArray):List UInt8:=s.data.toList
theorem GI (s:J2) (j:Nat):s[j]?=(M0 s)[j]?:=by
 obtain⟨⟨l⟩⟩:=s;by_cases h:j<l.length
 .have h1:j<A0g ⟨⟨l⟩⟩:=h;rw[getElem?_pos (⟨⟨l⟩⟩:ByteArray) j h1];simp only[M0];rw[A0S h];rfl
 .have h1:¬j<A0g ⟨⟨l⟩⟩:=h;rw[getElem?_neg (⟨⟨l⟩⟩:ByteArray) j h1];simp only[M0];rw[List.getElem?_eq_none (by omega)]
theorem K3 (s:J2):(M0 s).length=s.size:=by
 obtain⟨⟨l⟩⟩:=s;rfl
def U3 (s:ByteArray):Bool:=match M0 s with | []=>false|c::r=>decide (s.size<=24)&&JJ c.toNat&&(c::r).all λc=>Z9 c.toNat
def Qd (s:ByteArray):Bool:=(M0 s).contains 35
theorem ee (s:J2) (hs:s.size<=24) (fr:Fr) (h:AH) (hl:fr.length=48) (h0:A0 fr 0=.str s) (h38:A0 fr 38=.int .i64 s.size) (h39:A0 fr 39=.int .i64 0) :
  B7 (lp (A2 (K8 Q) (D6 IF) Cq) (fr,h)) λe C4 h'=>Kp Cq.wr fr C4/\(e=.exit 0/\((M0 s).all λc=>Z9 c.toNat)=true\/e=.ret/\A0 C4 2=.bool false/\((M0 s).all λc=>Z9 c.toNat)=false):=by
 refine B4 rfl fr (λn fr h=>∃i:Nat,i+n=s.size/\A0 fr 39=.int .i64 (i:Nat)/\(((M0 s).drop i).all λc=>Z9 c.toNat)=((M0 s).all λc=>Z9 c.toNat)) ?_ s.size h ⟨0,by omega,h39,rfl⟩;rintro J Φ hJ hΦ n D5 Cv K ⟨i,hi,k39,hr⟩;have A6:=K.1.trans hl;have k0:=A8 K 0 h0;have k38:=A8 K 38 h38;have B8:=K3 s;by_cases A7:i<s.size
 .have t6:i<(M0 s).length:=by omega
  have hx:s[i]?=some (M0 s)[i]:=by rw[GI,A0S t6]
  have hw:=C6 i (by omega);rw[A0Q t6,A0j]at hr;generalize (M0 s)[i]=c at *
  have hP:=lU c.toNat;have HE:s[i]'A7=c:=by rw[getElem?_pos s i A7]at hx;exact Option.some.inj hx
  cases hc:Z9 c.toNat with
  |true =>
   rw[hc]at hP hr;simp[Cq,A6,k0,k38,k39,A7,HE,hw,hP];exact E9 hJ ⟨i+1,by omega,by simp[A6],by simpa using hr⟩
  |false =>
   rw[hc]at hP hr;simp[Cq,A6,k0,k38,k39,A7,HE,hP];exact hΦ _ _ _ (.inr ⟨rfl,by simp[A6],by simpa using hr.symm⟩)
 .rw[A0R (by omega)]at hr;simp[Cq,A6,k38,k39,A7];exact hΦ _ _ _ (.inl ⟨rfl,by simpa using hr.symm⟩)
theorem bE {s:J2} (h:M0 s=[]):s=bs []:=by
 obtain⟨⟨l⟩⟩:=s;simp[M0]at h;subst h;rfl
theorem og (s:J2):pc Q IF [.str s]=some (.bool (U3 s)):=by
 have B8:=K3 s;refine H5 AO λfr hl h0=>?_;simp[AO]at hl h0;cases hb:M0 s with
 |nil =>
  have e:=bE hb;subst e;simp[AO,hl,h0,U3,hb]
 |cons c r =>
  rw[hb]at B8;simp only[A0d]at B8;have P0:¬(s.toList=(bs []).toList):=by
   rw[Lib.toList_data,Lib.toList_data,show s.data.toList=c::r from hb];intro e;cases e
  have M2:0<s.size:=by omega
  have hx:s[0]?=some c:=by rw[GI,hb];rfl
  have HE:s[0]'M2=c:=by rw[getElem?_pos s 0 M2]at hx;exact Option.some.inj hx
  by_cases h24:24<s.size
  .have h24':(24:Int)<(s.size:Int):=by omega
   have h24n:¬s.size<=24:=by omega
   simp[AO,hl,h0,P0,h24',U3,hb,h24n]
  .have h24':¬(24:Int)<(s.size:Int):=by omega
   have h24n:s.size<=24:=by omega
   have hP:=lU c.toNat;cases hL:JJ c.toNat with
   |false =>
    have hv:U3 s=false:=by simp[U3,hb,hL]
    rw[hv];cases hp:Z9 c.toNat with
    |false =>
     rw[hp]at hP;simp[AO,hl,h0,P0,h24',M2,HE,hP]
    |true =>
     rw[hp]at hP;have hcc:(48<=c.toNat/\c.toNat<=57)\/c.toNat=95\/c.toNat=35:=by
      simp only[Z9,hL,Np,Bool.false_or,A0X,decide_eq_true_eq]at hp;omega
     generalize hzv:c.toNat=z at *
     rcases hcc with hz|hz|hz<;>simp(disch:=first|omega|(simp only[A0V];omega)) [AO,h0,P0,h24',HE,hzv,hP,B6,A3]
   |true =>
    have hp:Z9 c.toNat=true:=by simp[Z9,hL]
    rw[hp]at hP;have hcc:(97<=c.toNat/\c.toNat<=122)\/(65<=c.toNat/\c.toNat<=90):=by
     simp only[JJ,A0X,decide_eq_true_eq]at hL;exact hL
    have hv:U3 s=(M0 s).all λc=>Z9 c.toNat:=by simp[U3,hb,hL,h24n]
    rw[hv];have key:∀b,((M0 s).all λc=>Z9 c.toNat)=b->B7 (A2 (K8 Q) (D6 IF) AO.body (fr,⟨[],[]⟩)) (kM AO.results (.bool b)):=by
     intro b hbv;generalize hzv:c.toNat=z at *
     have q1:¬(z:Int)=95:=by omega
     have q2:¬(z:Int)=35:=by omega
     have q3:¬((z:Int)<=57):=by omega
     have q4:(48:Int)<=(z:Int):=by omega
     simp[AO,hl,h0,P0,h24',M2,HE,hzv,hP,q1,q2,q3,q4];refine(ee s h24n _ _ (by simp[hl]) (by simp[h0]) (by simp[hl]) (by simp[hl])).mono ?_;rintro e C4 h' ⟨K,⟨rfl,he⟩|⟨rfl,h2,he⟩⟩
     .have hl':C4.length=48:=K.1.trans (by simp[hl]);rw[hbv]at he;simp[hl',he]
     .rw[hbv]at he;simp[h2,he]
    exact key _ rfl
theorem cq (s:J2) (hs:s.size<=24) (fr:Fr) (h:AH) (hl:fr.length=48) (h0:A0 fr 0=.str s) (h3:A0 fr 3=.int .i64 0) :
  B7 (lp (A2 (K8 Q) (D6 Dw) U6) (fr,h)) λe C4 h'=>Kp U6.wr fr C4/\(e=.exit 0/\((M0 s).all λc=>Z9 c.toNat)=true\/e=.ret/\A0 C4 2=.bool false/\((M0 s).all λc=>Z9 c.toNat)=false):=by
 refine B4 rfl fr (λn fr h=>∃i:Nat,i+n=s.size/\A0 fr 3=.int .i64 (i:Nat)/\(((M0 s).drop i).all λc=>Z9 c.toNat)=((M0 s).all λc=>Z9 c.toNat)) ?_ s.size h ⟨0,by omega,h3,rfl⟩;rintro J Φ hJ hΦ n D5 Cv K ⟨i,hi,k3,hr⟩;have A6:=K.1.trans hl;have k0:=A8 K 0 h0;have B8:=K3 s;by_cases A7:i<s.size
 .have t6:i<(M0 s).length:=by omega
  have hx:s[i]?=some (M0 s)[i]:=by rw[GI,A0S t6]
  have hw:=C6 i (by omega);rw[A0Q t6,A0j]at hr;generalize (M0 s)[i]=c at *
  have hL:=aI c.toNat;have hD:=sU c.toNat;have HE:s[i]'A7=c:=by rw[getElem?_pos s i A7]at hx;exact Option.some.inj hx
  have fwd:Z9 c.toNat=true->(((M0 s).drop (i+1)).all λc=>Z9 c.toNat)=((M0 s).all λc=>Z9 c.toNat):=λhp=>by rw[hp]at hr;simpa using hr
  have bad:Z9 c.toNat=false->((M0 s).all λc=>Z9 c.toNat)=false:=λhp=>by rw[hp]at hr;simpa using hr.symm
  clear hr;generalize hz:c.toNat=z at *
  cases hLv:JJ z with
  |true =>
   rw[hLv]at hL;simp[U6,A6,k0,k3,A7,HE,hz,hw,hL];exact E9 hJ ⟨i+1,by omega,by simp[A6],fwd (by simp[Z9,hLv])⟩
  |false =>
   rw[hLv]at hL;cases hDv:Np z with
   |true =>
    rw[hDv]at hD;simp[U6,A6,k0,k3,A7,HE,hz,hw,hL,hD];exact E9 hJ ⟨i+1,by omega,by simp[A6],fwd (by simp[Z9,hDv])⟩
   |false =>
    rw[hDv]at hD;by_cases h95:z=95
    .subst h95;simp only[A0b]at hL hD;simp[U6,A6,k0,k3,A7,HE,hz,hw,hL,hD];exact E9 hJ ⟨i+1,by omega,by simp[A6],fwd (by simp[Z9])⟩
    .have h95':¬(z:Int)=95:=by omega
     by_cases h35:z=35
     .subst h35;simp only[A0b]at hL hD;simp[U6,A6,k0,k3,A7,HE,hz,hw,hL,hD];exact E9 hJ ⟨i+1,by omega,by simp[A6],fwd (by simp[Z9])⟩
     .have h35':¬(z:Int)=35:=by omega
      simp[U6,A6,k0,k3,A7,HE,hz,hL,hD,h95',h35'];exact hΦ _ _ _ (.inr ⟨rfl,by simp[A6],bad (by simp[Z9,hLv,hDv,h95,h35])⟩)
 .rw[A0R (by omega)]at hr;simp[U6,A6,k0,k3,A7];exact hΦ _ _ _ (.inl ⟨rfl,by simpa using hr.symm⟩)
theorem aC (s:J2):pc Q Dw [.str s]=some (.bool (U3 s)):=by
 have B8:=K3 s;refine H5 Aa λfr hl h0=>?_;simp[Aa]at hl h0;cases hb:M0 s with
 |nil =>
  have e:=bE hb;subst e;simp[Aa,hl,h0,U3,hb,show (bs []).size=0 from rfl]
 |cons c r =>
  rw[hb]at B8;simp only[A0d]at B8;have P0:¬(s.size:Int)=0:=by omega
  have hne':¬s.size=0:=by omega
  have M2:0<s.size:=by omega
  have hx:s[0]?=some c:=by rw[GI,hb];rfl
  have HE:s[0]'M2=c:=by rw[getElem?_pos s 0 M2]at hx;exact Option.some.inj hx
  by_cases h24:24<s.size
  .have h24':(24:Int)<(s.size:Int):=by omega
   have h24n:¬s.size<=24:=by omega
   simp[Aa,hl,h0,hne',h24',U3,hb,h24n]
  .have h24':¬(24:Int)<(s.size:Int):=by omega
   have h24n:s.size<=24:=by omega
   have hL:=aI c.toNat;cases hLv:JJ c.toNat with
   |false =>
    rw[hLv]at hL;have hv:U3 s=false:=by simp[U3,hb,hLv]
    rw[hv];simp[Aa,hl,h0,hne',h24',M2,HE,hL]
   |true =>
    rw[hLv]at hL;have hv:U3 s=(M0 s).all λc=>Z9 c.toNat:=by simp[U3,hb,hLv,h24n]
    rw[hv];have key:∀b,((M0 s).all λc=>Z9 c.toNat)=b->B7 (A2 (K8 Q) (D6 Dw) Aa.body (fr,⟨[],[]⟩)) (kM Aa.results (.bool b)):=by
     intro b hbv;simp[Aa,hl,h0,hne',h24',M2,HE,hL];refine(cq s h24n _ _ (by simp[hl]) (by simp[h0]) (by simp[hl])).mono ?_;rintro e C4 h' ⟨K,⟨rfl,he⟩|⟨rfl,h2,he⟩⟩
     .have hl':C4.length=48:=K.1.trans (by simp[hl]);rw[hbv]at he;simp[hl',he]
     .rw[hbv]at he;simp[h2,he]
    exact key _ rfl
end Go.Abs.Q
