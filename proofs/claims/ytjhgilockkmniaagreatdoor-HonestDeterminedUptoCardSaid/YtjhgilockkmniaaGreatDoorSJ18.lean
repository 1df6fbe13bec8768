/- A part of the proof. -/
import Derived.Test.YtjhgilockkmniaaGreatDoorSJ16
import Derived.Test.YtjhgilockkmniaaGreatDoorSJ17
import Derived.Test.YtjhgilockkmniaaGreatDoorProg
import Derived.KernelRfl
import Derived.Lib.Strings
import Derived.Lib.Bytealg
set_option linter.all false
open List renaming drop_eq_getElem_cons->zf0z,getElem_mem->zf1z,getElem?_eq_getElem->zf3z,drop_eq_nil_of_le->zf4z,mem_append_right->zf5z,mem_append_left->zf6z
open Nat renaming le_refl->zf2z
namespace Go.Abs.Q
open Go.Proofs
noncomputable def Ax (f:FuncId):Option RFunc:=if uB f then none else Sc Tryz.prog B9 f
theorem T2:Ax E7=some C7:=by kernel_rfl
theorem PK:Ax Em=some JN:=by kernel_rfl
theorem MX:Ax u7=some Hf:=by kernel_rfl
theorem Lo:Ax i4=some GT:=by kernel_rfl
theorem QC:Ax Bi=some KH:=by kernel_rfl
theorem MW:Ax Y3=some Hc:=by kernel_rfl
theorem QB:Ax Bh=some Cx:=by kernel_rfl
theorem PM:Ax X2=some P5:=by kernel_rfl
theorem PL:Ax Ac=some Bx:=by kernel_rfl
theorem NT:Ax n7=some Dk:=by kernel_rfl
theorem NS:Ax n6=some Fy:=by kernel_rfl
end Go.Abs.Q
namespace Go.Abs
def C3 (r:Option (Ex×St)) (Ψ:Ex->Fr->AH->Prop):Prop:=match r with|some (e,fr,h)=>Ψ e fr h|none=>False
@[congr] theorem jB {r r':Option (Ex×St)} {Ψ:Ex->Fr->AH->Prop} (h:r=r'):C3 r Ψ=C3 r' Ψ:=by rw[h]
@[simp] theorem lB (e:Ex) (fr:Fr) (h:AH) (Ψ:Ex->Fr->AH->Prop):C3 (some (e,fr,h)) Ψ=Ψ e fr h:=_root_.id rfl
def SQ (O:Orc) (c:Ctx) (y:RCode) (Ψ:Ex->Fr->AH->Prop):Ex->Fr->AH->Prop
 | .normal,fr,h=>C3 (A4 O c y (fr,h)) Ψ
 |e,fr,h=>Ψ e fr h
section
variable (O:Orc) (c:Ctx) (y:RCode) (Ψ:Ex->Fr->AH->Prop)
@[simp] theorem um (fr:Fr) (h:AH):SQ O c y Ψ .normal fr h=C3 (A4 O c y (fr,h)) Ψ:=_root_.id rfl
@[simp] theorem uo (fr:Fr) (h:AH):SQ O c y Ψ .ret fr h=Ψ .ret fr h:=_root_.id rfl
@[simp] theorem ul (i:Nat) (fr:Fr) (h:AH):SQ O c y Ψ (.exit i) fr h=Ψ (.exit i) fr h:=_root_.id rfl
@[simp] theorem mB (r:Option (Ex×St)):C3 (iw r O c y) Ψ=C3 r (SQ O c y Ψ):=by
 cases r with
 |none=>rfl
 |some x=>obtain⟨e,fr,h⟩:=x;cases e<;>rfl
end
def BL (id:Nat) (Ψ:Ex->Fr->AH->Prop):Ex->Fr->AH->Prop
 | .exit i,fr,h=>if i=id then Ψ .normal fr h else Ψ (.exit i) fr h
 |e,fr,h=>Ψ e fr h
@[simp] theorem ui (id:Nat) (Ψ:Ex->Fr->AH->Prop) (fr:Fr) (h:AH):BL id Ψ .normal fr h=Ψ .normal fr h:=_root_.id rfl
@[simp] theorem uj (id:Nat) (Ψ:Ex->Fr->AH->Prop) (fr:Fr) (h:AH):BL id Ψ .ret fr h=Ψ .ret fr h:=_root_.id rfl
@[simp] theorem uh (id i:Nat) (Ψ:Ex->Fr->AH->Prop) (fr:Fr) (h:AH):BL id Ψ (.exit i) fr h=if i=id then Ψ .normal fr h else Ψ (.exit i) fr h:=_root_.id rfl
@[simp] theorem mA (id:Nat) (r:Option (Ex×St)) (Ψ:Ex->Fr->AH->Prop):C3 (gA id r) Ψ=C3 r (BL id Ψ):=by
 cases r with
 |none=>rfl
 |some x =>
  obtain⟨e,fr,h⟩:=x;cases e with
  |exit i =>
   by_cases hi:i=id
   .subst hi;simp[gA,BL]
   .simp[gA,BL,hi]
  |_=>rfl
theorem C3.mono {r:Option (Ex×St)} {Φ Ψ:Ex->Fr->AH->Prop} (h:C3 r Φ) (k:∀e fr h,Φ e fr h->Ψ e fr h):C3 r Ψ:=by
 cases r with
 |none=>exact h.elim
 |some x=>exact k _ _ _ h
theorem C3.elim' {r:Option (Ex×St)} {Φ:Ex->Fr->AH->Prop} (h:C3 r Φ):∃e fr h',r=some (e,fr,h')/\Φ e fr h':=by
 cases r with
 |none=>exact h.elim
 |some x=>exact⟨_,_,_,rfl,h⟩
theorem KI {step:St->Option (Ex×St)} {Ψ:Ex->Fr->AH->Prop} (Inv:Nat->Fr->AH->Prop)
  (H:∀n fr h,Inv n fr h->C3 (step (fr,h)) λe fr' h'=>(e=.normal/\∃m,m<n/\Inv m fr' h')\/(e≠.normal/\Ψ e fr' h')) :
  ∀(n:Nat) (fr:Fr) (h:AH),Inv n fr h->C3 (lp step (fr,h)) Ψ:=by
 intro n
 induction n using Nat.strongRecOn with
 |_ n ih =>
  intro fr h hi;obtain⟨e,fr',h',he,hp⟩:=(H n fr h hi).elim';rcases hp with ⟨rfl,m,hm,r7⟩|⟨T6,hp⟩
  .obtain⟨e2,T9,h2,he2,hp2⟩:=(ih m hm fr' h' r7).elim';rw[pe he he2];exact hp2
  .cases e with
   |normal=>exact absurd rfl T6
   |exit i=>rw[gE he];exact hp
   |ret=>rw[jw he];exact hp
theorem QF {α:Type} {step:St->Option (Ex×St)} {Ψ:Ex->Fr->AH->Prop} (all:List α) (Inv:List α->Fr->AH->Prop)
  (last:∀fr h,Inv all fr h->C3 (step (fr,h)) λe fr' h'=>e≠.normal/\Ψ e fr' h')
  (next:∀done x rest,done++x::rest=all->∀fr h,Inv done fr h->C3 (step (fr,h)) λe fr' h'=>(e=.normal/\Inv (done++[x]) fr' h')\/(e≠.normal/\Ψ e fr' h')) :
  ∀(fr:Fr) (h:AH),Inv [] fr h->C3 (lp step (fr,h)) Ψ:=by
 intro fr h hi;refine KI (λn fr h=>∃done rest,done++rest=all/\rest.length=n/\Inv done fr h) (λn fr h ⟨done,rest,he,hn,hi⟩=>?_) all.length fr h ⟨[],all,rfl,rfl,hi⟩;cases rest with
 |nil =>
  rw[List.append_nil]at he;subst he;exact(last fr h hi).mono λe fr' h' hp=>.inr hp
 |cons x rest =>
  refine(next done x rest he fr h hi).mono λe fr' h' hp=>?_
  rcases hp with ⟨h1,h2⟩|hp
  .exact .inl ⟨h1,rest.length,by simp at hn;omega,done++[x],rest,by simpa using he,rfl,h2⟩
  .exact .inr hp
def Vh (rs:List RRes) (r:AV):Ex->Fr->AH->Prop
 | .exit _,_,_=>False
 |_,fr,h=>fin rs fr h=some r
@[simp] theorem uI (rs:List RRes) (r:AV) (fr:Fr) (h:AH):Vh rs r .normal fr h=(fin rs fr h=some r):=_root_.id rfl
@[simp] theorem uJ (rs:List RRes) (r:AV) (fr:Fr) (h:AH):Vh rs r .ret fr h=(fin rs fr h=some r):=_root_.id rfl
theorem Xq {C:Cfg} {f:FuncId} {rf:RFunc} {args:C6} {r:AV} (hs:C.spec f=none) (hc:C.code f=some rf) (hl:args.length<=rf.ntmps)
  (H:∀fr:Fr,fr.length=rf.ntmps->(∀i,A2 fr i=args.getD i B3)->C3 (A4 (N5 C) (C.ctx f) rf.body (fr,⟨[],[]⟩)) (Vh rf.results r)):pc C f args=some r:=by
 refine dP hs hc hl λfr h1 h2=>?_;obtain⟨e,fr',h',he,hp⟩:=(H fr h1 h2).elim';rw[he];cases e with
 |exit i=>exact hp.elim
 |normal=>exact hp
 |ret=>exact hp
def TD (rs:List RRes) (Φ:AV->AH->Prop):Ex->Fr->AH->Prop
 | .exit _,_,_=>False
 |_,fr,h=>∃vs,Gm fr h rs=some vs/\Φ (H6 vs) h
@[simp] theorem sK (rs:List RRes) (Φ:AV->AH->Prop) (fr:Fr) (h:AH):TD rs Φ .normal fr h=(∃vs,Gm fr h rs=some vs/\Φ (H6 vs) h):=_root_.id rfl
@[simp] theorem sL (rs:List RRes) (Φ:AV->AH->Prop) (fr:Fr) (h:AH):TD rs Φ .ret fr h=(∃vs,Gm fr h rs=some vs/\Φ (H6 vs) h):=_root_.id rfl
theorem gt {C:Cfg} {f:FuncId} {rf:RFunc} {args:C6} {h:AH} {Φ:AV->AH->Prop} (hc:C.code f=some rf) (hl:args.length<=rf.ntmps)
  (H:∀fr:Fr,fr.length=rf.ntmps->(∀i,A2 fr i=args.getD i B3)->C3 (A4 (N5 C) (C.ctx f) rf.body (fr,h)) (TD rf.results Φ)) (hrst:(C.ctx f).rst=false:=by rfl):∃v h',rc C f args h=some (v,h')/\Φ v h':=by
 obtain⟨hl',hlook⟩:=Ix hl;obtain⟨e,fr',h',he,hp⟩:=(H _ hl' hlook).elim';have key:∃vs,Gm fr' h' rf.results=some vs/\Φ (H6 vs) h':=by
  cases e with
  |exit i=>exact hp.elim
  |normal=>exact hp
  |ret=>exact hp
 obtain⟨vs,hv,hΦ⟩:=key;refine⟨H6 vs,h',?_,hΦ⟩;have hq:(H6 vs,h')=hZ (C.ctx f).rst (H6 vs,h'):=by rw[hrst];rfl
 rw[hq];refine iu C ?_;unfold Gl;simp only[hc];unfold GD;rw[he];cases e with
 |exit i=>exact hp.elim
 |normal=>simp only[hv];rfl
 |ret=>simp only[hv];rfl
def RCode.wr:RCode->List Nat
 | .region _ ops=>ops.filterMap (·.dst)
 | .regd _ ops=>ops.filterMap (·.dst)
 | .seq a b=>a.wr++b.wr
 | .cond _ a b=>a.wr++b.wr
 | .block _ a=>a.wr
 | .loop a=>a.wr
 |_=>[]
def Kp (ws:List Nat) (fr fr':Fr):Prop:=fr'.length=fr.length/\∀j,j∉ws->A2 fr' j=A2 fr j
theorem B8 {ws:List Nat} {fr fr':Fr} {v:AV} (K:Kp ws fr fr') (i:Nat) (h:A2 fr i=v) (d:i∉ws:=by decide):A2 fr' i=v:=(K.2 i d).trans h
theorem Kp.refl (ws:List Nat) (fr:Fr):Kp ws fr fr:=⟨rfl,λ_ _=>rfl⟩
theorem Kp.trans {ws:List Nat} {a b c:Fr} (h:Kp ws a b) (k:Kp ws b c):Kp ws a c:=⟨k.1.trans h.1,λj hj=>(k.2 j hj).trans (h.2 j hj)⟩
theorem Kp.mono {ws ws':List Nat} {a b:Fr} (h:Kp ws a b) (hs:∀j,j∈ws->j∈ws'):Kp ws' a b:=⟨h.1,λj hj=>h.2 j λk=>hj (hs j k)⟩
theorem Kp.put (fr:Fr) (d:Option Nat) (v:AV) {ws:List Nat} (hd:∀x,d=some x->x∈ws):Kp ws fr (put fr d v):=by
 cases d with
 |none=>exact Kp.refl _ _
 |some d =>
  refine⟨by simp,λj hj=>?_⟩;have T6:d≠j:=λe=>hj (e ▸ hd d rfl);simp[C8 fr v T6]
section
variable {C:Cfg} {c:Ctx}
theorem Lf {O:Orc}:∀{C5:List RO} {fr:Fr} {h:AH} {x:Fr×AH} {ws:List Nat},(∀j,j∈C5.filterMap (·.dst)->j∈ws)->F5 O c C5 fr h=some x->Kp ws fr x.1
 | [],fr,h,x,ws,_,he=>by
  simp only[F5]at he;cases he;exact Kp.refl _ _
 |o::C5,fr,h,x,ws,hs,he=>by
  have h1:∀y,o.dst=some y->y∈ws:=λy hy=>hs y (by simp[hy]);have h2:∀j,j∈C5.filterMap (·.dst)->j∈ws:=λj hj=>hs j (by
   rw[List.filterMap_cons];split
   .exact hj
   .exact List.mem_cons_of_mem _ hj)
  simp only[F5]at he;cases hw:N3 fr o.guard with
  |none=>rw[hw]at he;cases he
  |some b =>
   rw[hw]at he;cases b with
   |false=>exact(Kp.put fr o.dst _ h1).trans (Lf h2 he)
   |true =>
    dsimp only at he;cases V5:A3 O c o.op fr h with
    |none=>rw[V5]at he;cases he
    |some y =>
     rw[V5]at he;exact(Kp.put fr o.dst _ h1).trans (Lf h2 he)
theorem Qi {step:St->Option (Ex×St)} {ws:List Nat} (hs:∀s x,step s=some x->Kp ws s.1 x.2.1):∀(n:Nat) (s:St) (x:Ex×St),GO step n s=some x->Kp ws s.1 x.2.1
 |0,s,x,he=>by simp[GO]at he
 |n+1,s,x,he=>by
  simp only[GO]at he;cases h1:step s with
  |none=>rw[h1]at he;cases he
  |some y =>
   rw[h1]at he;have k:=hs s y h1;obtain⟨e,s'⟩:=y;cases e with
   |normal=>exact k.trans (Qi hs n s' x he)
   |exit id=>cases he;exact k
   |ret=>cases he;exact k
theorem Yb:∀(rc:RCode) (s:St) (x:Ex×St),A4 (N5 C) c rc s=some x->Kp rc.wr s.1 x.2.1:=by
 intro rc
 induction rc with
 |skip=>intro s x he;cases he;exact Kp.refl _ _
 |region d C5 =>
  intro s x he;simp only[A4]at he;cases hs:F5 (N5 C) c C5 s.1 s.2 with
  |none=>rw[hs]at he;cases he
  |some y =>
   rw[hs]at he;cases he;exact Lf (λj hj=>hj) hs
 |regd bs C5 =>
  intro s x he;simp only[A4]at he;cases hs:J1 (N5 C) c C5 s.1 (s.2.holes (VY C5))with
  |none=>rw[hs]at he;cases he
  |some y =>
   rw[hs]at he;dsimp only at he;split at he
   .cases he;exact Lf (λj hj=>hj) (LW hs)
   .cases he
 |seq a b iha ihb =>
  intro s x he;simp only[A4]at he;cases hs:A4 (N5 C) c a s with
  |none=>rw[hs]at he;cases he
  |some y =>
   rw[hs]at he;have k:=(iha s y hs).mono (ws':=(RCode.seq a b).wr) λj hj=>zf6z _ hj;obtain⟨e,s'⟩:=y;cases e with
   |normal=>exact k.trans ((ihb _ _ he).mono λj hj=>zf5z _ hj)
   |exit id=>cases he;exact k
   |ret=>cases he;exact k
 |cond q a b iha ihb =>
  intro s x he;simp only[A4]at he;split at he
  .exact(iha _ _ he).mono λj hj=>zf6z _ hj
  .exact(ihb _ _ he).mono λj hj=>zf5z _ hj
  .cases he
 |block id a ih =>
  intro s x he;simp only[A4]at he;cases hs:A4 (N5 C) c a s with
  |none=>rw[hs]at he;cases he
  |some y =>
   rw[hs]at he;have k:=ih s y hs;obtain⟨e,s'⟩:=y;cases e with
   |normal=>cases he;exact k
   |exit i =>
    simp only at he;split at he<;>cases he<;>exact k
   |ret=>cases he;exact k
 |loop a ih =>
  intro s x he;obtain⟨n,hn⟩:=SB he;exact Qi ih n s x hn
 |exit id=>intro s x he;cases he;exact Kp.refl _ _
 |ret=>intro s x he;cases he;exact Kp.refl _ _
 |bad=>intro s x he;cases he
theorem YM {rc:RCode} {ws:List Nat} (hw:rc.wr=ws) {fr:Fr} {h:AH} {Ψ:Ex->Fr->AH->Prop} (H:C3 (A4 (N5 C) c rc (fr,h)) Ψ):C3 (A4 (N5 C) c rc (fr,h)) λe fr' h'=>Kp ws fr fr'/\Ψ e fr' h':=by
 subst hw;obtain⟨e,fr',h',he,hp⟩:=H.elim';have k:=Yb rc _ _ he;rw[he];exact⟨k,hp⟩
theorem ay {body:RCode} {Ψ:Ex->Fr->AH->Prop} {ws:List Nat} (hw:body.wr=ws) (fr0:Fr) (Inv:Nat->Fr->AH->Prop)
  (H:∀n fr h,Kp ws fr0 fr->Inv n fr h->C3 (A4 (N5 C) c body (fr,h)) λe fr' h'=>(e=.normal/\∃m,m<n/\Inv m fr' h')\/(e≠.normal/\Ψ e fr' h'))
  (n:Nat) (h:AH) (hi:Inv n fr0 h):C3 (lp (A4 (N5 C) c body) (fr0,h)) λe fr' h'=>Kp ws fr0 fr'/\Ψ e fr' h':=by
 refine KI (λn fr h=>Kp ws fr0 fr/\Inv n fr h) (λn fr h ⟨k,hi⟩=>?_) n fr0 h ⟨Kp.refl _ _,hi⟩;refine(YM hw (H n fr h k hi)).mono λe fr' h' ⟨k',hp⟩=>?_;rcases hp with ⟨h1,m,h2,h3⟩|⟨h1,h2⟩
 .exact .inl ⟨h1,m,h2,k.trans k',h3⟩
 .exact .inr ⟨h1,k.trans k',h2⟩
end
theorem H0 {n:Nat} {I J:Nat->Fr->AH->Prop} {fr:Fr} {h:AH} (hJ:∀n fr h,I n fr h->J n fr h) (hi:I (n-1) fr h) (h0:n-1<n:=by omega):∃m,m<n/\J m fr h:=⟨n-1,h0,hJ _ _ _ hi⟩
theorem C1 {C:Cfg} {c:Ctx} {body:RCode} {Ψ:Ex->Fr->AH->Prop} {ws:List Nat} (hw:body.wr=ws) (fr0:Fr) (Inv:Nat->Fr->AH->Prop)
  (H:∀(J:Nat->Fr->AH->Prop) (Φ:Ex->Fr->AH->Prop),(∀n fr h,Inv n fr h->J n fr h)->(∀e fr h,Ψ e fr h->Φ e fr h)->∀n fr h,Kp ws fr0 fr->Inv n fr h ->
   C3 (A4 (N5 C) c body (fr,h)) λe fr' h'=>(e=.normal/\∃m,m<n/\J m fr' h')\/(e≠.normal/\Φ e fr' h'))
  (n:Nat) (h:AH) (hi:Inv n fr0 h):C3 (lp (A4 (N5 C) c body) (fr0,h)) λe fr' h'=>Kp ws fr0 fr'/\Ψ e fr' h' :=
 ay hw fr0 Inv (H Inv Ψ (λ_ _ _ h=>h) (λ_ _ _ h=>h)) n h hi
def YL (rs:List RRes) (Φ:AV->Prop):Ex->Fr->AH->Prop
 | .exit _,_,_=>False
 |_,fr,h=>∃r,fin rs fr h=some r/\Φ r
@[simp] theorem sH (rs:List RRes) (Φ:AV->Prop) (fr:Fr) (h:AH):YL rs Φ .normal fr h=(∃r,fin rs fr h=some r/\Φ r):=_root_.id rfl
@[simp] theorem sI (rs:List RRes) (Φ:AV->Prop) (fr:Fr) (h:AH):YL rs Φ .ret fr h=(∃r,fin rs fr h=some r/\Φ r):=_root_.id rfl
theorem UX {C:Cfg} {f:FuncId} {rf:RFunc} {args:C6} {Φ:AV->Prop} (hs:C.spec f=none) (hc:C.code f=some rf) (hl:args.length<=rf.ntmps)
  (H:∀fr:Fr,fr.length=rf.ntmps->(∀i,A2 fr i=args.getD i B3)->C3 (A4 (N5 C) (C.ctx f) rf.body (fr,⟨[],[]⟩)) (YL rf.results Φ)):∃r,pc C f args=some r/\Φ r:=by
 obtain⟨hl',hlook⟩:=Ix hl;obtain⟨e,fr',h',he,hp⟩:=(H _ hl' hlook).elim';have key:∃r,fin rf.results fr' h'=some r/\Φ r:=by
  cases e with
  |exit i=>exact hp.elim
  |normal=>exact hp
  |ret=>exact hp
 obtain⟨r,hr,hΦ⟩:=key;refine⟨r,dP hs hc hl λfr h1 h2=>?_,hΦ⟩;have hfr:fr=BF rf args:=by
  apply List.ext_getElem (h1.trans hl'.symm);intro i g1 g2;have a:=h2 i;have b:=hlook i;simp only[A2,List.getD,zf3z g1,zf3z g2,Option.getD_some]at a b;exact a.trans b.symm
 subst hfr;rw[he];cases e with
 |exit i=>exact hp.elim
 |normal=>exact hr
 |ret=>exact hr
theorem Ov {C:Cfg} {f:FuncId} {rf:RFunc} {args:C6} {Φ:AV->Prop} (hs:C.spec f=none) (hc:C.code f=some rf) (hl:args.length<=rf.ntmps)
  (H:∀Ψ:AV->Prop,(∀r,Φ r->Ψ r)->∀fr:Fr,fr.length=rf.ntmps->(∀i,A2 fr i=args.getD i B3)->C3 (A4 (N5 C) (C.ctx f) rf.body (fr,⟨[],[]⟩)) (YL rf.results Ψ)):∃r,pc C f args=some r/\Φ r :=
 UX hs hc hl (H Φ λ_ h=>h)
@[simp] theorem qc (h:AH) (k:IntKind) (n:Int):tame h (.int k n)=true:=_root_.id rfl
@[simp] theorem lw (h:AH) (b:Bool):tame h (.bool b)=true:=_root_.id rfl
@[simp] theorem qd (h:AH) (s:R7):tame h (.str s)=true:=_root_.id rfl
@[simp] theorem qb (h:AH) (cs:C6):tame h (.agg cs)=cs.all (DQ h):=_root_.id rfl
@[simp] theorem lr (h:AH) (k:IntKind) (n:Int):DQ h (.int k n)=true:=_root_.id rfl
@[simp] theorem ke (h:AH) (b:Bool):DQ h (.bool b)=true:=_root_.id rfl
@[simp] theorem lu (h:AH) (s:R7):DQ h (.str s)=true:=_root_.id rfl
@[simp] theorem sE (h:AH) (f:Bool) (sz:Nat) (xs:C6):tame h (.vs f sz xs)=true:=_root_.id rfl
@[simp] theorem qa (h:AH) (f:Bool) (sz:Nat) (xs:C6):DQ h (.vs f sz xs)=true:=_root_.id rfl
@[simp] theorem js (k n off len:Nat):(AV.sl k n off len).isTup=false:=_root_.id rfl
@[simp] theorem jR (k n off len:Nat):(AV.sl k n off len).cells=[.sl k n off len]:=_root_.id rfl
@[simp] theorem lV (b off:Nat):(AV.ptr b off).isTup=false:=_root_.id rfl
@[simp] theorem lE (b off:Nat):(AV.ptr b off).cells=[.ptr b off]:=_root_.id rfl
@[simp] theorem oq (f:Bool) (sz:Nat) (xs:C6):(AV.vs f sz xs).isTup=false:=_root_.id rfl
@[simp] theorem mv (f:Bool) (sz:Nat) (xs:C6):(AV.vs f sz xs).cells=[.vs f sz xs]:=_root_.id rfl
def AV.isAgg:AV->Bool
 | .agg _=>true
 |_=>false
def RSpec.of (run:List AV->AH->Option (AV×AH)):RSpec:=⟨λ_=>run,λ_ _ _ _ he=>⟨[],λ_ hp=>(nomatch hp),λ_ _=>he⟩⟩
def Ob (K bytes:Nat) (args:List AV) (h:AH):Option (AV×AH) :=
 match args with
 | [s,.int .i64 i,.vs _ z [x]] =>
  if z=K/\x.isAgg=true then
   match s with
   | .sl k n off len =>
    match h.fams[k]? with
    |some f =>
     if f.xs.length=n/\off=0/\len=n/\0<n/\f.wr=true/\f.sz=K/\0<=i/\i<=n/\(n+1)*bytes<=I0/\n+1<=maxLen then
      some (.sl k (n+1) 0 (n+1),{h with fams:=h.fams.set k {f with xs:=f.xs.take i.toNat++x::f.xs.drop i.toNat}})
     else none
    |none=>none
   | .vs true _ []=>if i=0/\bytes<=I0 then some (.sl h.fams.length 1 0 1,{h with fams:=h.fams++[⟨[x],K,true⟩]})else none
   |_=>none
  else none
 |_=>none
def jq (K bytes:Nat):RSpec:=.of (Ob K bytes)
def Ro (K bytes:Nat) (args:List AV) (h:AH):Option (AV×AH) :=
 match args with
 | [.vs true z [],i,x]=>Ob K bytes [.vs true z [],i,x] h
 |_=>none
def cM (K bytes:Nat):RSpec:=.of (Ro K bytes)
def Rm (K bytes:Nat) (b:Bool) (args:List AV) (h:AH):Option (AV×AH) :=
 match args with
 | [.vs true z [],.int .i64 n] =>
  if n=0 then some (.vs true z [],h)
  else if 0<n/\n*bytes<=I0/\n<=maxLen then some (.sl h.fams.length 0 0 0,{h with fams:=h.fams++[⟨[],K,b⟩]})
  else none
 |_=>none
def Tp (K bytes:Nat) (b:Bool:=false):RSpec:=.of (Rm K bytes b)
end Go.Abs
namespace Go.Abs.Q
open Go.Proofs
def R8 (a b:ByteArray):Int:=if Op.bytesLess a.toList b.toList then -1 else if a.toList=b.toList then 0 else 1
def Sh:List AV->Option AV
 | [.str a,.str b]=>some (.int .i64 (R8 a b))
 |_=>none
def Sj:List AV->Option AV
 | [.str a,.str b]=>match b.data.toList with | [c]=>some (.bool (a.data.toList.contains c))|_=>none
 |_=>none
def eF:List AV->Option AV
 | [.str a,.int .u8 c]=>some (.int .i64 (Lib.indexByte a.data.toList c.toNat.toUInt8))
 |_=>none
def eG:List AV->Option AV
 | [.str a,.str b]=>match b.data.toList with | [c]=>some (.int .i64 (Lib.indexByte a.data.toList c))|_=>none
 |_=>none
def JR (f:FuncId):Option (List AV->Option AV):=if f=S0 then some Sh else if f=V7 then some Sj else if f=ES then some eF else if f=GQ then some eG else none
def PN (f:FuncId):Option RSpec:=if f=N8 then some (jq 4 56)else if f=M8 then some (cM 5 64)else if f=R4 then some (Tp 4 56 true)else if f=M7 then some (Tp 8 112 true)else none
noncomputable def Q:Cfg:=⟨Ax,B9,JR,PN⟩
theorem Nv (f:FuncId):Q.code f=Ax f:=by
 simp only[Q]
theorem RP (f:FuncId):Q.spec f=JR f:=by
 simp only[Q]
@[simp] theorem TC (f:FuncId):Q.ctx f=B9 f:=by
 simp only[Q]
@[simp] theorem nA (f:FuncId):(B9 f).mutApp=cq f:=_root_.id rfl
@[simp] theorem lJ (f:FuncId):(B9 f).rawv=Bk f:=_root_.id rfl
@[simp] theorem nC (f:FuncId):(B9 f).noB=G5:=_root_.id rfl
@[simp] theorem qr (f:FuncId):(B9 f).ro=YB f:=_root_.id rfl
theorem Xt {f:FuncId} {s:List AV->Option AV} (h:JR f=some s) {args:C6} {r:AV} (hr:s args=some r):pc Q f args=some r:=by
 apply Xr;unfold Ey;have e:Q.spec f=some s:=h;rw[e];exact hr
theorem kF (a b:R7):pc Q S0 [.str a,.str b]=some (.int .i64 (R8 a b)):=Xt (s:=Sh) rfl rfl
theorem kG (a:R7) (c:UInt8):pc Q V7 [.str a,.str ⟨#[c]⟩]=some (.bool (a.data.toList.contains c)):=Xt (s:=Sj) rfl rfl
theorem aO {f:FuncId} {rf:RFunc} {args:C6} {r:AV} (hc:Ax f=some rf) (hs:JR f=none) (hl:args.length<=rf.ntmps)
  (H:∀fr:Fr,fr.length=rf.ntmps->(∀i,A2 fr i=args.getD i B3)->C3 (A4 (N5 Q) (B9 f) rf.body (fr,⟨[],[]⟩)) (Vh rf.results r)):pc Q f args=some r :=
 Xq (C:=Q) ((RP f).trans hs) ((Nv f).trans hc) hl λfr h1 h2=>by
  rw[TC];exact H fr h1 h2
theorem rx {f:FuncId} {rf:RFunc} {args:C6} {h:AH} {Φ:AV->AH->Prop} (hc:Ax f=some rf) (hl:args.length<=rf.ntmps)
  (H:∀fr:Fr,fr.length=rf.ntmps->(∀i,A2 fr i=args.getD i B3)->C3 (A4 (N5 Q) (B9 f) rf.body (fr,h)) (TD rf.results Φ)) (hrst:(B9 f).rst=false:=by rfl):∃v h',rc Q f args h=some (v,h')/\Φ v h' :=
 gt (C:=Q) ((Nv f).trans hc) hl (λfr h1 h2=>by
  rw[TC];exact H fr h1 h2) (by rw[TC];exact hrst)
theorem Bu {f:FuncId} (rf:RFunc) {a r:AV} (H:∀fr:Fr,fr.length=rf.ntmps->A2 fr 0=a->C3 (A4 (N5 Q) (B9 f) rf.body (fr,⟨[],[]⟩)) (Vh rf.results r)) (hl:1<=rf.ntmps:=by decide) (hs:JR f=none:=by rfl) (hc:Ax f=some rf:=by kernel_rfl):pc Q f [a]=some r:=
 aO hc hs hl λfr h1 h2=>H fr h1 (h2 0)
theorem Fe {f:FuncId} (rf:RFunc) {a b r:AV} (H:∀fr:Fr,fr.length=rf.ntmps->A2 fr 0=a->A2 fr 1=b->C3 (A4 (N5 Q) (B9 f) rf.body (fr,⟨[],[]⟩)) (Vh rf.results r)) (hl:2<=rf.ntmps:=by decide) (hs:JR f=none:=by rfl) (hc:Ax f=some rf:=by kernel_rfl):pc Q f [a,b]=some r:=
 aO hc hs hl λfr h1 h2=>H fr h1 (h2 0) (h2 1)
theorem kC {f:FuncId} (rf:RFunc) {a b c r:AV} (H:∀fr:Fr,fr.length=rf.ntmps->A2 fr 0=a->A2 fr 1=b->A2 fr 2=c->C3 (A4 (N5 Q) (B9 f) rf.body (fr,⟨[],[]⟩)) (Vh rf.results r)) (hl:3<=rf.ntmps:=by decide) (hs:JR f=none:=by rfl) (hc:Ax f=some rf:=by kernel_rfl):pc Q f [a,b,c]=some r:=
 aO hc hs hl λfr h1 h2=>H fr h1 (h2 0) (h2 1) (h2 2)
theorem Ka {f:FuncId} (rf:RFunc) {a:AV} {Φ:AV->Prop} (H:∀Ψ:AV->Prop,(∀v,Φ v->Ψ v)->∀fr:Fr,fr.length=rf.ntmps->A2 fr 0=a->C3 (A4 (N5 Q) (B9 f) rf.body (fr,⟨[],[]⟩)) (YL rf.results Ψ)) (hl:1<=rf.ntmps:=by decide) (hs:JR f=none:=by rfl) (hc:Ax f=some rf:=by kernel_rfl):∃v,pc Q f [a]=some v/\Φ v:=
 Ov (C:=Q) ((RP _).trans hs) ((Nv _).trans hc) hl λΨ hΨ fr h1 h2=>by rw[TC];exact H Ψ hΨ fr h1 (h2 0)
theorem Ud {f:FuncId} (rf:RFunc) {a b:AV} {Φ:AV->Prop} (H:∀Ψ:AV->Prop,(∀v,Φ v->Ψ v)->∀fr:Fr,fr.length=rf.ntmps->A2 fr 0=a->A2 fr 1=b->C3 (A4 (N5 Q) (B9 f) rf.body (fr,⟨[],[]⟩)) (YL rf.results Ψ)) (hl:2<=rf.ntmps:=by decide) (hs:JR f=none:=by rfl) (hc:Ax f=some rf:=by kernel_rfl):∃v,pc Q f [a,b]=some v/\Φ v:=
 Ov (C:=Q) ((RP _).trans hs) ((Nv _).trans hc) hl λΨ hΨ fr h1 h2=>by rw[TC];exact H Ψ hΨ fr h1 (h2 0) (h2 1)
theorem kP {f:FuncId} (rf:RFunc) {a:AV} {h:AH} {Φ:AV->AH->Prop} (H:∀fr:Fr,fr.length=rf.ntmps->A2 fr 0=a->C3 (A4 (N5 Q) (B9 f) rf.body (fr,h)) (TD rf.results Φ)) (hl:1<=rf.ntmps:=by decide) (hc:Ax f=some rf:=by kernel_rfl) (ht:(B9 f).rst=false:=by rfl):∃v h',rc Q f [a] h=some (v,h')/\Φ v h':=
 rx hc hl (λfr h1 h2=>H fr h1 (h2 0)) ht
theorem tu {f:FuncId} (rf:RFunc) {a b:AV} {h:AH} {Φ:AV->AH->Prop} (H:∀fr:Fr,fr.length=rf.ntmps->A2 fr 0=a->A2 fr 1=b->C3 (A4 (N5 Q) (B9 f) rf.body (fr,h)) (TD rf.results Φ)) (hl:2<=rf.ntmps:=by decide) (hc:Ax f=some rf:=by kernel_rfl) (ht:(B9 f).rst=false:=by rfl):∃v h',rc Q f [a,b] h=some (v,h')/\Φ v h':=
 rx hc hl (λfr h1 h2=>H fr h1 (h2 0) (h2 1)) ht
theorem tz {f:FuncId} (rf:RFunc) {a b c:AV} {h:AH} {Φ:AV->AH->Prop} (H:∀fr:Fr,fr.length=rf.ntmps->A2 fr 0=a->A2 fr 1=b->A2 fr 2=c->C3 (A4 (N5 Q) (B9 f) rf.body (fr,h)) (TD rf.results Φ)) (hl:3<=rf.ntmps:=by decide) (hc:Ax f=some rf:=by kernel_rfl) (ht:(B9 f).rst=false:=by rfl):∃v h',rc Q f [a,b,c] h=some (v,h')/\Φ v h':=
 rx hc hl (λfr h1 h2=>H fr h1 (h2 0) (h2 1) (h2 2)) ht
end Go.Abs.Q
namespace Go.Abs.Q
attribute [local simp] C8 D5 fin H6 G0
def FK (a b:Int):Int:=if a<b then -1 else if b<a then 1 else 0
theorem KS (a b:Int):pc Q Bi [.int .i64 a,.int .i64 b]=some (.int .i64 (FK a b)):=by
 refine aO QC rfl (by simp[KH]) λfr hl ha=>?_;have h0:=ha 0;have h1:=ha 1;simp[KH]at hl h0 h1 ⊢;by_cases h:a<b
 .simp[*,FK]
 .by_cases h':b<a<;>simp[*,FK]
theorem Ff (a b:Int):pc Q Y3 [.int .i64 a,.int .i64 b]=some (.int .i64 (FK a b)):=by
 refine aO MW rfl (by simp[Hc]) λfr hl ha=>?_;have h0:=ha 0;have h1:=ha 1;simp[Hc]at hl h0 h1 ⊢;by_cases h:a<b
 .simp[*,FK]
 .by_cases h':b<a<;>simp[*,FK]
theorem SM:∀(n:Nat) (t:Tm),t.size<=n->t.size<=1099511627776->pc Q Cs [I1 t]=some (.int .i64 t.size):=by
 intro n
 induction n with
 |zero=>intro t h;have:=t.size_pos;omega
 |succ n ih =>
  intro t hn hb;obtain⟨k,nm,s,m,kids⟩:=t;have L4:Tm.size (.mk k nm s m kids)=1+Tm.sizes kids:=rfl;refine Bu NL λfr hl h0=>?_;simp[NL,I1]at hl h0 ⊢;simp[*];refine(QF (Ψ:=λe fr h=>e=.exit 0/\A2 fr 3=.int .i64 (1+Tm.sizes kids:Nat)/\fr.length=19) kids
   (λdone fr h=>fr.length=19/\A2 fr 3=.int .i64 (1+Tm.sizes done:Nat)/\A2 fr 7=sl m 4 (D1 kids)/\A2 fr 8=.int .i64 kids.length/\A2 fr 9=.int .i64 done.length) ?_ ?_ _ _ ?_).mono ?_
  .rintro fr h ⟨hl,h3,h7,h8,h9⟩;simp[IQ, *]
  .rintro done t rest he fr h ⟨hl,h3,h7,h8,h9⟩;have hget:JY (D1 kids) done.length=some (I1 t):=Eu (by rw[←he];simp);have A9:done.length<kids.length:=by rw[←he];simp
   have hts:t.size<=Tm.sizes kids:=Tm.size_le (by rw[←he];simp);have hT:=ih t (by omega) (by omega);have C4:=Tm.length_le kids;have tA:Tm.sizes done+(t.size+Tm.sizes rest)=Tm.sizes kids:=by rw[←he,Tm.sizes_append];rfl
   have hw1:IntKind.i64.wrap (1+(Tm.sizes done:Int)+(t.size:Int))=1+(Tm.sizes (done++[t]):Int):=by
    rw[Tm.sizes_append,R0 (by omega) (by omega)];simp only[Tm.sizes];omega
   have hw2:IntKind.i64.wrap ((done.length:Int)+1)=((done++[t]).length:Nat):=by
    rw[R0 (by omega) (by omega)];simp
   obtain⟨tk,tn,ts,tm,tl⟩:=t;simp only[I1]at hT hget;simp[IQ, *]
  .simp[*,Tm.sizes,j2]
  .rintro e fr h ⟨rfl,h3,hl⟩;simp[*]
theorem JH:∀(n:Nat) (t:Tm),t.size<=n->t.size<=1099511627776->pc Q AY [I1 t]=some (.int .i64 t.size):=by
 intro n
 induction n with
 |zero=>intro t h;have:=t.size_pos;omega
 |succ n ih =>
  intro t hn hb;obtain⟨k,nm,s,m,kids⟩:=t;have L4:Tm.size (.mk k nm s m kids)=1+Tm.sizes kids:=rfl;refine Bu Lw λfr hl h0=>?_;simp[Lw,I1]at hl h0 ⊢;simp[h0];refine(QF (Ψ:=λe fr h=>e=.exit 0/\A2 fr 3=.int .i64 (1+Tm.sizes kids:Nat)/\fr.length=21) kids
   (λdone fr h=>fr.length=21/\A2 fr 1=.ptr 0 0/\h=⟨[[.int .i64 k,.str nm,.int .i64 s,sl m 4 (D1 kids)]],[]⟩/\A2 fr 3=.int .i64 (1+Tm.sizes done:Nat)/\A2 fr 4=.int .i64 done.length) ?_ ?_ _ _ ?_).mono ?_
  .rintro fr h ⟨hl,h1,rfl,h3,h4⟩;simp[Ha,j2, *]
  .rintro done t rest he fr h ⟨hl,h1,rfl,h3,h4⟩;have hget:JY (D1 kids) done.length=some (I1 t):=Eu (by rw[←he];simp);have A9:done.length<kids.length:=by rw[←he];simp
   have hts:t.size<=Tm.sizes kids:=Tm.size_le (by rw[←he];simp);have hT:=ih t (by omega) (by omega);have C4:=Tm.length_le kids;have tA:Tm.sizes done+(t.size+Tm.sizes rest)=Tm.sizes kids:=by rw[←he,Tm.sizes_append];rfl
   have hw1:IntKind.i64.wrap (1+(Tm.sizes done:Int)+(t.size:Int))=1+(Tm.sizes (done++[t]):Int):=by
    rw[Tm.sizes_append,R0 (by omega) (by omega)];simp only[Tm.sizes];omega
   have hw2:IntKind.i64.wrap ((done.length:Int)+1)=((done++[t]).length:Nat):=by
    rw[R0 (by omega) (by omega)];simp
   obtain⟨tk,tn,ts,tm,tl⟩:=t;simp only[I1]at hT hget;simp[Ha, *]
  .simp[*,Tm.sizes]
  .rintro e fr h ⟨rfl,h3,hl⟩;simp[*]
theorem Gw (a b:R7):pc Q CX [.str a,.str b]=some (.int .i64 (R8 a b)):=by
 refine Fe Hs λfr hl h0 h1=>?_;simp[Hs]at hl h0 h1 ⊢;simp[*,kF]
def nz (a b:Int):Int:=if a=0 then b else a
mutual
def GN:Tm->Tm->Int
 | .mk k n s _ l,.mk k' n' s' _ l'=>nz (FK (1+Tm.sizes l:Nat) (1+Tm.sizes l':Nat)) (nz (FK k k') (nz (R8 n n') (nz (FK s s') (nz (FK l.length l'.length) (GW l l')))))
def GW:List Tm->List Tm->Int
 |t::l,t'::l'=>nz (GN t t') (GW l l')
 |_,_=>0
end
theorem TP {a b:Nat} (h:FK (a:Int) (b:Int)=0):a=b:=by
 unfold FK at h;split at h
 .omega
 .split at h<;>omega
theorem MG (l:Hg):GW [] l=0:=by cases l<;>rfl
theorem Wj:∀(n:Nat) (t t':Tm),t.size<=n->t.size<=1099511627776->t'.size<=1099511627776->pc Q u7 [I1 t,I1 t']=some (.int .i64 (GN t t')):=by
 intro n
 induction n with
 |zero=>intro t t' h;have:=t.size_pos;omega
 |succ n ih =>
  intro t t' hn hb hb';have hS:=SM _ t (zf2z _) hb;have hS':=SM _ t' (zf2z _) hb';obtain⟨k,nm,s,m,l⟩:=t;obtain⟨k',nm',s',m',l'⟩:=t';have L4:Tm.size (.mk k nm s m l)=1+Tm.sizes l:=rfl;have hsz':Tm.size (.mk k' nm' s' m' l')=1+Tm.sizes l':=rfl;have C4:=Tm.length_le l;simp only[I1,L4,hsz']at hS hS';have loop:∀(fr:Fr) (c:Int),fr.length=65->A2 fr 2=.ptr 0 0->A2 fr 3=.ptr 1 0->A2 fr 5=.int .i64 c->A2 fr 6=.int .i64 0->(c=0->l.length=l'.length) ->
    C3 (lp (A4 (N5 Q) (B9 u7) Bd) (fr,⟨[[.int .i64 k,.str nm,.int .i64 s,sl m 4 (D1 l)],[.int .i64 k',.str nm',.int .i64 s',sl m' 4 (D1 l')]],[]⟩))
     λe fr' _=>e=.exit 0/\fr'.length=65/\A2 fr' 5=.int .i64 (nz c (GW l l')):=by
   intro fr c hl h2 h3 h5 h6 hc;refine KI (λn fr h=>∃i c',i+n=l.length/\fr.length=65/\A2 fr 2=.ptr 0 0/\A2 fr 3=.ptr 1 0/\A2 fr 5=.int .i64 c'/\A2 fr 6=.int .i64 (i:Nat)/\(c'=0->l.length=l'.length) /\
    nz c' (GW (l.drop i) (l'.drop i))=nz c (GW l l')/\h=⟨[[.int .i64 k,.str nm,.int .i64 s,sl m 4 (D1 l)],[.int .i64 k',.str nm',.int .i64 s',sl m' 4 (D1 l')]],[]⟩) ?_ l.length fr _ ⟨0,c,by omega,hl,h2,h3,h5,h6,hc,rfl,rfl⟩
   rintro n fr h ⟨i,c',hi,hl,h2,h3,h5,h6,hc',hr,rfl⟩;by_cases hc0:c'=0
   .subst hc0;have Fn:=hc' rfl;by_cases A9:i<l.length
    .have hx:JY (D1 l) i=some (I1 l[i]):=Eu (by simp[A9]);have hx':JY (D1 l') i=some (I1 (l'[i]'(by omega))):=Eu (by simp[show i<l'.length by omega]);have s1:=Tm.size_le (zf1z A9);have s2:=Tm.size_le (zf1z (show i<l'.length by omega));have hT:=ih l[i] (l'[i]'(by omega)) (by omega) (by omega) (by omega);have hw:=C9 i (by omega);rw[zf0z A9,zf0z (show i<l'.length by omega)]at hr;simp only[GW,nz,if_true]at hr;generalize l[i]=t at *
     generalize l'[i]'(by omega)=t' at *
     obtain⟨tk,tn,ts,tm,tl⟩:=t;obtain⟨tk',tn',ts',tm',tl'⟩:=t';simp only[I1]at hT hx hx';clear ih hS hS' hc L4 hsz';simp[Bd,hl,h2,h3,h5,h6,A9,hx,hx',hT,hw];exact⟨n-1,by omega,i+1,by omega,by simp,λ_=>Fn,hr⟩
    .have h0:l.length<=i:=by omega
     rw[zf4z h0,MG]at hr;clear ih hS hS' hc L4 hsz' Fn hc';simp[Bd,hl,h2,h3,h5,h6,A9];exact hr
   .clear ih hS hS' hc L4 hsz';simp[Bd, *];simpa[nz,hc0]using hr
  refine aO MX rfl (by simp[Hf]) λfr hl ha=>?_;have h0:=ha 0;have h1:=ha 1;clear ha ih;simp[Hf,I1]at hl h0 h1 ⊢;by_cases e0:FK (1+(Tm.sizes l:Int)) (1+(Tm.sizes l':Int))=0
  .by_cases e1:FK k k'=0
   .by_cases e2:R8 nm nm'=0
    .by_cases e3:FK s s'=0
     .by_cases e4:FK (l.length:Int) (l'.length:Int)=0
      .simp[e0,e1,e2,e3,e4,h0,h1,hl,hS,hS',KS,Gw];refine(loop _ (0) (by simp[hl]) (by simp[hl]) (by simp[hl]) (by simp[hl]) (by simp[hl]) ?_).mono ?_
       .intro hc;exact TP e4
       .rintro e fr h ⟨rfl,hl,h5⟩;simp[hl,h5,GN,nz,e0,e1,e2,e3,e4]
      .simp[e0,e1,e2,e3,e4,h0,h1,hl,hS,hS',KS,Gw];refine(loop _ (FK (l.length:Int) (l'.length:Int)) (by simp[hl]) (by simp[hl]) (by simp[hl]) (by simp[hl]) (by simp[hl]) ?_).mono ?_
       .intro hc;exact absurd hc e4
       .rintro e fr h ⟨rfl,hl,h5⟩;simp[hl,h5,GN,nz,e0,e1,e2,e3,e4]
     .simp[e0,e1,e2,e3,h0,h1,hl,hS,hS',KS,Gw];refine(loop _ (FK s s') (by simp[hl]) (by simp[hl]) (by simp[hl]) (by simp[hl]) (by simp[hl]) ?_).mono ?_
      .intro hc;exact absurd hc e3
      .rintro e fr h ⟨rfl,hl,h5⟩;simp[hl,h5,GN,nz,e0,e1,e2,e3]
    .simp[e0,e1,e2,h0,h1,hl,hS,hS',KS,Gw];refine(loop _ (R8 nm nm') (by simp[hl]) (by simp[hl]) (by simp[hl]) (by simp[hl]) (by simp[hl]) ?_).mono ?_
     .intro hc;exact absurd hc e2
     .rintro e fr h ⟨rfl,hl,h5⟩;simp[hl,h5,GN,nz,e0,e1,e2]
   .simp[e0,e1,h0,h1,hl,hS,hS',KS,Gw];refine(loop _ (FK k k') (by simp[hl]) (by simp[hl]) (by simp[hl]) (by simp[hl]) (by simp[hl]) ?_).mono ?_
    .intro hc;exact absurd hc e1
    .rintro e fr h ⟨rfl,hl,h5⟩;simp[hl,h5,GN,nz,e0,e1]
  .simp[e0,h0,h1,hl,hS,hS',KS,Gw];refine(loop _ (FK (1+(Tm.sizes l:Int)) (1+(Tm.sizes l':Int))) (by simp[hl]) (by simp[hl]) (by simp[hl]) (by simp[hl]) (by simp[hl]) ?_).mono ?_
   .intro hc;exact absurd hc e0
   .rintro e fr h ⟨rfl,hl,h5⟩;simp[hl,h5,GN,nz,e0]
theorem Pz:∀(n:Nat) (t t':Tm),t.size<=n->t.size<=1099511627776->t'.size<=1099511627776->pc Q i4 [I1 t,I1 t']=some (.int .i64 (GN t t')):=by
 intro n
 induction n with
 |zero=>intro t t' h;have:=t.size_pos;omega
 |succ n ih =>
  intro t t' hn hb hb';have hS:=JH _ t (zf2z _) hb;have hS':=JH _ t' (zf2z _) hb';obtain⟨k,nm,s,m,l⟩:=t;obtain⟨k',nm',s',m',l'⟩:=t';have L4:Tm.size (.mk k nm s m l)=1+Tm.sizes l:=rfl;have hsz':Tm.size (.mk k' nm' s' m' l')=1+Tm.sizes l':=rfl;have C4:=Tm.length_le l;simp only[I1,L4,hsz']at hS hS';have loop:∀(fr:Fr),fr.length=76->A2 fr 2=.ptr 0 0->A2 fr 3=.ptr 1 0->A2 fr 9=.int .i64 0->l.length=l'.length ->
    C3 (lp (A4 (N5 Q) (B9 i4) Ag) (fr,⟨[[.int .i64 k,.str nm,.int .i64 s,sl m 4 (D1 l)],[.int .i64 k',.str nm',.int .i64 s',sl m' 4 (D1 l')]],[]⟩))
     λe fr' _=>fr'.length=76/\(e=.exit 0/\GW l l'=0\/e=.ret/\A2 fr' 4=.int .i64 (GW l l')):=by
   intro fr hl h2 h3 h9 Fn;refine KI (λn fr h=>∃i,i+n=l.length/\fr.length=76/\A2 fr 2=.ptr 0 0/\A2 fr 3=.ptr 1 0/\A2 fr 9=.int .i64 (i:Nat) /\
    GW (l.drop i) (l'.drop i)=GW l l'/\h=⟨[[.int .i64 k,.str nm,.int .i64 s,sl m 4 (D1 l)],[.int .i64 k',.str nm',.int .i64 s',sl m' 4 (D1 l')]],[]⟩) ?_ l.length fr _ ⟨0,by omega,hl,h2,h3,h9,rfl,rfl⟩
   rintro n fr h ⟨i,hi,hl,h2,h3,h9,hr,rfl⟩;by_cases A9:i<l.length
   .have hx:JY (D1 l) i=some (I1 l[i]):=Eu (by simp[A9]);have hx':JY (D1 l') i=some (I1 (l'[i]'(by omega))):=Eu (by simp[show i<l'.length by omega]);have s1:=Tm.size_le (zf1z A9);have s2:=Tm.size_le (zf1z (show i<l'.length by omega));have hT:=ih l[i] (l'[i]'(by omega)) (by omega) (by omega) (by omega);have hw:=C9 i (by omega);rw[zf0z A9,zf0z (show i<l'.length by omega)]at hr;simp only[GW,nz]at hr;generalize l[i]=t at *
    generalize l'[i]'(by omega)=t' at *
    obtain⟨tk,tn,ts,tm,tl⟩:=t;obtain⟨tk',tn',ts',tm',tl'⟩:=t';simp only[I1]at hT hx hx';by_cases hc:GN (Tm.mk tk tn ts tm tl) (Tm.mk tk' tn' ts' tm' tl')=0
    .rw[if_pos hc]at hr;simp[Ag,hl,h2,h3,h9,A9,hx,hx',hT,hw,hc];exact⟨n-1,by omega,i+1,by omega,by simp,hr⟩
    .rw[if_neg hc]at hr;simp[Ag,hl,h2,h3,h9,A9,hx,hx',hT,hw,hc];exact hr
   .have h0:l.length<=i:=by omega
    rw[zf4z h0,MG]at hr;simp[Ag,hl,h2,h3,h9,A9];exact hr.symm
  refine aO Lo rfl (by simp[GT]) λfr hl ha=>?_;have h0:=ha 0;have h1:=ha 1;clear ha ih;simp[GT,I1]at hl h0 h1 ⊢;by_cases e0:FK (1+(Tm.sizes l:Int)) (1+(Tm.sizes l':Int))=0
  .by_cases e1:FK k k'=0
   .by_cases e2:Op.bytesLess nm.toList nm'.toList=true
    .simp[e0,e1,e2,h0,h1,hl,hS,hS',Ff];simp[GN,nz,e0,e1,e2,R8]
    .by_cases e3:nm.toList=nm'.toList
     .have e2':=e2;rw[e3]at e2';by_cases e5:FK s s'=0
      .by_cases e4:FK (l.length:Int) (l'.length:Int)=0
       .simp[e0,e1,e2,e2',e3,e5,e4,h0,h1,hl,hS,hS',Ff];refine(loop _ (by simp[hl]) (by simp[hl]) (by simp[hl]) (by simp[hl]) (TP e4)).mono ?_;rintro e fr h ⟨hl,⟨rfl,hz⟩|⟨rfl,h5⟩⟩
        .simp[hl,GN,nz,e0,e1,e2,e2',e3,e5,e4,R8,hz]
        .simp[hl,h5,GN,nz,e0,e1,e2,e2',e3,e5,e4,R8]
       .simp[e0,e1,e2,e2',e3,e5,e4,h0,h1,hl,hS,hS',Ff];simp[GN,nz,e0,e1,e2,e2',e3,e5,e4,R8]
      .simp[e0,e1,e2,e2',e3,e5,h0,h1,hl,hS,hS',Ff];simp[GN,nz,e0,e1,e2,e2',e3,e5,R8]
     .simp[e0,e1,e2,e3,h0,h1,hl,hS,hS',Ff];simp[GN,nz,e0,e1,e2,e3,R8]
   .simp[e0,e1,h0,h1,hl,hS,hS',Ff];simp[GN,nz,e0,e1,R8]
  .simp[e0,h0,h1,hl,hS,hS',Ff];simp[GN,nz,e0,R8]
def nd (t t':Tm):Bool:=decide (GN t t'=0)
theorem gJ (t t':Tm) (h:t.size<=1099511627776) (h':t'.size<=1099511627776):pc Q Em [I1 t,I1 t']=some (.bool (nd t t')):=by
 have hC:=Pz _ t t' (zf2z _) h h';refine aO PK rfl (by simp[JN]) λfr hl ha=>?_;have h0:=ha 0;have h1:=ha 1;clear ha h h';obtain⟨tk,tn,ts,tm,tl⟩:=t;obtain⟨tk',tn',ts',tm',tl'⟩:=t';simp only[I1]at hC;simp[JN,I1]at hl h0 h1 ⊢;simp[h0,h1,hl,hC,nd]
end Go.Abs.Q
