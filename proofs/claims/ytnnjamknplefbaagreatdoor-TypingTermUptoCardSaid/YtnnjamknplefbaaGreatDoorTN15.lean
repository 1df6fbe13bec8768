/- A part of the proof. -/
import Derived.Test.YtnnjamknplefbaaGreatDoorTN14
import Derived.Test.YtnnjamknplefbaaGreatDoorProg
import Derived.KernelRfl
import Derived.Deep.Draws
import Derived.Lib.Strings
import Derived.Lib.Bytealg
import Derived.Lib.SlTrimSet
import Derived.LoopTactic
set_option linter.all false
open List renaming length_append->zf0z,getElem?_eq_getElem->zf1z,append_assoc->zf2z,length_cons->zf3z,append_nil->zf5z,mem_append_right->zf6z,mem_append_left->zf7z,mem_cons->zf8z,length_nil->zf9z
open Nat renaming le_trans->zf4z
set_option linter.all false
namespace Go.Abs.Q
open Go.Proofs
noncomputable def L3(f:FuncId):Option RFunc:=if rspF f then none else ZA Tryz.prog B1 f
theorem AK:L3 FV=some G7:=by kernel_rfl
theorem Yi:L3 GV=some M2:=by kernel_rfl
theorem Ye:L3 GP=some LQ:=by kernel_rfl
theorem ax:L3 IA=some RJ:=by kernel_rfl
theorem SX:L3 AC=some DL:=by kernel_rfl
theorem AL:L3 P7=some G6:=by kernel_rfl
theorem QQ:L3 J3=some BH:=by kernel_rfl
theorem dH:L3 Ap=some Jh:=by kernel_rfl
theorem MC:L3 BU=some AU:=by kernel_rfl
theorem WP:L3 DZ=some MK:=by kernel_rfl
theorem MD:L3 Z3=some OA:=by kernel_rfl
theorem ME:L3 L6=some OB:=by kernel_rfl
theorem Fe:L3 T9=some O0:=by kernel_rfl
theorem Gn:L3 W8=some Q2:=by kernel_rfl
theorem CG:L3 P6=some H4:=by kernel_rfl
theorem L7:L3 N7=some C3:=by kernel_rfl
theorem XX:L3 Ha=some Nx:=by kernel_rfl
theorem IQ:L3 L8=some QY:=by kernel_rfl
theorem OP:L3 K5=some QZ:=by kernel_rfl
theorem ay:L3 Cd=some l9:=by kernel_rfl
theorem Nq:L3 W7=some Pe:=by kernel_rfl
theorem Ad:L3 Z7=some G8:=by kernel_rfl
theorem X0:L3 p9=some D8:=by kernel_rfl
theorem s9:L3 U7=some E7:=by kernel_rfl
theorem N9:L3 U8=some C5:=by kernel_rfl
theorem Yg:L3 EI=some JD:=by kernel_rfl
theorem Yf:L3 EH=some LS:=by kernel_rfl
theorem BK:L3 DF=some I4:=by kernel_rfl
theorem XY:L3 DH=some OG:=by kernel_rfl
theorem My:L3 m9=some OS:=by kernel_rfl
theorem UY:L3 j4=some IM:=by kernel_rfl
theorem Fg:L3 R7=some O5:=by kernel_rfl
theorem G0:L3 N5=some B4:=by kernel_rfl
theorem Ff:L3 Z6=some O4:=by kernel_rfl
theorem WQ:L3 Fv=some JJ:=by kernel_rfl
theorem Yh:L3 Cl=some LV:=by kernel_rfl
theorem dI:L3 Lm=some Sj:=by kernel_rfl
theorem MH:L3 T2=some OE:=by kernel_rfl
theorem PU:L3 U3=some RP:=by kernel_rfl
theorem EN:L3 N4=some J9:=by kernel_rfl
theorem Nr:L3 N8=some u6:=by kernel_rfl
theorem SW:L3 U5=some Fj:=by kernel_rfl
theorem QR:L3 L9=some DS:=by kernel_rfl
theorem UX:L3 AG=some Cv:=by kernel_rfl
theorem MF:L3 Z4=some OC:=by kernel_rfl
theorem OQ:L3 T3=some Qa:=by kernel_rfl
theorem MG:L3 T1=some OD:=by kernel_rfl
theorem OO:L3 Y3=some QX:=by kernel_rfl
end Go.Abs.Q
namespace Go.Abs
def D7(r:Option (Ex×St))(Ψ:Ex->Fr->AH->Prop):Prop:=match r with|some (e,fr,h)=>Ψ e fr h|none=>False
@[congr] theorem Ends_congr{r r' Ψ}(h:r=r'):D7 r Ψ=D7 r' Ψ:=by rw[h]
@[simp]theorem Ends_some(e fr h Ψ):D7 (some (e,fr,h)) Ψ=Ψ e fr h:=p_ rfl
def SQ(O:Orc)(c:Ctx)(y:RCode)(Ψ:Ex->Fr->AH->Prop):Ex->Fr->AH->Prop
 | .normal,fr,h=>D7 (A8 O c y (fr,h)) Ψ
 |e,fr,h=>Ψ e fr h
section
variable (O:Orc) (c:Ctx) (y:RCode) (Ψ:Ex->Fr->AH->Prop)
@[simp]theorem SQ_n(fr:Fr)(h:AH):SQ O c y Ψ .normal fr h=D7 (A8 O c y (fr,h)) Ψ:=p_ rfl
@[simp]theorem SQ_r(fr:Fr)(h:AH):SQ O c y Ψ .ret fr h=Ψ .ret fr h:=p_ rfl
@[simp]theorem SQ_e(i:Nat)(fr:Fr)(h:AH):SQ O c y Ψ (.exit i) fr h=Ψ (.exit i) fr h:=p_ rfl
@[simp]theorem Ends_sqn(r:Option (Ex×St)):D7 (sqn r O c y) Ψ=D7 r (SQ O c y Ψ):=by
 cases r with
 |none=>rfl
 |some x=>obtain⟨e,fr,h⟩:=x;cases e<;>rfl
end
def BL(id:Nat)(Ψ:Ex->Fr->AH->Prop):Ex->Fr->AH->Prop
 | .exit i,fr,h=>if i=id then Ψ .normal fr h else Ψ (.exit i) fr h
 |e,fr,h=>Ψ e fr h
@[simp]theorem BL_n(id Ψ fr h):BL id Ψ .normal fr h=Ψ .normal fr h:=p_ rfl
@[simp]theorem BL_r(id Ψ fr h):BL id Ψ .ret fr h=Ψ .ret fr h:=p_ rfl
@[simp]theorem BL_e(id i Ψ fr h):BL id Ψ (.exit i) fr h=if i=id then Ψ .normal fr h else Ψ (.exit i) fr h:=p_ rfl
@[simp]theorem Ends_kbl(id r Ψ):D7 (kbl id r) Ψ=D7 r (BL id Ψ):=by
 cases r with
 |none=>rfl
 |some x =>
  obtain⟨e,fr,h⟩:=x;cases e with
  |exit i =>
   by_cases hi:i=id
   .subst hi;simp[kbl,BL]
   .simp[kbl,BL,hi]
  |_=>rfl
theorem D7.mono{r Φ Ψ}(h:D7 r Φ)(k:∀e fr h,Φ e fr h->Ψ e fr h):D7 r Ψ:=by
 cases r with
 |none=>exact h.elim
 |some x=>exact k _ _ _ h
theorem D7.elim'{r Φ}(h:D7 r Φ):∃e fr h',r=some (e,fr,h')/\Φ e fr h':=by
 cases r with
 |none=>exact h.elim
 |some x=>exact⟨_,_,_,rfl,h⟩
theorem Sq{step Ψ}(Inv:Nat->Fr->AH->Prop)
  (H:∀n fr h,Inv n fr h->D7 (step (fr,h)) λe B8 h'=>(e=.normal/\∃m,m<n/\Inv m B8 h')\/(e≠.normal/\Ψ e B8 h')) :
  ∀(n:Nat) (fr:Fr) (h:AH),Inv n fr h->D7 (lp step (fr,h)) Ψ:=by
 intro n
 induction n using Nat.strongRecOn with
 |_ n ih =>
  intro fr h hi;obtain⟨e,B8,h',he,hp⟩:=(H n fr h hi).elim';rcases hp with ⟨rfl,m,hm,BR⟩|⟨AS,hp⟩
  .obtain⟨e2,Zr,h2,he2,hp2⟩:=(ih m hm B8 h' BR).elim';rw[lp_go he he2];exact hp2
  .cases e with
   |normal=>exact absurd rfl AS
   |exit i=>rw[tB he];exact hp
   |ret=>rw[A0c he];exact hp
theorem dM{α:Type}{step Ψ}(all)(Inv:List α->Fr->AH->Prop)
  (last:∀fr h,Inv all fr h->D7 (step (fr,h)) λe B8 h'=>e≠.normal/\Ψ e B8 h')
  (next:∀done x rest,done++x::rest=all->∀fr h,Inv done fr h->D7 (step (fr,h)) λe B8 h'=>(e=.normal/\Inv (done++[x]) B8 h')\/(e≠.normal/\Ψ e B8 h')) :
  ∀(fr:Fr) (h:AH),Inv [] fr h->D7 (lp step (fr,h)) Ψ:=by
 intro fr h hi;refine Sq (λn fr h=>∃done rest,done++rest=all/\rest.length=n/\Inv done fr h) (λn fr h ⟨done,rest,he,hn,hi⟩=>?_) all.length fr h ⟨[],all,rfl,rfl,hi⟩;cases rest with
 |nil =>
  rw[zf5z]at he;subst he;exact(last fr h hi).mono λe B8 h' hp=>.inr hp
 |cons x rest =>
  refine(next done x rest he fr h hi).mono λe B8 h' hp=>?_
  rcases hp with ⟨h1,h2⟩|hp
  .exact .inl ⟨h1,rest.length,by simp at hn;omega,done++[x],rest,by simpa using he,rfl,h2⟩
  .exact .inr hp
def vH(rs:List UB)(r:AV):Ex->Fr->AH->Prop
 | .exit _,_,_=>False
 |_,fr,h=>fin rs fr h=some r
@[simp]theorem FIN_n(rs r fr h):vH rs r .normal fr h=(fin rs fr h=some r):=p_ rfl
@[simp]theorem FIN_r(rs r fr h):vH rs r .ret fr h=(fin rs fr h=some r):=p_ rfl
theorem tT{C f rf args r}(hs:C.spec f=none)(hc:C.code f=some rf)(hl:args.length<=rf.ntmps)
  (H:∀fr,fr.length=rf.ntmps->(∀i,B2 fr i=args.getD i B9)->D7 (A8 (m6 C) (C.ctx f) rf.body (fr,⟨[],[]⟩)) (vH rf.results r)):pc C f args=some r:=by
 refine A1D hs hc hl λfr h1 h2=>?_;obtain⟨e,B8,h',he,hp⟩:=(H fr h1 h2).elim';rw[he];cases e with
 |exit i=>exact hp.elim
 |normal=>exact hp
 |ret=>exact hp
def vJ(rs:List UB)(Φ:AV->AH->Prop):Ex->Fr->AH->Prop
 | .exit _,_,_=>False
 |_,fr,h=>∃vs,Mx fr h rs=some vs/\Φ (J4 vs) h
@[simp]theorem RFIN_n(rs Φ fr h):vJ rs Φ .normal fr h=(∃vs,Mx fr h rs=some vs/\Φ (J4 vs) h):=p_ rfl
@[simp]theorem RFIN_r(rs Φ fr h):vJ rs Φ .ret fr h=(∃vs,Mx fr h rs=some vs/\Φ (J4 vs) h):=p_ rfl
theorem uD{C f rf args h Φ}(hc:C.code f=some rf)(hl:args.length<=rf.ntmps)
  (H:∀fr,fr.length=rf.ntmps->(∀i,B2 fr i=args.getD i B9)->D7 (A8 (m6 C) (C.ctx f) rf.body (fr,h)) (vJ rf.results Φ)) (hrst:(C.ctx f).rst=false:=by rfl):∃v h',rc C f args h=some (v,h')/\Φ v h':=by
 obtain⟨hl',hlook⟩:=Qt hl;obtain⟨e,B8,h',he,hp⟩:=(H _ hl' hlook).elim';have key:∃vs,Mx B8 h' rf.results=some vs/\Φ (J4 vs) h':=by
  cases e with
  |exit i=>exact hp.elim
  |normal=>exact hp
  |ret=>exact hp
 obtain⟨vs,hv,hΦ⟩:=key;refine⟨J4 vs,h',?_,hΦ⟩;have hq:(J4 vs,h')=rstQ (C.ctx f).rst (J4 vs,h'):=by rw[hrst];rfl
 rw[hq];refine uE C ?_;unfold IG;simp only[hc];unfold Ij;rw[he];cases e with
 |exit i=>exact hp.elim
 |normal=>simp only[hv];rfl
 |ret=>simp only[hv];rfl
def RCode.wr:RCode->List Nat
 | .region _ ops=>ops.filterMap (·.dst)
 | .regd _ ops=>ops.filterMap (·.dst)
 | .seq a b=>a.wr++b.wr
 | .cond _ a b=>a.wr++b.wr
 | .block _ a=>a.wr
 | .loop a=>a.wr
 |_=>[]
def Kp(ws:List Nat)(fr B8:Fr):Prop:=B8.length=fr.length/\∀j,j∉ws->B2 B8 j=B2 fr j
theorem D4{ws:List Nat}{fr B8:Fr}{v:AV}(K:Kp ws fr B8)(i:Nat)(h:B2 fr i=v)(d:i∉ws:=by decide):B2 B8 i=v:=(K.2 i d).trans h
theorem Kp.refl(ws fr):Kp ws fr fr:=⟨rfl,λ_ _=>rfl⟩
theorem Kp.trans{ws a b c}(h:Kp ws a b)(k:Kp ws b c):Kp ws a c:=⟨k.1.trans h.1,λj hj=>(k.2 j hj).trans (h.2 j hj)⟩
theorem Kp.mono{ws ws' a b}(h:Kp ws a b)(hs:∀j,j∈ws->j∈ws'):Kp ws' a b:=⟨h.1,λj hj=>h.2 j λk=>hj (hs j k)⟩
theorem Kp.put(fr d v){ws}(hd:∀x,d=some x->x∈ws):Kp ws fr (put fr d v):=by
 cases d with
 |none=>exact Kp.refl _ _
 |some d =>
  refine⟨by simp,λj hj=>?_⟩;have AS:d≠j:=λe=>hj (e ▸ hd d rfl);simp[E5 fr v AS]
section
variable {C:Cfg} {c:Ctx}
theorem WA{O}:∀{C9:List RO} {fr:Fr} {h:AH} {x:Fr×AH} {ws:List Nat},(∀j,j∈C9.filterMap (·.dst)->j∈ws)->M8 O c C9 fr h=some x->Kp ws fr x.1
 | [],fr,h,x,ws,_,he=>by
  simp only[M8]at he;cases he;exact Kp.refl _ _
 |o::C9,fr,h,x,ws,hs,he=>by
  have h1:∀y,o.dst=some y->y∈ws:=λy hy=>hs y (by simp[hy]);have h2:∀j,j∈C9.filterMap (·.dst)->j∈ws:=λj hj=>hs j (by
   rw[List.filterMap_cons];split
   .exact hj
   .exact List.mem_cons_of_mem _ hj)
  simp only[M8]at he;cases hw:O8 fr o.guard with
  |none=>rw[hw]at he;cases he
  |some b =>
   rw[hw]at he;cases b with
   |false=>exact(Kp.put fr o.dst _ h1).trans (WA h2 he)
   |true =>
    dsimp only at he;cases AT:A7 O c o.op fr h with
    |none=>rw[AT]at he;cases he
    |some y =>
     rw[AT]at he;exact(Kp.put fr o.dst _ h1).trans (WA h2 he)
theorem dw{step ws}(hs:∀s x,step s=some x->Kp ws s.1 x.2.1):∀(n:Nat) (s:St) (x:Ex×St),Lw step n s=some x->Kp ws s.1 x.2.1
 |0,s,x,he=>by simp[Lw]at he
 |n+1,s,x,he=>by
  simp only[Lw]at he;cases h1:step s with
  |none=>rw[h1]at he;cases he
  |some y =>
   rw[h1]at he;have k:=hs s y h1;obtain⟨e,s'⟩:=y;cases e with
   |normal=>exact k.trans (dw hs n s' x he)
   |exit id=>cases he;exact k
   |ret=>cases he;exact k
theorem vd:∀(rc:RCode) (s:St) (x:Ex×St),A8 (m6 C) c rc s=some x->Kp rc.wr s.1 x.2.1:=by
 intro rc
 induction rc with
 |skip=>intro s x he;cases he;exact Kp.refl _ _
 |region d C9 =>
  intro s x he;simp only[A8]at he;cases hs:M8 (m6 C) c C9 s.1 s.2 with
  |none=>rw[hs]at he;cases he
  |some y =>
   rw[hs]at he;cases he;exact WA (λj hj=>hj) hs
 |regd bs C9 =>
  intro s x he;simp only[A8]at he;cases hs:P0 (m6 C) c C9 s.1 (s.2.holes (cN C9))with
  |none=>rw[hs]at he;cases he
  |some y =>
   rw[hs]at he;dsimp only at he;split at he
   .cases he;exact WA (λj hj=>hj) (VP hs)
   .cases he
 |seq a b iha ihb =>
  intro s x he;simp only[A8]at he;cases hs:A8 (m6 C) c a s with
  |none=>rw[hs]at he;cases he
  |some y =>
   rw[hs]at he;have k:=(iha s y hs).mono (ws':=(RCode.seq a b).wr) λj hj=>zf7z _ hj;obtain⟨e,s'⟩:=y;cases e with
   |normal=>exact k.trans ((ihb _ _ he).mono λj hj=>zf6z _ hj)
   |exit id=>cases he;exact k
   |ret=>cases he;exact k
 |cond q a b iha ihb =>
  intro s x he;simp only[A8]at he;split at he
  .exact(iha _ _ he).mono λj hj=>zf7z _ hj
  .exact(ihb _ _ he).mono λj hj=>zf6z _ hj
  .cases he
 |block id a ih =>
  intro s x he;simp only[A8]at he;cases hs:A8 (m6 C) c a s with
  |none=>rw[hs]at he;cases he
  |some y =>
   rw[hs]at he;have k:=ih s y hs;obtain⟨e,s'⟩:=y;cases e with
   |normal=>cases he;exact k
   |exit i =>
    simp only at he;split at he<;>cases he<;>exact k
   |ret=>cases he;exact k
 |loop a ih =>
  intro s x he;obtain⟨n,hn⟩:=gY he;exact dw ih n s x hn
 |exit id=>intro s x he;cases he;exact Kp.refl _ _
 |ret=>intro s x he;cases he;exact Kp.refl _ _
 |bad=>intro s x he;cases he
theorem vF{rc ws}(hw:rc.wr=ws){fr h Ψ}(H:D7 (A8 (m6 C) c rc (fr,h)) Ψ):D7 (A8 (m6 C) c rc (fr,h)) λe B8 h'=>Kp ws fr B8/\Ψ e B8 h':=by
 subst hw;obtain⟨e,B8,h',he,hp⟩:=H.elim';have k:=vd rc _ _ he;rw[he];exact⟨k,hp⟩
theorem yN{body}{Ψ:Ex->Fr->AH->Prop}{ws}(hw:body.wr=ws)(fr0)(Inv:Nat->Fr->AH->Prop)
  (H:∀n fr h,Kp ws fr0 fr->Inv n fr h->D7 (A8 (m6 C) c body (fr,h)) λe B8 h'=>(e=.normal/\∃m,m<n/\Inv m B8 h')\/(e≠.normal/\Ψ e B8 h'))
  (n h) (hi:Inv n fr0 h):D7 (lp (A8 (m6 C) c body) (fr0,h)) λe B8 h'=>Kp ws fr0 B8/\Ψ e B8 h':=by
 refine Sq (λn fr h=>Kp ws fr0 fr/\Inv n fr h) (λn fr h ⟨k,hi⟩=>?_) n fr0 h ⟨Kp.refl _ _,hi⟩;refine(vF hw (H n fr h k hi)).mono λe B8 h' ⟨k',hp⟩=>?_;rcases hp with ⟨h1,m,h2,h3⟩|⟨h1,h2⟩
 .exact .inl ⟨h1,m,h2,k.trans k',h3⟩
 .exact .inr ⟨h1,k.trans k',h2⟩
end
theorem V6{n:Nat}{I J:Nat->Fr->AH->Prop}{fr:Fr}{h:AH}(hJ:∀n fr h,I n fr h->J n fr h)(hi:I (n-1) fr h)(h0:n-1<n:=by omega):∃m,m<n/\J m fr h:=⟨n-1,h0,hJ _ _ _ hi⟩
theorem E9{C c body}{Ψ:Ex->Fr->AH->Prop}{ws}(hw:body.wr=ws)(fr0)(Inv:Nat->Fr->AH->Prop)
  (H:∀(J:Nat->Fr->AH->Prop) (Φ:Ex->Fr->AH->Prop),(∀n fr h,Inv n fr h->J n fr h)->(∀e fr h,Ψ e fr h->Φ e fr h)->∀n fr h,Kp ws fr0 fr->Inv n fr h ->
   D7 (A8 (m6 C) c body (fr,h)) λe B8 h'=>(e=.normal/\∃m,m<n/\J m B8 h')\/(e≠.normal/\Φ e B8 h'))
  (n h) (hi:Inv n fr0 h):D7 (lp (A8 (m6 C) c body) (fr0,h)) λe B8 h'=>Kp ws fr0 B8/\Ψ e B8 h' :=
 yN hw fr0 Inv (H Inv Ψ (λ_ _ _ h=>h) (λ_ _ _ h=>h)) n h hi
def cO(rs:List UB)(Φ:AV->Prop):Ex->Fr->AH->Prop
 | .exit _,_,_=>False
 |_,fr,h=>∃r,fin rs fr h=some r/\Φ r
@[simp]theorem EFIN_n(rs Φ fr h):cO rs Φ .normal fr h=(∃r,fin rs fr h=some r/\Φ r):=p_ rfl
@[simp]theorem EFIN_r(rs Φ fr h):cO rs Φ .ret fr h=(∃r,fin rs fr h=some r/\Φ r):=p_ rfl
theorem lU{C f rf args Φ}(hs:C.spec f=none)(hc:C.code f=some rf)(hl:args.length<=rf.ntmps)
  (H:∀fr,fr.length=rf.ntmps->(∀i,B2 fr i=args.getD i B9)->D7 (A8 (m6 C) (C.ctx f) rf.body (fr,⟨[],[]⟩)) (cO rf.results Φ)):∃r,pc C f args=some r/\Φ r:=by
 obtain⟨hl',hlook⟩:=Qt hl;obtain⟨e,B8,h',he,hp⟩:=(H _ hl' hlook).elim';have key:∃r,fin rf.results B8 h'=some r/\Φ r:=by
  cases e with
  |exit i=>exact hp.elim
  |normal=>exact hp
  |ret=>exact hp
 obtain⟨r,hr,hΦ⟩:=key;refine⟨r,A1D hs hc hl λfr h1 h2=>?_,hΦ⟩;have hfr:fr=Ec rf args:=by
  apply List.ext_getElem (h1.trans hl'.symm);intro i g1 g2;have a:=h2 i;have b:=hlook i;simp only[B2,List.getD,zf1z g1,zf1z g2,Option.getD_some]at a b;exact a.trans b.symm
 subst hfr;rw[he];cases e with
 |exit i=>exact hp.elim
 |normal=>exact hr
 |ret=>exact hr
theorem AD{C f rf args}{Φ:AV->Prop}(hs:C.spec f=none)(hc:C.code f=some rf)(hl:args.length<=rf.ntmps)
  (H:∀Ψ,(∀r,Φ r->Ψ r)->∀fr,fr.length=rf.ntmps->(∀i,B2 fr i=args.getD i B9)->D7 (A8 (m6 C) (C.ctx f) rf.body (fr,⟨[],[]⟩)) (cO rf.results Ψ)):∃r,pc C f args=some r/\Φ r :=
 lU hs hc hl (H Φ λ_ h=>h)
@[simp]theorem tame_int(h k n):tame h (.int k n)=true:=p_ rfl
@[simp]theorem tame_bool(h b):tame h (.bool b)=true:=p_ rfl
@[simp]theorem tame_str(h s):tame h (.str s)=true:=p_ rfl
@[simp]theorem tame_agg(h cs):tame h (.agg cs)=cs.all (Hl h):=p_ rfl
@[simp]theorem tame1_int(h k n):Hl h (.int k n)=true:=p_ rfl
@[simp]theorem tame1_bool(h b):Hl h (.bool b)=true:=p_ rfl
@[simp]theorem tame1_str(h s):Hl h (.str s)=true:=p_ rfl
@[simp]theorem tame_vs(h f sz xs):tame h (.vs f sz xs)=true:=p_ rfl
@[simp]theorem tame1_vs(h f sz xs):Hl h (.vs f sz xs)=true:=p_ rfl
@[simp]theorem isTup_view(k n off len):(AV.sl k n off len).isTup=false:=p_ rfl
@[simp]theorem cells_view(k n off len):(AV.sl k n off len).cells=[.sl k n off len]:=p_ rfl
@[simp]theorem isTup_ptr(b off):(AV.ptr b off).isTup=false:=p_ rfl
@[simp]theorem cells_ptr(b off):(AV.ptr b off).cells=[.ptr b off]:=p_ rfl
@[simp]theorem isTup_vs(f sz xs):(AV.vs f sz xs).isTup=false:=p_ rfl
@[simp]theorem cells_vs(f sz xs):(AV.vs f sz xs).cells=[.vs f sz xs]:=p_ rfl
def AV.isAgg:AV->Bool
 | .agg _=>true
 |_=>false
def RSpec.of(run:List AV->AH->Option (AV×AH)):RSpec:=⟨λ_=>run,λ_ _ _ _ he=>⟨[],λ_ hp=>(nomatch hp),λ_ _=>he⟩⟩
def Zz(K bytes:Nat)(args:List AV)(h:AH):Option (AV×AH) :=
 match args with
 | [s,.int .i64 i,.vs _ z [x]] =>
  if z=K/\x.isAgg=true then
   match s with
   | .sl k n off len =>
    match h.fams[k]? with
    |some f =>
     if f.xs.length=n/\off=0/\len=n/\0<n/\f.wr=true/\f.sz=K/\0<=i/\i<=n/\(n+1)*bytes<=K7/\n+1<=maxLen then
      some (.sl k (n+1) 0 (n+1),{h with fams:=h.fams.set k {f with xs:=f.xs.take i.toNat++x::f.xs.drop i.toNat}})
     else none
    |none=>none
   | .vs true _ []=>if i=0/\bytes<=K7 then some (.sl h.fams.length 1 0 1,{h with fams:=h.fams++[⟨[x],K,true⟩]})else none
   |_=>none
  else none
 |_=>none
def insR(K bytes:Nat):RSpec:=.of (Zz K bytes)
def gQ(K bytes:Nat)(args:List AV)(h:AH):Option (AV×AH) :=
 match args with
 | [.vs true z [],i,x]=>Zz K bytes [.vs true z [],i,x] h
 |_=>none
def A0I(K bytes:Nat):RSpec:=.of (gQ K bytes)
def gN(K bytes:Nat)(b:Bool)(args:List AV)(h:AH):Option (AV×AH) :=
 match args with
 | [.vs true z [],.int .i64 n] =>
  if n=0 then some (.vs true z [],h)
  else if 0<n/\n*bytes<=K7/\n<=maxLen then some (.sl h.fams.length 0 0 0,{h with fams:=h.fams++[⟨[],K,b⟩]})
  else none
 |_=>none
def A0E(K bytes:Nat)(b:Bool:=false):RSpec:=.of (gN K bytes b)
end Go.Abs
namespace Go.Abs
open Go.RowKit (Below)
def aw(args:List AV)(h:AH):Option (AV×AH) :=
 match args with
 | [.vs _ z [.int .i64 x],.int .i64 n] =>
  if z=1/\0<=n/\n<=1048576/\-9223372036854775808<=x/\x<=9223372036854775807 then some (.sl h.fams.length n.toNat 0 n.toNat,{h with fams:=h.fams++[⟨List.replicate n.toNat (.int .i64 x),1,true⟩]})else none
 |_=>none
def repR:RSpec:=.of aw
end Go.Abs
namespace Go.Abs.Q
open Go.Proofs
def AE(a b:ByteArray):Int:=if Op.bytesLess a.toList b.toList then -1 else if a.toList=b.toList then 0 else 1
def iS:List AV->Option AV
 | [.str a,.str b]=>some (.int .i64 (AE a b))
 |_=>none
def uL:List AV->Option AV
 | [.str a,.str b]=>match b.data.toList with | [c]=>some (.bool (a.data.toList.contains c))|_=>none
 |_=>none
def A1X:List AV->Option AV
 | [.str a,.int .u8 c]=>some (.int .i64 (Lib.indexByte a.data.toList c.toNat.toUInt8))
 |_=>none
def A1Y:List AV->Option AV
 | [.str a,.str b]=>match b.data.toList with | [c]=>some (.int .i64 (Lib.indexByte a.data.toList c))|_=>none
 |_=>none
def WU:List AV->Option AV
 | [.str a,.str b]=>if a.size<=4611686018427387904/\b=bs [48,49,50,51,52,53,54,55,56,57]then some (.str ⟨(Lib.trimS a.data.toList b.data.toList).toArray⟩)else none
 |_=>none
def Lo(f:FuncId):Option (List AV->Option AV):=if f=Y1 then some iS else if f=JP then some uL else if f=Eo then some A1X else if f=Lz then some A1Y else if f=KH then some WU else none
def UZ(f:FuncId):Option RSpec:=if f=U0 then some (insR 4 56)else if f=S5 then some (A0I 5 64)else if f=Z5 then some (A0E 4 56 true)else if f=Q1 then some repR else none
noncomputable def Q:Cfg:=⟨L3,B1,Lo,UZ⟩
theorem HM(f:FuncId):Q.code f=L3 f:=by
 simp only[Q]
theorem IU(f:FuncId):Q.spec f=Lo f:=by
 simp only[Q]
@[simp]theorem LW(f:FuncId):Q.ctx f=B1 f:=by
 simp only[Q]
@[simp]theorem ctxF_mut(f:FuncId):(B1 f).mutApp=mutF f:=p_ rfl
@[simp]theorem ctxF_rawv(f:FuncId):(B1 f).rawv=DU f:=p_ rfl
@[simp]theorem ctxF_noB(f:FuncId):(B1 f).noB=K4:=p_ rfl
@[simp]theorem ctxF_ro(f:FuncId):(B1 f).ro=Yj f:=p_ rfl
theorem tY{f:FuncId}{s:List AV->Option AV}(h:Lo f=some s){args:b9}{r:AV}(hr:s args=some r):pc Q f args=some r:=by
 apply YN;unfold FN;have e:Q.spec f=some s:=h;rw[e];exact hr
theorem pc_cmp(a b:Al):pc Q Y1 [.str a,.str b]=some (.int .i64 (AE a b)):=tY (s:=iS) rfl rfl
theorem gu{f:FuncId}{rf:RFunc}{args:b9}{r:AV}(hc:L3 f=some rf)(hs:Lo f=none)(hl:args.length<=rf.ntmps)
  (H:∀fr:Fr,fr.length=rf.ntmps->(∀i,B2 fr i=args.getD i B9)->D7 (A8 (m6 Q) (B1 f) rf.body (fr,⟨[],[]⟩)) (vH rf.results r)):pc Q f args=some r :=
 tT (C:=Q) ((IU f).trans hs) ((HM f).trans hc) hl λfr h1 h2=>by
  rw[LW];exact H fr h1 h2
theorem rcQ{f:FuncId}{rf:RFunc}{args:b9}{h:AH}{Φ:AV->AH->Prop}(hc:L3 f=some rf)(hl:args.length<=rf.ntmps)
  (H:∀fr:Fr,fr.length=rf.ntmps->(∀i,B2 fr i=args.getD i B9)->D7 (A8 (m6 Q) (B1 f) rf.body (fr,h)) (vJ rf.results Φ)) (hrst:(B1 f).rst=false:=by rfl):∃v h',rc Q f args h=some (v,h')/\Φ v h' :=
 uD (C:=Q) ((HM f).trans hc) hl (λfr h1 h2=>by
  rw[LW];exact H fr h1 h2) (by rw[LW];exact hrst)
theorem J0{f:FuncId}(rf:RFunc){a r:AV}(H:∀fr:Fr,fr.length=rf.ntmps->B2 fr 0=a->D7 (A8 (m6 Q) (B1 f) rf.body (fr,⟨[],[]⟩)) (vH rf.results r))(hl:1<=rf.ntmps:=by decide)(hs:Lo f=none:=by rfl)(hc:L3 f=some rf:=by kernel_rfl):pc Q f [a]=some r:=
 gu hc hs hl λfr h1 h2=>H fr h1 (h2 0)
theorem j5{f:FuncId}(rf:RFunc){a b r:AV}(H:∀fr:Fr,fr.length=rf.ntmps->B2 fr 0=a->B2 fr 1=b->D7 (A8 (m6 Q) (B1 f) rf.body (fr,⟨[],[]⟩)) (vH rf.results r))(hl:2<=rf.ntmps:=by decide)(hs:Lo f=none:=by rfl)(hc:L3 f=some rf:=by kernel_rfl):pc Q f [a,b]=some r:=
 gu hc hs hl λfr h1 h2=>H fr h1 (h2 0) (h2 1)
theorem pcQ3{f:FuncId}(rf:RFunc){a b c r:AV}(H:∀fr:Fr,fr.length=rf.ntmps->B2 fr 0=a->B2 fr 1=b->B2 fr 2=c->D7 (A8 (m6 Q) (B1 f) rf.body (fr,⟨[],[]⟩)) (vH rf.results r))(hl:3<=rf.ntmps:=by decide)(hs:Lo f=none:=by rfl)(hc:L3 f=some rf:=by kernel_rfl):pc Q f [a,b,c]=some r:=
 gu hc hs hl λfr h1 h2=>H fr h1 (h2 0) (h2 1) (h2 2)
theorem peQ1{f:FuncId}(rf:RFunc){a:AV}{Φ:AV->Prop}(H:∀Ψ:AV->Prop,(∀v,Φ v->Ψ v)->∀fr:Fr,fr.length=rf.ntmps->B2 fr 0=a->D7 (A8 (m6 Q) (B1 f) rf.body (fr,⟨[],[]⟩)) (cO rf.results Ψ))(hl:1<=rf.ntmps:=by decide)(hs:Lo f=none:=by rfl)(hc:L3 f=some rf:=by kernel_rfl):∃v,pc Q f [a]=some v/\Φ v:=
 AD (C:=Q) ((IU _).trans hs) ((HM _).trans hc) hl λΨ hΨ fr h1 h2=>by rw[LW];exact H Ψ hΨ fr h1 (h2 0)
theorem Bs{f:FuncId}(rf:RFunc){a b:AV}{Φ:AV->Prop}(H:∀Ψ:AV->Prop,(∀v,Φ v->Ψ v)->∀fr:Fr,fr.length=rf.ntmps->B2 fr 0=a->B2 fr 1=b->D7 (A8 (m6 Q) (B1 f) rf.body (fr,⟨[],[]⟩)) (cO rf.results Ψ))(hl:2<=rf.ntmps:=by decide)(hs:Lo f=none:=by rfl)(hc:L3 f=some rf:=by kernel_rfl):∃v,pc Q f [a,b]=some v/\Φ v:=
 AD (C:=Q) ((IU _).trans hs) ((HM _).trans hc) hl λΨ hΨ fr h1 h2=>by rw[LW];exact H Ψ hΨ fr h1 (h2 0) (h2 1)
theorem XT{f:FuncId}(rf:RFunc){a b c:AV}{Φ:AV->Prop}(H:∀Ψ:AV->Prop,(∀v,Φ v->Ψ v)->∀fr:Fr,fr.length=rf.ntmps->B2 fr 0=a->B2 fr 1=b->B2 fr 2=c->D7 (A8 (m6 Q) (B1 f) rf.body (fr,⟨[],[]⟩)) (cO rf.results Ψ))(hl:3<=rf.ntmps:=by decide)(hs:Lo f=none:=by rfl)(hc:L3 f=some rf:=by kernel_rfl):∃v,pc Q f [a,b,c]=some v/\Φ v:=
 AD (C:=Q) ((IU _).trans hs) ((HM _).trans hc) hl λΨ hΨ fr h1 h2=>by rw[LW];exact H Ψ hΨ fr h1 (h2 0) (h2 1) (h2 2)
end Go.Abs.Q
namespace Go.Abs.Q
attribute [local simp] E5 E6 fin J4 H8
def KU(a b:Int):Int:=if a<b then -1 else if b<a then 1 else 0
theorem TD(a b:Int):pc Q Lm [.int .i64 a,.int .i64 b]=some (.int .i64 (KU a b)):=by
 refine gu dI rfl (by simp[Sj]) λfr hl ha=>?_;have h0:=ha 0;have h1:=ha 1;simp[Sj]at hl h0 h1 ⊢;by_cases h:a<b
 .simp[*,KU]
 .by_cases h':b<a<;>simp[*,KU]
theorem Kr(a b:Int):pc Q Ha [.int .i64 a,.int .i64 b]=some (.int .i64 (KU a b)):=by
 refine gu XX rfl (by simp[Nx]) λfr hl ha=>?_;have h0:=ha 0;have h1:=ha 1;simp[Nx]at hl h0 h1 ⊢;by_cases h:a<b
 .simp[*,KU]
 .by_cases h':b<a<;>simp[*,KU]
end Go.Abs.Q
namespace Go.Proofs
open Go.RowKit Go.Abs
theorem Ue{w:World}{ok:Nat->Nat->Prop}{k s:Int}{n:ByteArray}{m:Bool×Bool}{l:List Tm}{v:Value}(h:PV w ok (I8 (.mk k n s m l)) v) :
  ∃a len cap,v=.agg #[.int .i64 k,.string n,.int .i64 s,.slice a len cap]/\len=l.length/\(l≠[]->∃b o,a=some ⟨b,o,none⟩/\Pk w ok 4 b o (C4 l)):=by
 simp only[I8,PV,DV]at h;obtain⟨⟨us⟩,rfl,h1,v0,r0,e0,rfl,v1,r1,e1,rfl,v2,r2,e2,rfl,v3,r3,e3,hv3,e4⟩:=h;subst e4 e3 e2 e1;simp only at e0;subst e0;simp only[sl,PV]at hv3;obtain⟨a,len,cap,rfl,rfl,_,_,_,_,h6⟩:=hv3;refine⟨a,_,cap,rfl,by rw[b5,List.length_map],λAS=>?_⟩;have hne':C4 l≠[]:=by
  rw[b5];intro e;exact AS (List.map_eq_nil_iff.1 e)
 obtain⟨b,o,rfl,hz,hp⟩:=h6 hne';have hie:(C4 l).isEmpty=false:=by
  cases hq:C4 l with
  |nil=>exact absurd hq hne'
  |cons _ _=>rfl
 rw[hie]at hp;exact⟨b,o,rfl,hp⟩
theorem bq:∀(b:Bool) (l l':List Tm),Ch b (l++l')=Ch b l++Ch (b&&l.isEmpty) l'
 |b,[],l'=>by simp[Ch]
 |b,t::l,l'=>by
  simp only[List.cons_append,Ch,bq false l l',zf2z,Bool.false_and,List.isEmpty_cons,Bool.and_false]
theorem xy(ts:List Tm){i:Nat}(hi:i<ts.length):Ch true (ts.take (i+1))=Ch true (ts.take i)++((if i=0 then []else [44,32])++RH ts[i]):=by
 rw[List.take_succ_eq_append_getElem hi,bq];congr 1;simp only[Ch,zf5z,Bool.true_and];congr 1;cases i with
 |zero=>simp
 |succ i =>
  have:(ts.take (i+1)).isEmpty=false:=by
   cases h:ts.take (i+1)with
   |nil =>
    have:=congrArg List.length h;rw[List.length_take,zf9z]at this;omega
   |cons _ _=>rfl
  simp[this]
theorem wtxs_le(ts:List Tm)(i:Nat):(Ch true (ts.take i)).length<=(Ch true ts).length:=by
 have h:=congrArg (λx=>(Ch true x).length) (List.take_append_drop i ts);simp only[bq,zf0z]at h;omega
set_option maxHeartbeats 8000000 in
set_option maxRecDepth 100000 in
theorem Tryz.write_app(B b:Nat)(l:List UInt8)(k s:Int)(tn:ByteArray)(ts:List Tm)(sa:Option Addr)(cap:Nat)(w:World)(h:Lib.IsBuilder 196 5 B b (Lib.byteCells l) w)(hk1:k≠1)(hk2:k≠2)(D6:l.length+(tn.data.toList++40::(Ch true ts++[41])).length+100<=140737488355328)(hBw:B<=w.heap.size)(hW:MT B w)(hN:ts.length<=140737488355328)
  (hE:∀j t,ts[j]?=some t->∃kb ko us,sa=some ⟨kb,ko,none⟩/\kb<B/\us.size=4/\(∀c,c<4->w.cell? ⟨kb,ko+j*4+c,none⟩=us[c]?)/\PV w (λx _=>x<B) (I8 t) (.agg us))
  (IH:∀t∈ts,∀l w vt,Lib.IsBuilder 196 5 B b (Lib.byteCells l) w->PV w (λx _=>x<B) (I8 t) vt->l.length+(RH t).length+100<=140737488355328->B<=w.heap.size->MT B w ->
   Calls Tryz.prog 126 #[.pointer (some ⟨b,0,none⟩),vt] w λe w'=>e=.returned (.tuple #[])/\(Lib.BuilderAt 196 5 B b (.pointer (some ⟨b,0,none⟩)) (Lib.byteCells (l++RH t)) w'/\Below B w w'/\Apart 5 b w w')) :
  Calls Tryz.prog 126 #[.pointer (some ⟨b,0,none⟩),.agg #[.int .i64 k,.string tn,.int .i64 s,.slice sa ts.length cap]] w λe w'=>e=.returned (.tuple #[])/\(Lib.BuilderAt 196 5 B b (.pointer (some ⟨b,0,none⟩)) (Lib.byteCells (l++(tn.data.toList++40::(Ch true ts++[41])))) w'/\Below B w w'/\Apart 5 b w w'):=by
 have hbl:b<w.heap.size:=by rcases h with h|h<;>exact h.lt
 have hk1':(k == 1)=false:=by simpa using hk1
 have hk2':(k == 2)=false:=by simpa using hk2
 simp only[zf0z,zf3z,zf9z]at D6;have hll:(Lib.byteCells l).length=l.length:=by simp[Lib.byteCells]
 have hts:tn.data.toList.length=tn.size:=by simp
 have ha:(tn++⟨#[40]⟩:ByteArray).size=tn.size+1:=by rw[ByteArray.size_append];rfl
 have e1:Lib.strCells (tn++⟨#[40]⟩)=Lib.byteCells (tn.data.toList++[40]):=by
  rw[Lib.strCells_eq];congr 1
 go_enter Tryz.func126,Tryz.ntmps126
 go_wp2_with (go_at_call 216;(refine(Tryz.bldWriteString B b _ _ _ (Dn h _) (by omega) (by simp;omega)).mono ?_;rintro e w1 ⟨rfl,h1,hb1,hap⟩;have hc3:=HO hap (by rcases h with h|h<;>exact h.lt) (by decide) 3))
 rw[e1,←Ee]at h1;have hbw1:Below B w w1:=((Below.refl B w).alloc hBw _).trans hb1;have hap1:Apart 5 b w w1:=(Apart.alloc w _).trans hap;clear h hc3 hap hb1 e1 ha
 go_loopw [47] (λvi wr=>∃(i:Nat),vi=.int .i64 i/\i<=ts.length/\Lib.BuilderAt 196 5 B b (.pointer (some ⟨b,0,none⟩)) (Lib.byteCells (l++(tn.data.toList++[40])++Ch true (ts.take i))) wr/\Below B w wr/\Apart 5 b w wr)
  (λvi _=>ts.length-(intOf vi).toNat)
 case atStart=>exact⟨0,rfl,by omega,by simpa[Ch]using h1,hbw1,hap1⟩
 case round =>
  obtain⟨i,rfl,hi,hbd,hbel,hapt⟩:=hrel;clear h1 hbw1 hap1;by_cases C2:i<ts.length
  .obtain⟨kb,ko,us,rfl,hkb,Wk,Au,hpv⟩:=hE i ts[i] (zf1z C2);obtain⟨us⟩:=us;obtain⟨u0,u1,u2,u3,rfl⟩:∃u0 u1 u2 u3,us=[u0,u1,u2,u3]:=by
    match us,Wk with
    | [a,b,c,d],_=>exact⟨a,b,c,d,rfl⟩
   have c0:wr.cell? ⟨kb,ko+i*4,none⟩=some u0:=(hbel.cell hkb).trans (Au 0 (by omega));have c1:wr.cell? ⟨kb,ko+i*4+1,none⟩=some u1:=(hbel.cell (p:=⟨kb,ko+i*4+1,none⟩) hkb).trans (Au 1 (by omega));have c2:wr.cell? ⟨kb,ko+i*4+2,none⟩=some u2:=(hbel.cell (p:=⟨kb,ko+i*4+2,none⟩) hkb).trans (Au 2 (by omega));have c3:wr.cell? ⟨kb,ko+i*4+3,none⟩=some u3:=(hbel.cell (p:=⟨kb,ko+i*4+3,none⟩) hkb).trans (Au 3 (by omega));have hpv':=hpv;have hti:=IH ts[i] (List.getElem_mem C2);have htx:Ch true (ts.take (i+1))=Ch true (ts.take i)++((if i=0 then []else [44,32])++RH ts[i]):=xy ts C2
   have OK:(Ch true (ts.take (i+1))).length<=(Ch true ts).length:=wtxs_le ts (i+1);rw[htx]at OK;simp only[zf0z]at OK;generalize ts[i]=t at *
   obtain⟨tk,tnm,tso,tm,tl⟩:=t;obtain⟨sva,svn,svc,he,-,-⟩:=Ue hpv';have he':[u0,u1,u2,u3]=[.int .i64 tk,.string tnm,.int .i64 tso,.slice sva svn svc]:=by
    have:=congrArg (λv=>match v with | .agg us=>us.toList|_=>[]) he
    exact this
   simp only[List.cons.injEq,and_true]at he';obtain⟨rfl,rfl,rfl,rfl⟩:=he';clear hpv' he;have hBr:B<=wr.heap.size:=zf4z hBw hbel.size;have hbr:b<wr.heap.size:=Nat.lt_of_lt_of_le hbl hbel.size;have hi2:=Dn (.inr hbd) (.cells #[.int .i64 tk,.string tnm,.int .i64 tso,.slice sva svn svc] 28);have hb2:=hbel.alloc hBr (.cells #[.int .i64 tk,.string tnm,.int .i64 tso,.slice sva svn svc] 28);have ha2:=hapt.trans (Apart.alloc wr (.cells #[.int .i64 tk,.string tnm,.int .i64 tso,.slice sva svn svc] 28));have hBa:B<=(wr.alloc (.cells #[.int .i64 tk,.string tnm,.int .i64 tso,.slice sva svn svc] 28)).heap.size:=zf4z hBw hb2.size;have hLl:(l++(tn.data.toList++[40])++Ch true (ts.take i)).length=l.length+tn.size+1+(Ch true (ts.take i)).length:=by simp[hts];omega
   have hpvB:∀w',Below B w w'->PV w' (λx _=>x<B) (I8 (.mk tk tnm tso tm tl)) (.agg #[.int .i64 tk,.string tnm,.int .i64 tso,.slice sva svn svc]):=λw' hb=>BS (λx o hx=>⟨hx,hb.cell hx,λes clk he=>by rw[hb.block x hx];exact he⟩) _ _ hpv;clear Au hpv hE;by_cases h0:i=0
   .subst h0;simp only[Nat.zero_mul,Nat.add_zero]at c0 c1 c2 c3
    go_wp2_with (go_at_call 126;refine(hti _ _ _ hi2 (hpvB _ hb2) (by rw[hLl];omega) hBa (hW.below hb2)).mono ?_;rintro e w3 ⟨rfl,h3,hb3,hap3⟩)
    go_roundw
    case rel=>exact⟨1,by go_num,by omega,by rw[htx,←zf2z];simpa using h3,hb2.trans hb3,ha2.trans hap3⟩
    case measure=>simp[intOf];omega
   .rw[if_neg h0]at OK;have OK:(Ch true (ts.take i)).length+(2+(RH (.mk tk tnm tso tm tl)).length)<=(Ch true ts).length:=OK;have V5:(i:Int) > 0:=by omega
    go_wp2_with (first
     |(go_at_call 216;refine(Tryz.bldWriteString B b _ _ _ hi2 (by rw[Lib.byteCells_length,hLl];show _+2<=_;omega) hBa).mono ?_;rintro e w2 ⟨rfl,h2,hbB,hapB⟩;have d0:=HO hapB hbr (by decide) 0;have d1:=HO hapB hbr (by decide) 1;have d2:=HO hapB hbr (by decide) 2;have d3:=HO hapB hbr (by decide) 3;rw[Lib.strCells_eq,←Ee]at h2)
     |(go_at_call 126;refine(hti _ _ _ (.inr h2) (hpvB _ (hb2.trans hbB)) (by rw[zf0z,hLl];show _+2+_+_<=_;omega) (zf4z hBa hbB.size) (hW.below (hb2.trans hbB))).mono ?_;rintro e w3 ⟨rfl,h3,hb3,hap3⟩))
    go_roundw
    case rel=>exact⟨i+1,by go_num,by omega,by rw[htx,←zf2z,if_neg h0,←zf2z];simpa using h3,(hb2.trans hbB).trans hb3,(ha2.trans hapB).trans hap3⟩
    case measure=>simp[intOf];omega
  .have jO:i=ts.length:=by omega
   subst jO;rw[List.take_of_length_le (Nat.le_refl _)]at hbd;have hLl:(l++(tn.data.toList++[40])++Ch true ts).length=l.length+tn.size+1+(Ch true ts).length:=by simp[hts];omega
   go_wp2_with (go_at_call 217;refine(Tryz.bldWriteByte B b _ _ _ (.inr hbd) (by rw[Lib.byteCells_length,hLl];omega) (zf4z hBw hbel.size)).mono ?_;rintro e w2 ⟨rfl,h2,hbB,hapB⟩)
   go_end0
   refine⟨rfl,?_,hbel.trans hbB,hapt.trans hapB⟩;have e3:Lib.byteCells (l++(tn.data.toList++[40])++Ch true ts)++[Value.int .u8 41]=Lib.byteCells (l++(tn.data.toList++40::(Ch true ts++[41]))):=by
    rw[show ([Value.int .u8 41]:List Value)=Lib.byteCells [41] from rfl,←Ee];congr 1;simp
   rw[e3]at h2;exact h2
theorem mh{t:Tm}:∀{ts:List Tm},t∈ts->bi ts=true->be t=true
 |u::ts,h,hw=>by
  simp only[bi,Bool.and_eq_true]at hw;rcases zf8z.1 h with rfl|h
  .exact hw.1
  .exact mh h hw.2
theorem eZ{t:Tm}:∀{ts:List Tm},t∈ts->t.size<=Tm.sizes ts
 |u::ts,h=>by
  simp only[Tm.sizes];rcases zf8z.1 h with rfl|h
  .omega
  .have:=eZ h;omega
theorem eX:∀ts:List Tm,ts.length<=Tm.sizes ts
 | []=>Nat.zero_le _
 |t::ts=>by
  have:=eX ts;have h0:0<t.size:=t.size_pos;simp only[Tm.sizes,zf3z];omega
theorem wM{w:World}{ok:Nat->Nat->Prop}{b o:Nat}{ts:List Tm}(hp:Pk w ok 4 b o (C4 ts)){j:Nat}{t:Tm}(hj:ts[j]?=some t) :
  ∃us:Array Value,us.size=4/\ok b (o+j*4)/\(∀c,c<4->w.cell? ⟨b,o+j*4+c,none⟩=us[c]?)/\PV w ok (I8 t) (.agg us):=by
 have hj':(C4 ts)[j]?=some (I8 t):=by rw[b5,List.getElem?_map,hj];rfl
 obtain⟨p1,p2⟩:=NL hp hj';obtain⟨k,n,s,m,l⟩:=t;simp only[I8,AV.cells]at p2;obtain⟨u0,a0,b0,c0,d0⟩:=CM p2 (j:=0) rfl;obtain⟨u1,a1,b1,c1,d1⟩:=CM p2 (j:=1) rfl;obtain⟨u2,a2,b2,c2,d2⟩:=CM p2 (j:=2) rfl;obtain⟨u3,a3,b3,c3,d3⟩:=CM p2 (j:=3) rfl;refine⟨#[u0,u1,u2,u3],rfl,a0,λc hc=>?_,?_⟩
 .match c,hc with
  |0,_=>exact b0
  |1,_=>exact b1
  |2,_=>exact b2
  |3,_=>exact b3
 .simp only[I8,PV,DV];refine⟨_,rfl,λu hu=>?_,u0,_,rfl,by simpa[PV]using d0,u1,_,rfl,by simpa[PV]using d1,u2,_,rfl,by simpa[PV]using d2,u3,_,rfl,d3,rfl⟩;simp only[zf8z,List.not_mem_nil,or_false]at hu;rcases hu with rfl|rfl|rfl|rfl<;>assumption
theorem wtx_var(n:ByteArray)(s:Int)(m:Bool×Bool)(l:List Tm):RH (.mk 1 n s m l)=63::n.data.toList++(if s=0 then []else 58::o9 s):=by simp[RH]
theorem wtx_atom(n:ByteArray)(s:Int)(m:Bool×Bool)(l:List Tm):RH (.mk 2 n s m l)=n.data.toList++58::o9 s:=by simp[RH]
theorem wtx_app{k:Int}(h1:k≠1)(h2:k≠2)(n:ByteArray)(s:Int)(m:Bool×Bool)(l:List Tm):RH (.mk k n s m l)=n.data.toList++40::(Ch true l++[41]):=by simp[RH,h1,h2]
theorem Tryz.write_ok(B b:Nat):∀(N:Nat) (t:Tm),t.size<=N->t.size<=1048576->be t=true->∀(l:List UInt8) (w:World) (vt:Value),Lib.IsBuilder 196 5 B b (Lib.byteCells l) w->PV w (λx _=>x<B) (I8 t) vt->l.length+(RH t).length+100<=140737488355328->B<=w.heap.size->MT B w ->
  Calls Tryz.prog 126 #[.pointer (some ⟨b,0,none⟩),vt] w λe w'=>e=.returned (.tuple #[])/\(Lib.BuilderAt 196 5 B b (.pointer (some ⟨b,0,none⟩)) (Lib.byteCells (l++RH t)) w'/\Below B w w'/\Apart 5 b w w'):=by
 intro N
 induction N with
 |zero =>
  intro t ht;have:=t.size_pos;omega
 |succ N ih =>
  intro t ht X9 O9 l w vt hb hpv D6 hBw hW;obtain⟨k,n,s,m,ts⟩:=t;obtain⟨a,len,cap,rfl,rfl,Ry⟩:=Ue hpv;simp only[Tm.size]at ht X9;have hts:n.data.toList.length=n.size:=by simp
  have hbl:(Lib.byteCells l).length=l.length:=Lib.byteCells_length l;by_cases h1:k=1
  .subst h1;have hs:0<=s/\s<=5:=by simpa[be]using O9
   rw[wtx_var]at D6 ⊢;simp only[zf0z,zf3z]at D6;by_cases h0:s=0
   .subst h0;refine(Tryz.write_var_any B b _ n _ w hb (by omega) hBw).mono ?_;rintro e w' ⟨he,h2,h3,h4⟩;refine⟨he,?_,h3,h4⟩;rw[if_pos rfl,zf5z,Ee];rw[show Lib.strCells (⟨#[63]⟩++n)=Lib.byteCells (63::n.data.toList) from by rw[Lib.strCells_eq];congr 1]at h2;exact h2
   .refine(Tryz.write_var B b _ n s _ w hb (by omega) (by omega) hBw hW).mono ?_;rintro e w' ⟨he,h2,h3,h4⟩;refine⟨he,?_,h3,h4⟩;rw[if_neg h0,Ee];exact h2
  .by_cases h2:k=2
   .subst h2;have hs:0<=s/\s<=5:=by simpa[be]using O9
    rw[wtx_atom]at D6 ⊢;simp only[zf0z,zf3z]at D6;have hc:s=0\/s=1\/s=2\/s=3\/s=4\/s=5:=by omega
    rw[Ee];rcases hc with rfl|rfl|rfl|rfl|rfl|rfl
    .exact Tryz.write_atom0 B b _ n _ w hb (by omega) hBw hW
    .exact Tryz.write_atom1 B b _ n _ w hb (by omega) hBw hW
    .exact Tryz.write_atom2 B b _ n _ w hb (by omega) hBw hW
    .exact Tryz.write_atom3 B b _ n _ w hb (by omega) hBw hW
    .exact Tryz.write_atom4 B b _ n _ w hb (by omega) hBw hW
    .exact Tryz.write_atom5 B b _ n _ w hb (by omega) hBw hW
   .rw[wtx_app h1 h2]at D6 ⊢;have hoks:bi ts=true:=by simpa[be,h1,h2]using O9
    refine Tryz.write_app B b l k s n ts a cap w hb h1 h2 D6 hBw hW (by have:=eX ts;omega) (λj t hj=>?_) λt ht' l' w' vt' g1 g2 g3 g4 g5=>?_
    .have AS:ts≠[]:=λe=>by rw[e]at hj;simp at hj
     obtain⟨kb,ko,rfl,hp⟩:=Ry AS;obtain⟨us,q1,q2,q3,q4⟩:=wM hp hj;exact⟨kb,ko,us,rfl,q2,q1,q3,q4⟩
    .have:=eZ ht';exact ih t (by omega) (by omega) (mh ht' hoks) l' w' vt' g1 g2 g3 g4 g5
end Go.Proofs
