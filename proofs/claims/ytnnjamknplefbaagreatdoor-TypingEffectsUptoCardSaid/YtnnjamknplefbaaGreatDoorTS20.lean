/- A part of the proof. -/
import Derived.Test.YtnnjamknplefbaaGreatDoorTS18
import Derived.Test.YtnnjamknplefbaaGreatDoorTS19
import Derived.Test.YtnnjamknplefbaaGreatDoorProg
import Derived.KernelRfl
import Derived.Deep.Draws
import Derived.Lib.Strings
import Derived.Lib.Bytealg
import Derived.Lib.SlTrimSet
import Derived.LoopTactic
set_option linter.all false
open List renaming length_append->zf0z,getElem?_eq_getElem->zf1z,append_assoc->zf2z,length_cons->zf3z,append_nil->zf5z,mem_append_right->zf6z,mem_append_left->zf7z,mem_cons->zf8z,length_nil->zf9z
open Nat renaming le_trans->zf4z
set_option linter.all false
namespace Go.Abs.Q
open Go.Proofs
noncomputable def Q5(f:FuncId):Option RFunc:=if rspF f then none else RQ Tryz.prog C2 f
theorem Aa:Q5 U8=some H9:=by kernel_rfl
theorem Qo:Q5 CB=some N0:=by kernel_rfl
theorem LY:Q5 i7=some BP:=by kernel_rfl
theorem j3:Q5 H8=some I4:=by kernel_rfl
theorem KG:Q5 G4=some s8:=by kernel_rfl
theorem HR:Q5 X0=some Im:=by kernel_rfl
theorem HS:Q5 M4=some In:=by kernel_rfl
theorem Cu:Q5 S9=some O5:=by kernel_rfl
theorem Dd:Q5 U5=some Q3:=by kernel_rfl
theorem Ab:Q5 P8=some I9:=by kernel_rfl
theorem M5:Q5 N9=some B7:=by kernel_rfl
theorem Eb:Q5 M7=some KM:=by kernel_rfl
theorem Iw:Q5 L4=some KN:=by kernel_rfl
theorem TC:Q5 y9=some Y1:=by kernel_rfl
theorem Ih:Q5 U3=some Jh:=by kernel_rfl
theorem m7:Q5 X3=some I8:=by kernel_rfl
theorem V0:Q5 Z1=some E9:=by kernel_rfl
theorem Z9:Q5 R0=some H4:=by kernel_rfl
theorem O4:Q5 T7=some C3:=by kernel_rfl
theorem Po:Q5 AN=some Is:=by kernel_rfl
theorem IA:Q5 Y6=some Iy:=by kernel_rfl
theorem NF:Q5 X9=some Ea:=by kernel_rfl
theorem Cw:Q5 K7=some O7:=by kernel_rfl
theorem H6:Q5 M2=some A9:=by kernel_rfl
theorem Cv:Q5 T2=some O6:=by kernel_rfl
theorem Uh:Q5 Ci=some Ll:=by kernel_rfl
theorem HW:Q5 S2=some Iq:=by kernel_rfl
theorem Jb:Q5 T4=some Ko:=by kernel_rfl
theorem CE:Q5 N7=some L2:=by kernel_rfl
theorem Ii:Q5 O0=some b5:=by kernel_rfl
theorem LX:Q5 T5=some Cy:=by kernel_rfl
theorem KH:Q5 M9=some BX:=by kernel_rfl
theorem HT:Q5 X1=some Io:=by kernel_rfl
theorem Ix:Q5 S3=some KO:=by kernel_rfl
theorem HU:Q5 S1=some Ip:=by kernel_rfl
theorem Iv:Q5 W2=some KL:=by kernel_rfl
end Go.Abs.Q
namespace Go.Abs
def L9(r:Option (Ex×St))(Ψ:Ex->Fr->AH->Prop):Prop:=match r with|some (e,fr,h)=>Ψ e fr h|none=>False
@[congr] theorem A0k{r r':Option (Ex×St)}{Ψ:Ex->Fr->AH->Prop}(h:r=r'):L9 r Ψ=L9 r' Ψ:=by rw[h]
@[simp]theorem Ends_some(e:Ex)(fr:Fr)(h:AH)(Ψ:Ex->Fr->AH->Prop):L9 (some (e,fr,h)) Ψ=Ψ e fr h:=_root_.id rfl
def SQ(O:Orc)(c:Ctx)(y:RCode)(Ψ:Ex->Fr->AH->Prop):Ex->Fr->AH->Prop
 | .normal,fr,h=>L9 (A8 O c y (fr,h)) Ψ
 |e,fr,h=>Ψ e fr h
section
variable (O:Orc) (c:Ctx) (y:RCode) (Ψ:Ex->Fr->AH->Prop)
@[simp]theorem SQ_n(fr:Fr)(h:AH):SQ O c y Ψ .normal fr h=L9 (A8 O c y (fr,h)) Ψ:=_root_.id rfl
@[simp]theorem SQ_r(fr:Fr)(h:AH):SQ O c y Ψ .ret fr h=Ψ .ret fr h:=_root_.id rfl
@[simp]theorem SQ_e(i:Nat)(fr:Fr)(h:AH):SQ O c y Ψ (.exit i) fr h=Ψ (.exit i) fr h:=_root_.id rfl
@[simp]theorem Ends_sqn(r:Option (Ex×St)):L9 (zy r O c y) Ψ=L9 r (SQ O c y Ψ):=by
 cases r with
 |none=>rfl
 |some x=>obtain⟨e,fr,h⟩:=x;cases e<;>rfl
end
def BL(id:Nat)(Ψ:Ex->Fr->AH->Prop):Ex->Fr->AH->Prop
 | .exit i,fr,h=>if i=id then Ψ .normal fr h else Ψ (.exit i) fr h
 |e,fr,h=>Ψ e fr h
@[simp]theorem BL_n(id:Nat)(Ψ:Ex->Fr->AH->Prop)(fr:Fr)(h:AH):BL id Ψ .normal fr h=Ψ .normal fr h:=_root_.id rfl
@[simp]theorem BL_r(id:Nat)(Ψ:Ex->Fr->AH->Prop)(fr:Fr)(h:AH):BL id Ψ .ret fr h=Ψ .ret fr h:=_root_.id rfl
@[simp]theorem BL_e(id i:Nat)(Ψ:Ex->Fr->AH->Prop)(fr:Fr)(h:AH):BL id Ψ (.exit i) fr h=if i=id then Ψ .normal fr h else Ψ (.exit i) fr h:=_root_.id rfl
@[simp]theorem Ends_kbl(id:Nat)(r:Option (Ex×St))(Ψ:Ex->Fr->AH->Prop):L9 (kbl id r) Ψ=L9 r (BL id Ψ):=by
 cases r with
 |none=>rfl
 |some x =>
  obtain⟨e,fr,h⟩:=x;cases e with
  |exit i =>
   by_cases hi:i=id
   .subst hi;simp[kbl,BL]
   .simp[kbl,BL,hi]
  |_=>rfl
theorem L9.mono{r:Option (Ex×St)}{Φ Ψ:Ex->Fr->AH->Prop}(h:L9 r Φ)(k:∀e fr h,Φ e fr h->Ψ e fr h):L9 r Ψ:=by
 cases r with
 |none=>exact h.elim
 |some x=>exact k _ _ _ h
theorem L9.elim'{r:Option (Ex×St)}{Φ:Ex->Fr->AH->Prop}(h:L9 r Φ):∃e fr h',r=some (e,fr,h')/\Φ e fr h':=by
 cases r with
 |none=>exact h.elim
 |some x=>exact⟨_,_,_,rfl,h⟩
theorem Ng{step:St->Option (Ex×St)}{Ψ:Ex->Fr->AH->Prop}(Inv:Nat->Fr->AH->Prop)
  (H:∀n fr h,Inv n fr h->L9 (step (fr,h)) λe G6 h'=>(e=.normal/\∃m,m<n/\Inv m G6 h')\/(e≠.normal/\Ψ e G6 h')) :
  ∀(n:Nat) (fr:Fr) (h:AH),Inv n fr h->L9 (lp step (fr,h)) Ψ:=by
 intro n
 induction n using Nat.strongRecOn with
 |_ n ih =>
  intro fr h hi;obtain⟨e,G6,h',he,hp⟩:=(H n fr h hi).elim';rcases hp with ⟨rfl,m,hm,Ai⟩|⟨s9,hp⟩
  .obtain⟨e2,dp,h2,he2,hp2⟩:=(ih m hm G6 h' Ai).elim';rw[zl he he2];exact hp2
  .cases e with
   |normal=>exact absurd rfl s9
   |exit i=>rw[iK he];exact hp
   |ret=>rw[qt he];exact hp
theorem kC{α:Type}{step:St->Option (Ex×St)}{Ψ:Ex->Fr->AH->Prop}(all:List α)(Inv:List α->Fr->AH->Prop)
  (last:∀fr h,Inv all fr h->L9 (step (fr,h)) λe G6 h'=>e≠.normal/\Ψ e G6 h')
  (next:∀done x rest,done++x::rest=all->∀fr h,Inv done fr h->L9 (step (fr,h)) λe G6 h'=>(e=.normal/\Inv (done++[x]) G6 h')\/(e≠.normal/\Ψ e G6 h')) :
  ∀(fr:Fr) (h:AH),Inv [] fr h->L9 (lp step (fr,h)) Ψ:=by
 intro fr h hi;refine Ng (λn fr h=>∃done rest,done++rest=all/\rest.length=n/\Inv done fr h) (λn fr h ⟨done,rest,he,hn,hi⟩=>?_) all.length fr h ⟨[],all,rfl,rfl,hi⟩;cases rest with
 |nil =>
  rw[zf5z]at he;subst he;exact(last fr h hi).mono λe G6 h' hp=>.inr hp
 |cons x rest =>
  refine(next done x rest he fr h hi).mono λe G6 h' hp=>?_
  rcases hp with ⟨h1,h2⟩|hp
  .exact .inl ⟨h1,rest.length,by simp at hn;omega,done++[x],rest,by simpa using he,rfl,h2⟩
  .exact .inr hp
def vI(rs:List RRes)(r:AV):Ex->Fr->AH->Prop
 | .exit _,_,_=>False
 |_,fr,h=>fin rs fr h=some r
@[simp]theorem FIN_n(rs:List RRes)(r:AV)(fr:Fr)(h:AH):vI rs r .normal fr h=(fin rs fr h=some r):=_root_.id rfl
@[simp]theorem FIN_r(rs:List RRes)(r:AV)(fr:Fr)(h:AH):vI rs r .ret fr h=(fin rs fr h=some r):=_root_.id rfl
theorem iW{C:Cfg}{f:FuncId}{rf:RFunc}{args:I7}{r:AV}(hs:C.spec f=none)(hc:C.code f=some rf)(hl:args.length<=rf.ntmps)
  (H:∀fr:Fr,fr.length=rf.ntmps->(∀i,C7 fr i=args.getD i B4)->L9 (A8 (Ax C) (C.ctx f) rf.body (fr,⟨[],[]⟩)) (vI rf.results r)):pc C f args=some r:=by
 refine ra hs hc hl λfr h1 h2=>?_;obtain⟨e,G6,h',he,hp⟩:=(H fr h1 h2).elim';rw[he];cases e with
 |exit i=>exact hp.elim
 |normal=>exact hp
 |ret=>exact hp
def kE(rs:List RRes)(Φ:AV->AH->Prop):Ex->Fr->AH->Prop
 | .exit _,_,_=>False
 |_,fr,h=>∃vs,Hz fr h rs=some vs/\Φ (M6 vs) h
@[simp]theorem RFIN_n(rs:List RRes)(Φ:AV->AH->Prop)(fr:Fr)(h:AH):kE rs Φ .normal fr h=(∃vs,Hz fr h rs=some vs/\Φ (M6 vs) h):=_root_.id rfl
@[simp]theorem RFIN_r(rs:List RRes)(Φ:AV->AH->Prop)(fr:Fr)(h:AH):kE rs Φ .ret fr h=(∃vs,Hz fr h rs=some vs/\Φ (M6 vs) h):=_root_.id rfl
theorem jC{C:Cfg}{f:FuncId}{rf:RFunc}{args:I7}{h:AH}{Φ:AV->AH->Prop}(hc:C.code f=some rf)(hl:args.length<=rf.ntmps)
  (H:∀fr:Fr,fr.length=rf.ntmps->(∀i,C7 fr i=args.getD i B4)->L9 (A8 (Ax C) (C.ctx f) rf.body (fr,h)) (kE rf.results Φ)) (hrst:(C.ctx f).rst=false:=by rfl):∃v h',rc C f args h=some (v,h')/\Φ v h':=by
 obtain⟨hl',hlook⟩:=Kc hl;obtain⟨e,G6,h',he,hp⟩:=(H _ hl' hlook).elim';have key:∃vs,Hz G6 h' rf.results=some vs/\Φ (M6 vs) h':=by
  cases e with
  |exit i=>exact hp.elim
  |normal=>exact hp
  |ret=>exact hp
 obtain⟨vs,hv,hΦ⟩:=key;refine⟨M6 vs,h',?_,hΦ⟩;have hq:(M6 vs,h')=xg (C.ctx f).rst (M6 vs,h'):=by rw[hrst];rfl
 rw[hq];refine jD C ?_;unfold EW;simp only[hc];unfold En;rw[he];cases e with
 |exit i=>exact hp.elim
 |normal=>simp only[hv];rfl
 |ret=>simp only[hv];rfl
def RCode.wr:RCode->List Nat
 | .region _ ops=>ops.filterMap (·.dst)
 | .regd _ ops=>ops.filterMap (·.dst)
 | .seq a b=>a.wr++b.wr
 | .cond _ a b=>a.wr++b.wr
 | .block _ a=>a.wr
 | .loop a=>a.wr
 |_=>[]
def Kp(ws:List Nat)(fr G6:Fr):Prop:=G6.length=fr.length/\∀j,j∉ws->C7 G6 j=C7 fr j
theorem S6{ws:List Nat}{fr G6:Fr}{v:AV}(K:Kp ws fr G6)(i:Nat)(h:C7 fr i=v)(d:i∉ws:=by decide):C7 G6 i=v:=(K.2 i d).trans h
theorem Kp.refl(ws:List Nat)(fr:Fr):Kp ws fr fr:=⟨rfl,λ_ _=>rfl⟩
theorem Kp.trans{ws:List Nat}{a b c:Fr}(h:Kp ws a b)(k:Kp ws b c):Kp ws a c:=⟨k.1.trans h.1,λj hj=>(k.2 j hj).trans (h.2 j hj)⟩
theorem Kp.mono{ws ws':List Nat}{a b:Fr}(h:Kp ws a b)(hs:∀j,j∈ws->j∈ws'):Kp ws' a b:=⟨h.1,λj hj=>h.2 j λk=>hj (hs j k)⟩
theorem Kp.put(fr:Fr)(d:Option Nat)(v:AV){ws:List Nat}(hd:∀x,d=some x->x∈ws):Kp ws fr (put fr d v):=by
 cases d with
 |none=>exact Kp.refl _ _
 |some d =>
  refine⟨by simp,λj hj=>?_⟩;have s9:d≠j:=λe=>hj (e ▸ hd d rfl);simp[J0 fr v s9]
section
variable {C:Cfg} {c:Ctx}
theorem OO{O:Orc}:∀{D5:List RO} {fr:Fr} {h:AH} {x:Fr×AH} {ws:List Nat},(∀j,j∈D5.filterMap (·.dst)->j∈ws)->N6 O c D5 fr h=some x->Kp ws fr x.1
 | [],fr,h,x,ws,_,he=>by
  simp only[N6]at he;cases he;exact Kp.refl _ _
 |o::D5,fr,h,x,ws,hs,he=>by
  have h1:∀y,o.dst=some y->y∈ws:=λy hy=>hs y (by simp[hy]);have h2:∀j,j∈D5.filterMap (·.dst)->j∈ws:=λj hj=>hs j (by
   rw[List.filterMap_cons];split
   .exact hj
   .exact List.mem_cons_of_mem _ hj)
  simp only[N6]at he;cases hw:P1 fr o.guard with
  |none=>rw[hw]at he;cases he
  |some b =>
   rw[hw]at he;cases b with
   |false=>exact(Kp.put fr o.dst _ h1).trans (OO h2 he)
   |true =>
    dsimp only at he;cases j7:A0 O c o.op fr h with
    |none=>rw[j7]at he;cases he
    |some y =>
     rw[j7]at he;exact(Kp.put fr o.dst _ h1).trans (OO h2 he)
theorem VT{step:St->Option (Ex×St)}{ws:List Nat}(hs:∀s x,step s=some x->Kp ws s.1 x.2.1):∀(n:Nat) (s:St) (x:Ex×St),HN step n s=some x->Kp ws s.1 x.2.1
 |0,s,x,he=>by simp[HN]at he
 |n+1,s,x,he=>by
  simp only[HN]at he;cases h1:step s with
  |none=>rw[h1]at he;cases he
  |some y =>
   rw[h1]at he;have k:=hs s y h1;obtain⟨e,s'⟩:=y;cases e with
   |normal=>exact k.trans (VT hs n s' x he)
   |exit id=>cases he;exact k
   |ret=>cases he;exact k
theorem kX:∀(rc:RCode) (s:St) (x:Ex×St),A8 (Ax C) c rc s=some x->Kp rc.wr s.1 x.2.1:=by
 intro rc
 induction rc with
 |skip=>intro s x he;cases he;exact Kp.refl _ _
 |region d D5 =>
  intro s x he;simp only[A8]at he;cases hs:N6 (Ax C) c D5 s.1 s.2 with
  |none=>rw[hs]at he;cases he
  |some y =>
   rw[hs]at he;cases he;exact OO (λj hj=>hj) hs
 |regd bs D5 =>
  intro s x he;simp only[A8]at he;cases hs:P3 (Ax C) c D5 s.1 (s.2.holes (Tu D5))with
  |none=>rw[hs]at he;cases he
  |some y =>
   rw[hs]at he;dsimp only at he;split at he
   .cases he;exact OO (λj hj=>hj) (Nx hs)
   .cases he
 |seq a b iha ihb =>
  intro s x he;simp only[A8]at he;cases hs:A8 (Ax C) c a s with
  |none=>rw[hs]at he;cases he
  |some y =>
   rw[hs]at he;have k:=(iha s y hs).mono (ws':=(RCode.seq a b).wr) λj hj=>zf7z _ hj;obtain⟨e,s'⟩:=y;cases e with
   |normal=>exact k.trans ((ihb _ _ he).mono λj hj=>zf6z _ hj)
   |exit id=>cases he;exact k
   |ret=>cases he;exact k
 |cond q a b iha ihb =>
  intro s x he;simp only[A8]at he;split at he
  .exact(iha _ _ he).mono λj hj=>zf7z _ hj
  .exact(ihb _ _ he).mono λj hj=>zf6z _ hj
  .cases he
 |block id a ih =>
  intro s x he;simp only[A8]at he;cases hs:A8 (Ax C) c a s with
  |none=>rw[hs]at he;cases he
  |some y =>
   rw[hs]at he;have k:=ih s y hs;obtain⟨e,s'⟩:=y;cases e with
   |normal=>cases he;exact k
   |exit i =>
    simp only at he;split at he<;>cases he<;>exact k
   |ret=>cases he;exact k
 |loop a ih =>
  intro s x he;obtain⟨n,hn⟩:=Xb he;exact VT ih n s x hn
 |exit id=>intro s x he;cases he;exact Kp.refl _ _
 |ret=>intro s x he;cases he;exact Kp.refl _ _
 |bad=>intro s x he;cases he
theorem kB{rc:RCode}{ws:List Nat}(hw:rc.wr=ws){fr:Fr}{h:AH}{Ψ:Ex->Fr->AH->Prop}(H:L9 (A8 (Ax C) c rc (fr,h)) Ψ):L9 (A8 (Ax C) c rc (fr,h)) λe G6 h'=>Kp ws fr G6/\Ψ e G6 h':=by
 subst hw;obtain⟨e,G6,h',he,hp⟩:=H.elim';have k:=kX rc _ _ he;rw[he];exact⟨k,hp⟩
theorem nN{body:RCode}{Ψ:Ex->Fr->AH->Prop}{ws:List Nat}(hw:body.wr=ws)(fr0:Fr)(Inv:Nat->Fr->AH->Prop)
  (H:∀n fr h,Kp ws fr0 fr->Inv n fr h->L9 (A8 (Ax C) c body (fr,h)) λe G6 h'=>(e=.normal/\∃m,m<n/\Inv m G6 h')\/(e≠.normal/\Ψ e G6 h'))
  (n:Nat) (h:AH) (hi:Inv n fr0 h):L9 (lp (A8 (Ax C) c body) (fr0,h)) λe G6 h'=>Kp ws fr0 G6/\Ψ e G6 h':=by
 refine Ng (λn fr h=>Kp ws fr0 fr/\Inv n fr h) (λn fr h ⟨k,hi⟩=>?_) n fr0 h ⟨Kp.refl _ _,hi⟩;refine(kB hw (H n fr h k hi)).mono λe G6 h' ⟨k',hp⟩=>?_;rcases hp with ⟨h1,m,h2,h3⟩|⟨h1,h2⟩
 .exact .inl ⟨h1,m,h2,k.trans k',h3⟩
 .exact .inr ⟨h1,k.trans k',h2⟩
end
theorem EF{n:Nat}{I J:Nat->Fr->AH->Prop}{fr:Fr}{h:AH}(hJ:∀n fr h,I n fr h->J n fr h)(hi:I (n-1) fr h)(h0:n-1<n:=by omega):∃m,m<n/\J m fr h:=⟨n-1,h0,hJ _ _ _ hi⟩
theorem W6{C:Cfg}{c:Ctx}{body:RCode}{Ψ:Ex->Fr->AH->Prop}{ws:List Nat}(hw:body.wr=ws)(fr0:Fr)(Inv:Nat->Fr->AH->Prop)
  (H:∀(J:Nat->Fr->AH->Prop) (Φ:Ex->Fr->AH->Prop),(∀n fr h,Inv n fr h->J n fr h)->(∀e fr h,Ψ e fr h->Φ e fr h)->∀n fr h,Kp ws fr0 fr->Inv n fr h ->
   L9 (A8 (Ax C) c body (fr,h)) λe G6 h'=>(e=.normal/\∃m,m<n/\J m G6 h')\/(e≠.normal/\Φ e G6 h'))
  (n:Nat) (h:AH) (hi:Inv n fr0 h):L9 (lp (A8 (Ax C) c body) (fr0,h)) λe G6 h'=>Kp ws fr0 G6/\Ψ e G6 h' :=
 nN hw fr0 Inv (H Inv Ψ (λ_ _ _ h=>h) (λ_ _ _ h=>h)) n h hi
def Wp(rs:List RRes)(Φ:AV->Prop):Ex->Fr->AH->Prop
 | .exit _,_,_=>False
 |_,fr,h=>∃r,fin rs fr h=some r/\Φ r
@[simp]theorem EFIN_n(rs:List RRes)(Φ:AV->Prop)(fr:Fr)(h:AH):Wp rs Φ .normal fr h=(∃r,fin rs fr h=some r/\Φ r):=_root_.id rfl
@[simp]theorem EFIN_r(rs:List RRes)(Φ:AV->Prop)(fr:Fr)(h:AH):Wp rs Φ .ret fr h=(∃r,fin rs fr h=some r/\Φ r):=_root_.id rfl
theorem ay{C:Cfg}{f:FuncId}{rf:RFunc}{args:I7}{Φ:AV->Prop}(hs:C.spec f=none)(hc:C.code f=some rf)(hl:args.length<=rf.ntmps)
  (H:∀fr:Fr,fr.length=rf.ntmps->(∀i,C7 fr i=args.getD i B4)->L9 (A8 (Ax C) (C.ctx f) rf.body (fr,⟨[],[]⟩)) (Wp rf.results Φ)):∃r,pc C f args=some r/\Φ r:=by
 obtain⟨hl',hlook⟩:=Kc hl;obtain⟨e,G6,h',he,hp⟩:=(H _ hl' hlook).elim';have key:∃r,fin rf.results G6 h'=some r/\Φ r:=by
  cases e with
  |exit i=>exact hp.elim
  |normal=>exact hp
  |ret=>exact hp
 obtain⟨r,hr,hΦ⟩:=key;refine⟨r,ra hs hc hl λfr h1 h2=>?_,hΦ⟩;have hfr:fr=CP rf args:=by
  apply List.ext_getElem (h1.trans hl'.symm);intro i g1 g2;have a:=h2 i;have b:=hlook i;simp only[C7,List.getD,zf1z g1,zf1z g2,Option.getD_some]at a b;exact a.trans b.symm
 subst hfr;rw[he];cases e with
 |exit i=>exact hp.elim
 |normal=>exact hr
 |ret=>exact hr
theorem If{C:Cfg}{f:FuncId}{rf:RFunc}{args:I7}{Φ:AV->Prop}(hs:C.spec f=none)(hc:C.code f=some rf)(hl:args.length<=rf.ntmps)
  (H:∀Ψ:AV->Prop,(∀r,Φ r->Ψ r)->∀fr:Fr,fr.length=rf.ntmps->(∀i,C7 fr i=args.getD i B4)->L9 (A8 (Ax C) (C.ctx f) rf.body (fr,⟨[],[]⟩)) (Wp rf.results Ψ)):∃r,pc C f args=some r/\Φ r :=
 ay hs hc hl (H Φ λ_ h=>h)
@[simp]theorem tame_int(h:AH)(k:IntKind)(n:Int):tame h (.int k n)=true:=_root_.id rfl
@[simp]theorem tame_bool(h:AH)(b:Bool):tame h (.bool b)=true:=_root_.id rfl
@[simp]theorem tame_str(h:AH)(s:AD):tame h (.str s)=true:=_root_.id rfl
@[simp]theorem tame_agg(h:AH)(cs:I7):tame h (.agg cs)=cs.all (Dn h):=_root_.id rfl
@[simp]theorem tame1_int(h:AH)(k:IntKind)(n:Int):Dn h (.int k n)=true:=_root_.id rfl
@[simp]theorem tame1_bool(h:AH)(b:Bool):Dn h (.bool b)=true:=_root_.id rfl
@[simp]theorem tame1_str(h:AH)(s:AD):Dn h (.str s)=true:=_root_.id rfl
@[simp]theorem tame_vs(h:AH)(f:Bool)(sz:Nat)(xs:I7):tame h (.vs f sz xs)=true:=_root_.id rfl
@[simp]theorem tame1_vs(h:AH)(f:Bool)(sz:Nat)(xs:I7):Dn h (.vs f sz xs)=true:=_root_.id rfl
@[simp]theorem isTup_view(k n off len:Nat):(AV.sl k n off len).isTup=false:=_root_.id rfl
@[simp]theorem cells_view(k n off len:Nat):(AV.sl k n off len).cells=[.sl k n off len]:=_root_.id rfl
@[simp]theorem isTup_ptr(b off:Nat):(AV.ptr b off).isTup=false:=_root_.id rfl
@[simp]theorem cells_ptr(b off:Nat):(AV.ptr b off).cells=[.ptr b off]:=_root_.id rfl
@[simp]theorem isTup_vs(f:Bool)(sz:Nat)(xs:I7):(AV.vs f sz xs).isTup=false:=_root_.id rfl
@[simp]theorem cells_vs(f:Bool)(sz:Nat)(xs:I7):(AV.vs f sz xs).cells=[.vs f sz xs]:=_root_.id rfl
def AV.isAgg:AV->Bool
 | .agg _=>true
 |_=>false
def RSpec.of(run:List AV->AH->Option (AV×AH)):RSpec:=⟨λ_=>run,λ_ _ _ _ he=>⟨[],λ_ hp=>(nomatch hp),λ_ _=>he⟩⟩
def SP(K bytes:Nat)(args:List AV)(h:AH):Option (AV×AH) :=
 match args with
 | [s,.int .i64 i,.vs _ z [x]] =>
  if z=K/\x.isAgg=true then
   match s with
   | .sl k n off len =>
    match h.fams[k]? with
    |some f =>
     if f.xs.length=n/\off=0/\len=n/\0<n/\f.wr=true/\f.sz=K/\0<=i/\i<=n/\(n+1)*bytes<=P7/\n+1<=maxLen then
      some (.sl k (n+1) 0 (n+1),{h with fams:=h.fams.set k {f with xs:=f.xs.take i.toNat++x::f.xs.drop i.toNat}})
     else none
    |none=>none
   | .vs true _ []=>if i=0/\bytes<=P7 then some (.sl h.fams.length 1 0 1,{h with fams:=h.fams++[⟨[x],K,true⟩]})else none
   |_=>none
  else none
 |_=>none
def insR(K bytes:Nat):RSpec:=.of (SP K bytes)
def XU(K bytes:Nat)(args:List AV)(h:AH):Option (AV×AH) :=
 match args with
 | [.vs true z [],i,x]=>SP K bytes [.vs true z [],i,x] h
 |_=>none
def qh(K bytes:Nat):RSpec:=.of (XU K bytes)
def XR(K bytes:Nat)(b:Bool)(args:List AV)(h:AH):Option (AV×AH) :=
 match args with
 | [.vs true z [],.int .i64 n] =>
  if n=0 then some (.vs true z [],h)
  else if 0<n/\n*bytes<=P7/\n<=maxLen then some (.sl h.fams.length 0 0 0,{h with fams:=h.fams++[⟨[],K,b⟩]})
  else none
 |_=>none
def qc(K bytes:Nat)(b:Bool:=false):RSpec:=.of (XR K bytes b)
end Go.Abs
namespace Go.Abs
open Go.RowKit (Below)
def TB(args:List AV)(h:AH):Option (AV×AH) :=
 match args with
 | [.vs _ z [.int .i64 x],.int .i64 n] =>
  if z=1/\0<=n/\n<=1048576/\-9223372036854775808<=x/\x<=9223372036854775807 then some (.sl h.fams.length n.toNat 0 n.toNat,{h with fams:=h.fams++[⟨List.replicate n.toNat (.int .i64 x),1,true⟩]})else none
 |_=>none
def xb:RSpec:=.of TB
end Go.Abs
namespace Go.Abs.Q
open Go.Proofs
def DF(a b:ByteArray):Int:=if Op.bytesLess a.toList b.toList then -1 else if a.toList=b.toList then 0 else 1
def YW:List AV->Option AV
 | [.str a,.str b]=>some (.int .i64 (DF a b))
 |_=>none
def jK:List AV->Option AV
 | [.str a,.str b]=>match b.data.toList with | [c]=>some (.bool (a.data.toList.contains c))|_=>none
 |_=>none
def sg:List AV->Option AV
 | [.str a,.int .u8 c]=>some (.int .i64 (Lib.indexByte a.data.toList c.toNat.toUInt8))
 |_=>none
def sk:List AV->Option AV
 | [.str a,.str b]=>match b.data.toList with | [c]=>some (.int .i64 (Lib.indexByte a.data.toList c))|_=>none
 |_=>none
def Of:List AV->Option AV
 | [.str a,.str b]=>if a.size<=4611686018427387904/\b=bs [48,49,50,51,52,53,54,55,56,57]then some (.str ⟨(Lib.trimS a.data.toList b.data.toList).toArray⟩)else none
 |_=>none
def HC(f:FuncId):Option (List AV->Option AV):=if f=V9 then some YW else if f=FE then some jK else if f=CW then some sg else if f=HP then some sk else if f=Fk then some Of else none
def NG(f:FuncId):Option RSpec:=if f=T0 then some (insR 4 56)else if f=R6 then some (qh 5 64)else if f=X2 then some (qc 4 56 true)else if f=Q2 then some xb else none
noncomputable def Q:Cfg:=⟨Q5,C2,HC,NG⟩
theorem Mj(f:FuncId):Q.code f=Q5 f:=by
 simp only[Q]
theorem PC(f:FuncId):Q.spec f=HC f:=by
 simp only[Q]
@[simp]theorem Rc(f:FuncId):Q.ctx f=C2 f:=by
 simp only[Q]
@[simp]theorem ctxF_mut(f:FuncId):(C2 f).mutApp=mutF f:=_root_.id rfl
@[simp]theorem ctxF_rawv(f:FuncId):(C2 f).rawv=CJ f:=_root_.id rfl
@[simp]theorem ctxF_noB(f:FuncId):(C2 f).noB=L3:=_root_.id rfl
@[simp]theorem ctxF_ro(f:FuncId):(C2 f).ro=TD f:=_root_.id rfl
theorem iZ{f:FuncId}{s:List AV->Option AV}(h:HC f=some s){args:I7}{r:AV}(hr:s args=some r):pc Q f args=some r:=by
 apply QW;unfold Ck;have e:Q.spec f=some s:=h;rw[e];exact hr
theorem pc_cmp(a b:AD):pc Q V9 [.str a,.str b]=some (.int .i64 (DF a b)):=iZ (s:=YW) rfl rfl
theorem wu{f:FuncId}{rf:RFunc}{args:I7}{r:AV}(hc:Q5 f=some rf)(hs:HC f=none)(hl:args.length<=rf.ntmps)
  (H:∀fr:Fr,fr.length=rf.ntmps->(∀i,C7 fr i=args.getD i B4)->L9 (A8 (Ax Q) (C2 f) rf.body (fr,⟨[],[]⟩)) (vI rf.results r)):pc Q f args=some r :=
 iW (C:=Q) ((PC f).trans hs) ((Mj f).trans hc) hl λfr h1 h2=>by
  rw[Rc];exact H fr h1 h2
theorem rcQ{f:FuncId}{rf:RFunc}{args:I7}{h:AH}{Φ:AV->AH->Prop}(hc:Q5 f=some rf)(hl:args.length<=rf.ntmps)
  (H:∀fr:Fr,fr.length=rf.ntmps->(∀i,C7 fr i=args.getD i B4)->L9 (A8 (Ax Q) (C2 f) rf.body (fr,h)) (kE rf.results Φ)) (hrst:(C2 f).rst=false:=by rfl):∃v h',rc Q f args h=some (v,h')/\Φ v h' :=
 jC (C:=Q) ((Mj f).trans hc) hl (λfr h1 h2=>by
  rw[Rc];exact H fr h1 h2) (by rw[Rc];exact hrst)
theorem m6{f:FuncId}(rf:RFunc){a r:AV}(H:∀fr:Fr,fr.length=rf.ntmps->C7 fr 0=a->L9 (A8 (Ax Q) (C2 f) rf.body (fr,⟨[],[]⟩)) (vI rf.results r))(hl:1<=rf.ntmps:=by decide)(hs:HC f=none:=by rfl)(hc:Q5 f=some rf:=by kernel_rfl):pc Q f [a]=some r:=
 wu hc hs hl λfr h1 h2=>H fr h1 (h2 0)
theorem Es{f:FuncId}(rf:RFunc){a b r:AV}(H:∀fr:Fr,fr.length=rf.ntmps->C7 fr 0=a->C7 fr 1=b->L9 (A8 (Ax Q) (C2 f) rf.body (fr,⟨[],[]⟩)) (vI rf.results r))(hl:2<=rf.ntmps:=by decide)(hs:HC f=none:=by rfl)(hc:Q5 f=some rf:=by kernel_rfl):pc Q f [a,b]=some r:=
 wu hc hs hl λfr h1 h2=>H fr h1 (h2 0) (h2 1)
theorem pcQ3{f:FuncId}(rf:RFunc){a b c r:AV}(H:∀fr:Fr,fr.length=rf.ntmps->C7 fr 0=a->C7 fr 1=b->C7 fr 2=c->L9 (A8 (Ax Q) (C2 f) rf.body (fr,⟨[],[]⟩)) (vI rf.results r))(hl:3<=rf.ntmps:=by decide)(hs:HC f=none:=by rfl)(hc:Q5 f=some rf:=by kernel_rfl):pc Q f [a,b,c]=some r:=
 wu hc hs hl λfr h1 h2=>H fr h1 (h2 0) (h2 1) (h2 2)
theorem peQ1{f:FuncId}(rf:RFunc){a:AV}{Φ:AV->Prop}(H:∀Ψ:AV->Prop,(∀v,Φ v->Ψ v)->∀fr:Fr,fr.length=rf.ntmps->C7 fr 0=a->L9 (A8 (Ax Q) (C2 f) rf.body (fr,⟨[],[]⟩)) (Wp rf.results Ψ))(hl:1<=rf.ntmps:=by decide)(hs:HC f=none:=by rfl)(hc:Q5 f=some rf:=by kernel_rfl):∃v,pc Q f [a]=some v/\Φ v:=
 If (C:=Q) ((PC _).trans hs) ((Mj _).trans hc) hl λΨ hΨ fr h1 h2=>by rw[Rc];exact H Ψ hΨ fr h1 (h2 0)
theorem rg{f:FuncId}(rf:RFunc){a b:AV}{Φ:AV->Prop}(H:∀Ψ:AV->Prop,(∀v,Φ v->Ψ v)->∀fr:Fr,fr.length=rf.ntmps->C7 fr 0=a->C7 fr 1=b->L9 (A8 (Ax Q) (C2 f) rf.body (fr,⟨[],[]⟩)) (Wp rf.results Ψ))(hl:2<=rf.ntmps:=by decide)(hs:HC f=none:=by rfl)(hc:Q5 f=some rf:=by kernel_rfl):∃v,pc Q f [a,b]=some v/\Φ v:=
 If (C:=Q) ((PC _).trans hs) ((Mj _).trans hc) hl λΨ hΨ fr h1 h2=>by rw[Rc];exact H Ψ hΨ fr h1 (h2 0) (h2 1)
theorem peQ3{f:FuncId}(rf:RFunc){a b c:AV}{Φ:AV->Prop}(H:∀Ψ:AV->Prop,(∀v,Φ v->Ψ v)->∀fr:Fr,fr.length=rf.ntmps->C7 fr 0=a->C7 fr 1=b->C7 fr 2=c->L9 (A8 (Ax Q) (C2 f) rf.body (fr,⟨[],[]⟩)) (Wp rf.results Ψ))(hl:3<=rf.ntmps:=by decide)(hs:HC f=none:=by rfl)(hc:Q5 f=some rf:=by kernel_rfl):∃v,pc Q f [a,b,c]=some v/\Φ v:=
 If (C:=Q) ((PC _).trans hs) ((Mj _).trans hc) hl λΨ hΨ fr h1 h2=>by rw[Rc];exact H Ψ hΨ fr h1 (h2 0) (h2 1) (h2 2)
end Go.Abs.Q
namespace Go.Abs.Q
attribute [local simp] J0 J5 fin M6 M0
def JS(a b:Int):Int:=if a<b then -1 else if b<a then 1 else 0
theorem MF(a b:Int):pc Q Ci [.int .i64 a,.int .i64 b]=some (.int .i64 (JS a b)):=by
 refine wu Uh rfl (by simp[Ll]) λfr hl ha=>?_;have h0:=ha 0;have h1:=ha 1;simp[Ll]at hl h0 h1 ⊢;by_cases h:a<b
 .simp[*,JS]
 .by_cases h':b<a<;>simp[*,JS]
end Go.Abs.Q
namespace Go.Proofs
open Go.RowKit Go.Abs
theorem NJ{w:World}{ok:Nat->Nat->Prop}{k s:Int}{n:ByteArray}{m:Bool×Bool}{l:List Tm}{v:Value}(h:PV w ok (U6 (.mk k n s m l)) v) :
  ∃a len cap,v=.agg #[.int .i64 k,.string n,.int .i64 s,.slice a len cap]/\len=l.length/\(l≠[]->∃b o,a=some ⟨b,o,none⟩/\Jn w ok 4 b o (G8 l)):=by
 simp only[U6,PV,Aj]at h;obtain⟨⟨us⟩,rfl,h1,v0,r0,e0,rfl,v1,r1,e1,rfl,v2,r2,e2,rfl,v3,r3,e3,hv3,e4⟩:=h;subst e4 e3 e2 e1;simp only at e0;subst e0;simp only[sl,PV]at hv3;obtain⟨a,len,cap,rfl,rfl,_,_,_,_,h6⟩:=hv3;refine⟨a,_,cap,rfl,by rw[m8,List.length_map],λs9=>?_⟩;have hne':G8 l≠[]:=by
  rw[m8];intro e;exact s9 (List.map_eq_nil_iff.1 e)
 obtain⟨b,o,rfl,hz,hp⟩:=h6 hne';have hie:(G8 l).isEmpty=false:=by
  cases hq:G8 l with
  |nil=>exact absurd hq hne'
  |cons _ _=>rfl
 rw[hie]at hp;exact⟨b,o,rfl,hp⟩
theorem Td:∀(b:Bool) (l l':List Tm),Av b (l++l')=Av b l++Av (b&&l.isEmpty) l'
 |b,[],l'=>by simp[Av]
 |b,t::l,l'=>by
  simp only[List.cons_append,Av,Td false l l',zf2z,Bool.false_and,List.isEmpty_cons,Bool.and_false]
theorem mn(ts:List Tm){i:Nat}(hi:i<ts.length):Av true (ts.take (i+1))=Av true (ts.take i)++((if i=0 then []else [44,32])++Km ts[i]):=by
 rw[List.take_succ_eq_append_getElem hi,Td];congr 1;simp only[Av,zf5z,Bool.true_and];congr 1;cases i with
 |zero=>simp
 |succ i =>
  have:(ts.take (i+1)).isEmpty=false:=by
   cases h:ts.take (i+1)with
   |nil =>
    have:=congrArg List.length h;rw[List.length_take,zf9z]at this;omega
   |cons _ _=>rfl
  simp[this]
theorem zB(ts:List Tm)(i:Nat):(Av true (ts.take i)).length<=(Av true ts).length:=by
 have h:=congrArg (λx=>(Av true x).length) (List.take_append_drop i ts);simp only[Td,zf0z]at h;omega
set_option maxHeartbeats 8000000 in
set_option maxRecDepth 100000 in
theorem Tryz.write_app(B b:Nat)(l:List UInt8)(k s:Int)(tn:ByteArray)(ts:List Tm)(sa:Option Addr)(cap:Nat)(w:World)(h:Lib.IsBuilder 196 5 B b (Lib.byteCells l) w)(hk1:k≠1)(hk2:k≠2)(J3:l.length+(tn.data.toList++40::(Av true ts++[41])).length+100<=140737488355328)(hBw:B<=w.heap.size)(hW:Hf B w)(hN:ts.length<=140737488355328)
  (hE:∀j t,ts[j]?=some t->∃kb ko us,sa=some ⟨kb,ko,none⟩/\kb<B/\us.size=4/\(∀c,c<4->w.cell? ⟨kb,ko+j*4+c,none⟩=us[c]?)/\PV w (λx _=>x<B) (U6 t) (.agg us))
  (IH:∀t∈ts,∀l w vt,Lib.IsBuilder 196 5 B b (Lib.byteCells l) w->PV w (λx _=>x<B) (U6 t) vt->l.length+(Km t).length+100<=140737488355328->B<=w.heap.size->Hf B w ->
   Calls Tryz.prog 126 #[.pointer (some ⟨b,0,none⟩),vt] w λe w'=>e=.returned (.tuple #[])/\(Lib.BuilderAt 196 5 B b (.pointer (some ⟨b,0,none⟩)) (Lib.byteCells (l++Km t)) w'/\Below B w w'/\Apart 5 b w w')) :
  Calls Tryz.prog 126 #[.pointer (some ⟨b,0,none⟩),.agg #[.int .i64 k,.string tn,.int .i64 s,.slice sa ts.length cap]] w λe w'=>e=.returned (.tuple #[])/\(Lib.BuilderAt 196 5 B b (.pointer (some ⟨b,0,none⟩)) (Lib.byteCells (l++(tn.data.toList++40::(Av true ts++[41])))) w'/\Below B w w'/\Apart 5 b w w'):=by
 have hbl:b<w.heap.size:=by rcases h with h|h<;>exact h.lt
 have hk1':(k == 1)=false:=by simpa using hk1
 have hk2':(k == 2)=false:=by simpa using hk2
 simp only[zf0z,zf3z,zf9z]at J3;have hll:(Lib.byteCells l).length=l.length:=by simp[Lib.byteCells]
 have hts:tn.data.toList.length=tn.size:=by simp
 have ha:(tn++⟨#[40]⟩:ByteArray).size=tn.size+1:=by rw[ByteArray.size_append];rfl
 have e1:Lib.strCells (tn++⟨#[40]⟩)=Lib.byteCells (tn.data.toList++[40]):=by
  rw[Lib.strCells_eq];congr 1
 go_enter Tryz.func126,Tryz.ntmps126
 go_wp2_with (go_at_call 216;(refine(Tryz.bldWriteString B b _ _ _ (Bm h _) (by omega) (by simp;omega)).mono ?_;rintro e w1 ⟨rfl,h1,hb1,hap⟩;have hc3:=Ds hap (by rcases h with h|h<;>exact h.lt) (by decide) 3))
 rw[e1,←CR]at h1;have hbw1:Below B w w1:=((Below.refl B w).alloc hBw _).trans hb1;have hap1:Apart 5 b w w1:=(Apart.alloc w _).trans hap;clear h hc3 hap hb1 e1 ha
 go_loopw [47] (λvi wr=>∃(i:Nat),vi=.int .i64 i/\i<=ts.length/\Lib.BuilderAt 196 5 B b (.pointer (some ⟨b,0,none⟩)) (Lib.byteCells (l++(tn.data.toList++[40])++Av true (ts.take i))) wr/\Below B w wr/\Apart 5 b w wr)
  (λvi _=>ts.length-(intOf vi).toNat)
 case atStart=>exact⟨0,rfl,by omega,by simpa[Av]using h1,hbw1,hap1⟩
 case round =>
  obtain⟨i,rfl,hi,hbd,hbel,hapt⟩:=hrel;clear h1 hbw1 hap1;by_cases G9:i<ts.length
  .obtain⟨kb,ko,us,rfl,hkb,Nb,o9,hpv⟩:=hE i ts[i] (zf1z G9);obtain⟨us⟩:=us;obtain⟨u0,u1,u2,u3,rfl⟩:∃u0 u1 u2 u3,us=[u0,u1,u2,u3]:=by
    match us,Nb with
    | [a,b,c,d],_=>exact⟨a,b,c,d,rfl⟩
   have c0:wr.cell? ⟨kb,ko+i*4,none⟩=some u0:=(hbel.cell hkb).trans (o9 0 (by omega));have c1:wr.cell? ⟨kb,ko+i*4+1,none⟩=some u1:=(hbel.cell (p:=⟨kb,ko+i*4+1,none⟩) hkb).trans (o9 1 (by omega));have c2:wr.cell? ⟨kb,ko+i*4+2,none⟩=some u2:=(hbel.cell (p:=⟨kb,ko+i*4+2,none⟩) hkb).trans (o9 2 (by omega));have c3:wr.cell? ⟨kb,ko+i*4+3,none⟩=some u3:=(hbel.cell (p:=⟨kb,ko+i*4+3,none⟩) hkb).trans (o9 3 (by omega));have hpv':=hpv;have hti:=IH ts[i] (List.getElem_mem G9);have htx:Av true (ts.take (i+1))=Av true (ts.take i)++((if i=0 then []else [44,32])++Km ts[i]):=mn ts G9
   have Ju:(Av true (ts.take (i+1))).length<=(Av true ts).length:=zB ts (i+1);rw[htx]at Ju;simp only[zf0z]at Ju;generalize ts[i]=t at *
   obtain⟨tk,tnm,tso,tm,tl⟩:=t;obtain⟨sva,svn,svc,he,-,-⟩:=NJ hpv';have he':[u0,u1,u2,u3]=[.int .i64 tk,.string tnm,.int .i64 tso,.slice sva svn svc]:=by
    have:=congrArg (λv=>match v with | .agg us=>us.toList|_=>[]) he
    exact this
   simp only[List.cons.injEq,and_true]at he';obtain⟨rfl,rfl,rfl,rfl⟩:=he';clear hpv' he;have hBr:B<=wr.heap.size:=zf4z hBw hbel.size;have hbr:b<wr.heap.size:=Nat.lt_of_lt_of_le hbl hbel.size;have hi2:=Bm (.inr hbd) (.cells #[.int .i64 tk,.string tnm,.int .i64 tso,.slice sva svn svc] 28);have hb2:=hbel.alloc hBr (.cells #[.int .i64 tk,.string tnm,.int .i64 tso,.slice sva svn svc] 28);have ha2:=hapt.trans (Apart.alloc wr (.cells #[.int .i64 tk,.string tnm,.int .i64 tso,.slice sva svn svc] 28));have hBa:B<=(wr.alloc (.cells #[.int .i64 tk,.string tnm,.int .i64 tso,.slice sva svn svc] 28)).heap.size:=zf4z hBw hb2.size;have hLl:(l++(tn.data.toList++[40])++Av true (ts.take i)).length=l.length+tn.size+1+(Av true (ts.take i)).length:=by simp[hts];omega
   have hpvB:∀w',Below B w w'->PV w' (λx _=>x<B) (U6 (.mk tk tnm tso tm tl)) (.agg #[.int .i64 tk,.string tnm,.int .i64 tso,.slice sva svn svc]):=λw' hb=>x7 (λx o hx=>⟨hx,hb.cell hx,λes clk he=>by rw[hb.block x hx];exact he⟩) _ _ hpv;clear o9 hpv hE;by_cases h0:i=0
   .subst h0;simp only[Nat.zero_mul,Nat.add_zero]at c0 c1 c2 c3
    go_wp2_with (go_at_call 126;refine(hti _ _ _ hi2 (hpvB _ hb2) (by rw[hLl];omega) hBa (hW.below hb2)).mono ?_;rintro e w3 ⟨rfl,h3,hb3,hap3⟩)
    go_roundw
    case rel=>exact⟨1,by go_num,by omega,by rw[htx,←zf2z];simpa using h3,hb2.trans hb3,ha2.trans hap3⟩
    case measure=>simp[intOf];omega
   .rw[if_neg h0]at Ju;have Ju:(Av true (ts.take i)).length+(2+(Km (.mk tk tnm tso tm tl)).length)<=(Av true ts).length:=Ju;have Z6:(i:Int) > 0:=by omega
    go_wp2_with (first
     |(go_at_call 216;refine(Tryz.bldWriteString B b _ _ _ hi2 (by rw[Lib.byteCells_length,hLl];show _+2<=_;omega) hBa).mono ?_;rintro e w2 ⟨rfl,h2,hbB,hapB⟩;have d0:=Ds hapB hbr (by decide) 0;have d1:=Ds hapB hbr (by decide) 1;have d2:=Ds hapB hbr (by decide) 2;have d3:=Ds hapB hbr (by decide) 3;rw[Lib.strCells_eq,←CR]at h2)
     |(go_at_call 126;refine(hti _ _ _ (.inr h2) (hpvB _ (hb2.trans hbB)) (by rw[zf0z,hLl];show _+2+_+_<=_;omega) (zf4z hBa hbB.size) (hW.below (hb2.trans hbB))).mono ?_;rintro e w3 ⟨rfl,h3,hb3,hap3⟩))
    go_roundw
    case rel=>exact⟨i+1,by go_num,by omega,by rw[htx,←zf2z,if_neg h0,←zf2z];simpa using h3,(hb2.trans hbB).trans hb3,(ha2.trans hapB).trans hap3⟩
    case measure=>simp[intOf];omega
  .have ZG:i=ts.length:=by omega
   subst ZG;rw[List.take_of_length_le (Nat.le_refl _)]at hbd;have hLl:(l++(tn.data.toList++[40])++Av true ts).length=l.length+tn.size+1+(Av true ts).length:=by simp[hts];omega
   go_wp2_with (go_at_call 217;refine(Tryz.bldWriteByte B b _ _ _ (.inr hbd) (by rw[Lib.byteCells_length,hLl];omega) (zf4z hBw hbel.size)).mono ?_;rintro e w2 ⟨rfl,h2,hbB,hapB⟩)
   go_end0
   refine⟨rfl,?_,hbel.trans hbB,hapt.trans hapB⟩;have e3:Lib.byteCells (l++(tn.data.toList++[40])++Av true ts)++[Value.int .u8 41]=Lib.byteCells (l++(tn.data.toList++40::(Av true ts++[41]))):=by
    rw[show ([Value.int .u8 41]:List Value)=Lib.byteCells [41] from rfl,←CR];congr 1;simp
   rw[e3]at h2;exact h2
theorem cQ{t:Tm}:∀{ts:List Tm},t∈ts->Tb ts=true->Ta t=true
 |u::ts,h,hw=>by
  simp only[Tb,Bool.and_eq_true]at hw;rcases zf8z.1 h with rfl|h
  .exact hw.1
  .exact cQ h hw.2
theorem WK{t:Tm}:∀{ts:List Tm},t∈ts->t.size<=Tm.sizes ts
 |u::ts,h=>by
  simp only[Tm.sizes];rcases zf8z.1 h with rfl|h
  .omega
  .have:=WK h;omega
theorem WI:∀ts:List Tm,ts.length<=Tm.sizes ts
 | []=>Nat.zero_le _
 |t::ts=>by
  have:=WI ts;have h0:0<t.size:=t.size_pos;simp only[Tm.sizes,zf3z];omega
theorem lG{w:World}{ok:Nat->Nat->Prop}{b o:Nat}{ts:List Tm}(hp:Jn w ok 4 b o (G8 ts)){j:Nat}{t:Tm}(hj:ts[j]?=some t) :
  ∃us:Array Value,us.size=4/\ok b (o+j*4)/\(∀c,c<4->w.cell? ⟨b,o+j*4+c,none⟩=us[c]?)/\PV w ok (U6 t) (.agg us):=by
 have hj':(G8 ts)[j]?=some (U6 t):=by rw[m8,List.getElem?_map,hj];rfl
 obtain⟨p1,p2⟩:=IM hp hj';obtain⟨k,n,s,m,l⟩:=t;simp only[U6,AV.cells]at p2;obtain⟨u0,a0,b0,c0,d0⟩:=Af p2 (j:=0) rfl;obtain⟨u1,a1,b1,c1,d1⟩:=Af p2 (j:=1) rfl;obtain⟨u2,a2,b2,c2,d2⟩:=Af p2 (j:=2) rfl;obtain⟨u3,a3,b3,c3,d3⟩:=Af p2 (j:=3) rfl;refine⟨#[u0,u1,u2,u3],rfl,a0,λc hc=>?_,?_⟩
 .match c,hc with
  |0,_=>exact b0
  |1,_=>exact b1
  |2,_=>exact b2
  |3,_=>exact b3
 .simp only[U6,PV,Aj];refine⟨_,rfl,λu hu=>?_,u0,_,rfl,by simpa[PV]using d0,u1,_,rfl,by simpa[PV]using d1,u2,_,rfl,by simpa[PV]using d2,u3,_,rfl,d3,rfl⟩;simp only[zf8z,List.not_mem_nil,or_false]at hu;rcases hu with rfl|rfl|rfl|rfl<;>assumption
theorem wtx_var(n:ByteArray)(s:Int)(m:Bool×Bool)(l:List Tm):Km (.mk 1 n s m l)=63::n.data.toList++(if s=0 then []else 58::Y8 s):=by simp[Km]
theorem wtx_atom(n:ByteArray)(s:Int)(m:Bool×Bool)(l:List Tm):Km (.mk 2 n s m l)=n.data.toList++58::Y8 s:=by simp[Km]
theorem wtx_app{k:Int}(h1:k≠1)(h2:k≠2)(n:ByteArray)(s:Int)(m:Bool×Bool)(l:List Tm):Km (.mk k n s m l)=n.data.toList++40::(Av true l++[41]):=by simp[Km,h1,h2]
theorem Tryz.write_ok(B b:Nat):∀(N:Nat) (t:Tm),t.size<=N->t.size<=1048576->Ta t=true->∀(l:List UInt8) (w:World) (vt:Value),Lib.IsBuilder 196 5 B b (Lib.byteCells l) w->PV w (λx _=>x<B) (U6 t) vt->l.length+(Km t).length+100<=140737488355328->B<=w.heap.size->Hf B w ->
  Calls Tryz.prog 126 #[.pointer (some ⟨b,0,none⟩),vt] w λe w'=>e=.returned (.tuple #[])/\(Lib.BuilderAt 196 5 B b (.pointer (some ⟨b,0,none⟩)) (Lib.byteCells (l++Km t)) w'/\Below B w w'/\Apart 5 b w w'):=by
 intro N
 induction N with
 |zero =>
  intro t ht;have:=t.size_pos;omega
 |succ N ih =>
  intro t ht Y3 T9 l w vt hb hpv J3 hBw hW;obtain⟨k,n,s,m,ts⟩:=t;obtain⟨a,len,cap,rfl,rfl,LN⟩:=NJ hpv;simp only[Tm.size]at ht Y3;have hts:n.data.toList.length=n.size:=by simp
  have hbl:(Lib.byteCells l).length=l.length:=Lib.byteCells_length l;by_cases h1:k=1
  .subst h1;have hs:0<=s/\s<=5:=by simpa[Ta]using T9
   rw[wtx_var]at J3 ⊢;simp only[zf0z,zf3z]at J3;by_cases h0:s=0
   .subst h0;refine(Tryz.write_var_any B b _ n _ w hb (by omega) hBw).mono ?_;rintro e w' ⟨he,h2,h3,h4⟩;refine⟨he,?_,h3,h4⟩;rw[if_pos rfl,zf5z,CR];rw[show Lib.strCells (⟨#[63]⟩++n)=Lib.byteCells (63::n.data.toList) from by rw[Lib.strCells_eq];congr 1]at h2;exact h2
   .refine(Tryz.write_var B b _ n s _ w hb (by omega) (by omega) hBw hW).mono ?_;rintro e w' ⟨he,h2,h3,h4⟩;refine⟨he,?_,h3,h4⟩;rw[if_neg h0,CR];exact h2
  .by_cases h2:k=2
   .subst h2;have hs:0<=s/\s<=5:=by simpa[Ta]using T9
    rw[wtx_atom]at J3 ⊢;simp only[zf0z,zf3z]at J3;have hc:s=0\/s=1\/s=2\/s=3\/s=4\/s=5:=by omega
    rw[CR];rcases hc with rfl|rfl|rfl|rfl|rfl|rfl
    .exact Tryz.write_atom0 B b _ n _ w hb (by omega) hBw hW
    .exact Tryz.write_atom1 B b _ n _ w hb (by omega) hBw hW
    .exact Tryz.write_atom2 B b _ n _ w hb (by omega) hBw hW
    .exact Tryz.write_atom3 B b _ n _ w hb (by omega) hBw hW
    .exact Tryz.write_atom4 B b _ n _ w hb (by omega) hBw hW
    .exact Tryz.write_atom5 B b _ n _ w hb (by omega) hBw hW
   .rw[wtx_app h1 h2]at J3 ⊢;have hoks:Tb ts=true:=by simpa[Ta,h1,h2]using T9
    refine Tryz.write_app B b l k s n ts a cap w hb h1 h2 J3 hBw hW (by have:=WI ts;omega) (λj t hj=>?_) λt ht' l' w' vt' g1 g2 g3 g4 g5=>?_
    .have s9:ts≠[]:=λe=>by rw[e]at hj;simp at hj
     obtain⟨kb,ko,rfl,hp⟩:=LN s9;obtain⟨us,q1,q2,q3,q4⟩:=lG hp hj;exact⟨kb,ko,us,rfl,q2,q1,q3,q4⟩
    .have:=WK ht';exact ih t (by omega) (by omega) (cQ ht' hoks) l' w' vt' g1 g2 g3 g4 g5
end Go.Proofs
