/- A part of the proof. -/
import Derived.Test.YtohjdamplbhdpaaGreatDoorSG11
import Derived.Test.YtohjdamplbhdpaaGreatDoorSG12
import Derived.Test.YtohjdamplbhdpaaGreatDoorRows
import Derived.KernelRfl
import Derived.Shelf.SlSortCmp.NoneTotal
import Derived.Lib.Strings
set_option linter.all false
open List renaming getElem?_eq_getElem->xk,mem_append_right->xl,mem_append_left->xm,mem_flatMap->xo,mem_range->xp,mem_map->xq,range->xr
open Array renaming ext_getElem?->xn
namespace Go.Abs.Q
open Go.Proofs
noncomputable def BD (f:FuncId):Option RFunc:=if wi f then none else Vy Tryz.prog G7 f
theorem Qt:BD EY=some HE:=by kernel_rfl
theorem Sb:BD Fj=some LV:=by kernel_rfl
theorem PL:BD Ar=some HZ:=by kernel_rfl
theorem R3:BD DL=some D8:=by kernel_rfl
theorem QD:BD A8=some Ip:=by kernel_rfl
theorem QC:BD AN=some In:=by kernel_rfl
theorem Tb:BD DX=some Mu:=by kernel_rfl
theorem Ia:BD S3=some d6:=by kernel_rfl
theorem Sd:BD x7=some Q7:=by kernel_rfl
theorem Sc:BD CR=some CZ:=by kernel_rfl
theorem OJ:BD U6=some EC:=by kernel_rfl
theorem Mh:BD P7=some Ca:=by kernel_rfl
end Go.Abs.Q
namespace Go.Abs
def C8 (r:Option (Ex×St)) (Ψ:Ex->Fr->AH->Prop):Prop:=match r with|some (e,fr,h)=>Ψ e fr h|none=>False
@[congr] theorem mE {r r':Option (Ex×St)} {Ψ:Ex->Fr->AH->Prop} (h:r=r'):C8 r Ψ=C8 r' Ψ:=by rw[h]
@[simp] theorem om (e:Ex) (fr:Fr) (h:AH) (Ψ:Ex->Fr->AH->Prop):C8 (some (e,fr,h)) Ψ=Ψ e fr h:=_root_.id rfl
def SQ (O:Orc) (c:Ctx) (y:RCode) (Ψ:Ex->Fr->AH->Prop):Ex->Fr->AH->Prop
 | .normal,fr,h=>C8 (A1 O c y (fr,h)) Ψ
 |e,fr,h=>Ψ e fr h
section
variable (O:Orc) (c:Ctx) (y:RCode) (Ψ:Ex->Fr->AH->Prop)
@[simp] theorem xb (fr:Fr) (h:AH):SQ O c y Ψ .normal fr h=C8 (A1 O c y (fr,h)) Ψ:=_root_.id rfl
@[simp] theorem xc (fr:Fr) (h:AH):SQ O c y Ψ .ret fr h=Ψ .ret fr h:=_root_.id rfl
@[simp] theorem xa (i:Nat) (fr:Fr) (h:AH):SQ O c y Ψ (.exit i) fr h=Ψ (.exit i) fr h:=_root_.id rfl
@[simp] theorem qQ (r:Option (Ex×St)):C8 (lz r O c y) Ψ=C8 r (SQ O c y Ψ):=by
 cases r with
 |none=>rfl
 |some x=>obtain⟨e,fr,h⟩:=x;cases e<;>rfl
end
def BL (id:Nat) (Ψ:Ex->Fr->AH->Prop):Ex->Fr->AH->Prop
 | .exit i,fr,h=>if i=id then Ψ .normal fr h else Ψ (.exit i) fr h
 |e,fr,h=>Ψ e fr h
@[simp] theorem xY (id:Nat) (Ψ:Ex->Fr->AH->Prop) (fr:Fr) (h:AH):BL id Ψ .normal fr h=Ψ .normal fr h:=_root_.id rfl
@[simp] theorem xZ (id:Nat) (Ψ:Ex->Fr->AH->Prop) (fr:Fr) (h:AH):BL id Ψ .ret fr h=Ψ .ret fr h:=_root_.id rfl
@[simp] theorem xX (id i:Nat) (Ψ:Ex->Fr->AH->Prop) (fr:Fr) (h:AH):BL id Ψ (.exit i) fr h=if i=id then Ψ .normal fr h else Ψ (.exit i) fr h:=_root_.id rfl
@[simp] theorem qP (id:Nat) (r:Option (Ex×St)) (Ψ:Ex->Fr->AH->Prop):C8 (kI id r) Ψ=C8 r (BL id Ψ):=by
 cases r with
 |none=>rfl
 |some x =>
  obtain⟨e,fr,h⟩:=x;cases e with
  |exit i =>
   by_cases hi:i=id
   .subst hi;simp[kI,BL]
   .simp[kI,BL,hi]
  |_=>rfl
theorem C8.mono {r:Option (Ex×St)} {Φ Ψ:Ex->Fr->AH->Prop} (h:C8 r Φ) (k:∀e fr h,Φ e fr h->Ψ e fr h):C8 r Ψ:=by
 cases r with
 |none=>exact h.elim
 |some x=>exact k _ _ _ h
theorem C8.elim' {r:Option (Ex×St)} {Φ:Ex->Fr->AH->Prop} (h:C8 r Φ):∃e fr h',r=some (e,fr,h')/\Φ e fr h':=by
 cases r with
 |none=>exact h.elim
 |some x=>exact⟨_,_,_,rfl,h⟩
theorem OT {step:St->Option (Ex×St)} {Ψ:Ex->Fr->AH->Prop} (Inv:Nat->Fr->AH->Prop)
  (H:∀n fr h,Inv n fr h->C8 (step (fr,h)) λe D4 h'=>(e=.normal/\∃m,m<n/\Inv m D4 h')\/(e≠.normal/\Ψ e D4 h')) :
  ∀(n:Nat) (fr:Fr) (h:AH),Inv n fr h->C8 (lp step (fr,h)) Ψ:=by
 intro n
 induction n using Nat.strongRecOn with
 |_ n ih =>
  intro fr h hi;obtain⟨e,D4,h',he,hp⟩:=(H n fr h hi).elim';rcases hp with ⟨rfl,m,hm,BV⟩|⟨M5,hp⟩
  .obtain⟨e2,Cs,h2,he2,hp2⟩:=(ih m hm D4 h' BV).elim';rw[lm he he2];exact hp2
  .cases e with
   |normal=>exact absurd rfl M5
   |exit i=>rw[bG he];exact hp
   |ret=>rw[gq he];exact hp
theorem Tg {α:Type} {step:St->Option (Ex×St)} {Ψ:Ex->Fr->AH->Prop} (all:List α) (Inv:List α->Fr->AH->Prop)
  (last:∀fr h,Inv all fr h->C8 (step (fr,h)) λe D4 h'=>e≠.normal/\Ψ e D4 h')
  (next:∀done x rest,done++x::rest=all->∀fr h,Inv done fr h->C8 (step (fr,h)) λe D4 h'=>(e=.normal/\Inv (done++[x]) D4 h')\/(e≠.normal/\Ψ e D4 h')) :
  ∀(fr:Fr) (h:AH),Inv [] fr h->C8 (lp step (fr,h)) Ψ:=by
 intro fr h hi;refine OT (λn fr h=>∃done rest,done++rest=all/\rest.length=n/\Inv done fr h) (λn fr h ⟨done,rest,he,hn,hi⟩=>?_) all.length fr h ⟨[],all,rfl,rfl,hi⟩;cases rest with
 |nil =>
  rw[List.append_nil]at he;subst he;exact(last fr h hi).mono λe D4 h' hp=>.inr hp
 |cons x rest =>
  refine(next done x rest he fr h hi).mono λe D4 h' hp=>?_
  rcases hp with ⟨h1,h2⟩|hp
  .exact .inl ⟨h1,rest.length,by simp at hn;omega,done++[x],rest,by simpa using he,rfl,h2⟩
  .exact .inr hp
def jP (rs:List RRes) (r:AV):Ex->Fr->AH->Prop
 | .exit _,_,_=>False
 |_,fr,h=>fin rs fr h=some r
@[simp] theorem wu (rs:List RRes) (r:AV) (fr:Fr) (h:AH):jP rs r .normal fr h=(fin rs fr h=some r):=_root_.id rfl
@[simp] theorem wv (rs:List RRes) (r:AV) (fr:Fr) (h:AH):jP rs r .ret fr h=(fin rs fr h=some r):=_root_.id rfl
theorem kr {C:Cfg} {f:FuncId} {rf:RFunc} {args:E6} {r:AV} (hs:C.spec f=none) (hc:C.code f=some rf) (hl:args.length<=rf.ntmps)
  (H:∀fr:Fr,fr.length=rf.ntmps->(∀i,A0 fr i=args.getD i A9)->C8 (A1 (Q8 C) (C.ctx f) rf.body (fr,⟨[],[]⟩)) (jP rf.results r)):pc C f args=some r:=by
 refine iP hs hc hl λfr h1 h2=>?_;obtain⟨e,D4,h',he,hp⟩:=(H fr h1 h2).elim';rw[he];cases e with
 |exit i=>exact hp.elim
 |normal=>exact hp
 |ret=>exact hp
def WY (rs:List RRes) (Φ:AV->AH->Prop):Ex->Fr->AH->Prop
 | .exit _,_,_=>False
 |_,fr,h=>∃vs,Jl fr h rs=some vs/\Φ (I1 vs) h
@[simp] theorem vQ (rs:List RRes) (Φ:AV->AH->Prop) (fr:Fr) (h:AH):WY rs Φ .normal fr h=(∃vs,Jl fr h rs=some vs/\Φ (I1 vs) h):=_root_.id rfl
@[simp] theorem vR (rs:List RRes) (Φ:AV->AH->Prop) (fr:Fr) (h:AH):WY rs Φ .ret fr h=(∃vs,Jl fr h rs=some vs/\Φ (I1 vs) h):=_root_.id rfl
theorem lK {C:Cfg} {f:FuncId} {rf:RFunc} {args:E6} {h:AH} {Φ:AV->AH->Prop} (hc:C.code f=some rf) (hl:args.length<=rf.ntmps)
  (H:∀fr:Fr,fr.length=rf.ntmps->(∀i,A0 fr i=args.getD i A9)->C8 (A1 (Q8 C) (C.ctx f) rf.body (fr,h)) (WY rf.results Φ)):∃v h',rc C f args h=some (v,h')/\Φ v h':=by
 obtain⟨hl',hlook⟩:=LA hl;obtain⟨e,D4,h',he,hp⟩:=(H _ hl' hlook).elim';have key:∃vs,Jl D4 h' rf.results=some vs/\Φ (I1 vs) h':=by
  cases e with
  |exit i=>exact hp.elim
  |normal=>exact hp
  |ret=>exact hp
 obtain⟨vs,hv,hΦ⟩:=key;refine⟨I1 vs,h',lx C ?_,hΦ⟩;unfold Na;simp only[hc];unfold KH;rw[he];cases e with
 |exit i=>exact hp.elim
 |normal=>simp only[hv];rfl
 |ret=>simp only[hv];rfl
def RCode.wr:RCode->List Nat
 | .region _ ops=>ops.filterMap (·.dst)
 | .seq a b=>a.wr++b.wr
 | .cond _ a b=>a.wr++b.wr
 | .block _ a=>a.wr
 | .loop a=>a.wr
 |_=>[]
def Kp (ws:List Nat) (fr D4:Fr):Prop:=D4.length=fr.length/\∀j,j∉ws->A0 D4 j=A0 fr j
theorem A5 {ws:List Nat} {fr D4:Fr} {v:AV} (K:Kp ws fr D4) (i:Nat) (h:A0 fr i=v) (d:i∉ws:=by decide):A0 D4 i=v:=(K.2 i d).trans h
theorem Kp.refl (ws:List Nat) (fr:Fr):Kp ws fr fr:=⟨rfl,λ_ _=>rfl⟩
theorem Kp.trans {ws:List Nat} {a b c:Fr} (h:Kp ws a b) (k:Kp ws b c):Kp ws a c:=⟨k.1.trans h.1,λj hj=>(k.2 j hj).trans (h.2 j hj)⟩
theorem Kp.mono {ws ws':List Nat} {a b:Fr} (h:Kp ws a b) (hs:∀j,j∈ws->j∈ws'):Kp ws' a b:=⟨h.1,λj hj=>h.2 j λk=>hj (hs j k)⟩
theorem Kp.put (fr:Fr) (d:Option Nat) (v:AV) {ws:List Nat} (hd:∀x,d=some x->x∈ws):Kp ws fr (put fr d v):=by
 cases d with
 |none=>exact Kp.refl _ _
 |some d =>
  refine⟨by simp,λj hj=>?_⟩;have M5:d≠j:=λe=>hj (e ▸ hd d rfl);simp[D0 fr v M5]
section
variable {C:Cfg} {c:Ctx}
theorem SN {O:Orc}:∀{I6:List RO} {fr:Fr} {h:AH} {x:Fr×AH} {ws:List Nat},(∀j,j∈I6.filterMap (·.dst)->j∈ws)->J2 O c I6 fr h=some x->Kp ws fr x.1
 | [],fr,h,x,ws,_,he=>by
  simp only[J2]at he;cases he;exact Kp.refl _ _
 |o::I6,fr,h,x,ws,hs,he=>by
  have h1:∀y,o.dst=some y->y∈ws:=λy hy=>hs y (by simp[hy]);have h2:∀j,j∈I6.filterMap (·.dst)->j∈ws:=λj hj=>hs j (by
   rw[List.filterMap_cons];split
   .exact hj
   .exact List.mem_cons_of_mem _ hj)
  simp only[J2]at he;cases hw:DO fr o.guard with
  |none=>rw[hw]at he;cases he
  |some b =>
   rw[hw]at he;cases b with
   |false=>exact(Kp.put fr o.dst _ h1).trans (SN h2 he)
   |true =>
    dsimp only at he;cases Ad:A2 O c o.op fr h with
    |none=>rw[Ad]at he;cases he
    |some y =>
     rw[Ad]at he;exact(Kp.put fr o.dst _ h1).trans (SN h2 he)
theorem UQ {step:St->Option (Ex×St)} {ws:List Nat} (hs:∀s x,step s=some x->Kp ws s.1 x.2.1):∀(n:Nat) (s:St) (x:Ex×St),IM step n s=some x->Kp ws s.1 x.2.1
 |0,s,x,he=>by simp[IM]at he
 |n+1,s,x,he=>by
  simp only[IM]at he;cases h1:step s with
  |none=>rw[h1]at he;cases he
  |some y =>
   rw[h1]at he;have k:=hs s y h1;obtain⟨e,s'⟩:=y;cases e with
   |normal=>exact k.trans (UQ hs n s' x he)
   |exit id=>cases he;exact k
   |ret=>cases he;exact k
theorem cj:∀(rc:RCode) (s:St) (x:Ex×St),A1 (Q8 C) c rc s=some x->Kp rc.wr s.1 x.2.1:=by
 intro rc
 induction rc with
 |skip=>intro s x he;cases he;exact Kp.refl _ _
 |region d I6 =>
  intro s x he;simp only[A1]at he;cases hs:J2 (Q8 C) c I6 s.1 s.2 with
  |none=>rw[hs]at he;cases he
  |some y =>
   rw[hs]at he;cases he;exact SN (λj hj=>hj) hs
 |seq a b iha ihb =>
  intro s x he;simp only[A1]at he;cases hs:A1 (Q8 C) c a s with
  |none=>rw[hs]at he;cases he
  |some y =>
   rw[hs]at he;have k:=(iha s y hs).mono (ws':=(RCode.seq a b).wr) λj hj=>xm _ hj;obtain⟨e,s'⟩:=y;cases e with
   |normal=>exact k.trans ((ihb _ _ he).mono λj hj=>xl _ hj)
   |exit id=>cases he;exact k
   |ret=>cases he;exact k
 |cond q a b iha ihb =>
  intro s x he;simp only[A1]at he;split at he
  .exact(iha _ _ he).mono λj hj=>xm _ hj
  .exact(ihb _ _ he).mono λj hj=>xl _ hj
  .cases he
 |block id a ih =>
  intro s x he;simp only[A1]at he;cases hs:A1 (Q8 C) c a s with
  |none=>rw[hs]at he;cases he
  |some y =>
   rw[hs]at he;have k:=ih s y hs;obtain⟨e,s'⟩:=y;cases e with
   |normal=>cases he;exact k
   |exit i =>
    simp only at he;split at he<;>cases he<;>exact k
   |ret=>cases he;exact k
 |loop a ih =>
  intro s x he;obtain⟨n,hn⟩:=Va he;exact UQ ih n s x hn
 |exit id=>intro s x he;cases he;exact Kp.refl _ _
 |ret=>intro s x he;cases he;exact Kp.refl _ _
 |bad=>intro s x he;cases he
theorem cB {rc:RCode} {ws:List Nat} (hw:rc.wr=ws) {fr:Fr} {h:AH} {Ψ:Ex->Fr->AH->Prop} (H:C8 (A1 (Q8 C) c rc (fr,h)) Ψ):C8 (A1 (Q8 C) c rc (fr,h)) λe D4 h'=>Kp ws fr D4/\Ψ e D4 h':=by
 subst hw;obtain⟨e,D4,h',he,hp⟩:=H.elim';have k:=cj rc _ _ he;rw[he];exact⟨k,hp⟩
theorem fH {body:RCode} {Ψ:Ex->Fr->AH->Prop} {ws:List Nat} (hw:body.wr=ws) (fr0:Fr) (Inv:Nat->Fr->AH->Prop)
  (H:∀n fr h,Kp ws fr0 fr->Inv n fr h->C8 (A1 (Q8 C) c body (fr,h)) λe D4 h'=>(e=.normal/\∃m,m<n/\Inv m D4 h')\/(e≠.normal/\Ψ e D4 h'))
  (n:Nat) (h:AH) (hi:Inv n fr0 h):C8 (lp (A1 (Q8 C) c body) (fr0,h)) λe D4 h'=>Kp ws fr0 D4/\Ψ e D4 h':=by
 refine OT (λn fr h=>Kp ws fr0 fr/\Inv n fr h) (λn fr h ⟨k,hi⟩=>?_) n fr0 h ⟨Kp.refl _ _,hi⟩;refine(cB hw (H n fr h k hi)).mono λe D4 h' ⟨k',hp⟩=>?_;rcases hp with ⟨h1,m,h2,h3⟩|⟨h1,h2⟩
 .exact .inl ⟨h1,m,h2,k.trans k',h3⟩
 .exact .inr ⟨h1,k.trans k',h2⟩
end
theorem O4 {n:Nat} {I J:Nat->Fr->AH->Prop} {fr:Fr} {h:AH} (hJ:∀n fr h,I n fr h->J n fr h) (hi:I (n-1) fr h) (h0:n-1<n:=by omega):∃m,m<n/\J m fr h:=⟨n-1,h0,hJ _ _ _ hi⟩
theorem C3 {C:Cfg} {c:Ctx} {body:RCode} {Ψ:Ex->Fr->AH->Prop} {ws:List Nat} (hw:body.wr=ws) (fr0:Fr) (Inv:Nat->Fr->AH->Prop)
  (H:∀(J:Nat->Fr->AH->Prop) (Φ:Ex->Fr->AH->Prop),(∀n fr h,Inv n fr h->J n fr h)->(∀e fr h,Ψ e fr h->Φ e fr h)->∀n fr h,Kp ws fr0 fr->Inv n fr h ->
   C8 (A1 (Q8 C) c body (fr,h)) λe D4 h'=>(e=.normal/\∃m,m<n/\J m D4 h')\/(e≠.normal/\Φ e D4 h'))
  (n:Nat) (h:AH) (hi:Inv n fr0 h):C8 (lp (A1 (Q8 C) c body) (fr0,h)) λe D4 h'=>Kp ws fr0 D4/\Ψ e D4 h' :=
 fH hw fr0 Inv (H Inv Ψ (λ_ _ _ h=>h) (λ_ _ _ h=>h)) n h hi
def Yz (rs:List RRes) (Φ:AV->Prop):Ex->Fr->AH->Prop
 | .exit _,_,_=>False
 |_,fr,h=>∃r,fin rs fr h=some r/\Φ r
@[simp] theorem vN (rs:List RRes) (Φ:AV->Prop) (fr:Fr) (h:AH):Yz rs Φ .normal fr h=(∃r,fin rs fr h=some r/\Φ r):=_root_.id rfl
@[simp] theorem vO (rs:List RRes) (Φ:AV->Prop) (fr:Fr) (h:AH):Yz rs Φ .ret fr h=(∃r,fin rs fr h=some r/\Φ r):=_root_.id rfl
theorem Xr {C:Cfg} {f:FuncId} {rf:RFunc} {args:E6} {Φ:AV->Prop} (hs:C.spec f=none) (hc:C.code f=some rf) (hl:args.length<=rf.ntmps)
  (H:∀fr:Fr,fr.length=rf.ntmps->(∀i,A0 fr i=args.getD i A9)->C8 (A1 (Q8 C) (C.ctx f) rf.body (fr,⟨[],[]⟩)) (Yz rf.results Φ)):∃r,pc C f args=some r/\Φ r:=by
 obtain⟨hl',hlook⟩:=LA hl;obtain⟨e,D4,h',he,hp⟩:=(H _ hl' hlook).elim';have key:∃r,fin rf.results D4 h'=some r/\Φ r:=by
  cases e with
  |exit i=>exact hp.elim
  |normal=>exact hp
  |ret=>exact hp
 obtain⟨r,hr,hΦ⟩:=key;refine⟨r,iP hs hc hl λfr h1 h2=>?_,hΦ⟩;have hfr:fr=Dy rf args:=by
  apply List.ext_getElem (h1.trans hl'.symm);intro i g1 g2;have a:=h2 i;have b:=hlook i;simp only[A0,List.getD,xk g1,xk g2,Option.getD_some]at a b;exact a.trans b.symm
 subst hfr;rw[he];cases e with
 |exit i=>exact hp.elim
 |normal=>exact hr
 |ret=>exact hr
theorem LH {C:Cfg} {f:FuncId} {rf:RFunc} {args:E6} {Φ:AV->Prop} (hs:C.spec f=none) (hc:C.code f=some rf) (hl:args.length<=rf.ntmps)
  (H:∀Ψ:AV->Prop,(∀r,Φ r->Ψ r)->∀fr:Fr,fr.length=rf.ntmps->(∀i,A0 fr i=args.getD i A9)->C8 (A1 (Q8 C) (C.ctx f) rf.body (fr,⟨[],[]⟩)) (Yz rf.results Ψ)):∃r,pc C f args=some r/\Φ r :=
 Xr hs hc hl (H Φ λ_ h=>h)
@[simp] theorem th (h:AH) (k:IntKind) (n:Int):tame h (.int k n)=true:=_root_.id rfl
@[simp] theorem qK (h:AH) (b:Bool):tame h (.bool b)=true:=_root_.id rfl
@[simp] theorem ti (h:AH) (s:H7):tame h (.str s)=true:=_root_.id rfl
@[simp] theorem tf (h:AH) (cs:E6):tame h (.agg cs)=cs.all (GQ h):=_root_.id rfl
@[simp] theorem qI (h:AH) (k:IntKind) (n:Int):GQ h (.int k n)=true:=_root_.id rfl
@[simp] theorem og (h:AH) (b:Bool):GQ h (.bool b)=true:=_root_.id rfl
@[simp] theorem qJ (h:AH) (s:H7):GQ h (.str s)=true:=_root_.id rfl
@[simp] theorem vL (h:AH) (f:Bool) (sz:Nat) (xs:E6):tame h (.vs f sz xs)=true:=_root_.id rfl
@[simp] theorem td (h:AH) (f:Bool) (sz:Nat) (xs:E6):GQ h (.vs f sz xs)=true:=_root_.id rfl
@[simp] theorem nC (k n off len:Nat):(AV.sl k n off len).isTup=false:=_root_.id rfl
@[simp] theorem mX (k n off len:Nat):(AV.sl k n off len).cells=[.sl k n off len]:=_root_.id rfl
@[simp] theorem pl (b off:Nat):(AV.ptr b off).isTup=false:=_root_.id rfl
@[simp] theorem ov (b off:Nat):(AV.ptr b off).cells=[.ptr b off]:=_root_.id rfl
@[simp] theorem ry (f:Bool) (sz:Nat) (xs:E6):(AV.vs f sz xs).isTup=false:=_root_.id rfl
@[simp] theorem qy (f:Bool) (sz:Nat) (xs:E6):(AV.vs f sz xs).cells=[.vs f sz xs]:=_root_.id rfl
end Go.Abs
namespace Go.Abs
open Go.RowKit (Below)
open Go.Proofs (ltOf CmpLays sortWorldK)
def VH (O:Orc) (g:FuncId) (caps xs:List AV) (i j:Nat):Int :=
 match O.pure g ([xs.getD i A9,xs.getD j A9]++caps)with|some (.int .i64 c)=>c|_=>0
def W1 (n i:Nat):Nat:=if i<n then i else 0
def cc (O:Orc) (g:FuncId) (caps xs:List AV) (i j:Nat):Int:=VH O g caps xs (W1 xs.length i) (W1 xs.length j)
structure SortOk (O:Orc) (g:FuncId) (caps xs:List AV):Prop where
 ans:∀i j,i<xs.length->j<xs.length->∃c,O.pure g ([xs.getD i A9,xs.getD j A9]++caps)=some (.int .i64 c)
 swo:Go.Sort.SWO (ltOf (cc O g caps xs))
def CT (O:Orc) (g:FuncId) (caps xs:List AV):Array Nat:=Go.Sort.pdq (ltOf (cc O g caps xs)) (Array.range xs.length) 0 xs.length (Lib.bitLen xs.length) true true
def AV.isAgg:AV->Bool
 | .agg _=>true
 |_=>false
open Classical in
noncomputable def HD (K:Nat) (O:Orc) (args:List AV) (h:AH):Option (AV×AH) :=
 match args with
 | [.sl k n off len,.fn g caps] =>
  match h.fams[k]? with
  |some f =>
   if f.xs.length=n/\off=0/\len=n/\0<n/\n<4611686018427387904/\f.wr=true/\f.sz=K/\caps.all AV.flat=true/\f.xs.all AV.isAgg=true/\SortOk O g caps f.xs then
    some (A9,{h with fams:=h.fams.set k {f with xs:=(CT O g caps f.xs).toList.map λi=>f.xs.getD i A9}})
   else none
  |none=>none
 | [.vs _ _ xs,.fn _ _]=>if xs.length<=1 then some (A9,h)else none
 |_=>none
theorem FY {n i:Nat} (hn:0<n):W1 n i<n:=by unfold W1;split<;>omega
theorem ir (K:Nat) (O:Orc) (args:E6) (h:AH) (x:AV×AH) (he:HD K O args h=some x) :
  ∃l:List (FuncId×List AV×AV),(∀p∈l,O.pure p.1 p.2.1=some p.2.2)/\∀O':Orc,(∀p∈l,O'.pure p.1 p.2.1=some p.2.2)->HD K O' args h=some x:=by
 unfold HD at he;split at he
 .rename_i k n off len g caps;split at he
  .rename_i f hf;split at he
   .rename_i hc;obtain⟨c1,c2,c3,c4,c5,c6,c7,c8,c9,AK⟩:=hc;have N7:0<f.xs.length:=by omega
    refine⟨(xr f.xs.length).flatMap λi=>(xr f.xs.length).map λj=>(g,[f.xs.getD i A9,f.xs.getD j A9]++caps,.int .i64 (VH O g caps f.xs i j)),?_,?_⟩
    .intro p hp;simp only[xo,xq,xp]at hp;obtain⟨i,hi,j,hj,rfl⟩:=hp;obtain⟨c,hc⟩:=AK.ans i j hi hj;simp only[VH,hc]
    .intro O' hO';have key:∀i j,i<f.xs.length->j<f.xs.length->O'.pure g ([f.xs.getD i A9,f.xs.getD j A9]++caps)=some (.int .i64 (VH O g caps f.xs i j)):=λi j hi hj =>
      hO' (g,[f.xs.getD i A9,f.xs.getD j A9]++caps,.int .i64 (VH O g caps f.xs i j)) (by
       simp only[xo,xq,xp];exact⟨i,hi,j,hj,rfl⟩)
     have hcf:cc O' g caps f.xs=cc O g caps f.xs:=by
      funext i j;show VH O' g caps f.xs _ _=_;unfold VH;rw[key _ _ (FY N7) (FY N7)];rfl
     have hok':SortOk O' g caps f.xs:=⟨λi j hi hj=>⟨_,key i j hi hj⟩,by rw[hcf];exact AK.swo⟩;unfold HD;simp only[hf];rw[if_pos ⟨c1,c2,c3,c4,c5,c6,c7,c8,c9,hok'⟩,←he];unfold CT;rw[hcf]
   .cases he
  .cases he
 .exact⟨[],λp hp=>by simp at hp,λO' _=>by unfold HD;exact he⟩
 .cases he
noncomputable def Up (K:Nat):RSpec:=⟨HD K,ir K⟩
theorem ZQ {w w':World} (h:Bl w.heap.size w w'):∃q os,w'=Go.Sort.grow (w.drewN q) os:=by
 refine⟨w'.drawn-w.drawn,w'.heap.extract w.heap.size w'.heap.size,?_⟩;obtain⟨⟨e1,e2,e3,e4,e5⟩,e6⟩:=h;have hh:w'.heap=w.heap++w'.heap.extract w.heap.size w'.heap.size:=by
  apply xn;intro k;by_cases hk:k<w.heap.size
  .rw[Array.getElem?_append_left hk,e5 k hk]
  .rw[Array.getElem?_append_right (by omega),Array.getElem?_extract];by_cases CH:k<w'.heap.size
   .rw[if_pos (by omega)];congr 1;omega
   .rw[if_neg (by omega),Array.getElem?_eq_none (by omega)]
 obtain⟨hp,tp,dr,os,ou⟩:=w';obtain⟨hp0,tp0,dr0,os0,ou0⟩:=w;simp only at e1 e2 e3 e4 e6 hh;subst e1 e2 e3;simp only[Go.Sort.grow,World.drewN];congr 1;omega
theorem QA {w:World} {blk off:Nat} {F cur:Array Value} {t:TypeId} (h:w.heap[blk]?=some (.cells cur t (0,0))) :
  Go.Sort.putRow id w blk off F=w.setRow blk (Go.Sort.putCells id off F cur):=by
 unfold Go.Sort.putRow Go.Sort.mapBlock World.setRow;congr 1;apply xn;intro k;simp only[Array.getElem?_modify];by_cases hk:blk=k
 .subst hk;rw[if_pos rfl,if_pos rfl,h];rfl
 .rw[if_neg hk,if_neg hk]
theorem VT {off:Nat} {F cur:Array Value} {k:Nat}:(Go.Sort.putCells id off F cur)[k]?=(cur[k]?).map λx=>if off<=k/\k<off+F.size then F[k-off]! else x:=by
 unfold Go.Sort.putCells;rw[Array.getElem?_mapIdx];rfl
theorem Td {off:Nat} {F cur:Array Value}:(Go.Sort.putCells id off F cur).size=cur.size:=by
 unfold Go.Sort.putCells;simp
end Go.Abs
namespace Go.Abs
def RSpec.of (run:List AV->AH->Option (AV×AH)):RSpec:=⟨λ_=>run,λ_ _ _ _ he=>⟨[],λ_ hp=>(nomatch hp),λ_ _=>he⟩⟩
def Ku (K bytes:Nat) (args:List AV) (h:AH):Option (AV×AH) :=
 match args with
 | [s,.int .i64 i,.vs _ z [x]] =>
  if z=K/\x.isAgg=true then
   match s with
   | .sl k n off len =>
    match h.fams[k]? with
    |some f =>
     if f.xs.length=n/\off=0/\len=n/\0<n/\f.wr=true/\f.sz=K/\0<=i/\i<=n/\(n+1)*bytes<=G4/\n+1<=maxLen then
      some (.sl k (n+1) 0 (n+1),{h with fams:=h.fams.set k {f with xs:=f.xs.take i.toNat++x::f.xs.drop i.toNat}})
     else none
    |none=>none
   | .vs true _ []=>if i=0/\bytes<=G4 then some (.sl h.fams.length 1 0 1,{h with fams:=h.fams++[⟨[x],K,true⟩]})else none
   |_=>none
  else none
 |_=>none
def dD (K bytes:Nat):RSpec:=.of (Ku K bytes)
def Ov (K bytes:Nat) (args:List AV) (h:AH):Option (AV×AH) :=
 match args with
 | [.vs true z [],i,x]=>Ku K bytes [.vs true z [],i,x] h
 |_=>none
def az (K bytes:Nat):RSpec:=.of (Ov K bytes)
def NJ (K bytes:Nat) (args:List AV) (h:AH):Option (AV×AH) :=
 match args with
 | [.vs true z [],.int .i64 n] =>
  if n=0 then some (.vs true z [],h)
  else if 0<n/\n*bytes<=G4/\n<=maxLen then some (.sl h.fams.length 0 0 0,{h with fams:=h.fams++[⟨[],K,false⟩]})
  else none
 |_=>none
def UL (K bytes:Nat):RSpec:=.of (NJ K bytes)
end Go.Abs
namespace Go.Abs.Q
open Go.Proofs
def Q9 (a b:ByteArray):Int:=if Op.bytesLess a.toList b.toList then -1 else if a.toList=b.toList then 0 else 1
def WC:List AV->Option AV
 | [.str a,.str b]=>some (.int .i64 (Q9 a b))
 |_=>none
def WD:List AV->Option AV
 | [.str a,.str b]=>match b.data.toList with | [c]=>some (.bool (a.data.toList.contains c))|_=>none
 |_=>none
def Lm (f:FuncId):Option (List AV->Option AV):=if f=U2 then some WC else if f=AP then some WD else none
noncomputable def Se (f:FuncId):Option RSpec:=if f=C9 then some (Up 4)else if f=L0 then some (dD 4 56)else if f=L9 then some (az 5 64)else if f=N1 then some (UL 4 56)else none
noncomputable def Q:Cfg:=⟨BD,G7,Lm,Se⟩
theorem Lw (f:FuncId):Q.code f=BD f:=by
 simp only[Q]
theorem Pa (f:FuncId):Q.spec f=Lm f:=by
 simp only[Q]
@[simp] theorem Ti (f:FuncId):Q.ctx f=G7 f:=by
 simp only[Q]
@[simp] theorem rF (f:FuncId):(G7 f).raw=C4:=_root_.id rfl
@[simp] theorem rC (f:FuncId):(G7 f).mutApp=TU f:=_root_.id rfl
@[simp] theorem pH (f:FuncId):(G7 f).rawv=GO f:=_root_.id rfl
@[simp] theorem rE (f:FuncId):(G7 f).noB=Bh:=_root_.id rfl
@[simp] theorem uN (f:FuncId):(G7 f).ro=ee f:=_root_.id rfl
theorem ba {f:FuncId} {s:List AV->Option AV} (h:Lm f=some s) {args:E6} {r:AV} (hr:s args=some r):pc Q f args=some r:=by
 apply ls;unfold JT;have e:Q.spec f=some s:=h;rw[e];exact hr
theorem nZ (a b:H7):pc Q U2 [.str a,.str b]=some (.int .i64 (Q9 a b)):=ba (s:=WC) rfl rfl
theorem nc (a:H7) (c:UInt8):pc Q AP [.str a,.str ⟨#[c]⟩]=some (.bool (a.data.toList.contains c)):=ba (s:=WD) rfl rfl
theorem JV {f:FuncId} {s:RSpec} (hc:BD f=none) (hs:Se f=some s) {args:E6} {h:AH} {x:AV×AH} (hr:s.run (Q8 Q) args h=some x):rc Q f args h=some x:=by
 apply lx;unfold Na;have e1:Q.code f=none:=(Lw f).trans hc;have e2:Q.rspec f=some s:=hs;rw[e1];simp only[e2];exact hr
theorem WM {f:FuncId} {rf:RFunc} {args:E6} {r:AV} (hc:BD f=some rf) (hs:Lm f=none) (hl:args.length<=rf.ntmps)
  (H:∀fr:Fr,fr.length=rf.ntmps->(∀i,A0 fr i=args.getD i A9)->C8 (A1 (Q8 Q) (G7 f) rf.body (fr,⟨[],[]⟩)) (jP rf.results r)):pc Q f args=some r :=
 kr (C:=Q) ((Pa f).trans hs) ((Lw f).trans hc) hl λfr h1 h2=>by
  rw[Ti];exact H fr h1 h2
theorem tJ {f:FuncId} {rf:RFunc} {args:E6} {h:AH} {Φ:AV->AH->Prop} (hc:BD f=some rf) (hl:args.length<=rf.ntmps)
  (H:∀fr:Fr,fr.length=rf.ntmps->(∀i,A0 fr i=args.getD i A9)->C8 (A1 (Q8 Q) (G7 f) rf.body (fr,h)) (WY rf.results Φ)):∃v h',rc Q f args h=some (v,h')/\Φ v h' :=
 lK (C:=Q) ((Lw f).trans hc) hl λfr h1 h2=>by
  rw[Ti];exact H fr h1 h2
theorem N4 {f:FuncId} (rf:RFunc) {a r:AV} (H:∀fr:Fr,fr.length=rf.ntmps->A0 fr 0=a->C8 (A1 (Q8 Q) (G7 f) rf.body (fr,⟨[],[]⟩)) (jP rf.results r)) (hl:1<=rf.ntmps:=by decide) (hs:Lm f=none:=by rfl) (hc:BD f=some rf:=by kernel_rfl):pc Q f [a]=some r:=
 WM hc hs hl λfr h1 h2=>H fr h1 (h2 0)
theorem Q6 {f:FuncId} (rf:RFunc) {a b r:AV} (H:∀fr:Fr,fr.length=rf.ntmps->A0 fr 0=a->A0 fr 1=b->C8 (A1 (Q8 Q) (G7 f) rf.body (fr,⟨[],[]⟩)) (jP rf.results r)) (hl:2<=rf.ntmps:=by decide) (hs:Lm f=none:=by rfl) (hc:BD f=some rf:=by kernel_rfl):pc Q f [a,b]=some r:=
 WM hc hs hl λfr h1 h2=>H fr h1 (h2 0) (h2 1)
theorem IW {f:FuncId} (rf:RFunc) {a b c r:AV} (H:∀fr:Fr,fr.length=rf.ntmps->A0 fr 0=a->A0 fr 1=b->A0 fr 2=c->C8 (A1 (Q8 Q) (G7 f) rf.body (fr,⟨[],[]⟩)) (jP rf.results r)) (hl:3<=rf.ntmps:=by decide) (hs:Lm f=none:=by rfl) (hc:BD f=some rf:=by kernel_rfl):pc Q f [a,b,c]=some r:=
 WM hc hs hl λfr h1 h2=>H fr h1 (h2 0) (h2 1) (h2 2)
theorem Jk {f:FuncId} (rf:RFunc) {a:AV} {Φ:AV->Prop} (H:∀Ψ:AV->Prop,(∀v,Φ v->Ψ v)->∀fr:Fr,fr.length=rf.ntmps->A0 fr 0=a->C8 (A1 (Q8 Q) (G7 f) rf.body (fr,⟨[],[]⟩)) (Yz rf.results Ψ)) (hl:1<=rf.ntmps:=by decide) (hs:Lm f=none:=by rfl) (hc:BD f=some rf:=by kernel_rfl):∃v,pc Q f [a]=some v/\Φ v:=
 LH (C:=Q) ((Pa _).trans hs) ((Lw _).trans hc) hl λΨ hΨ fr h1 h2=>by rw[Ti];exact H Ψ hΨ fr h1 (h2 0)
theorem Ta {f:FuncId} (rf:RFunc) {a b:AV} {Φ:AV->Prop} (H:∀Ψ:AV->Prop,(∀v,Φ v->Ψ v)->∀fr:Fr,fr.length=rf.ntmps->A0 fr 0=a->A0 fr 1=b->C8 (A1 (Q8 Q) (G7 f) rf.body (fr,⟨[],[]⟩)) (Yz rf.results Ψ)) (hl:2<=rf.ntmps:=by decide) (hs:Lm f=none:=by rfl) (hc:BD f=some rf:=by kernel_rfl):∃v,pc Q f [a,b]=some v/\Φ v:=
 LH (C:=Q) ((Pa _).trans hs) ((Lw _).trans hc) hl λΨ hΨ fr h1 h2=>by rw[Ti];exact H Ψ hΨ fr h1 (h2 0) (h2 1)
theorem YF {f:FuncId} (rf:RFunc) {a b c:AV} {Φ:AV->Prop} (H:∀Ψ:AV->Prop,(∀v,Φ v->Ψ v)->∀fr:Fr,fr.length=rf.ntmps->A0 fr 0=a->A0 fr 1=b->A0 fr 2=c->C8 (A1 (Q8 Q) (G7 f) rf.body (fr,⟨[],[]⟩)) (Yz rf.results Ψ)) (hl:3<=rf.ntmps:=by decide) (hs:Lm f=none:=by rfl) (hc:BD f=some rf:=by kernel_rfl):∃v,pc Q f [a,b,c]=some v/\Φ v:=
 LH (C:=Q) ((Pa _).trans hs) ((Lw _).trans hc) hl λΨ hΨ fr h1 h2=>by rw[Ti];exact H Ψ hΨ fr h1 (h2 0) (h2 1) (h2 2)
theorem YL {f:FuncId} (rf:RFunc) {a:AV} {h:AH} {Φ:AV->AH->Prop} (H:∀fr:Fr,fr.length=rf.ntmps->A0 fr 0=a->C8 (A1 (Q8 Q) (G7 f) rf.body (fr,h)) (WY rf.results Φ)) (hl:1<=rf.ntmps:=by decide) (hc:BD f=some rf:=by kernel_rfl):∃v h',rc Q f [a] h=some (v,h')/\Φ v h':=
 tJ hc hl λfr h1 h2=>H fr h1 (h2 0)
theorem FT {f:FuncId} (rf:RFunc) {a b:AV} {h:AH} {Φ:AV->AH->Prop} (H:∀fr:Fr,fr.length=rf.ntmps->A0 fr 0=a->A0 fr 1=b->C8 (A1 (Q8 Q) (G7 f) rf.body (fr,h)) (WY rf.results Φ)) (hl:2<=rf.ntmps:=by decide) (hc:BD f=some rf:=by kernel_rfl):∃v h',rc Q f [a,b] h=some (v,h')/\Φ v h':=
 tJ hc hl λfr h1 h2=>H fr h1 (h2 0) (h2 1)
theorem lI {f:FuncId} (rf:RFunc) {a b c:AV} {h:AH} {Φ:AV->AH->Prop} (H:∀fr:Fr,fr.length=rf.ntmps->A0 fr 0=a->A0 fr 1=b->A0 fr 2=c->C8 (A1 (Q8 Q) (G7 f) rf.body (fr,h)) (WY rf.results Φ)) (hl:3<=rf.ntmps:=by decide) (hc:BD f=some rf:=by kernel_rfl):∃v h',rc Q f [a,b,c] h=some (v,h')/\Φ v h':=
 tJ hc hl λfr h1 h2=>H fr h1 (h2 0) (h2 1) (h2 2)
end Go.Abs.Q
namespace Go.Abs.Q
attribute [local simp] D0 D1 fin I1 E7
def EU (a b:Int):Int:=if a<b then -1 else if b<a then 1 else 0
theorem NQ (a b:Int):pc Q DX [.int .i64 a,.int .i64 b]=some (.int .i64 (EU a b)):=by
 refine WM Tb rfl (by simp[Mu]) λfr hl ha=>?_;have h0:=ha 0;have h1:=ha 1;simp[Mu]at hl h0 h1 ⊢;by_cases h:a<b
 .simp[*,EU]
 .by_cases h':b<a<;>simp[*,EU]
theorem Gd (a b:Int):pc Q AN [.int .i64 a,.int .i64 b]=some (.int .i64 (EU a b)):=by
 refine WM QC rfl (by simp[In]) λfr hl ha=>?_;have h0:=ha 0;have h1:=ha 1;simp[In]at hl h0 h1 ⊢;by_cases h:a<b
 .simp[*,EU]
 .by_cases h':b<a<;>simp[*,EU]
theorem Vk:∀(n:Nat) (t:Tm),t.size<=n->t.size<=1099511627776->pc Q FN [B8 t]=some (.int .i64 t.size):=by
 intro n
 induction n with
 |zero=>intro t h;have:=t.size_pos;omega
 |succ n ih =>
  intro t hn hb;obtain⟨k,nm,s,m,kids⟩:=t;have K4:Tm.size (.mk k nm s m kids)=1+Tm.sizes kids:=rfl;refine N4 Qn λfr hl h0=>?_;simp[Qn,B8]at hl h0 ⊢;simp[*];refine(Tg (Ψ:=λe fr h=>e=.exit 0/\A0 fr 3=.int .i64 (1+Tm.sizes kids:Nat)/\fr.length=19) kids
   (λdone fr h=>fr.length=19/\A0 fr 3=.int .i64 (1+Tm.sizes done:Nat)/\A0 fr 7=sl m 4 (A3 kids)/\A0 fr 8=.int .i64 kids.length/\A0 fr 9=.int .i64 done.length) ?_ ?_ _ _ ?_).mono ?_
  .rintro fr h ⟨hl,h3,h7,h8,h9⟩;simp[Jw, *]
  .rintro done t rest he fr h ⟨hl,h3,h7,h8,h9⟩;have hget:IU (A3 kids) done.length=some (B8 t):=Fq (by rw[←he];simp);have A6:done.length<kids.length:=by rw[←he];simp
   have hts:t.size<=Tm.sizes kids:=Tm.size_le (by rw[←he];simp);have hT:=ih t (by omega) (by omega);have C2:=Tm.length_le kids;have vy:Tm.sizes done+(t.size+Tm.sizes rest)=Tm.sizes kids:=by rw[←he,Tm.sizes_append];rfl
   have hw1:IntKind.i64.wrap (1+(Tm.sizes done:Int)+(t.size:Int))=1+(Tm.sizes (done++[t]):Int):=by
    rw[Tm.sizes_append,M3 (by omega) (by omega)];simp only[Tm.sizes];omega
   have hw2:IntKind.i64.wrap ((done.length:Int)+1)=((done++[t]).length:Nat):=by
    rw[M3 (by omega) (by omega)];simp
   obtain⟨tk,tn,ts,tm,tl⟩:=t;simp only[B8]at hT hget;simp[Jw, *]
  .simp[*,Tm.sizes,D7]
  .rintro e fr h ⟨rfl,h3,hl⟩;simp[*]
end Go.Abs.Q
