/- A part of the proof. -/
import Derived.Test.YtohjdamplbhdpaaGreatDoorSK10
import Derived.Test.YtohjdamplbhdpaaGreatDoorRows
import Derived.KernelRfl
import Derived.Shelf.SlSortCmp.NoneTotal
import Derived.Lib.Strings
set_option linter.all false
open List renaming getElem?_eq_getElem->A0A,mem_append_right->A0B,mem_append_left->A0C,mem_flatMap->A0E,mem_range->A0F,mem_map->A0G,range->A0H
open Array renaming ext_getElem?->A0D
namespace Go.Abs.Q
open Go.Proofs
noncomputable def Aw (f:FuncId):Option RFunc:=if zG f then none else Yc Tryz.prog E5 f
theorem TY:Aw Ga=some Jf:=by kernel_rfl
theorem VF:Aw Fj=some OE:=by kernel_rfl
theorem Ro:Aw Bc=some KL:=by kernel_rfl
theorem Sd:Aw C2=some Lg:=by kernel_rfl
theorem Sc:Aw BB=some LZ:=by kernel_rfl
theorem Vw:Aw FI=some Pa:=by kernel_rfl
theorem LO:Aw U9=some t6:=by kernel_rfl
theorem VH:Aw Ad=some T1:=by kernel_rfl
theorem VG:Aw Dl=some Dr:=by kernel_rfl
theorem Qr:Aw W6=some GB:=by kernel_rfl
theorem Vv:Aw FF=some FT:=by kernel_rfl
theorem Ta:Aw Ca=some Gl:=by kernel_rfl
theorem TZ:Aw CZ=some Jg:=by kernel_rfl
theorem PM:Aw R7=some Ds:=by kernel_rfl
end Go.Abs.Q
namespace Go.Abs
def B9 (r:Option (Ex×St)) (Ψ:Ex->Fr->AH->Prop):Prop:=match r with|some (e,fr,h)=>Ψ e fr h|none=>False
@[congr] theorem qg {r r':Option (Ex×St)} {Ψ:Ex->Fr->AH->Prop} (h:r=r'):B9 r Ψ=B9 r' Ψ:=by rw[h]
@[simp] theorem si (e:Ex) (fr:Fr) (h:AH) (Ψ:Ex->Fr->AH->Prop):B9 (some (e,fr,h)) Ψ=Ψ e fr h:=_root_.id rfl
def SQ (O:Orc) (c:Ctx) (y:RCode) (Ψ:Ex->Fr->AH->Prop):Ex->Fr->AH->Prop
 | .normal,fr,h=>B9 (A3 O c y (fr,h)) Ψ
 |e,fr,h=>Ψ e fr h
section
variable (O:Orc) (c:Ctx) (y:RCode) (Ψ:Ex->Fr->AH->Prop)
@[simp] theorem zu (fr:Fr) (h:AH):SQ O c y Ψ .normal fr h=B9 (A3 O c y (fr,h)) Ψ:=_root_.id rfl
@[simp] theorem zw (fr:Fr) (h:AH):SQ O c y Ψ .ret fr h=Ψ .ret fr h:=_root_.id rfl
@[simp] theorem zt (i:Nat) (fr:Fr) (h:AH):SQ O c y Ψ (.exit i) fr h=Ψ (.exit i) fr h:=_root_.id rfl
@[simp] theorem uC (r:Option (Ex×St)):B9 (qY r O c y) Ψ=B9 r (SQ O c y Ψ):=by
 cases r with
 |none=>rfl
 |some x=>obtain⟨e,fr,h⟩:=x;cases e<;>rfl
end
def BL (id:Nat) (Ψ:Ex->Fr->AH->Prop):Ex->Fr->AH->Prop
 | .exit i,fr,h=>if i=id then Ψ .normal fr h else Ψ (.exit i) fr h
 |e,fr,h=>Ψ e fr h
@[simp] theorem zq (id:Nat) (Ψ:Ex->Fr->AH->Prop) (fr:Fr) (h:AH):BL id Ψ .normal fr h=Ψ .normal fr h:=_root_.id rfl
@[simp] theorem zr (id:Nat) (Ψ:Ex->Fr->AH->Prop) (fr:Fr) (h:AH):BL id Ψ .ret fr h=Ψ .ret fr h:=_root_.id rfl
@[simp] theorem zp (id i:Nat) (Ψ:Ex->Fr->AH->Prop) (fr:Fr) (h:AH):BL id Ψ (.exit i) fr h=if i=id then Ψ .normal fr h else Ψ (.exit i) fr h:=_root_.id rfl
@[simp] theorem uB (id:Nat) (r:Option (Ex×St)) (Ψ:Ex->Fr->AH->Prop):B9 (ny id r) Ψ=B9 r (BL id Ψ):=by
 cases r with
 |none=>rfl
 |some x =>
  obtain⟨e,fr,h⟩:=x;cases e with
  |exit i =>
   by_cases hi:i=id
   .subst hi;simp[ny,BL]
   .simp[ny,BL,hi]
  |_=>rfl
theorem B9.mono {r:Option (Ex×St)} {Φ Ψ:Ex->Fr->AH->Prop} (h:B9 r Φ) (k:∀e fr h,Φ e fr h->Ψ e fr h):B9 r Ψ:=by
 cases r with
 |none=>exact h.elim
 |some x=>exact k _ _ _ h
theorem B9.elim' {r:Option (Ex×St)} {Φ:Ex->Fr->AH->Prop} (h:B9 r Φ):∃e fr h',r=some (e,fr,h')/\Φ e fr h':=by
 cases r with
 |none=>exact h.elim
 |some x=>exact⟨_,_,_,rfl,h⟩
theorem NT {step:St->Option (Ex×St)} {Ψ:Ex->Fr->AH->Prop} (Inv:Nat->Fr->AH->Prop)
  (H:∀n fr h,Inv n fr h->B9 (step (fr,h)) λe C6 h'=>(e=.normal/\∃m,m<n/\Inv m C6 h')\/(e≠.normal/\Ψ e C6 h')) :
  ∀(n:Nat) (fr:Fr) (h:AH),Inv n fr h->B9 (lp step (fr,h)) Ψ:=by
 intro n
 induction n using Nat.strongRecOn with
 |_ n ih =>
  intro fr h hi;obtain⟨e,C6,h',he,hp⟩:=(H n fr h hi).elim';rcases hp with ⟨rfl,m,hm,CW⟩|⟨P1,hp⟩
  .obtain⟨e2,V8,h2,he2,hp2⟩:=(ih m hm C6 h' CW).elim';rw[qR he he2];exact hp2
  .cases e with
   |normal=>exact absurd rfl P1
   |exit i=>rw[fJ he];exact hp
   |ret=>rw[lO he];exact hp
theorem WB {α:Type} {step:St->Option (Ex×St)} {Ψ:Ex->Fr->AH->Prop} (all:List α) (Inv:List α->Fr->AH->Prop)
  (last:∀fr h,Inv all fr h->B9 (step (fr,h)) λe C6 h'=>e≠.normal/\Ψ e C6 h')
  (next:∀done x rest,done++x::rest=all->∀fr h,Inv done fr h->B9 (step (fr,h)) λe C6 h'=>(e=.normal/\Inv (done++[x]) C6 h')\/(e≠.normal/\Ψ e C6 h')) :
  ∀(fr:Fr) (h:AH),Inv [] fr h->B9 (lp step (fr,h)) Ψ:=by
 intro fr h hi;refine NT (λn fr h=>∃done rest,done++rest=all/\rest.length=n/\Inv done fr h) (λn fr h ⟨done,rest,he,hn,hi⟩=>?_) all.length fr h ⟨[],all,rfl,rfl,hi⟩;cases rest with
 |nil =>
  rw[List.append_nil]at he;subst he;exact(last fr h hi).mono λe C6 h' hp=>.inr hp
 |cons x rest =>
  refine(next done x rest he fr h hi).mono λe C6 h' hp=>?_
  rcases hp with ⟨h1,h2⟩|hp
  .exact .inl ⟨h1,rest.length,by simp at hn;omega,done++[x],rest,by simpa using he,rfl,h2⟩
  .exact .inr hp
def eN (rs:List RRes) (r:AV):Ex->Fr->AH->Prop
 | .exit _,_,_=>False
 |_,fr,h=>fin rs fr h=some r
@[simp] theorem zN (rs:List RRes) (r:AV) (fr:Fr) (h:AH):eN rs r .normal fr h=(fin rs fr h=some r):=_root_.id rfl
@[simp] theorem zO (rs:List RRes) (r:AV) (fr:Fr) (h:AH):eN rs r .ret fr h=(fin rs fr h=some r):=_root_.id rfl
theorem ox {C:Cfg} {f:FuncId} {rf:RFunc} {args:G1} {r:AV} (hs:C.spec f=none) (hc:C.code f=some rf) (hl:args.length<=rf.ntmps)
  (H:∀fr:Fr,fr.length=rf.ntmps->(∀i,A0 fr i=args.getD i C3)->B9 (A3 (L5 C) (C.ctx f) rf.body (fr,⟨[],[]⟩)) (eN rf.results r)):pc C f args=some r:=by
 refine mB hs hc hl λfr h1 h2=>?_;obtain⟨e,C6,h',he,hp⟩:=(H fr h1 h2).elim';rw[he];cases e with
 |exit i=>exact hp.elim
 |normal=>exact hp
 |ret=>exact hp
def ZF (rs:List RRes) (Φ:AV->AH->Prop):Ex->Fr->AH->Prop
 | .exit _,_,_=>False
 |_,fr,h=>∃vs,Md fr h rs=some vs/\Φ (I8 vs) h
@[simp] theorem yE (rs:List RRes) (Φ:AV->AH->Prop) (fr:Fr) (h:AH):ZF rs Φ .normal fr h=(∃vs,Md fr h rs=some vs/\Φ (I8 vs) h):=_root_.id rfl
@[simp] theorem yF (rs:List RRes) (Φ:AV->AH->Prop) (fr:Fr) (h:AH):ZF rs Φ .ret fr h=(∃vs,Md fr h rs=some vs/\Φ (I8 vs) h):=_root_.id rfl
theorem pm {C:Cfg} {f:FuncId} {rf:RFunc} {args:G1} {h:AH} {Φ:AV->AH->Prop} (hc:C.code f=some rf) (hl:args.length<=rf.ntmps)
  (H:∀fr:Fr,fr.length=rf.ntmps->(∀i,A0 fr i=args.getD i C3)->B9 (A3 (L5 C) (C.ctx f) rf.body (fr,h)) (ZF rf.results Φ)):∃v h',rc C f args h=some (v,h')/\Φ v h':=by
 obtain⟨hl',hlook⟩:=Nm hl;obtain⟨e,C6,h',he,hp⟩:=(H _ hl' hlook).elim';have key:∃vs,Md C6 h' rf.results=some vs/\Φ (I8 vs) h':=by
  cases e with
  |exit i=>exact hp.elim
  |normal=>exact hp
  |ret=>exact hp
 obtain⟨vs,hv,hΦ⟩:=key;refine⟨I8 vs,h',qW C ?_,hΦ⟩;unfold QH;simp only[hc];unfold ND;rw[he];cases e with
 |exit i=>exact hp.elim
 |normal=>simp only[hv];rfl
 |ret=>simp only[hv];rfl
def RCode.wr:RCode->List Nat
 | .region _ ops=>ops.filterMap (·.dst)
 | .seq a b=>a.wr++b.wr
 | .cond _ a b=>a.wr++b.wr
 | .block _ a=>a.wr
 | .loop a=>a.wr
 |_=>[]
def Kp (ws:List Nat) (fr C6:Fr):Prop:=C6.length=fr.length/\∀j,j∉ws->A0 C6 j=A0 fr j
theorem A9 {ws:List Nat} {fr C6:Fr} {v:AV} (K:Kp ws fr C6) (i:Nat) (h:A0 fr i=v) (d:i∉ws:=by decide):A0 C6 i=v:=(K.2 i d).trans h
theorem Kp.refl (ws:List Nat) (fr:Fr):Kp ws fr fr:=⟨rfl,λ_ _=>rfl⟩
theorem Kp.trans {ws:List Nat} {a b c:Fr} (h:Kp ws a b) (k:Kp ws b c):Kp ws a c:=⟨k.1.trans h.1,λj hj=>(k.2 j hj).trans (h.2 j hj)⟩
theorem Kp.mono {ws ws':List Nat} {a b:Fr} (h:Kp ws a b) (hs:∀j,j∈ws->j∈ws'):Kp ws' a b:=⟨h.1,λj hj=>h.2 j λk=>hj (hs j k)⟩
theorem Kp.put (fr:Fr) (d:Option Nat) (v:AV) {ws:List Nat} (hd:∀x,d=some x->x∈ws):Kp ws fr (put fr d v):=by
 cases d with
 |none=>exact Kp.refl _ _
 |some d =>
  refine⟨by simp,λj hj=>?_⟩;have P1:d≠j:=λe=>hj (e ▸ hd d rfl);simp[D9 fr v P1]
section
variable {C:Cfg} {c:Ctx}
theorem Un {O:Orc}:∀{M5:List RO} {fr:Fr} {h:AH} {x:Fr×AH} {ws:List Nat},(∀j,j∈M5.filterMap (·.dst)->j∈ws)->J7 O c M5 fr h=some x->Kp ws fr x.1
 | [],fr,h,x,ws,_,he=>by
  simp only[J7]at he;cases he;exact Kp.refl _ _
 |o::M5,fr,h,x,ws,hs,he=>by
  have h1:∀y,o.dst=some y->y∈ws:=λy hy=>hs y (by simp[hy]);have h2:∀j,j∈M5.filterMap (·.dst)->j∈ws:=λj hj=>hs j (by
   rw[List.filterMap_cons];split
   .exact hj
   .exact List.mem_cons_of_mem _ hj)
  simp only[J7]at he;cases hw:Ep fr o.guard with
  |none=>rw[hw]at he;cases he
  |some b =>
   rw[hw]at he;cases b with
   |false=>exact(Kp.put fr o.dst _ h1).trans (Un h2 he)
   |true =>
    dsimp only at he;cases BV:A8 O c o.op fr h with
    |none=>rw[BV]at he;cases he
    |some y =>
     rw[BV]at he;exact(Kp.put fr o.dst _ h1).trans (Un h2 he)
theorem Wb {step:St->Option (Ex×St)} {ws:List Nat} (hs:∀s x,step s=some x->Kp ws s.1 x.2.1):∀(n:Nat) (s:St) (x:Ex×St),LB step n s=some x->Kp ws s.1 x.2.1
 |0,s,x,he=>by simp[LB]at he
 |n+1,s,x,he=>by
  simp only[LB]at he;cases h1:step s with
  |none=>rw[h1]at he;cases he
  |some y =>
   rw[h1]at he;have k:=hs s y h1;obtain⟨e,s'⟩:=y;cases e with
   |normal=>exact k.trans (Wb hs n s' x he)
   |exit id=>cases he;exact k
   |ret=>cases he;exact k
theorem gV:∀(rc:RCode) (s:St) (x:Ex×St),A3 (L5 C) c rc s=some x->Kp rc.wr s.1 x.2.1:=by
 intro rc
 induction rc with
 |skip=>intro s x he;cases he;exact Kp.refl _ _
 |region d M5 =>
  intro s x he;simp only[A3]at he;cases hs:J7 (L5 C) c M5 s.1 s.2 with
  |none=>rw[hs]at he;cases he
  |some y =>
   rw[hs]at he;cases he;exact Un (λj hj=>hj) hs
 |seq a b iha ihb =>
  intro s x he;simp only[A3]at he;cases hs:A3 (L5 C) c a s with
  |none=>rw[hs]at he;cases he
  |some y =>
   rw[hs]at he;have k:=(iha s y hs).mono (ws':=(RCode.seq a b).wr) λj hj=>A0C _ hj;obtain⟨e,s'⟩:=y;cases e with
   |normal=>exact k.trans ((ihb _ _ he).mono λj hj=>A0B _ hj)
   |exit id=>cases he;exact k
   |ret=>cases he;exact k
 |cond q a b iha ihb =>
  intro s x he;simp only[A3]at he;split at he
  .exact(iha _ _ he).mono λj hj=>A0C _ hj
  .exact(ihb _ _ he).mono λj hj=>A0B _ hj
  .cases he
 |block id a ih =>
  intro s x he;simp only[A3]at he;cases hs:A3 (L5 C) c a s with
  |none=>rw[hs]at he;cases he
  |some y =>
   rw[hs]at he;have k:=ih s y hs;obtain⟨e,s'⟩:=y;cases e with
   |normal=>cases he;exact k
   |exit i =>
    simp only at he;split at he<;>cases he<;>exact k
   |ret=>cases he;exact k
 |loop a ih =>
  intro s x he;obtain⟨n,hn⟩:=YF he;exact Wb ih n s x hn
 |exit id=>intro s x he;cases he;exact Kp.refl _ _
 |ret=>intro s x he;cases he;exact Kp.refl _ _
 |bad=>intro s x he;cases he
theorem fy {rc:RCode} {ws:List Nat} (hw:rc.wr=ws) {fr:Fr} {h:AH} {Ψ:Ex->Fr->AH->Prop} (H:B9 (A3 (L5 C) c rc (fr,h)) Ψ):B9 (A3 (L5 C) c rc (fr,h)) λe C6 h'=>Kp ws fr C6/\Ψ e C6 h':=by
 subst hw;obtain⟨e,C6,h',he,hp⟩:=H.elim';have k:=gV rc _ _ he;rw[he];exact⟨k,hp⟩
theorem jk {body:RCode} {Ψ:Ex->Fr->AH->Prop} {ws:List Nat} (hw:body.wr=ws) (fr0:Fr) (Inv:Nat->Fr->AH->Prop)
  (H:∀n fr h,Kp ws fr0 fr->Inv n fr h->B9 (A3 (L5 C) c body (fr,h)) λe C6 h'=>(e=.normal/\∃m,m<n/\Inv m C6 h')\/(e≠.normal/\Ψ e C6 h'))
  (n:Nat) (h:AH) (hi:Inv n fr0 h):B9 (lp (A3 (L5 C) c body) (fr0,h)) λe C6 h'=>Kp ws fr0 C6/\Ψ e C6 h':=by
 refine NT (λn fr h=>Kp ws fr0 fr/\Inv n fr h) (λn fr h ⟨k,hi⟩=>?_) n fr0 h ⟨Kp.refl _ _,hi⟩;refine(fy hw (H n fr h k hi)).mono λe C6 h' ⟨k',hp⟩=>?_;rcases hp with ⟨h1,m,h2,h3⟩|⟨h1,h2⟩
 .exact .inl ⟨h1,m,h2,k.trans k',h3⟩
 .exact .inr ⟨h1,k.trans k',h2⟩
end
theorem G8 {n:Nat} {I J:Nat->Fr->AH->Prop} {fr:Fr} {h:AH} (hJ:∀n fr h,I n fr h->J n fr h) (hi:I (n-1) fr h) (h0:n-1<n:=by omega):∃m,m<n/\J m fr h:=⟨n-1,h0,hJ _ _ _ hi⟩
theorem B5 {C:Cfg} {c:Ctx} {body:RCode} {Ψ:Ex->Fr->AH->Prop} {ws:List Nat} (hw:body.wr=ws) (fr0:Fr) (Inv:Nat->Fr->AH->Prop)
  (H:∀(J:Nat->Fr->AH->Prop) (Φ:Ex->Fr->AH->Prop),(∀n fr h,Inv n fr h->J n fr h)->(∀e fr h,Ψ e fr h->Φ e fr h)->∀n fr h,Kp ws fr0 fr->Inv n fr h ->
   B9 (A3 (L5 C) c body (fr,h)) λe C6 h'=>(e=.normal/\∃m,m<n/\J m C6 h')\/(e≠.normal/\Φ e C6 h'))
  (n:Nat) (h:AH) (hi:Inv n fr0 h):B9 (lp (A3 (L5 C) c body) (fr0,h)) λe C6 h'=>Kp ws fr0 C6/\Ψ e C6 h' :=
 jk hw fr0 Inv (H Inv Ψ (λ_ _ _ h=>h) (λ_ _ _ h=>h)) n h hi
def cE (rs:List RRes) (Φ:AV->Prop):Ex->Fr->AH->Prop
 | .exit _,_,_=>False
 |_,fr,h=>∃r,fin rs fr h=some r/\Φ r
@[simp] theorem yC (rs:List RRes) (Φ:AV->Prop) (fr:Fr) (h:AH):cE rs Φ .normal fr h=(∃r,fin rs fr h=some r/\Φ r):=_root_.id rfl
@[simp] theorem yD (rs:List RRes) (Φ:AV->Prop) (fr:Fr) (h:AH):cE rs Φ .ret fr h=(∃r,fin rs fr h=some r/\Φ r):=_root_.id rfl
theorem ac {C:Cfg} {f:FuncId} {rf:RFunc} {args:G1} {Φ:AV->Prop} (hs:C.spec f=none) (hc:C.code f=some rf) (hl:args.length<=rf.ntmps)
  (H:∀fr:Fr,fr.length=rf.ntmps->(∀i,A0 fr i=args.getD i C3)->B9 (A3 (L5 C) (C.ctx f) rf.body (fr,⟨[],[]⟩)) (cE rf.results Φ)):∃r,pc C f args=some r/\Φ r:=by
 obtain⟨hl',hlook⟩:=Nm hl;obtain⟨e,C6,h',he,hp⟩:=(H _ hl' hlook).elim';have key:∃r,fin rf.results C6 h'=some r/\Φ r:=by
  cases e with
  |exit i=>exact hp.elim
  |normal=>exact hp
  |ret=>exact hp
 obtain⟨r,hr,hΦ⟩:=key;refine⟨r,mB hs hc hl λfr h1 h2=>?_,hΦ⟩;have hfr:fr=Fu rf args:=by
  apply List.ext_getElem (h1.trans hl'.symm);intro i g1 g2;have a:=h2 i;have b:=hlook i;simp only[A0,List.getD,A0A g1,A0A g2,Option.getD_some]at a b;exact a.trans b.symm
 subst hfr;rw[he];cases e with
 |exit i=>exact hp.elim
 |normal=>exact hr
 |ret=>exact hr
theorem Nt {C:Cfg} {f:FuncId} {rf:RFunc} {args:G1} {Φ:AV->Prop} (hs:C.spec f=none) (hc:C.code f=some rf) (hl:args.length<=rf.ntmps)
  (H:∀Ψ:AV->Prop,(∀r,Φ r->Ψ r)->∀fr:Fr,fr.length=rf.ntmps->(∀i,A0 fr i=args.getD i C3)->B9 (A3 (L5 C) (C.ctx f) rf.body (fr,⟨[],[]⟩)) (cE rf.results Ψ)):∃r,pc C f args=some r/\Φ r :=
 ac hs hc hl (H Φ λ_ h=>h)
@[simp] theorem wd (h:AH) (k:IntKind) (n:Int):Ef h (.int k n)=true:=_root_.id rfl
@[simp] theorem tt (h:AH) (b:Bool):Ef h (.bool b)=true:=_root_.id rfl
@[simp] theorem wg (h:AH) (s:I3):Ef h (.str s)=true:=_root_.id rfl
@[simp] theorem wa (h:AH) (cs:G1):Ef h (.agg cs)=cs.all (MO h):=_root_.id rfl
@[simp] theorem tq (h:AH) (k:IntKind) (n:Int):MO h (.int k n)=true:=_root_.id rfl
@[simp] theorem sg (h:AH) (b:Bool):MO h (.bool b)=true:=_root_.id rfl
@[simp] theorem tr (h:AH) (s:I3):MO h (.str s)=true:=_root_.id rfl
@[simp] theorem yA (h:AH) (f:Bool) (sz:Nat) (xs:G1):Ef h (.vs f sz xs)=true:=_root_.id rfl
@[simp] theorem wZ (h:AH) (f:Bool) (sz:Nat) (xs:G1):MO h (.vs f sz xs)=true:=_root_.id rfl
@[simp] theorem rS (k n off len:Nat):(AV.sl k n off len).isTup=false:=_root_.id rfl
@[simp] theorem qy (k n off len:Nat):(AV.sl k n off len).cells=[.sl k n off len]:=_root_.id rfl
@[simp] theorem tO (b off:Nat):(AV.ptr b off).isTup=false:=_root_.id rfl
@[simp] theorem sq (b off:Nat):(AV.ptr b off).cells=[.ptr b off]:=_root_.id rfl
@[simp] theorem vJ (f:Bool) (sz:Nat) (xs:G1):(AV.vs f sz xs).isTup=false:=_root_.id rfl
@[simp] theorem uX (f:Bool) (sz:Nat) (xs:G1):(AV.vs f sz xs).cells=[.vs f sz xs]:=_root_.id rfl
end Go.Abs
namespace Go.Abs
open Go.RowKit (Below)
open Go.Proofs (ltOf CmpLays sortWorldK)
def Xd (O:Orc) (g:FuncId) (caps xs:List AV) (i j:Nat):Int :=
 match O.pure g ([xs.getD i C3,xs.getD j C3]++caps)with|some (.int .i64 c)=>c|_=>0
def Y2 (n i:Nat):Nat:=if i<n then i else 0
def gP (O:Orc) (g:FuncId) (caps xs:List AV) (i j:Nat):Int:=Xd O g caps xs (Y2 xs.length i) (Y2 xs.length j)
structure SortOk (O:Orc) (g:FuncId) (caps xs:List AV):Prop where
 ans:∀i j,i<xs.length->j<xs.length->∃c,O.pure g ([xs.getD i C3,xs.getD j C3]++caps)=some (.int .i64 c)
 swo:Go.Sort.SWO (ltOf (gP O g caps xs))
def Dm (O:Orc) (g:FuncId) (caps xs:List AV):Array Nat:=Go.Sort.pdq (ltOf (gP O g caps xs)) (Array.range xs.length) 0 xs.length (Lib.bitLen xs.length) true true
def AV.isAgg:AV->Bool
 | .agg _=>true
 |_=>false
open Classical in
noncomputable def Jd (K:Nat) (O:Orc) (args:List AV) (h:AH):Option (AV×AH) :=
 match args with
 | [.sl k n off len,.fn g caps] =>
  match h.fams[k]? with
  |some f =>
   if f.xs.length=n/\off=0/\len=n/\0<n/\n<4611686018427387904/\f.wr=true/\f.sz=K/\caps.all AV.flat=true/\f.xs.all AV.isAgg=true/\SortOk O g caps f.xs then
    some (C3,{h with fams:=h.fams.set k {f with xs:=(Dm O g caps f.xs).toList.map λi=>f.xs.getD i C3}})
   else none
  |none=>none
 | [.vs _ _ xs,.fn _ _]=>if xs.length<=1 then some (C3,h)else none
 |_=>none
theorem Hn {n i:Nat} (hn:0<n):Y2 n i<n:=by unfold Y2;split<;>omega
theorem mX (K:Nat) (O:Orc) (args:G1) (h:AH) (x:AV×AH) (he:Jd K O args h=some x) :
  ∃l:List (FuncId×List AV×AV),(∀p∈l,O.pure p.1 p.2.1=some p.2.2)/\∀O':Orc,(∀p∈l,O'.pure p.1 p.2.1=some p.2.2)->Jd K O' args h=some x:=by
 unfold Jd at he;split at he
 .rename_i k n off len g caps;split at he
  .rename_i f hf;split at he
   .rename_i hc;obtain⟨c1,c2,c3,c4,c5,c6,c7,c8,c9,Cq⟩:=hc;have K1:0<f.xs.length:=by omega
    refine⟨(A0H f.xs.length).flatMap λi=>(A0H f.xs.length).map λj=>(g,[f.xs.getD i C3,f.xs.getD j C3]++caps,.int .i64 (Xd O g caps f.xs i j)),?_,?_⟩
    .intro p hp;simp only[A0E,A0G,A0F]at hp;obtain⟨i,hi,j,hj,rfl⟩:=hp;obtain⟨c,hc⟩:=Cq.ans i j hi hj;simp only[Xd,hc]
    .intro O' hO';have key:∀i j,i<f.xs.length->j<f.xs.length->O'.pure g ([f.xs.getD i C3,f.xs.getD j C3]++caps)=some (.int .i64 (Xd O g caps f.xs i j)):=λi j hi hj =>
      hO' (g,[f.xs.getD i C3,f.xs.getD j C3]++caps,.int .i64 (Xd O g caps f.xs i j)) (by
       simp only[A0E,A0G,A0F];exact⟨i,hi,j,hj,rfl⟩)
     have hcf:gP O' g caps f.xs=gP O g caps f.xs:=by
      funext i j;show Xd O' g caps f.xs _ _=_;unfold Xd;rw[key _ _ (Hn K1) (Hn K1)];rfl
     have hok':SortOk O' g caps f.xs:=⟨λi j hi hj=>⟨_,key i j hi hj⟩,by rw[hcf];exact Cq.swo⟩;unfold Jd;simp only[hf];rw[if_pos ⟨c1,c2,c3,c4,c5,c6,c7,c8,c9,hok'⟩,←he];unfold Dm;rw[hcf]
   .cases he
  .cases he
 .exact⟨[],λp hp=>by simp at hp,λO' _=>by unfold Jd;exact he⟩
 .cases he
noncomputable def XD (K:Nat):RSpec:=⟨Jd K,mX K⟩
theorem cf {w w':World} (h:Bl w.heap.size w w'):∃q os,w'=Go.Sort.grow (w.drewN q) os:=by
 refine⟨w'.drawn-w.drawn,w'.heap.extract w.heap.size w'.heap.size,?_⟩;obtain⟨⟨e1,e2,e3,e4,e5⟩,e6⟩:=h;have hh:w'.heap=w.heap++w'.heap.extract w.heap.size w'.heap.size:=by
  apply A0D;intro k;by_cases hk:k<w.heap.size
  .rw[Array.getElem?_append_left hk,e5 k hk]
  .rw[Array.getElem?_append_right (by omega),Array.getElem?_extract];by_cases Dd:k<w'.heap.size
   .rw[if_pos (by omega)];congr 1;omega
   .rw[if_neg (by omega),Array.getElem?_eq_none (by omega)]
 obtain⟨hp,tp,dr,os,ou⟩:=w';obtain⟨hp0,tp0,dr0,os0,ou0⟩:=w;simp only at e1 e2 e3 e4 e6 hh;subst e1 e2 e3;simp only[Go.Sort.grow,World.drewN];congr 1;omega
theorem Sa {w:World} {blk off:Nat} {F cur:Array Value} {t:TypeId} (h:w.heap[blk]?=some (.cells cur t (0,0))) :
  Go.Sort.putRow id w blk off F=w.setRow blk (Go.Sort.putCells id off F cur):=by
 unfold Go.Sort.putRow Go.Sort.mapBlock World.setRow;congr 1;apply A0D;intro k;simp only[Array.getElem?_modify];by_cases hk:blk=k
 .subst hk;rw[if_pos rfl,if_pos rfl,h];rfl
 .rw[if_neg hk,if_neg hk]
theorem Xo {off:Nat} {F cur:Array Value} {k:Nat}:(Go.Sort.putCells id off F cur)[k]?=(cur[k]?).map λx=>if off<=k/\k<off+F.size then F[k-off]! else x:=by
 unfold Go.Sort.putCells;rw[Array.getElem?_mapIdx];rfl
theorem Vy {off:Nat} {F cur:Array Value}:(Go.Sort.putCells id off F cur).size=cur.size:=by
 unfold Go.Sort.putCells;simp
end Go.Abs
namespace Go.Abs
def RSpec.of (run:List AV->AH->Option (AV×AH)):RSpec:=⟨λ_=>run,λ_ _ _ _ he=>⟨[],λ_ hp=>(nomatch hp),λ_ _=>he⟩⟩
def Nh (K bytes:Nat) (args:List AV) (h:AH):Option (AV×AH) :=
 match args with
 | [s,.int .i64 i,.vs _ z [x]] =>
  if z=K/\x.isAgg=true then
   match s with
   | .sl k n off len =>
    match h.fams[k]? with
    |some f =>
     if f.xs.length=n/\off=0/\len=n/\0<n/\f.wr=true/\f.sz=K/\0<=i/\i<=n/\(n+1)*bytes<=H6/\n+1<=maxLen then
      some (.sl k (n+1) 0 (n+1),{h with fams:=h.fams.set k {f with xs:=f.xs.take i.toNat++x::f.xs.drop i.toNat}})
     else none
    |none=>none
   | .vs true _ []=>if i=0/\bytes<=H6 then some (.sl h.fams.length 1 0 1,{h with fams:=h.fams++[⟨[x],K,true⟩]})else none
   |_=>none
  else none
 |_=>none
def gf (K bytes:Nat):RSpec:=.of (Nh K bytes)
def RT (K bytes:Nat) (args:List AV) (h:AH):Option (AV×AH) :=
 match args with
 | [.vs true z [],i,x]=>Nh K bytes [.vs true z [],i,x] h
 |_=>none
def fC (K bytes:Nat):RSpec:=.of (RT K bytes)
def Po (K bytes:Nat) (args:List AV) (h:AH):Option (AV×AH) :=
 match args with
 | [.vs true z [],.int .i64 n] =>
  if n=0 then some (.vs true z [],h)
  else if 0<n/\n*bytes<=H6/\n<=maxLen then some (.sl h.fams.length 0 0 0,{h with fams:=h.fams++[⟨[],K,false⟩]})
  else none
 |_=>none
def WV (K bytes:Nat):RSpec:=.of (Po K bytes)
end Go.Abs
namespace Go.Abs.Q
open Go.Proofs
def T4 (a b:ByteArray):Int:=if Op.bytesLess a.toList b.toList then -1 else if a.toList=b.toList then 0 else 1
def Yg:List AV->Option AV
 | [.str a,.str b]=>some (.int .i64 (T4 a b))
 |_=>none
def Yh:List AV->Option AV
 | [.str a,.str b]=>match b.data.toList with | [c]=>some (.bool (a.data.toList.contains c))|_=>none
 |_=>none
def OT (f:FuncId):Option (List AV->Option AV):=if f=W2 then some Yg else if f=BE then some Yh else none
noncomputable def VI (f:FuncId):Option RSpec:=if f=D5 then some (XD 4)else if f=L8 then some (gf 4 56)else if f=N0 then some (fC 5 64)else if f=O6 then some (WV 4 56)else none
noncomputable def Q:Cfg:=⟨Aw,E5,OT,VI⟩
theorem Oe (f:FuncId):Q.code f=Aw f:=by
 simp only[Q]
theorem SF (f:FuncId):Q.spec f=OT f:=by
 simp only[Q]
@[simp] theorem WC (f:FuncId):Q.ctx f=E5 f:=by
 simp only[Q]
@[simp] theorem ud (f:FuncId):(E5 f).raw=C4:=_root_.id rfl
@[simp] theorem ub (f:FuncId):(E5 f).mutApp=Vp f:=_root_.id rfl
@[simp] theorem sx (f:FuncId):(E5 f).rawv=Jy f:=_root_.id rfl
@[simp] theorem uc (f:FuncId):(E5 f).noB=Cm:=_root_.id rfl
@[simp] theorem xD (f:FuncId):(E5 f).ro=jO f:=_root_.id rfl
theorem fX {f:FuncId} {s:List AV->Option AV} (h:OT f=some s) {args:G1} {r:AV} (hr:s args=some r):pc Q f args=some r:=by
 apply qT;unfold MK;have e:Q.spec f=some s:=h;rw[e];exact hr
theorem sD (a b:I3):pc Q W2 [.str a,.str b]=some (.int .i64 (T4 a b)):=fX (s:=Yg) rfl rfl
theorem sF (a:I3) (c:UInt8):pc Q BE [.str a,.str ⟨#[c]⟩]=some (.bool (a.data.toList.contains c)):=fX (s:=Yh) rfl rfl
theorem MN {f:FuncId} {s:RSpec} (hc:Aw f=none) (hs:VI f=some s) {args:G1} {h:AH} {x:AV×AH} (hr:s.run (L5 Q) args h=some x):rc Q f args h=some x:=by
 apply qW;unfold QH;have e1:Q.code f=none:=(Oe f).trans hc;have e2:Q.rspec f=some s:=hs;rw[e1];simp only[e2];exact hr
theorem fQ {f:FuncId} {rf:RFunc} {args:G1} {r:AV} (hc:Aw f=some rf) (hs:OT f=none) (hl:args.length<=rf.ntmps)
  (H:∀fr:Fr,fr.length=rf.ntmps->(∀i,A0 fr i=args.getD i C3)->B9 (A3 (L5 Q) (E5 f) rf.body (fr,⟨[],[]⟩)) (eN rf.results r)):pc Q f args=some r :=
 ox (C:=Q) ((SF f).trans hs) ((Oe f).trans hc) hl λfr h1 h2=>by
  rw[WC];exact H fr h1 h2
theorem wJ {f:FuncId} {rf:RFunc} {args:G1} {h:AH} {Φ:AV->AH->Prop} (hc:Aw f=some rf) (hl:args.length<=rf.ntmps)
  (H:∀fr:Fr,fr.length=rf.ntmps->(∀i,A0 fr i=args.getD i C3)->B9 (A3 (L5 Q) (E5 f) rf.body (fr,h)) (ZF rf.results Φ)):∃v h',rc Q f args h=some (v,h')/\Φ v h' :=
 pm (C:=Q) ((Oe f).trans hc) hl λfr h1 h2=>by
  rw[WC];exact H fr h1 h2
theorem M2 {f:FuncId} (rf:RFunc) {a r:AV} (H:∀fr:Fr,fr.length=rf.ntmps->A0 fr 0=a->B9 (A3 (L5 Q) (E5 f) rf.body (fr,⟨[],[]⟩)) (eN rf.results r)) (hl:1<=rf.ntmps:=by decide) (hs:OT f=none:=by rfl) (hc:Aw f=some rf:=by kernel_rfl):pc Q f [a]=some r:=
 fQ hc hs hl λfr h1 h2=>H fr h1 (h2 0)
theorem O2 {f:FuncId} (rf:RFunc) {a b r:AV} (H:∀fr:Fr,fr.length=rf.ntmps->A0 fr 0=a->A0 fr 1=b->B9 (A3 (L5 Q) (E5 f) rf.body (fr,⟨[],[]⟩)) (eN rf.results r)) (hl:2<=rf.ntmps:=by decide) (hs:OT f=none:=by rfl) (hc:Aw f=some rf:=by kernel_rfl):pc Q f [a,b]=some r:=
 fQ hc hs hl λfr h1 h2=>H fr h1 (h2 0) (h2 1)
theorem Gg {f:FuncId} (rf:RFunc) {a b c r:AV} (H:∀fr:Fr,fr.length=rf.ntmps->A0 fr 0=a->A0 fr 1=b->A0 fr 2=c->B9 (A3 (L5 Q) (E5 f) rf.body (fr,⟨[],[]⟩)) (eN rf.results r)) (hl:3<=rf.ntmps:=by decide) (hs:OT f=none:=by rfl) (hc:Aw f=some rf:=by kernel_rfl):pc Q f [a,b,c]=some r:=
 fQ hc hs hl λfr h1 h2=>H fr h1 (h2 0) (h2 1) (h2 2)
theorem HL {f:FuncId} (rf:RFunc) {a:AV} {Φ:AV->Prop} (H:∀Ψ:AV->Prop,(∀v,Φ v->Ψ v)->∀fr:Fr,fr.length=rf.ntmps->A0 fr 0=a->B9 (A3 (L5 Q) (E5 f) rf.body (fr,⟨[],[]⟩)) (cE rf.results Ψ)) (hl:1<=rf.ntmps:=by decide) (hs:OT f=none:=by rfl) (hc:Aw f=some rf:=by kernel_rfl):∃v,pc Q f [a]=some v/\Φ v:=
 Nt (C:=Q) ((SF _).trans hs) ((Oe _).trans hc) hl λΨ hΨ fr h1 h2=>by rw[WC];exact H Ψ hΨ fr h1 (h2 0)
theorem Qp {f:FuncId} (rf:RFunc) {a b:AV} {Φ:AV->Prop} (H:∀Ψ:AV->Prop,(∀v,Φ v->Ψ v)->∀fr:Fr,fr.length=rf.ntmps->A0 fr 0=a->A0 fr 1=b->B9 (A3 (L5 Q) (E5 f) rf.body (fr,⟨[],[]⟩)) (cE rf.results Ψ)) (hl:2<=rf.ntmps:=by decide) (hs:OT f=none:=by rfl) (hc:Aw f=some rf:=by kernel_rfl):∃v,pc Q f [a,b]=some v/\Φ v:=
 Nt (C:=Q) ((SF _).trans hs) ((Oe _).trans hc) hl λΨ hΨ fr h1 h2=>by rw[WC];exact H Ψ hΨ fr h1 (h2 0) (h2 1)
theorem ay {f:FuncId} (rf:RFunc) {a b c:AV} {Φ:AV->Prop} (H:∀Ψ:AV->Prop,(∀v,Φ v->Ψ v)->∀fr:Fr,fr.length=rf.ntmps->A0 fr 0=a->A0 fr 1=b->A0 fr 2=c->B9 (A3 (L5 Q) (E5 f) rf.body (fr,⟨[],[]⟩)) (cE rf.results Ψ)) (hl:3<=rf.ntmps:=by decide) (hs:OT f=none:=by rfl) (hc:Aw f=some rf:=by kernel_rfl):∃v,pc Q f [a,b,c]=some v/\Φ v:=
 Nt (C:=Q) ((SF _).trans hs) ((Oe _).trans hc) hl λΨ hΨ fr h1 h2=>by rw[WC];exact H Ψ hΨ fr h1 (h2 0) (h2 1) (h2 2)
theorem bE {f:FuncId} (rf:RFunc) {a:AV} {h:AH} {Φ:AV->AH->Prop} (H:∀fr:Fr,fr.length=rf.ntmps->A0 fr 0=a->B9 (A3 (L5 Q) (E5 f) rf.body (fr,h)) (ZF rf.results Φ)) (hl:1<=rf.ntmps:=by decide) (hc:Aw f=some rf:=by kernel_rfl):∃v h',rc Q f [a] h=some (v,h')/\Φ v h':=
 wJ hc hl λfr h1 h2=>H fr h1 (h2 0)
theorem Gh {f:FuncId} (rf:RFunc) {a b:AV} {h:AH} {Φ:AV->AH->Prop} (H:∀fr:Fr,fr.length=rf.ntmps->A0 fr 0=a->A0 fr 1=b->B9 (A3 (L5 Q) (E5 f) rf.body (fr,h)) (ZF rf.results Φ)) (hl:2<=rf.ntmps:=by decide) (hc:Aw f=some rf:=by kernel_rfl):∃v h',rc Q f [a,b] h=some (v,h')/\Φ v h':=
 wJ hc hl λfr h1 h2=>H fr h1 (h2 0) (h2 1)
theorem pj {f:FuncId} (rf:RFunc) {a b c:AV} {h:AH} {Φ:AV->AH->Prop} (H:∀fr:Fr,fr.length=rf.ntmps->A0 fr 0=a->A0 fr 1=b->A0 fr 2=c->B9 (A3 (L5 Q) (E5 f) rf.body (fr,h)) (ZF rf.results Φ)) (hl:3<=rf.ntmps:=by decide) (hc:Aw f=some rf:=by kernel_rfl):∃v h',rc Q f [a,b,c] h=some (v,h')/\Φ v h':=
 wJ hc hl λfr h1 h2=>H fr h1 (h2 0) (h2 1) (h2 2)
end Go.Abs.Q
namespace Go.Abs.Q
attribute [local simp] D9 E4 fin I8 G6
def GX (a b:Int):Int:=if a<b then -1 else if b<a then 1 else 0
theorem Py (a b:Int):pc Q FI [.int .i64 a,.int .i64 b]=some (.int .i64 (GX a b)):=by
 refine fQ Vw rfl (by simp[Pa]) λfr hl ha=>?_;have h0:=ha 0;have h1:=ha 1;simp[Pa]at hl h0 h1 ⊢;by_cases h:a<b
 .simp[*,GX]
 .by_cases h':b<a<;>simp[*,GX]
theorem Iy (a b:Int):pc Q BB [.int .i64 a,.int .i64 b]=some (.int .i64 (GX a b)):=by
 refine fQ Sc rfl (by simp[LZ]) λfr hl ha=>?_;have h0:=ha 0;have h1:=ha 1;simp[LZ]at hl h0 h1 ⊢;by_cases h:a<b
 .simp[*,GX]
 .by_cases h':b<a<;>simp[*,GX]
theorem YN:∀(n:Nat) (t:Tm),t.size<=n->t.size<=1099511627776->pc Q Hc [B7 t]=some (.int .i64 t.size):=by
 intro n
 induction n with
 |zero=>intro t h;have:=t.size_pos;omega
 |succ n ih =>
  intro t hn hb;obtain⟨k,nm,s,m,kids⟩:=t;have I9:Tm.size (.mk k nm s m kids)=1+Tm.sizes kids:=rfl;refine M2 TS λfr hl h0=>?_;simp[TS,B7]at hl h0 ⊢;simp[*];refine(WB (Ψ:=λe fr h=>e=.exit 0/\A0 fr 3=.int .i64 (1+Tm.sizes kids:Nat)/\fr.length=19) kids
   (λdone fr h=>fr.length=19/\A0 fr 3=.int .i64 (1+Tm.sizes done:Nat)/\A0 fr 7=sl m 4 (A4 kids)/\A0 fr 8=.int .i64 kids.length/\A0 fr 9=.int .i64 done.length) ?_ ?_ _ _ ?_).mono ?_
  .rintro fr h ⟨hl,h3,h7,h8,h9⟩;simp[Mt, *]
  .rintro done t rest he fr h ⟨hl,h3,h7,h8,h9⟩;have hget:Jb (A4 kids) done.length=some (B7 t):=FM (by rw[←he];simp);have A7:done.length<kids.length:=by rw[←he];simp
   have hts:t.size<=Tm.sizes kids:=Tm.size_le (by rw[←he];simp);have hT:=ih t (by omega) (by omega);have B8:=Tm.length_le kids;have yX:Tm.sizes done+(t.size+Tm.sizes rest)=Tm.sizes kids:=by rw[←he,Tm.sizes_append];rfl
   have hw1:IntKind.i64.wrap (1+(Tm.sizes done:Int)+(t.size:Int))=1+(Tm.sizes (done++[t]):Int):=by
    rw[Tm.sizes_append,U4 (by omega) (by omega)];simp only[Tm.sizes];omega
   have hw2:IntKind.i64.wrap ((done.length:Int)+1)=((done++[t]).length:Nat):=by
    rw[U4 (by omega) (by omega)];simp
   obtain⟨tk,tn,ts,tm,tl⟩:=t;simp only[B7]at hT hget;simp[Mt, *]
  .simp[*,Tm.sizes,D6]
  .rintro e fr h ⟨rfl,h3,hl⟩;simp[*]
end Go.Abs.Q
