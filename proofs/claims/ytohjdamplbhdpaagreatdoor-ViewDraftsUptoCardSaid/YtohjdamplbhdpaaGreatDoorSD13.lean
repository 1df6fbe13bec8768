/- A part of the proof. -/
import Derived.Test.YtohjdamplbhdpaaGreatDoorSD11
import Derived.Test.YtohjdamplbhdpaaGreatDoorSD12
import Derived.Test.YtohjdamplbhdpaaGreatDoorRows
import Derived.KernelRfl
import Derived.Shelf.SlSortCmp.NoneTotal
import Derived.Lib.Strings
set_option linter.all false
open List renaming getElem?_eq_getElem->oD,mem_append_right->xX,mem_append_left->xY,mem_flatMap->xa,mem_range->xb,mem_map->xc,range->xd
open Array renaming ext_getElem?->xZ
namespace Go.Abs.Q
open Go.Proofs
noncomputable def Az (f:FuncId):Option RFunc:=if wR f then none else Vq Tryz.prog G8 f
theorem Qg:Az EW=some Gw:=by kernel_rfl
theorem SU:Az Hm=some LG:=by kernel_rfl
theorem PA:Az Ao=some HU:=by kernel_rfl
theorem R2:Az DK=some D8:=by kernel_rfl
theorem Pq:Az A8=some Ig:=by kernel_rfl
theorem Pp:Az AK=some Ie:=by kernel_rfl
theorem TU:Az DW=some Mi:=by kernel_rfl
theorem IT:Az S4=some d6:=by kernel_rfl
theorem SW:Az x4=some Q5:=by kernel_rfl
theorem SV:Az CO=some CW:=by kernel_rfl
theorem Nz:Az U9=some ED:=by kernel_rfl
theorem MT:Az P7=some CX:=by kernel_rfl
end Go.Abs.Q
namespace Go.Abs
def C8 (r:Option (Ex×St)) (Ψ:Ex->Fr->AH->Prop):Prop:=match r with|some (e,fr,h)=>Ψ e fr h|none=>False
@[congr] theorem lq {r r':Option (Ex×St)} {Ψ:Ex->Fr->AH->Prop} (h:r=r'):C8 r Ψ=C8 r' Ψ:=by rw[h]
@[simp] theorem ny (e:Ex) (fr:Fr) (h:AH) (Ψ:Ex->Fr->AH->Prop):C8 (some (e,fr,h)) Ψ=Ψ e fr h:=_root_.id rfl
def SQ (O:Orc) (c:Ctx) (y:RCode) (Ψ:Ex->Fr->AH->Prop):Ex->Fr->AH->Prop
 | .normal,fr,h=>C8 (A1 O c y (fr,h)) Ψ
 |e,fr,h=>Ψ e fr h
section
variable (O:Orc) (c:Ctx) (y:RCode) (Ψ:Ex->Fr->AH->Prop)
@[simp] theorem xO (fr:Fr) (h:AH):SQ O c y Ψ .normal fr h=C8 (A1 O c y (fr,h)) Ψ:=_root_.id rfl
@[simp] theorem xP (fr:Fr) (h:AH):SQ O c y Ψ .ret fr h=Ψ .ret fr h:=_root_.id rfl
@[simp] theorem xN (i:Nat) (fr:Fr) (h:AH):SQ O c y Ψ (.exit i) fr h=Ψ (.exit i) fr h:=_root_.id rfl
@[simp] theorem qF (r:Option (Ex×St)):C8 (lg r O c y) Ψ=C8 r (SQ O c y Ψ):=by
 cases r with
 |none=>rfl
 |some x=>obtain⟨e,fr,h⟩:=x;cases e<;>rfl
end
def BL (id:Nat) (Ψ:Ex->Fr->AH->Prop):Ex->Fr->AH->Prop
 | .exit i,fr,h=>if i=id then Ψ .normal fr h else Ψ (.exit i) fr h
 |e,fr,h=>Ψ e fr h
@[simp] theorem xL (id:Nat) (Ψ:Ex->Fr->AH->Prop) (fr:Fr) (h:AH):BL id Ψ .normal fr h=Ψ .normal fr h:=_root_.id rfl
@[simp] theorem xM (id:Nat) (Ψ:Ex->Fr->AH->Prop) (fr:Fr) (h:AH):BL id Ψ .ret fr h=Ψ .ret fr h:=_root_.id rfl
@[simp] theorem xK (id i:Nat) (Ψ:Ex->Fr->AH->Prop) (fr:Fr) (h:AH):BL id Ψ (.exit i) fr h=if i=id then Ψ .normal fr h else Ψ (.exit i) fr h:=_root_.id rfl
@[simp] theorem qE (id:Nat) (r:Option (Ex×St)) (Ψ:Ex->Fr->AH->Prop):C8 (jq id r) Ψ=C8 r (BL id Ψ):=by
 cases r with
 |none=>rfl
 |some x =>
  obtain⟨e,fr,h⟩:=x;cases e with
  |exit i =>
   by_cases hi:i=id
   .subst hi;simp[jq,BL]
   .simp[jq,BL,hi]
  |_=>rfl
theorem C8.mono {r:Option (Ex×St)} {Φ Ψ:Ex->Fr->AH->Prop} (h:C8 r Φ) (k:∀e fr h,Φ e fr h->Ψ e fr h):C8 r Ψ:=by
 cases r with
 |none=>exact h.elim
 |some x=>exact k _ _ _ h
theorem C8.elim' {r:Option (Ex×St)} {Φ:Ex->Fr->AH->Prop} (h:C8 r Φ):∃e fr h',r=some (e,fr,h')/\Φ e fr h':=by
 cases r with
 |none=>exact h.elim
 |some x=>exact⟨_,_,_,rfl,h⟩
theorem Qi {step:St->Option (Ex×St)} {Ψ:Ex->Fr->AH->Prop} (Inv:Nat->Fr->AH->Prop)
  (H:∀n fr h,Inv n fr h->C8 (step (fr,h)) λe D3 h'=>(e=.normal/\∃m,m<n/\Inv m D3 h')\/(e≠.normal/\Ψ e D3 h')) :
  ∀(n:Nat) (fr:Fr) (h:AH),Inv n fr h->C8 (lp step (fr,h)) Ψ:=by
 intro n
 induction n using Nat.strongRecOn with
 |_ n ih =>
  intro fr h hi;obtain⟨e,D3,h',he,hp⟩:=(H n fr h hi).elim';rcases hp with ⟨rfl,m,hm,BA⟩|⟨M8,hp⟩
  .obtain⟨e2,Cq,h2,he2,hp2⟩:=(ih m hm D3 h' BA).elim';rw[lU he he2];exact hp2
  .cases e with
   |normal=>exact absurd rfl M8
   |exit i=>rw[al he];exact hp
   |ret=>rw[gT he];exact hp
theorem TZ {α:Type} {step:St->Option (Ex×St)} {Ψ:Ex->Fr->AH->Prop} (all:List α) (Inv:List α->Fr->AH->Prop)
  (last:∀fr h,Inv all fr h->C8 (step (fr,h)) λe D3 h'=>e≠.normal/\Ψ e D3 h')
  (next:∀done x rest,done++x::rest=all->∀fr h,Inv done fr h->C8 (step (fr,h)) λe D3 h'=>(e=.normal/\Inv (done++[x]) D3 h')\/(e≠.normal/\Ψ e D3 h')) :
  ∀(fr:Fr) (h:AH),Inv [] fr h->C8 (lp step (fr,h)) Ψ:=by
 intro fr h hi;refine Qi (λn fr h=>∃done rest,done++rest=all/\rest.length=n/\Inv done fr h) (λn fr h ⟨done,rest,he,hn,hi⟩=>?_) all.length fr h ⟨[],all,rfl,rfl,hi⟩;cases rest with
 |nil =>
  rw[List.append_nil]at he;subst he;exact(last fr h hi).mono λe D3 h' hp=>.inr hp
 |cons x rest =>
  refine(next done x rest he fr h hi).mono λe D3 h' hp=>?_
  rcases hp with ⟨h1,h2⟩|hp
  .exact .inl ⟨h1,rest.length,by simp at hn;omega,done++[x],rest,by simpa using he,rfl,h2⟩
  .exact .inr hp
def iu (rs:List RRes) (r:AV):Ex->Fr->AH->Prop
 | .exit _,_,_=>False
 |_,fr,h=>fin rs fr h=some r
@[simp] theorem wa (rs:List RRes) (r:AV) (fr:Fr) (h:AH):iu rs r .normal fr h=(fin rs fr h=some r):=_root_.id rfl
@[simp] theorem wc (rs:List RRes) (r:AV) (fr:Fr) (h:AH):iu rs r .ret fr h=(fin rs fr h=some r):=_root_.id rfl
theorem kR {C:Cfg} {f:FuncId} {rf:RFunc} {args:E5} {r:AV} (hs:C.spec f=none) (hc:C.code f=some rf) (hl:args.length<=rf.ntmps)
  (H:∀fr:Fr,fr.length=rf.ntmps->(∀i,A0 fr i=args.getD i A9)->C8 (A1 (Q8 C) (C.ctx f) rf.body (fr,⟨[],[]⟩)) (iu rf.results r)):pc C f args=some r:=by
 refine gv hs hc hl λfr h1 h2=>?_;obtain⟨e,D3,h',he,hp⟩:=(H fr h1 h2).elim';rw[he];cases e with
 |exit i=>exact hp.elim
 |normal=>exact hp
 |ret=>exact hp
def WQ (rs:List RRes) (Φ:AV->AH->Prop):Ex->Fr->AH->Prop
 | .exit _,_,_=>False
 |_,fr,h=>∃vs,Jb fr h rs=some vs/\Φ (I2 vs) h
@[simp] theorem vD (rs:List RRes) (Φ:AV->AH->Prop) (fr:Fr) (h:AH):WQ rs Φ .normal fr h=(∃vs,Jb fr h rs=some vs/\Φ (I2 vs) h):=_root_.id rfl
@[simp] theorem vF (rs:List RRes) (Φ:AV->AH->Prop) (fr:Fr) (h:AH):WQ rs Φ .ret fr h=(∃vs,Jb fr h rs=some vs/\Φ (I2 vs) h):=_root_.id rfl
theorem kv {C:Cfg} {f:FuncId} {rf:RFunc} {args:E5} {h:AH} {Φ:AV->AH->Prop} (hc:C.code f=some rf) (hl:args.length<=rf.ntmps)
  (H:∀fr:Fr,fr.length=rf.ntmps->(∀i,A0 fr i=args.getD i A9)->C8 (A1 (Q8 C) (C.ctx f) rf.body (fr,h)) (WQ rf.results Φ)):∃v h',rc C f args h=some (v,h')/\Φ v h':=by
 obtain⟨hl',hlook⟩:=Ki hl;obtain⟨e,D3,h',he,hp⟩:=(H _ hl' hlook).elim';have key:∃vs,Jb D3 h' rf.results=some vs/\Φ (I2 vs) h':=by
  cases e with
  |exit i=>exact hp.elim
  |normal=>exact hp
  |ret=>exact hp
 obtain⟨vs,hv,hΦ⟩:=key;refine⟨I2 vs,h',lc C ?_,hΦ⟩;unfold NR;simp only[hc];unfold Jz;rw[he];cases e with
 |exit i=>exact hp.elim
 |normal=>simp only[hv];rfl
 |ret=>simp only[hv];rfl
def RCode.wr:RCode->List Nat
 | .region _ ops=>ops.filterMap (·.dst)
 | .seq a b=>a.wr++b.wr
 | .cond _ a b=>a.wr++b.wr
 | .block _ a=>a.wr
 | .loop a=>a.wr
 |_=>[]
def Kp (ws:List Nat) (fr D3:Fr):Prop:=D3.length=fr.length/\∀j,j∉ws->A0 D3 j=A0 fr j
theorem A5 {ws:List Nat} {fr D3:Fr} {v:AV} (K:Kp ws fr D3) (i:Nat) (h:A0 fr i=v) (d:i∉ws:=by decide):A0 D3 i=v:=(K.2 i d).trans h
theorem Kp.refl (ws:List Nat) (fr:Fr):Kp ws fr fr:=⟨rfl,λ_ _=>rfl⟩
theorem Kp.trans {ws:List Nat} {a b c:Fr} (h:Kp ws a b) (k:Kp ws b c):Kp ws a c:=⟨k.1.trans h.1,λj hj=>(k.2 j hj).trans (h.2 j hj)⟩
theorem Kp.mono {ws ws':List Nat} {a b:Fr} (h:Kp ws a b) (hs:∀j,j∈ws->j∈ws'):Kp ws' a b:=⟨h.1,λj hj=>h.2 j λk=>hj (hs j k)⟩
theorem Kp.put (fr:Fr) (d:Option Nat) (v:AV) {ws:List Nat} (hd:∀x,d=some x->x∈ws):Kp ws fr (put fr d v):=by
 cases d with
 |none=>exact Kp.refl _ _
 |some d =>
  refine⟨by simp,λj hj=>?_⟩;have M8:d≠j:=λe=>hj (e ▸ hd d rfl);simp[D1 fr v M8]
section
variable {C:Cfg} {c:Ctx}
theorem SE {O:Orc}:∀{I7:List RO} {fr:Fr} {h:AH} {x:Fr×AH} {ws:List Nat},(∀j,j∈I7.filterMap (·.dst)->j∈ws)->J2 O c I7 fr h=some x->Kp ws fr x.1
 | [],fr,h,x,ws,_,he=>by
  simp only[J2]at he;cases he;exact Kp.refl _ _
 |o::I7,fr,h,x,ws,hs,he=>by
  have h1:∀y,o.dst=some y->y∈ws:=λy hy=>hs y (by simp[hy]);have h2:∀j,j∈I7.filterMap (·.dst)->j∈ws:=λj hj=>hs j (by
   rw[List.filterMap_cons];split
   .exact hj
   .exact List.mem_cons_of_mem _ hj)
  simp only[J2]at he;cases hw:DN fr o.guard with
  |none=>rw[hw]at he;cases he
  |some b =>
   rw[hw]at he;cases b with
   |false=>exact(Kp.put fr o.dst _ h1).trans (SE h2 he)
   |true =>
    dsimp only at he;cases AZ:A2 O c o.op fr h with
    |none=>rw[AZ]at he;cases he
    |some y =>
     rw[AZ]at he;exact(Kp.put fr o.dst _ h1).trans (SE h2 he)
theorem UH {step:St->Option (Ex×St)} {ws:List Nat} (hs:∀s x,step s=some x->Kp ws s.1 x.2.1):∀(n:Nat) (s:St) (x:Ex×St),IF step n s=some x->Kp ws s.1 x.2.1
 |0,s,x,he=>by simp[IF]at he
 |n+1,s,x,he=>by
  simp only[IF]at he;cases h1:step s with
  |none=>rw[h1]at he;cases he
  |some y =>
   rw[h1]at he;have k:=hs s y h1;obtain⟨e,s'⟩:=y;cases e with
   |normal=>exact k.trans (UH hs n s' x he)
   |exit id=>cases he;exact k
   |ret=>cases he;exact k
theorem cH:∀(rc:RCode) (s:St) (x:Ex×St),A1 (Q8 C) c rc s=some x->Kp rc.wr s.1 x.2.1:=by
 intro rc
 induction rc with
 |skip=>intro s x he;cases he;exact Kp.refl _ _
 |region d I7 =>
  intro s x he;simp only[A1]at he;cases hs:J2 (Q8 C) c I7 s.1 s.2 with
  |none=>rw[hs]at he;cases he
  |some y =>
   rw[hs]at he;cases he;exact SE (λj hj=>hj) hs
 |seq a b iha ihb =>
  intro s x he;simp only[A1]at he;cases hs:A1 (Q8 C) c a s with
  |none=>rw[hs]at he;cases he
  |some y =>
   rw[hs]at he;have k:=(iha s y hs).mono (ws':=(RCode.seq a b).wr) λj hj=>xY _ hj;obtain⟨e,s'⟩:=y;cases e with
   |normal=>exact k.trans ((ihb _ _ he).mono λj hj=>xX _ hj)
   |exit id=>cases he;exact k
   |ret=>cases he;exact k
 |cond q a b iha ihb =>
  intro s x he;simp only[A1]at he;split at he
  .exact(iha _ _ he).mono λj hj=>xY _ hj
  .exact(ihb _ _ he).mono λj hj=>xX _ hj
  .cases he
 |block id a ih =>
  intro s x he;simp only[A1]at he;cases hs:A1 (Q8 C) c a s with
  |none=>rw[hs]at he;cases he
  |some y =>
   rw[hs]at he;have k:=ih s y hs;obtain⟨e,s'⟩:=y;cases e with
   |normal=>cases he;exact k
   |exit i =>
    simp only at he;split at he<;>cases he<;>exact k
   |ret=>cases he;exact k
 |loop a ih =>
  intro s x he;obtain⟨n,hn⟩:=VS he;exact UH ih n s x hn
 |exit id=>intro s x he;cases he;exact Kp.refl _ _
 |ret=>intro s x he;cases he;exact Kp.refl _ _
 |bad=>intro s x he;cases he
theorem bd {rc:RCode} {ws:List Nat} (hw:rc.wr=ws) {fr:Fr} {h:AH} {Ψ:Ex->Fr->AH->Prop} (H:C8 (A1 (Q8 C) c rc (fr,h)) Ψ):C8 (A1 (Q8 C) c rc (fr,h)) λe D3 h'=>Kp ws fr D3/\Ψ e D3 h':=by
 subst hw;obtain⟨e,D3,h',he,hp⟩:=H.elim';have k:=cH rc _ _ he;rw[he];exact⟨k,hp⟩
theorem ee {body:RCode} {Ψ:Ex->Fr->AH->Prop} {ws:List Nat} (hw:body.wr=ws) (fr0:Fr) (Inv:Nat->Fr->AH->Prop)
  (H:∀n fr h,Kp ws fr0 fr->Inv n fr h->C8 (A1 (Q8 C) c body (fr,h)) λe D3 h'=>(e=.normal/\∃m,m<n/\Inv m D3 h')\/(e≠.normal/\Ψ e D3 h'))
  (n:Nat) (h:AH) (hi:Inv n fr0 h):C8 (lp (A1 (Q8 C) c body) (fr0,h)) λe D3 h'=>Kp ws fr0 D3/\Ψ e D3 h':=by
 refine Qi (λn fr h=>Kp ws fr0 fr/\Inv n fr h) (λn fr h ⟨k,hi⟩=>?_) n fr0 h ⟨Kp.refl _ _,hi⟩;refine(bd hw (H n fr h k hi)).mono λe D3 h' ⟨k',hp⟩=>?_;rcases hp with ⟨h1,m,h2,h3⟩|⟨h1,h2⟩
 .exact .inl ⟨h1,m,h2,k.trans k',h3⟩
 .exact .inr ⟨h1,k.trans k',h2⟩
end
theorem O9 {n:Nat} {I J:Nat->Fr->AH->Prop} {fr:Fr} {h:AH} (hJ:∀n fr h,I n fr h->J n fr h) (hi:I (n-1) fr h) (h0:n-1<n:=by omega):∃m,m<n/\J m fr h:=⟨n-1,h0,hJ _ _ _ hi⟩
theorem C3 {C:Cfg} {c:Ctx} {body:RCode} {Ψ:Ex->Fr->AH->Prop} {ws:List Nat} (hw:body.wr=ws) (fr0:Fr) (Inv:Nat->Fr->AH->Prop)
  (H:∀(J:Nat->Fr->AH->Prop) (Φ:Ex->Fr->AH->Prop),(∀n fr h,Inv n fr h->J n fr h)->(∀e fr h,Ψ e fr h->Φ e fr h)->∀n fr h,Kp ws fr0 fr->Inv n fr h ->
   C8 (A1 (Q8 C) c body (fr,h)) λe D3 h'=>(e=.normal/\∃m,m<n/\J m D3 h')\/(e≠.normal/\Φ e D3 h'))
  (n:Nat) (h:AH) (hi:Inv n fr0 h):C8 (lp (A1 (Q8 C) c body) (fr0,h)) λe D3 h'=>Kp ws fr0 D3/\Ψ e D3 h' :=
 ee hw fr0 Inv (H Inv Ψ (λ_ _ _ h=>h) (λ_ _ _ h=>h)) n h hi
def Yn (rs:List RRes) (Φ:AV->Prop):Ex->Fr->AH->Prop
 | .exit _,_,_=>False
 |_,fr,h=>∃r,fin rs fr h=some r/\Φ r
@[simp] theorem vA (rs:List RRes) (Φ:AV->Prop) (fr:Fr) (h:AH):Yn rs Φ .normal fr h=(∃r,fin rs fr h=some r/\Φ r):=_root_.id rfl
@[simp] theorem vB (rs:List RRes) (Φ:AV->Prop) (fr:Fr) (h:AH):Yn rs Φ .ret fr h=(∃r,fin rs fr h=some r/\Φ r):=_root_.id rfl
theorem Xi {C:Cfg} {f:FuncId} {rf:RFunc} {args:E5} {Φ:AV->Prop} (hs:C.spec f=none) (hc:C.code f=some rf) (hl:args.length<=rf.ntmps)
  (H:∀fr:Fr,fr.length=rf.ntmps->(∀i,A0 fr i=args.getD i A9)->C8 (A1 (Q8 C) (C.ctx f) rf.body (fr,⟨[],[]⟩)) (Yn rf.results Φ)):∃r,pc C f args=some r/\Φ r:=by
 obtain⟨hl',hlook⟩:=Ki hl;obtain⟨e,D3,h',he,hp⟩:=(H _ hl' hlook).elim';have key:∃r,fin rf.results D3 h'=some r/\Φ r:=by
  cases e with
  |exit i=>exact hp.elim
  |normal=>exact hp
  |ret=>exact hp
 obtain⟨r,hr,hΦ⟩:=key;refine⟨r,gv hs hc hl λfr h1 h2=>?_,hΦ⟩;have hfr:fr=Dz rf args:=by
  apply List.ext_getElem (h1.trans hl'.symm);intro i g1 g2;have a:=h2 i;have b:=hlook i;simp only[A0,List.getD,oD g1,oD g2,Option.getD_some]at a b;exact a.trans b.symm
 subst hfr;rw[he];cases e with
 |exit i=>exact hp.elim
 |normal=>exact hr
 |ret=>exact hr
theorem Ko {C:Cfg} {f:FuncId} {rf:RFunc} {args:E5} {Φ:AV->Prop} (hs:C.spec f=none) (hc:C.code f=some rf) (hl:args.length<=rf.ntmps)
  (H:∀Ψ:AV->Prop,(∀r,Φ r->Ψ r)->∀fr:Fr,fr.length=rf.ntmps->(∀i,A0 fr i=args.getD i A9)->C8 (A1 (Q8 C) (C.ctx f) rf.body (fr,⟨[],[]⟩)) (Yn rf.results Ψ)):∃r,pc C f args=some r/\Φ r :=
 Xi hs hc hl (H Φ λ_ h=>h)
@[simp] theorem tT (h:AH) (k:IntKind) (n:Int):tame h (.int k n)=true:=_root_.id rfl
@[simp] theorem pz (h:AH) (b:Bool):tame h (.bool b)=true:=_root_.id rfl
@[simp] theorem tU (h:AH) (s:H6):tame h (.str s)=true:=_root_.id rfl
@[simp] theorem tP (h:AH) (cs:E5):tame h (.agg cs)=cs.all (GG h):=_root_.id rfl
@[simp] theorem pu (h:AH) (k:IntKind) (n:Int):GG h (.int k n)=true:=_root_.id rfl
@[simp] theorem nv (h:AH) (b:Bool):GG h (.bool b)=true:=_root_.id rfl
@[simp] theorem pw (h:AH) (s:H6):GG h (.str s)=true:=_root_.id rfl
@[simp] theorem uy (h:AH) (f:Bool) (sz:Nat) (xs:E5):tame h (.vs f sz xs)=true:=_root_.id rfl
@[simp] theorem tO (h:AH) (f:Bool) (sz:Nat) (xs:E5):GG h (.vs f sz xs)=true:=_root_.id rfl
@[simp] theorem mb (k n off len:Nat):(AV.sl k n off len).isTup=false:=_root_.id rfl
@[simp] theorem mJ (k n off len:Nat):(AV.sl k n off len).cells=[.sl k n off len]:=_root_.id rfl
@[simp] theorem pS (b off:Nat):(AV.ptr b off).isTup=false:=_root_.id rfl
@[simp] theorem ob (b off:Nat):(AV.ptr b off).cells=[.ptr b off]:=_root_.id rfl
@[simp] theorem rZ (f:Bool) (sz:Nat) (xs:E5):(AV.vs f sz xs).isTup=false:=_root_.id rfl
@[simp] theorem qj (f:Bool) (sz:Nat) (xs:E5):(AV.vs f sz xs).cells=[.vs f sz xs]:=_root_.id rfl
end Go.Abs
namespace Go.Abs
open Go.RowKit (Below)
open Go.Proofs (ltOf CmpLays sortWorldK)
def Uz (O:Orc) (g:FuncId) (caps xs:List AV) (i j:Nat):Int :=
 match O.pure g ([xs.getD i A9,xs.getD j A9]++caps)with|some (.int .i64 c)=>c|_=>0
def W1 (n i:Nat):Nat:=if i<n then i else 0
def bz (O:Orc) (g:FuncId) (caps xs:List AV) (i j:Nat):Int:=Uz O g caps xs (W1 xs.length i) (W1 xs.length j)
structure SortOk (O:Orc) (g:FuncId) (caps xs:List AV):Prop where
 ans:∀i j,i<xs.length->j<xs.length->∃c,O.pure g ([xs.getD i A9,xs.getD j A9]++caps)=some (.int .i64 c)
 swo:Go.Sort.SWO (ltOf (bz O g caps xs))
def CQ (O:Orc) (g:FuncId) (caps xs:List AV):Array Nat:=Go.Sort.pdq (ltOf (bz O g caps xs)) (Array.range xs.length) 0 xs.length (Lib.bitLen xs.length) true true
def AV.isAgg:AV->Bool
 | .agg _=>true
 |_=>false
open Classical in
noncomputable def Gv (K:Nat) (O:Orc) (args:List AV) (h:AH):Option (AV×AH) :=
 match args with
 | [.sl k n off len,.fn g caps] =>
  match h.fams[k]? with
  |some f =>
   if f.xs.length=n/\off=0/\len=n/\0<n/\n<4611686018427387904/\f.wr=true/\f.sz=K/\caps.all AV.flat=true/\f.xs.all AV.isAgg=true/\SortOk O g caps f.xs then
    some (A9,{h with fams:=h.fams.set k {f with xs:=(CQ O g caps f.xs).toList.map λi=>f.xs.getD i A9}})
   else none
  |none=>none
 | [.vs _ _ xs,.fn _ _]=>if xs.length<=1 then some (A9,h)else none
 |_=>none
theorem FS {n i:Nat} (hn:0<n):W1 n i<n:=by unfold W1;split<;>omega
theorem iT (K:Nat) (O:Orc) (args:E5) (h:AH) (x:AV×AH) (he:Gv K O args h=some x) :
  ∃l:List (FuncId×List AV×AV),(∀p∈l,O.pure p.1 p.2.1=some p.2.2)/\∀O':Orc,(∀p∈l,O'.pure p.1 p.2.1=some p.2.2)->Gv K O' args h=some x:=by
 unfold Gv at he;split at he
 .rename_i k n off len g caps;split at he
  .rename_i f hf;split at he
   .rename_i hc;obtain⟨c1,c2,c3,c4,c5,c6,c7,c8,c9,AG⟩:=hc;have N7:0<f.xs.length:=by omega
    refine⟨(xd f.xs.length).flatMap λi=>(xd f.xs.length).map λj=>(g,[f.xs.getD i A9,f.xs.getD j A9]++caps,.int .i64 (Uz O g caps f.xs i j)),?_,?_⟩
    .intro p hp;simp only[xa,xc,xb]at hp;obtain⟨i,hi,j,hj,rfl⟩:=hp;obtain⟨c,hc⟩:=AG.ans i j hi hj;simp only[Uz,hc]
    .intro O' hO';have key:∀i j,i<f.xs.length->j<f.xs.length->O'.pure g ([f.xs.getD i A9,f.xs.getD j A9]++caps)=some (.int .i64 (Uz O g caps f.xs i j)):=λi j hi hj =>
      hO' (g,[f.xs.getD i A9,f.xs.getD j A9]++caps,.int .i64 (Uz O g caps f.xs i j)) (by
       simp only[xa,xc,xb];exact⟨i,hi,j,hj,rfl⟩)
     have hcf:bz O' g caps f.xs=bz O g caps f.xs:=by
      funext i j;show Uz O' g caps f.xs _ _=_;unfold Uz;rw[key _ _ (FS N7) (FS N7)];rfl
     have hok':SortOk O' g caps f.xs:=⟨λi j hi hj=>⟨_,key i j hi hj⟩,by rw[hcf];exact AG.swo⟩;unfold Gv;simp only[hf];rw[if_pos ⟨c1,c2,c3,c4,c5,c6,c7,c8,c9,hok'⟩,←he];unfold CQ;rw[hcf]
   .cases he
  .cases he
 .exact⟨[],λp hp=>by simp at hp,λO' _=>by unfold Gv;exact he⟩
 .cases he
noncomputable def Uh (K:Nat):RSpec:=⟨Gv K,iT K⟩
theorem ZD {w w':World} (h:Bl w.heap.size w w'):∃q os,w'=Go.Sort.grow (w.drewN q) os:=by
 refine⟨w'.drawn-w.drawn,w'.heap.extract w.heap.size w'.heap.size,?_⟩;obtain⟨⟨e1,e2,e3,e4,e5⟩,e6⟩:=h;have hh:w'.heap=w.heap++w'.heap.extract w.heap.size w'.heap.size:=by
  apply xZ;intro k;by_cases hk:k<w.heap.size
  .rw[Array.getElem?_append_left hk,e5 k hk]
  .rw[Array.getElem?_append_right (by omega),Array.getElem?_extract];by_cases CE:k<w'.heap.size
   .rw[if_pos (by omega)];congr 1;omega
   .rw[if_neg (by omega),Array.getElem?_eq_none (by omega)]
 obtain⟨hp,tp,dr,os,ou⟩:=w';obtain⟨hp0,tp0,dr0,os0,ou0⟩:=w;simp only at e1 e2 e3 e4 e6 hh;subst e1 e2 e3;simp only[Go.Sort.grow,World.drewN];congr 1;omega
theorem Pn {w:World} {blk off:Nat} {F cur:Array Value} {t:TypeId} (h:w.heap[blk]?=some (.cells cur t (0,0))) :
  Go.Sort.putRow id w blk off F=w.setRow blk (Go.Sort.putCells id off F cur):=by
 unfold Go.Sort.putRow Go.Sort.mapBlock World.setRow;congr 1;apply xZ;intro k;simp only[Array.getElem?_modify];by_cases hk:blk=k
 .subst hk;rw[if_pos rfl,if_pos rfl,h];rfl
 .rw[if_neg hk,if_neg hk]
theorem VK {off:Nat} {F cur:Array Value} {k:Nat}:(Go.Sort.putCells id off F cur)[k]?=(cur[k]?).map λx=>if off<=k/\k<off+F.size then F[k-off]! else x:=by
 unfold Go.Sort.putCells;rw[Array.getElem?_mapIdx];rfl
theorem TW {off:Nat} {F cur:Array Value}:(Go.Sort.putCells id off F cur).size=cur.size:=by
 unfold Go.Sort.putCells;simp
end Go.Abs
namespace Go.Abs
def RSpec.of (run:List AV->AH->Option (AV×AH)):RSpec:=⟨λ_=>run,λ_ _ _ _ he=>⟨[],λ_ hp=>(nomatch hp),λ_ _=>he⟩⟩
def Ke (K bytes:Nat) (args:List AV) (h:AH):Option (AV×AH) :=
 match args with
 | [s,.int .i64 i,.vs _ z [x]] =>
  if z=K/\x.isAgg=true then
   match s with
   | .sl k n off len =>
    match h.fams[k]? with
    |some f =>
     if f.xs.length=n/\off=0/\len=n/\0<n/\f.wr=true/\f.sz=K/\0<=i/\i<=n/\(n+1)*bytes<=G5/\n+1<=maxLen then
      some (.sl k (n+1) 0 (n+1),{h with fams:=h.fams.set k {f with xs:=f.xs.take i.toNat++x::f.xs.drop i.toNat}})
     else none
    |none=>none
   | .vs true _ []=>if i=0/\bytes<=G5 then some (.sl h.fams.length 1 0 1,{h with fams:=h.fams++[⟨[x],K,true⟩]})else none
   |_=>none
  else none
 |_=>none
def cc (K bytes:Nat):RSpec:=.of (Ke K bytes)
def Oh (K bytes:Nat) (args:List AV) (h:AH):Option (AV×AH) :=
 match args with
 | [.vs true z [],i,x]=>Ke K bytes [.vs true z [],i,x] h
 |_=>none
def ae (K bytes:Nat):RSpec:=.of (Oh K bytes)
def My (K bytes:Nat) (args:List AV) (h:AH):Option (AV×AH) :=
 match args with
 | [.vs true z [],.int .i64 n] =>
  if n=0 then some (.vs true z [],h)
  else if 0<n/\n*bytes<=G5/\n<=maxLen then some (.sl h.fams.length 0 0 0,{h with fams:=h.fams++[⟨[],K,false⟩]})
  else none
 |_=>none
def UC (K bytes:Nat):RSpec:=.of (My K bytes)
end Go.Abs
namespace Go.Abs.Q
open Go.Proofs
def Q6 (a b:ByteArray):Int:=if Op.bytesLess a.toList b.toList then -1 else if a.toList=b.toList then 0 else 1
def Vu:List AV->Option AV
 | [.str a,.str b]=>some (.int .i64 (Q6 a b))
 |_=>none
def Vv:List AV->Option AV
 | [.str a,.str b]=>match b.data.toList with | [c]=>some (.bool (a.data.toList.contains c))|_=>none
 |_=>none
def LV (f:FuncId):Option (List AV->Option AV):=if f=U4 then some Vu else if f=AM then some Vv else none
noncomputable def SX (f:FuncId):Option RSpec:=if f=C9 then some (Uh 4)else if f=K9 then some (cc 4 56)else if f=L9 then some (ae 5 64)else if f=N3 then some (UC 4 56)else none
noncomputable def Q:Cfg:=⟨Az,G8,LV,SX⟩
theorem Lf (f:FuncId):Q.code f=Az f:=by
 simp only[Q]
theorem PR (f:FuncId):Q.spec f=LV f:=by
 simp only[Q]
@[simp] theorem Tb (f:FuncId):Q.ctx f=G8 f:=by
 simp only[Q]
@[simp] theorem qq (f:FuncId):(G8 f).raw=C4:=_root_.id rfl
@[simp] theorem qo (f:FuncId):(G8 f).mutApp=TM f:=_root_.id rfl
@[simp] theorem oh (f:FuncId):(G8 f).rawv=GC f:=_root_.id rfl
@[simp] theorem qp (f:FuncId):(G8 f).noB=Bf:=_root_.id rfl
@[simp] theorem uB (f:FuncId):(G8 f).ro=eJ f:=_root_.id rfl
theorem bG {f:FuncId} {s:List AV->Option AV} (h:LV f=some s) {args:E5} {r:AV} (hr:s args=some r):pc Q f args=some r:=by
 apply lX;unfold JJ;have e:Q.spec f=some s:=h;rw[e];exact hr
theorem nO (a b:H6):pc Q U4 [.str a,.str b]=some (.int .i64 (Q6 a b)):=bG (s:=Vu) rfl rfl
theorem nP (a:H6) (c:UInt8):pc Q AM [.str a,.str ⟨#[c]⟩]=some (.bool (a.data.toList.contains c)):=bG (s:=Vv) rfl rfl
theorem JL {f:FuncId} {s:RSpec} (hc:Az f=none) (hs:SX f=some s) {args:E5} {h:AH} {x:AV×AH} (hr:s.run (Q8 Q) args h=some x):rc Q f args h=some x:=by
 apply lc;unfold NR;have e1:Q.code f=none:=(Lf f).trans hc;have e2:Q.rspec f=some s:=hs;rw[e1];simp only[e2];exact hr
theorem WD {f:FuncId} {rf:RFunc} {args:E5} {r:AV} (hc:Az f=some rf) (hs:LV f=none) (hl:args.length<=rf.ntmps)
  (H:∀fr:Fr,fr.length=rf.ntmps->(∀i,A0 fr i=args.getD i A9)->C8 (A1 (Q8 Q) (G8 f) rf.body (fr,⟨[],[]⟩)) (iu rf.results r)):pc Q f args=some r :=
 kR (C:=Q) ((PR f).trans hs) ((Lf f).trans hc) hl λfr h1 h2=>by
  rw[Tb];exact H fr h1 h2
theorem sv {f:FuncId} {rf:RFunc} {args:E5} {h:AH} {Φ:AV->AH->Prop} (hc:Az f=some rf) (hl:args.length<=rf.ntmps)
  (H:∀fr:Fr,fr.length=rf.ntmps->(∀i,A0 fr i=args.getD i A9)->C8 (A1 (Q8 Q) (G8 f) rf.body (fr,h)) (WQ rf.results Φ)):∃v h',rc Q f args h=some (v,h')/\Φ v h' :=
 kv (C:=Q) ((Lf f).trans hc) hl λfr h1 h2=>by
  rw[Tb];exact H fr h1 h2
theorem N0 {f:FuncId} (rf:RFunc) {a r:AV} (H:∀fr:Fr,fr.length=rf.ntmps->A0 fr 0=a->C8 (A1 (Q8 Q) (G8 f) rf.body (fr,⟨[],[]⟩)) (iu rf.results r)) (hl:1<=rf.ntmps:=by decide) (hs:LV f=none:=by rfl) (hc:Az f=some rf:=by kernel_rfl):pc Q f [a]=some r:=
 WD hc hs hl λfr h1 h2=>H fr h1 (h2 0)
theorem R9 {f:FuncId} (rf:RFunc) {a b r:AV} (H:∀fr:Fr,fr.length=rf.ntmps->A0 fr 0=a->A0 fr 1=b->C8 (A1 (Q8 Q) (G8 f) rf.body (fr,⟨[],[]⟩)) (iu rf.results r)) (hl:2<=rf.ntmps:=by decide) (hs:LV f=none:=by rfl) (hc:Az f=some rf:=by kernel_rfl):pc Q f [a,b]=some r:=
 WD hc hs hl λfr h1 h2=>H fr h1 (h2 0) (h2 1)
theorem JZ {f:FuncId} (rf:RFunc) {a b c r:AV} (H:∀fr:Fr,fr.length=rf.ntmps->A0 fr 0=a->A0 fr 1=b->A0 fr 2=c->C8 (A1 (Q8 Q) (G8 f) rf.body (fr,⟨[],[]⟩)) (iu rf.results r)) (hl:3<=rf.ntmps:=by decide) (hs:LV f=none:=by rfl) (hc:Az f=some rf:=by kernel_rfl):pc Q f [a,b,c]=some r:=
 WD hc hs hl λfr h1 h2=>H fr h1 (h2 0) (h2 1) (h2 2)
theorem Ja {f:FuncId} (rf:RFunc) {a:AV} {Φ:AV->Prop} (H:∀Ψ:AV->Prop,(∀v,Φ v->Ψ v)->∀fr:Fr,fr.length=rf.ntmps->A0 fr 0=a->C8 (A1 (Q8 Q) (G8 f) rf.body (fr,⟨[],[]⟩)) (Yn rf.results Ψ)) (hl:1<=rf.ntmps:=by decide) (hs:LV f=none:=by rfl) (hc:Az f=some rf:=by kernel_rfl):∃v,pc Q f [a]=some v/\Φ v:=
 Ko (C:=Q) ((PR _).trans hs) ((Lf _).trans hc) hl λΨ hΨ fr h1 h2=>by rw[Tb];exact H Ψ hΨ fr h1 (h2 0)
theorem TT {f:FuncId} (rf:RFunc) {a b:AV} {Φ:AV->Prop} (H:∀Ψ:AV->Prop,(∀v,Φ v->Ψ v)->∀fr:Fr,fr.length=rf.ntmps->A0 fr 0=a->A0 fr 1=b->C8 (A1 (Q8 Q) (G8 f) rf.body (fr,⟨[],[]⟩)) (Yn rf.results Ψ)) (hl:2<=rf.ntmps:=by decide) (hs:LV f=none:=by rfl) (hc:Az f=some rf:=by kernel_rfl):∃v,pc Q f [a,b]=some v/\Φ v:=
 Ko (C:=Q) ((PR _).trans hs) ((Lf _).trans hc) hl λΨ hΨ fr h1 h2=>by rw[Tb];exact H Ψ hΨ fr h1 (h2 0) (h2 1)
theorem Xw {f:FuncId} (rf:RFunc) {a b c:AV} {Φ:AV->Prop} (H:∀Ψ:AV->Prop,(∀v,Φ v->Ψ v)->∀fr:Fr,fr.length=rf.ntmps->A0 fr 0=a->A0 fr 1=b->A0 fr 2=c->C8 (A1 (Q8 Q) (G8 f) rf.body (fr,⟨[],[]⟩)) (Yn rf.results Ψ)) (hl:3<=rf.ntmps:=by decide) (hs:LV f=none:=by rfl) (hc:Az f=some rf:=by kernel_rfl):∃v,pc Q f [a,b,c]=some v/\Φ v:=
 Ko (C:=Q) ((PR _).trans hs) ((Lf _).trans hc) hl λΨ hΨ fr h1 h2=>by rw[Tb];exact H Ψ hΨ fr h1 (h2 0) (h2 1) (h2 2)
theorem YC {f:FuncId} (rf:RFunc) {a:AV} {h:AH} {Φ:AV->AH->Prop} (H:∀fr:Fr,fr.length=rf.ntmps->A0 fr 0=a->C8 (A1 (Q8 Q) (G8 f) rf.body (fr,h)) (WQ rf.results Φ)) (hl:1<=rf.ntmps:=by decide) (hc:Az f=some rf:=by kernel_rfl):∃v h',rc Q f [a] h=some (v,h')/\Φ v h':=
 sv hc hl λfr h1 h2=>H fr h1 (h2 0)
theorem FM {f:FuncId} (rf:RFunc) {a b:AV} {h:AH} {Φ:AV->AH->Prop} (H:∀fr:Fr,fr.length=rf.ntmps->A0 fr 0=a->A0 fr 1=b->C8 (A1 (Q8 Q) (G8 f) rf.body (fr,h)) (WQ rf.results Φ)) (hl:2<=rf.ntmps:=by decide) (hc:Az f=some rf:=by kernel_rfl):∃v h',rc Q f [a,b] h=some (v,h')/\Φ v h':=
 sv hc hl λfr h1 h2=>H fr h1 (h2 0) (h2 1)
theorem kr {f:FuncId} (rf:RFunc) {a b c:AV} {h:AH} {Φ:AV->AH->Prop} (H:∀fr:Fr,fr.length=rf.ntmps->A0 fr 0=a->A0 fr 1=b->A0 fr 2=c->C8 (A1 (Q8 Q) (G8 f) rf.body (fr,h)) (WQ rf.results Φ)) (hl:3<=rf.ntmps:=by decide) (hc:Az f=some rf:=by kernel_rfl):∃v h',rc Q f [a,b,c] h=some (v,h')/\Φ v h':=
 sv hc hl λfr h1 h2=>H fr h1 (h2 0) (h2 1) (h2 2)
end Go.Abs.Q
namespace Go.Abs.Q
attribute [local simp] D1 D4 fin I2 G0
def ET (a b:Int):Int:=if a<b then -1 else if b<a then 1 else 0
theorem NH (a b:Int):pc Q DW [.int .i64 a,.int .i64 b]=some (.int .i64 (ET a b)):=by
 refine WD TU rfl (by simp[Mi]) λfr hl ha=>?_;have h0:=ha 0;have h1:=ha 1;simp[Mi]at hl h0 h1 ⊢;by_cases h:a<b
 .simp[*,ET]
 .by_cases h':b<a<;>simp[*,ET]
theorem GW (a b:Int):pc Q AK [.int .i64 a,.int .i64 b]=some (.int .i64 (ET a b)):=by
 refine WD Pp rfl (by simp[Ie]) λfr hl ha=>?_;have h0:=ha 0;have h1:=ha 1;simp[Ie]at hl h0 h1 ⊢;by_cases h:a<b
 .simp[*,ET]
 .by_cases h':b<a<;>simp[*,ET]
theorem Vd:∀(n:Nat) (t:Tm),t.size<=n->t.size<=1099511627776->pc Q FI [B8 t]=some (.int .i64 t.size):=by
 intro n
 induction n with
 |zero=>intro t h;have:=t.size_pos;omega
 |succ n ih =>
  intro t hn hb;obtain⟨k,nm,s,m,kids⟩:=t;have K3:Tm.size (.mk k nm s m kids)=1+Tm.sizes kids:=rfl;refine N0 Qa λfr hl h0=>?_;simp[Qa,B8]at hl h0 ⊢;simp[*];refine(TZ (Ψ:=λe fr h=>e=.exit 0/\A0 fr 3=.int .i64 (1+Tm.sizes kids:Nat)/\fr.length=19) kids
   (λdone fr h=>fr.length=19/\A0 fr 3=.int .i64 (1+Tm.sizes done:Nat)/\A0 fr 7=sl m 4 (A4 kids)/\A0 fr 8=.int .i64 kids.length/\A0 fr 9=.int .i64 done.length) ?_ ?_ _ _ ?_).mono ?_
  .rintro fr h ⟨hl,h3,h7,h8,h9⟩;simp[Jm, *]
  .rintro done t rest he fr h ⟨hl,h3,h7,h8,h9⟩;have hget:Ir (A4 kids) done.length=some (B8 t):=IN (by rw[←he];simp);have A7:done.length<kids.length:=by rw[←he];simp
   have hts:t.size<=Tm.sizes kids:=Tm.size_le (by rw[←he];simp);have hT:=ih t (by omega) (by omega);have C2:=Tm.length_le kids;have vY:Tm.sizes done+(t.size+Tm.sizes rest)=Tm.sizes kids:=by rw[←he,Tm.sizes_append];rfl
   have hw1:IntKind.i64.wrap (1+(Tm.sizes done:Int)+(t.size:Int))=1+(Tm.sizes (done++[t]):Int):=by
    rw[Tm.sizes_append,M5 (by omega) (by omega)];simp only[Tm.sizes];omega
   have hw2:IntKind.i64.wrap ((done.length:Int)+1)=((done++[t]).length:Nat):=by
    rw[M5 (by omega) (by omega)];simp
   obtain⟨tk,tn,ts,tm,tl⟩:=t;simp only[B8]at hT hget;simp[Jm, *]
  .simp[*,Tm.sizes,D7]
  .rintro e fr h ⟨rfl,h3,hl⟩;simp[*]
end Go.Abs.Q
