/- A part of the proof. -/
import Derived.Test.YtohjdamplbhdpaaGreatDoorSD32
set_option linter.all false
open List renaming mem_append_right->oD,mem_append_left->xY,mem_map->xZ,getElem?_append_right->xa,getElem?_eq_some_iff->xb,getElem?_of_mem->xc,length_map->xd,getElem?_map->xe,length_append->xf,mem_cons_self->xg,mem_singleton->xh,mem_cons_of_mem->xj,mem_cons->xk,getElem?_append_left->xl,mem_filter->xm,mem_of_getElem?->xn,mem_of_getLast?->xo,mem_map_of_mem->xp,all_eq_true->xq,length_take->xr,map_map->xt
open Nat renaming le_refl->xX
open Option renaming map_eq_some_iff->xi
namespace Go.Abs.Q
open Go.Proofs
theorem Ju:∀(l G2:I1) {x:Tm},x∈G2->x∈JA G2 l
 | [],_,_,h=>h
 |t::l,G2,x,h=>Ju l (Lj G2 t) (by unfold Lj;split;exact h;exact xY _ h)
theorem Nj:∀(l G2:I1) {x:Tm},x∈l->x∈JA G2 l
 | [],_,_,h=>nomatch h
 |t::l,G2,x,h=>by
  rcases xk.1 h with rfl|h
  .refine Ju l (Lj G2 x) ?_;unfold Lj;split
   .assumption
   .exact oD _ (xh.2 rfl)
  .exact Nj l (Lj G2 t) h
theorem Lk:∀(l G2:I1),(JA G2 l).length<=G2.length+l.length/\Tm.sizes (JA G2 l)<=Tm.sizes G2+Tm.sizes l
 | [],_=>⟨xX _,xX _⟩
 |t::l,G2=>by
  obtain⟨h1,h2⟩:=Lk l (Lj G2 t);have h3:(Lj G2 t).length<=G2.length+1/\Tm.sizes (Lj G2 t)<=Tm.sizes G2+t.size:=by
   unfold Lj;split
   .exact⟨by omega,by omega⟩
   .rw[xf,Tm.sizes_append];exact⟨xX _,by simp[Tm.sizes]⟩
  show (JA (Lj G2 t) l).length<=_/\Tm.sizes (JA (Lj G2 t) l)<=_;rw[List.length_cons,Tm.sizes];exact⟨by omega,by omega⟩
theorem iP {m:J0} {me:H6} {rs:List ByteArray} {role:Nat} {j:Nat} {r:H6} (hj:rs[j]?=some r) (M8:j≠role):∀{i:Nat},j<i->KR me r∈(JM m me rs role i).map D2/\KR r me∈(JM m me rs role i).map D2
 |0,h=>absurd h (Nat.not_lt_zero _)
 |i+1,h=>by
  rw[JM,List.map_append];by_cases hji:j=i
  .subst hji;rw[if_neg M8,hj];exact⟨oD _ xg,oD _ (xj _ xg)⟩
  .obtain⟨h1,h2⟩:=iP hj M8 (i:=i) (by omega);exact⟨xY _ h1,xY _ h2⟩
theorem XH {ns:List ByteArray} {vs:List Int} (hn:ns.Nodup) {i:Nat} {a:H6} {v:Int} (h1:ns[i]?=some a) (h2:vs[i]?=some v):G3 ns vs a=v:=by
 have hm:=xn h1;have hr:Jq ns a=i:=by
  have h3:=(Kw hm).1;exact(List.getElem?_inj (xb.1 h3).1 hn).1 (h3.trans h1.symm)
 unfold G3;rw[if_pos (DD.2 hm)];have:(idx (BR a) ns).toNat=i:=hr;rw[this,List.getD_eq_getElem?_getD,h2];rfl
section
variable {n:Nar} (D:Drafted n)
include D
theorem Drafted.s_role {a:H6} (h:a∈n.roles):G3 (B4 n) (D6 n) a=1:=Ud h
theorem Drafted.s_fre {f:Fre} (h:f∈n.fresh):G3 (B4 n) (D6 n) f.name=f.sort:=by
 obtain⟨j,hj⟩:=xc h;have hjl:=(xb.1 hj).1;refine XH D.nodup (i:=n.roles.length+j) ?_ ?_
 .unfold B4;rw[xl (by simp;omega),xa (by omega),show n.roles.length+j-n.roles.length=j from by omega,xe,hj];rfl
 .unfold D6;rw[xl (by simp;omega),xa (by simp),xd,show n.roles.length+j-n.roles.length=j from by omega,xe,hj];rfl
theorem Drafted.s_tag {a:H6} (h:a∈n.tags):G3 (B4 n) (D6 n) a=5:=by
 obtain⟨j,hj⟩:=xc h;have hjl:=(xb.1 hj).1;refine XH D.nodup (i:=n.roles.length+n.fresh.length+j) ?_ ?_
 .unfold B4;rw[xa (by simp)];simp only[xf,xd];rw[show n.roles.length+n.fresh.length+j-(n.roles.length+n.fresh.length)=j from by omega,hj]
 .unfold D6;rw[xa (by simp)];simp only[xf,xd];rw[show n.roles.length+n.fresh.length+j-(n.roles.length+n.fresh.length)=j from by omega,xe,hj];rfl
end
structure KnOf (n:Nar) (me:ByteArray) (q:Nat) (k:List Tm):Prop where
 sk:PM me∈k
 pk:∀a∈n.roles,Ow a∈k
 sh:∀a∈n.roles,a≠me->KR me a∈k/\KR a me∈k
 fre:∀f∈n.fresh,f.role=me->XY f.name f.sort∈k
 msg:∀j s,j<q->n.steps[j]?=some s->s.frm=me\/s.to=me->U3 (G3 (B4 n) (D6 n)) s.msg∈k
section
variable {n:Nar} (D:Drafted n)
include D
theorem Drafted.kn {me:H6} {role:Nat} (hme:n.roles[role]?=some me) (q:Nat):KnOf n me q (KQ (G3 (B4 n) (D6 n)) n me role q):=by
 have base:∀x,x∈([PM me]++n.roles.map Ow++(JM (true,true) me n.roles role n.roles.length).map D2)->x∈KQ (G3 (B4 n) (D6 n)) n me role q:=λx hx=>Ju _ _ (Ju _ _ hx);refine⟨base _ (by simp),λa ha=>base _ (xY _ (oD _ (xp ha))),λa ha M8=>?_,λf hf hr=>?_,λj s hj hs Yk=>?_⟩
 .obtain⟨j,hj⟩:=xc ha;have hjr:j≠role:=λe=>by rw[e,hme]at hj;cases hj;exact M8 rfl
  obtain⟨h1,h2⟩:=iP (m:=(true,true)) (me:=me) hj hjr (xb.1 hj).1;exact⟨base _ (oD _ h1),base _ (oD _ h2)⟩
 .refine Ju _ _ (Nj _ _ ?_);unfold GO;rw[xt];exact xZ.2 ⟨f,xm.2 ⟨hf,decide_eq_true hr⟩,rfl⟩
 .refine Nj _ _ (xZ.2 ⟨s,xm.2 ⟨?_,?_⟩,rfl⟩)
  .refine xn (i:=j) ?_;rw[List.getElem?_take,if_pos hj];exact hs
  .unfold JT;rw[Bool.or_eq_true,decide_eq_true_iff,decide_eq_true_iff];exact Yk
theorem Drafted.sml (me:H6) (role q:Nat):td (KQ (G3 (B4 n) (D6 n)) n me role q):=by
 have hrl:n.roles.length<=3:=by obtain⟨b,hb⟩:=D.roles;rw[hb];cases b<;>decide
 have hfl:=D.fresh.1;have cZ:=D.stepsL.2;have s1:(JM (true,true) me n.roles role n.roles.length).length<=2*n.roles.length:=PE _ _ _ _ _;have e1:∀x∈(JM (true,true) me n.roles role n.roles.length).map D2,x.size<=3:=λx hx=>by
  obtain⟨y,hy,rfl⟩:=xZ.1 hx;rw[Dn _ y (xX _),MY _ _ _ _ _ _ hy];exact xX _
 have e2:∀x∈n.roles.map Ow,x.size<=3:=λx hx=>by
  obtain⟨y,_,rfl⟩:=xZ.1 hx;exact xX _
 have e3:∀x∈(GO me n.fresh).map D2,x.size<=1:=λx hx=>by
  obtain⟨y,hy,rfl⟩:=xZ.1 hx;rw[Dn _ y (xX _),Mx hy];exact xX _
 have e4:∀x∈(((n.steps.take q).filter (JT me)).map λs=>U3 (G3 (B4 n) (D6 n)) s.msg),x.size<=17:=λx hx=>by
  obtain⟨s,hs,rfl⟩:=xZ.1 hx;have hs':=List.mem_of_mem_take (xm.1 hs).1;obtain⟨i,hi⟩:=xc hs';rw[PH _ _ _ (xX _)];exact(D.msg hi).2.2
 have l4:(((n.steps.take q).filter (JT me)).map λs=>U3 (G3 (B4 n) (D6 n)) s.msg).length<=3:=by
  rw[xd];have:=List.length_filter_le (JT me) (n.steps.take q);rw[xr]at this;omega
 have l3:=Of me n.fresh;have a1:=Lk ((GO me n.fresh).map D2) ([PM me]++n.roles.map Ow++(JM (true,true) me n.roles role n.roles.length).map D2);have a2:=Lk (((n.steps.take q).filter (JT me)).map λs=>U3 (G3 (B4 n) (D6 n)) s.msg) (JA ([PM me]++n.roles.map Ow++(JM (true,true) me n.roles role n.roles.length).map D2) ((GO me n.fresh).map D2));have z1:=MZ e1;have z2:=MZ e2;have z3:=MZ e3;have z4:=MZ e4;rw[xd]at z1 z2 z3;have q4:(((n.steps.take q).filter (JT me)).map λs=>U3 (G3 (B4 n) (D6 n)) s.msg).length*17<=3*17:=Nat.mul_le_mul_right _ l4;unfold td KQ;simp only[xf,Tm.sizes_append,xd,List.length_singleton]at a1 a2 z4 l4 q4 ⊢;have:Tm.sizes [PM me]=2:=rfl;omega
end
theorem aC {U:I1}:∀{l:I1},Qb U (Qh l)->∀x∈l,Qb U x
 | [],_,x,hx=>nomatch hx
 | [t],h,x,hx=>by rw[xh.1 hx];exact h
 |t::u::l,h,x,hx=>by
  rcases xk.1 hx with rfl|hx
  .exact h.kid xg
  .exact aC (l:=u::l) (h.kid (xj _ xg)) x hx
section
variable {n:Nar} (D:Drafted n)
include D
theorem Drafted.srt {s:Ste} {fm:Int} {tag:H6} {us:List ByteArray} (hm:NU s fm tag us) (h1:s.frm∈n.roles) (h2:s.to∈n.roles):U3 (G3 (B4 n) (D6 n)) s.msg =
  MR fm s.frm s.to (Qh (XY tag (G3 (B4 n) (D6 n) tag)::us.map λu=>XY u (G3 (B4 n) (D6 n) u))) (us.getLast?.map λu=>XY u (G3 (B4 n) (D6 n) u)):=by
 rw[hm,iV _ (D.s_role h1) (D.s_role h2),bU _ _ (by simp),List.map_cons,PG,xt];congr 2
theorem Drafted.src {me:H6} {role q:Nat} (hme:n.roles[role]?=some me) {k U:I1} (hk:KnOf n me q k) (hU:∀x∈k,Qb U x) {i:Nat} (hi:i<=q) {u:H6} (h:Src n me i u):Kn k U (D2 (XY u (G3 (B4 n) (D6 n) u))):=by
 rcases h with ⟨f,hf,hr,rfl⟩|⟨j,s,hj,hs,hto,fm,tag,us,hm,hu⟩
 .rw[D.s_fre hf];exact IG (hk.fre f hf hr)
 .obtain⟨-,h1,h2,h3⟩:=D.steps j s hs;have hM:=hk.msg j s (by omega) hs (.inr hto);have hUM:=hU _ hM;rw[D.srt hm h1 h2]at hM hUM;have hfn:s.frm≠me:=λe=>h3 (e.trans hto.symm);obtain⟨g1,g2⟩:=hk.sh s.frm h1 hfn;rw[hto]at hM hUM;obtain⟨r1,r2⟩:=jy (IG hM) hUM (IG g2) (IG hk.sk) (IG g1);exact gB _ r1 r2 _ (xj _ (xZ.2 ⟨u,hu,rfl⟩))
theorem Drafted.sends {i:Nat} {s:Ste} (hs:n.steps[i]?=some s) {role:Nat} (hme:n.roles[role]?=some s.frm):Q7 (KQ (G3 (B4 n) (D6 n)) n s.frm role i) (U3 (G3 (B4 n) (D6 n)) s.msg)=(0,true):=by
 have hK:=D.kn hme i;obtain⟨⟨fm,tag,us,hm,ht,hl,hu⟩,h1,h2,h3⟩:=D.steps i s hs;refine RW (D.sml _ _ _) (by rw[PH _ _ _ (xX _)];have:=(D.msg hs).2.2;omega) ?_;unfold Nf;generalize hk:KQ (G3 (B4 n) (D6 n)) n s.frm role i=k at *
 have hUk:∀x∈k,Qb (alls (k++[U3 (G3 (B4 n) (D6 n)) s.msg])) x:=λx hx=>OK (xY _ hx);have hUm:Qb (alls (k++[U3 (G3 (B4 n) (D6 n)) s.msg])) (U3 (G3 (B4 n) (D6 n)) s.msg):=OK (oD _ (xh.2 rfl));generalize alls (k++[U3 (G3 (B4 n) (D6 n)) s.msg])=U at *
 have hsrc:=λu (hx:u∈us)=>D.src hme hK hUk (xX i) (hu u hx).1;rw[D.srt hm h1 h2]at hUm ⊢;obtain⟨g1,g2⟩:=hK.sh s.to h2 (λe=>h3 e.symm);refine jz hUm (λhUt=>gA _ (by simp) hUt λx hx=>?_) (λx hx=>?_) (IG g1) (IG (hK.pk _ h2)) (IG hK.sk) (IG g2)
 .rcases xk.1 hx with rfl|hx'
  .refine ml (aC hUt _ hx).self ?_;rw[D.s_tag ht];rfl
  .obtain⟨u,hu',rfl⟩:=xZ.1 hx';exact hsrc u hu'
 .rw[xi]at hx;obtain⟨u,hu',rfl⟩:=hx;exact hsrc u (xo hu')
theorem Drafted.exe:NN n=(0,D2 WE,0):=by
 have hz:(Ae n).2=0:=D.sco;unfold NN;rw[if_neg (by simp[hz])];have key:∀(l:List Ste) (i:Nat),(∀j s,l[j]?=some s->Q7 (KQ (G3 (B4 n) (D6 n)) n s.frm (Jq n.roles s.frm) (i+j)) s.msg=(0,true))->Sx (λme i=>KQ (G3 (B4 n) (D6 n)) n me (Jq n.roles me) i) i l=(0,WE,0):=by
  intro l
  induction l with
  |nil=>intro i _;rfl
  |cons s l ih =>
   intro i h;rw[VH (kf:=λme i=>KQ (G3 (B4 n) (D6 n)) n me (Jq n.roles me) i) (by have:=h 0 s rfl;rwa [Nat.add_zero]at this)];refine ih (i+1) λj s' hs'=>?_;have:=h (j+1) s' hs'
   rwa [show i+(j+1)=i+1+j from by omega]at this
 rw[key _ 0 λj s hs=>?_]
 .rfl
 .rw[xe,xi]at hs;obtain⟨s0,hs0,rfl⟩:=hs;rw[Nat.zero_add];exact D.sends hs0 (Kw (D.steps j s0 hs0).frm).1
theorem Drafted.sees {i:Nat} {s:Ste} (hs:n.steps[i]?=some s) {role:Nat} (hme:n.roles[role]?=some s.to) (N:Nat):FL (KQ (G3 (B4 n) (D6 n)) n s.to role (i+1)) N (U3 (G3 (B4 n) (D6 n)) s.msg)=[]:=by
 have hK:=D.kn hme (i+1);have hS:=D.sml s.to role (i+1);obtain⟨⟨fm,tag,us,hm,ht,hl,hu⟩,h1,h2,h3⟩:=D.steps i s hs;generalize hk:KQ (G3 (B4 n) (D6 n)) n s.to role (i+1)=k at *
 obtain⟨g1,g2⟩:=hK.sh s.frm h1 h3;have HP:∀x∈k,x.size<=50->(Q7 k x).2=true:=λx hx hz=>by
  rw[RW hS hz];exact IG hx
 rw[D.srt hm h1 h2];refine jQ (λN=>fH k _ N (by simp) λx hx=>?_) (HP _ g2 (by show (3:Nat)<=50;omega)) (HP _ hK.sk (by show (2:Nat)<=50;omega)) (HP _ g1 (by show (3:Nat)<=50;omega)) (λx hx=>?_) N
 .rcases xk.1 hx with rfl|hx
  .exact⟨_,_,rfl⟩
  .obtain⟨u,_,rfl⟩:=xZ.1 hx;exact⟨_,_,rfl⟩
 .rw[xi]at hx;obtain⟨u,hu',rfl⟩:=hx;rw[RW hS (by show (5:Nat)<=50;omega)];unfold Nf;have hUk:∀x∈k,Qb (alls (k++[Io (bs [112,97,105,114]) [XY u (G3 (B4 n) (D6 n) u),KR s.to s.frm]])) x:=λx hx=>OK (xY _ hx);have hUm:Qb (alls (k++[Io (bs [112,97,105,114]) [XY u (G3 (B4 n) (D6 n) u),KR s.to s.frm]])) (Io (bs [112,97,105,114]) [XY u (G3 (B4 n) (D6 n) u),KR s.to s.frm]):=OK (oD _ (xh.2 rfl));refine ME (by simp[YP]) hUm (D.src hme hK hUk (xX _) (.inr ⟨i,s,by omega,hs,rfl,fm,tag,us,hm,xo hu'⟩)) (IG g1)
theorem Drafted.typ:Sr n=true:=by
 unfold Sr;rw[decide_eq_true D.sco,Bool.true_and,xq];intro i hi;have BA:=List.mem_range.1 hi;have hs:=List.getElem?_eq_getElem BA;unfold Jv;rw[xe,hs];simp only[Option.map_some];show (jP _ _).isEmpty=true;unfold jP;have hto:=(D.steps i _ hs).to;rw[show (DB (G3 (B4 n) (D6 n)) n.steps[i]).to=n.steps[i].to from rfl,show (DB (G3 (B4 n) (D6 n)) n.steps[i]).msg=U3 (G3 (B4 n) (D6 n)) n.steps[i].msg from rfl,D.sees hs (Kw hto).1];rfl
theorem Drafted.small {a:H6} (h:a∈B4 n):a.size<=10:=by
 have h1:=D.mem_nms h;have h2:((Ua true++Yj++OH).all λa=>decide (a.size<=10))=true:=by decide
 exact of_decide_eq_true (xq.1 h2 a h1)
theorem Drafted.rolesL:2<=n.roles.length/\n.roles.length<=3:=by
 obtain⟨b,hb⟩:=D.roles;rw[hb];cases b<;>exact⟨by decide,by decide⟩
theorem Drafted.tagsL:n.tags.length<=3:=by
 rw[D.tags,xr];have:=D.stepsL.2;omega
theorem Drafted.fine:Fine n where
 name:=by rw[D.name];decide
 roles:=λs hs=>by have:=D.small (D.role_nm hs);omega
 rolesL:=by have:=D.rolesL;omega
 fresh:=λf hf=>by
  have h1:=D.small (D.role_nm (D.fre f hf).1);have h2:=D.small (D.fre_nm (xp hf));omega
 freshL:=by have:=D.fresh.1;omega
 tags:=λs hs=>by have:=D.small (D.tag_nm hs);omega
 tagsL:=by have:=D.tagsL;omega
 steps:=λs hs=>by
  obtain⟨i,hi⟩:=xc hs;have h1:=D.small (D.role_nm (D.steps i s hi).frm);have h2:=D.small (D.role_nm (D.steps i s hi).to);have h3:=(D.msg hi).2.2;omega
 stepsL:=by have:=D.stepsL;omega
 goals:=λg hg=>by
  have G:=D.goals g hg;have h1:=D.small (D.role_nm G.role);have h2:g.wth.size<=10:=by
   cases ha:He g with
   |true=>exact D.small (D.role_nm (G.agr ha).1)
   |false=>rw[G.nag ha];decide
  obtain⟨u,hu,hd⟩:=G.data;rw[hd];refine⟨by omega,by omega,?_⟩;simp[C7,Tm.sizes,Tm.size]
 goalsL:=by have:=D.goalsL;omega
theorem Drafted.lens:Lens n where
 names:=by have:=D.rolesL;have:=D.fresh.1;have:=D.tagsL;omega
 steps:=by have:=D.stepsL;omega
 goals:=by have:=D.goalsL;omega
 data:=λg hg=>by
  obtain⟨u,hu,hd⟩:=(D.goals g hg).data;rw[hd];simp
end
end Go.Abs.Q
