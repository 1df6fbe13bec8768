/- A part of the proof. -/
import Derived.Test.YtohjdamplbhdpaaGreatDoorSK29
set_option linter.all false
open Bool renaming and_eq_true->A0A
open List renaming map_cons->A0B,mem_singleton->A0C,mem_cons->A0D,mem_map->A0E,map_append->A0F,any_eq_true->A0H,mem_append->A0I,mem_cons_of_mem->A0J,mem_map_of_mem->A0L,mem_cons_self->A0M,mem_flatMap->A0N,getD_eq_getElem?_getD->A0O,length_map->A0P,getElem?_eq_getElem->A0Q,map_map->A0R,map_nil->A0S,append_assoc->A0T,eq_nil_of_length_eq_zero->A0U,map_take->A0V,getElem?_eq_some_iff->A0W,not_mem_nil->A0X,filter_cons_of_neg->A0Y,filter_cons_of_pos->A0Z,nodup_cons->A0a,length->A0b,nodup_nil->A0c,mem_of_getElem?->A0d,getElem?_map->A0e,nodup_append->A0f,any_cons->A0g
open Nat renaming le_refl->A0G
open Int renaming toNat_of_nonneg->A0K
namespace Go.Abs.Q
open Go.Proofs
theorem UI (rs:List ByteArray):∀(l:List (ByteArray×Option ByteArray)) (seen:List ByteArray),X6 rs seen l=0 ->
  (l.map (·.1)).Nodup/\(∀a∈l.map (·.1),a∉seen/\OM a=false)/\(∀e∈l,tQ rs e.2=true)/\∀e∈l,e.2.isSome=true->e.1≠bs [101]/\e.1≠bs [103]
 | [],_,_=>⟨A0c,λa h=>(nomatch h),λe h=>(nomatch h),λe h=>(nomatch h)⟩
 |(x,f)::l,seen,h=>by
  have e0:X6 rs seen ((x,f)::l)=if LJ seen x f.isSome≠0 then LJ seen x f.isSome else if tQ rs f=false then 13 else X6 rs (seen++[x]) l:=rfl
  rw[e0]at h;by_cases h1:LJ seen x f.isSome=0
  .rw[if_neg (by simp[h1])]at h;by_cases h2:tQ rs f=false
   .rw[if_pos h2]at h;omega
   .rw[if_neg h2]at h;obtain⟨k1,k2,k3,k4⟩:=UI rs l (seen++[x]) h;unfold LJ at h1;split at h1
    .omega
    .rename_i g1;split at h1
     .omega
     .rename_i g2;split at h1
      .omega
      .rename_i g3;have hx:x∉seen:=λhm=>g3 (A0H.2 ⟨x,hm,(JV x x).2 rfl⟩);refine⟨?_,λa ha=>?_,λe he=>?_,λe he hs=>?_⟩
       .rw[A0B,A0a];refine⟨λhm=>?_,k1⟩;exact(k2 x hm).1 (List.mem_append_right _ (A0C.2 rfl))
       .rw[A0B]at ha;rcases A0D.1 ha with rfl|ha
        .exact⟨hx,by simpa using g1⟩
        .exact⟨λhm=>(k2 a ha).1 (List.mem_append_left _ hm),(k2 a ha).2⟩
       .rcases A0D.1 he with rfl|he
        .simpa using h2
        .exact k3 e he
       .rcases A0D.1 he with rfl|he
        .exact⟨λe=>g2 ⟨hs,.inl e⟩,λe=>g2 ⟨hs,.inr e⟩⟩
        .exact k4 e he hs
  .rw[if_pos h1]at h;exact absurd h h1
theorem TC {n:Nar} (h:GY n=0):(B4 n).Nodup/\∀a∈B4 n,OM a=false:=by
 obtain⟨k1,k2,-,-⟩:=UI n.roles (UN n) [] h;have e:(UN n).map (·.1)=B4 n:=by
  unfold UN B4;rw[A0F,A0F,A0R,A0R,A0R];have e1:∀l:List ByteArray,l.map ((λx:ByteArray×Option ByteArray=>x.1)∘λa=>(a,none))=l:=λl=>by
   rw[show ((λx:ByteArray×Option ByteArray=>x.1)∘λa=>(a,none))=id from rfl,List.map_id]
  rw[e1,e1];rfl
 rw[e]at k1 k2;exact⟨k1,λa ha=>(k2 a ha).2⟩
theorem bQ {n:Nar} (h:GY n=0):n.roles.Nodup:=by
 have h1:=(TC h).1;unfold B4 at h1;rw[A0T]at h1;exact(A0f.1 h1).1
noncomputable def UA (D7 l:List Tm):List Tm:=l.foldl gJ D7
theorem NW:∀(l D7:I6),(P5 D7 l).map E8=UA (D7.map E8) (l.map E8)
 | [],D7=>rfl
 |t::l,D7=>by
  show (P5 (Jk D7 t) l).map E8=UA (gJ (D7.map E8) (E8 t)) (l.map E8);rw[NW l,nM]
theorem SJ:∀(l D7:I6),l.Nodup->(∀x∈l,x∉D7)->UA D7 l=D7++l
 | [],D7,_,_=>by simp[UA]
 |t::l,D7,hn,h=>by
  rw[A0a]at hn;have e:gJ D7 t=D7++[t]:=if_neg (h t A0M);show UA (gJ D7 t) l=_;rw[e,SJ l _ hn.2 (λx hx hm=>?_),A0T,List.singleton_append];rcases A0I.1 hm with hm|hm
  .exact h x (A0J _ hx) hm
  .rw[A0C.1 hm]at hx;exact hn.1 hx
def jX (a:ByteArray):Tm:=E8 (KI (true,true) a)
def cA (a:ByteArray):Tm:=E8 (Ik (true,true) a)
def jW (a b:ByteArray):Tm:=E8 (QB (true,true) a b)
theorem mV (m:J3) (a:I3):E8 (KI m a)=jX a:=rfl
theorem eB (m:J3) (a b:I3):E8 (QB m a b)=jW a b:=rfl
theorem pd {a b:I3} (h:cA a=cA b):a=b:=by
 simp only[cA,Ik,KI,SL,GV,E8,H2]at h;injection h with _ _ _ _ h
 injection h with h _
 injection h with _ _ _ _ h
 injection h with h _
 injection h with _ h _ _ _
theorem fh {a b c d:I3} (h:jW a b=jW c d):a=c/\b=d:=by
 simp only[jW,QB,SL,GV,E8,H2]at h;injection h with _ _ _ _ h
 injection h with h1 h
 injection h with h2 _
 injection h1 with _ h1 _ _ _
 injection h2 with _ h2 _ _ _
 exact⟨h1,h2⟩
theorem rd:bs [115,107]≠bs [112,107]:=by decide
theorem re:bs [115,107]≠bs [115,104,107]:=by decide
theorem rg:bs [112,107]≠bs [115,104,107]:=by decide
theorem mW (a b:I3):cA a≠jX b:=λh=>by
 simp only[jX,cA,Ik,KI,SL,GV,E8,H2]at h;injection h with _ h _ _ _
 exact rd h.symm
theorem bW (a b c:I3):jW a b≠jX c:=λh=>by
 simp only[jX,jW,QB,KI,SL,GV,E8,H2]at h;injection h with _ h _ _ _
 exact re h.symm
theorem bV (a b c:I3):jW a b≠cA c:=λh=>by
 simp only[cA,jW,Ik,QB,KI,SL,GV,E8,H2]at h;injection h with _ h _ _ _
 exact rg h.symm
theorem eC (m m':J3) (me:I3) (rs:List ByteArray) (role:Nat):∀i,(Jc m me rs role i).map E8=(Jc m' me rs role i).map E8
 |0=>rfl
 |i+1=>by
  rw[Jc,Jc,A0F,A0F,eC m m' me rs role i];congr 1;split
  .rfl
  .split<;>rfl
theorem Ts {m:J3} {me:I3} {rs:List ByteArray} {role:Nat}:∀{i:Nat} {x:Tm},x∈(Jc m me rs role i).map E8->∃(j:Nat) (r:I3),j<i/\j≠role/\rs[j]?=some r/\(x=jW me r\/x=jW r me)
 |0,x,h=>by simp[Jc]at h
 |i+1,x,h=>by
  rw[Jc,A0F,A0I]at h;rcases h with h|h
  .obtain⟨j,r,h1,h2⟩:=Ts h;exact⟨j,r,by omega,h2⟩
  .split at h
   .simp at h
   .rename_i hir;split at h
    .rename_i r hr;simp only[A0B,A0S,A0D,A0X,or_false,eB]at h;exact⟨i,r,by omega,hir,hr,h⟩
    .simp at h
theorem SV {rs:List ByteArray} (h:rs.Nodup) {i j:Nat} {a:I3} (hi:rs[i]?=some a) (hj:rs[j]?=some a):i=j:=by
 obtain⟨h1,e1⟩:=A0W.1 hi;obtain⟨h2,e2⟩:=A0W.1 hj;rw[List.Nodup,List.pairwise_iff_getElem]at h;rcases Nat.lt_trichotomy i j with A7|he|hgt
 .exact absurd (e1.trans e2.symm) (h i j h1 h2 A7)
 .exact he
 .exact absurd (e2.trans e1.symm) (h j i h2 h1 hgt)
theorem XB {m:J3} {me:I3} {rs:List ByteArray} {role:Nat} (hn:rs.Nodup) (hme:rs[role]?=some me):∀i,((Jc m me rs role i).map E8).Nodup
 |0=>A0c
 |i+1=>by
  have ih:=XB (m:=m) hn hme i;rw[Jc,A0F];split
  .simpa using ih
  .rename_i hir;split
   .rename_i r hr;have hrm:r≠me:=λe=>hir (SV hn hr (e ▸ hme));rw[A0f];refine⟨ih,?_,?_⟩
    .simp only[A0B,A0S,A0a,A0D,A0X,or_false,not_false_eq_true,A0c,and_true,eB];intro h;exact hrm (fh h).2
    .intro x hx y hy e;subst e;obtain⟨j,r',j1,j2,j3,j4⟩:=Ts hx;simp only[A0B,A0S,A0D,A0X,or_false,eB]at hy;have P1:r≠r':=λe=>by have:=SV hn hr (e ▸ j3);omega
     have hrm':r'≠me:=λe=>j2 (SV hn j3 (e ▸ hme));rcases hy with hy|hy<;>rcases j4 with j4|j4<;>rw[hy]at j4<;>have h:=fh j4
     .exact P1 h.2
     .exact hrm' h.1.symm
     .exact hrm h.1
     .exact P1 h.1
   .simpa using ih
noncomputable def Pq (f:ByteArray->Int) (n:Nar) (me:ByteArray) (role q:Nat):List Tm :=
 UA (UA ([jX me]++n.roles.map cA++(Jc (true,true) me n.roles role n.roles.length).map E8) ((Fe me n.fresh).map E8)) (((n.steps.take q).filter (Fg me)).map λs=>BT f s.msg)
theorem dO {f:ByteArray->Int} {me:I3}:∀{l l':List Ste},l.map KV=l'.map (Cd f)->(OY me l).map E8=(l'.filter (Fg me)).map λs=>BT f s.msg
 | [],[],_=>rfl
 | [],_::_,h=>by simp at h
 |_::_,[],h=>by simp at h
 |s::l,s'::l',h=>by
  rw[A0B,A0B,List.cons.injEq]at h;have ih:=dO (me:=me) h.2;have h1:=h.1;unfold KV Cd at h1;injection h1 with e1 e2 e3 e4
  have eb:Fg me s=Fg me s':=by unfold Fg;rw[e1,e2]
  unfold OY at ih ⊢;cases hb:Fg me s' with
  |true =>
   rw[A0Z (by rw[eb];exact hb),A0Z hb,A0B,A0B,A0B,ih,e3]
  |false =>
   rw[A0Y (by rw[eb,hb];simp),A0Y (by rw[hb];simp),ih]
theorem RY {l:List ByteArray} (m:J3):(l.map (Ik m)).map E8=l.map cA:=by
 rw[A0R];rfl
theorem Oz {m:J3} {r n:Nar} {f:ByteArray->Int} (hd:GY n=0) (he:Pn r=Cn f n) {me:I3} {role:Nat} (hme:n.roles[role]?=some me) (q:Nat):(Ni m r n me role q).map E8=Pq f n me role q:=by
 obtain⟨-,e2,-,-,e5,-⟩:=i5 he;have hn:=bQ hd;have eq:(r.steps.take q).map KV=(n.steps.take q).map (Cd f):=by rw[A0V,A0V,e5]
 unfold Ni Pq;rw[NW,dO eq,NW,NW,NW,e2,RY,eC m (true,true),A0B,A0S,mV];congr 2;rw[SJ (n.roles.map cA) [jX me] ?_ ?_,SJ _ _ (XB hn hme _) ?_]
 .intro x hx hm;obtain⟨j,r',-,-,-,h4⟩:=Ts hx;rcases A0I.1 hm with hm|hm
  .rw[A0C.1 hm]at h4;rcases h4 with h4|h4
   .exact bW _ _ _ h4.symm
   .exact bW _ _ _ h4.symm
  .rw[A0E]at hm;obtain⟨a,-,rfl⟩:=hm;rcases h4 with h4|h4
   .exact bV _ _ _ h4.symm
   .exact bV _ _ _ h4.symm
 .exact(List.Pairwise.map cA (λa b OW h=>OW (pd h)) hn)
 .intro x hx hm;rw[A0E]at hx;obtain⟨a,-,rfl⟩:=hx;exact mW _ _ (A0C.1 hm)
theorem rV {m:J3} {r n:Nar} {f:ByteArray->Int} (he:Pn r=Cn f n) {me:I3} {role:Nat} (q:Nat):(rU m r me role q).map E8=Pq f n me role q:=by
 obtain⟨-,e2,e3,-,e5,-⟩:=i5 he;have eq:(r.steps.take q).map KV=(n.steps.take q).map (Cd f):=by rw[A0V,A0V,e5]
 unfold rU Pq;rw[NW,dO eq,NW,A0F,A0F,e2,e3,RY,eC m (true,true),A0B,A0S,mV]
theorem Ug {t:Tm} (h:Es t=0):t.size<=40:=by
 unfold Es at h;split at h
 .rename_i h1;exact absurd h h1
 .split at h
  .omega
  .omega
theorem SW {n:Nar} (h:PG n=0):2<=n.roles.length/\n.roles.length<=4/\n.fresh.length<=12/\n.tags.length<=8/\1<=n.steps.length/\n.steps.length<=8/\n.goals.length<=8:=by
 unfold PG at h
 repeat' split at h
 all_goals omega
theorem bc (f:ByteArray->Int):∀(N:Nat) (t:Tm),t.size<=N->(BT f t).size=t.size:=by
 intro N
 induction N with
 |zero=>intro t h;have:=t.size_pos;omega
 |succ N ih =>
  intro t h;obtain⟨k,nm,s,m,l⟩:=t;have e:Tm.size (.mk k nm s m l)=1+Tm.sizes l:=rfl;have key:∀l:List Tm,Tm.sizes l<=N->Tm.sizes (Z6 f l)=Tm.sizes l:=by
   intro l
   induction l with
   |nil=>intro _;rfl
   |cons a l ihl =>
    intro hl;simp only[Tm.sizes]at hl;simp only[Z6,Tm.sizes];rw[ih a (by omega),ihl (by omega)]
  show Tm.size (.mk k nm _ (false,false) (Z6 f l))=_;rw[Tm.size,key l (by omega),e]
theorem HD {r n:Nar} {f:ByteArray->Int} (hR:NJ n=0) (he:Pn r=Cn f n):Smol r n/\Smol r r:=by
 obtain⟨h1,h2,h3⟩:=EU hR;have hs:=SW (Ng h1).2;obtain⟨-,e2,e3,-,e5,-⟩:=i5 he;have bw:r.steps.length=n.steps.length:=by have:=congrArg A0b e5;simpa using this
 have hmsg:∀s∈r.steps,s.msg.size<=1048576:=λs hs=>by
  have hm:KV s∈n.steps.map (Cd f):=by rw[←e5];exact A0L hs
  obtain⟨s',hs',e⟩:=A0E.1 hm;unfold KV Cd at e;injection e with _ _ e _
  have h4:=Ug (QC (h2 s' hs'));have h5:=bc f _ s'.msg (A0G _);rw[e,Hq _ _ (A0G _)]at h5;omega
 exact⟨⟨by rw[e2];omega,by omega,by omega,hmsg⟩,⟨by rw[e2];omega,by rw[e3];omega,by omega,hmsg⟩⟩
end Go.Abs.Q
namespace Go.Abs.Q
open Go.Proofs
attribute [local simp] D9 E4 fin I8 G6 P7 M4 R4 R3
theorem bX {l:I6} {N:Nat} (h:∀x∈l,x.size<=N):Tm.sizes l<=l.length*N:=by
 induction l with
 |nil=>simp[Tm.sizes]
 |cons a l ih =>
  have h1:=h a A0M;have h2:=ih λx hx=>h x (A0J _ hx);rw[Tm.sizes,List.length_cons,Nat.succ_mul];omega
noncomputable def jg (n:Nar) (role step:Int):List Tm:=if Lz n role step=0 then Pq (J8 (B4 n) (G3 n)) n (n.roles.getD role.toNat (bs [])) role.toNat step.toNat else []
theorem RI {n:Nar} {role step:Int} (h:Lz n role step=0):∃me,n.roles[role.toNat]?=some me/\n.roles.getD role.toNat (bs [])=me:=by
 obtain⟨-,-,h3,-,-⟩:=Jm h;exact⟨_,A0Q h3,by rw[A0O,A0Q h3];rfl⟩
theorem Zk {m:J3} {r n:Nar} {me:I3} {role q:Nat} (h:Smol r n) (h2:n.roles.length<=4/\n.fresh.length<=12/\n.steps.length<=8) (hr:r.roles.length=n.roles.length) (hs:r.steps.length=n.steps.length) (hm:∀s∈r.steps,s.msg.size<=40):Tm.sizes (Ni m r n me role q)<=4000/\(Ni m r n me role q).length<=33:=by
 have hl:(Ni m r n me role q).length<=33:=by
  unfold Ni;have h1:=Y1 (r.roles.map (Ik m)) [KI m me];have h2:=Y1 (Jc m me r.roles role r.roles.length) (P5 [KI m me] (r.roles.map (Ik m)));have h3:=Y1 (Fe me n.fresh) (P5 (P5 [KI m me] (r.roles.map (Ik m))) (Jc m me r.roles role r.roles.length));have h4:=Y1 (OY me (r.steps.take q)) (P5 (P5 (P5 [KI m me] (r.roles.map (Ik m))) (Jc m me r.roles role r.roles.length)) (Fe me n.fresh));have h5:=Nz m me r.roles role r.roles.length;have h6:=NE me n.fresh;have h7:(OY me (r.steps.take q)).length<=r.steps.length:=by
   unfold OY;rw[A0P];have:=List.length_filter_le (Fg me) (r.steps.take q);rw[List.length_take]at this;omega
  rw[A0P,List.length_singleton]at h1;omega
 refine⟨?_,hl⟩;have:=bX (l:=Ni m r n me role q) (N:=40) λx hx=>by
  rcases fE hx with rfl|⟨a,_,rfl⟩|h|h|⟨s,h1,_,rfl⟩
  .rw[(Ha m me me).1];omega
  .rw[(Ha m a me).2.1];omega
  .rw[NN _ _ _ _ _ _ h];omega
  .rw[Kr h];omega
  .exact hm s h1
 have h3:=Nat.mul_le_mul_right 40 hl;omega
theorem Nn {r n:Nar} {f:ByteArray->Int} (hR:NJ n=0) (he:Pn r=Cn f n):∀s∈r.steps,s.msg.size<=40:=λs hs=>by
 obtain⟨h1,h2,h3⟩:=EU hR;obtain⟨-,e2,e3,-,e5,-⟩:=i5 he;have hm:KV s∈n.steps.map (Cd f):=by rw[←e5];exact A0L hs
 obtain⟨s',hs',e⟩:=A0E.1 hm;unfold KV Cd at e;injection e with _ _ e _
 have h4:=Ug (QC (h2 s' hs'));have h5:=bc f _ s'.msg (A0G _);rw[e,Hq _ _ (A0G _)]at h5;omega
theorem Ej {r n:Nar} {f:ByteArray->Int} (he:Pn r=Cn f n):r.roles=n.roles/\r.fresh=n.fresh/\r.steps.length=n.steps.length:=by
 obtain⟨-,e2,e3,-,e5,-⟩:=i5 he;exact⟨e2,e3,by have:=congrArg A0b e5;simpa using this⟩
theorem jF (n:Nar) (F:Fine n) (S:Lens n) (role step:Int):∃(m:J3) (l:I6),pc Q Nq [F0 n,.int .i64 role,.int .i64 step]=some (.tup [sl m 4 (A4 l),.int .i64 (Lz n role step)])/\H2 l=jg n role step:=by
 obtain⟨r,n',hA,hE⟩:=aW n F S role step;have nb:=D8 n;have sb:=w8 r n';by_cases h0:Lz n role step=0
 .obtain⟨rfl,he⟩:=hE h0;obtain⟨z1,z2,z3,z4,z5⟩:=Jm h0;obtain⟨me,hme,hgd⟩:=RI h0;obtain⟨-,hR⟩:=DB z1;obtain⟨hsm,-⟩:=HD hR.nar he;obtain⟨e2,-,e5⟩:=Ej he;obtain⟨m1,hK⟩:=Rj r n' F S z1 hsm e2 role.toNat me (by rw[e2];exact hme) step.toNat (by omega);have hks:=Zk (m:=(true,true)) (r:=r) (n:=n') (me:=me) (role:=role.toNat) (q:=step.toNat) hsm (by have:=SW (Ng (EU hR.nar).1).2;omega) (by rw[e2]) e5 (Nn hR.nar he);obtain⟨m2,l,hC,hCe⟩:=SX _ m1 (Ni (true,true) r n' me role.toNat step.toNat) (A0G _) (by omega);have hV:jg n' role step=Pq (J8 (B4 n') (G3 n')) n' me role.toNat step.toNat:=by unfold jg;rw[if_pos h0,hgd]
  refine⟨m2,l,?_,by rw[hCe,E3,hV,Oz hR.dec he hme]⟩;have i1:((role.toNat:Nat):Int)=role:=A0K z2;have i2:((step.toNat:Nat):Int)=step:=A0K z4;rw[i1,i2]at hK;rw[h0]at hA ⊢;generalize Ni (true,true) r n' me role.toNat step.toNat=kk at *
  refine Gg GC λfr hl h0 h1 h2=>?_;simp[GC]at hl h0 h1 h2;simp[GC,hl,h0,h1,h2,nb,sb,hA,hK,hC]
 .have hV:jg n role step=[]:=by unfold jg;rw[if_neg h0]
  refine⟨(true,false),[],?_,by rw[hV];rfl⟩;generalize Lz n role step=e at *
  have P1:=h0;clear h0;refine Gg GC λfr hl h0 h1 h2=>?_;simp[GC]at hl h0 h1 h2;simp[GC,hl,h0,h1,h2,nb,sb,hA,P1];simp[A4,sl]
theorem iq (n:Nar) (F:Fine n) (S:Lens n) (role step:Int):∃(m:J3) (l:I6),pc Q Ma [F0 n,.int .i64 role,.int .i64 step]=some (.tup [sl m 4 (A4 l),.int .i64 (Lz n role step)])/\H2 l=jg n role step:=by
 obtain⟨r,hA,hE⟩:=TH n F S role step;have nb:=D8 n;have rb:=D8 r;by_cases h0:Lz n role step=0
 .have he:=hE h0;obtain⟨z1,z2,z3,z4,z5⟩:=Jm h0;obtain⟨me,hme,hgd⟩:=RI h0;obtain⟨-,hR⟩:=DB z1;obtain⟨-,hsm⟩:=HD hR.nar he;obtain⟨e2,-,e5⟩:=Ej he;obtain⟨m1,hK⟩:=dV r hsm role.toNat me (by rw[e2];exact hme) step.toNat (by omega);have hV:jg n role step=Pq (J8 (B4 n) (G3 n)) n me role.toNat step.toNat:=by unfold jg;rw[if_pos h0,hgd]
  refine⟨m1,rU (false,true) r me role.toNat step.toNat,?_,by rw[E3,hV,rV he]⟩;have i1:((role.toNat:Nat):Int)=role:=A0K z2;have i2:((step.toNat:Nat):Int)=step:=A0K z4;rw[i1,i2]at hK;rw[h0]at hA ⊢;generalize rU (false,true) r me role.toNat step.toNat=kk at *
  refine Gg Ea λfr hl h0 h1 h2=>?_;simp[Ea]at hl h0 h1 h2;simp[Ea,hl,h0,h1,h2,nb,rb,hA,hK]
 .have hV:jg n role step=[]:=by unfold jg;rw[if_neg h0]
  refine⟨(true,false),[],?_,by rw[hV];rfl⟩;generalize Lz n role step=e at *
  have P1:=h0;clear h0;refine Gg Ea λfr hl h0 h1 h2=>?_;simp[Ea]at hl h0 h1 h2;simp[Ea,hl,h0,h1,h2,nb,rb,hA,P1];simp[A4,sl]
def eI (n:Nar) (role:Int):List Int:=if Lz n role 0=0 then (SP (n.roles.getD role.toNat (bs [])) n.steps).map λ(i:Nat)=>(i:Int)else []
theorem fA (l:List Nat):Yt l=(l.map λ(i:Nat)=>(i:Int)).map (AV.int .i64):=by rw[A0R];rfl
mutual
theorem WL:∀t:Tm,E8 (E8 t)=E8 t
 | .mk k nm s m l=>by rw[E8,E8,eg l]
theorem eg:∀l:List Tm,H2 (H2 l)=H2 l
 | []=>rfl
 |t::l=>by rw[H2,H2,WL t,eg l]
end
theorem ee {l l':List Ste} {f:ByteArray->Int} (h:l.map KV=l'.map (Cd f)) (me:I3):SP me l=SP me l':=by
 have h1:l.map KV=(l'.map (Cd f)).map KV:=by
  have:=congrArg (List.map KV) h;rw[←this,A0R];congr 1;funext s;simp only[Function.comp,KV,WL s.msg]
 have h2:SP me (l'.map (Cd f))=SP me l':=by
  unfold SP;rw[A0P];congr 1;funext i;rw[A0e];cases l'[i]?<;>rfl
 rw[rP me l _ f h1,h2]
theorem jG (n:Nar) (F:Fine n) (S:Lens n) (role:Int):∃(m:J3),pc Q Fl [F0 n,.int .i64 role]=some (sl m 1 ((eI n role).map (AV.int .i64))):=by
 suffices hQ:∃v,pc Q Fl [F0 n,.int .i64 role]=some v/\∃m:Bool×Bool,v=sl m 1 ((eI n role).map (AV.int .i64)) by
  obtain⟨v,h1,m,rfl⟩:=hQ;exact⟨m,h1⟩
 obtain⟨r,n',hA,hE⟩:=aW n F S role 0;have nb:=D8 n;have sb:=w8 r n';by_cases h0:Lz n role 0=0
 .obtain⟨rfl,he⟩:=hE h0;obtain⟨z1,z2,z3,z4,z5⟩:=Jm h0;obtain⟨me,hme,hgd⟩:=RI h0;obtain⟨-,hR⟩:=DB z1;obtain⟨hsm,-⟩:=HD hR.nar he;obtain⟨e2,-,e5⟩:=Ej he;have hV:(eI n' role).map (AV.int .i64)=Yt (SP me r.steps):=by
   unfold eI;rw[if_pos h0,hgd,fA,ee (i5 he).2.2.2.2.1 me]
  rw[hV];rw[h0]at hA;have i1:((role.toNat:Nat):Int)=role:=A0K z2;refine Qp GD λΨ hΨ fr hl h0 h1=>?_;simp[GD]at hl h0 h1;simp[GD,hl,h0,h1,nb,sb,hA];refine B9.mono (cq r n' hsm.steps role.toNat me (by rw[e2];exact hme) (F0 n').cells _ _ ?_ ?_ ?_ ?_ ?_ ?_ ?_) ?_<;>first|(simp[hl,h1,i1,nb,sb];done)|skip
  rintro e E1 ⟨bx,F1⟩ ⟨K,rfl,hg⟩;have A6:E1.length=34:=K.1.trans (by simp[hl]);obtain⟨mm,hf⟩:=Lu hg;simp only at hf;simp[A6,hf];exact hΨ _ ⟨mm,rfl⟩
 .have hV:eI n role=[]:=by unfold eI;rw[if_neg h0]
  rw[hV];generalize Lz n role 0=e at *
  have P1:=h0;clear h0;refine Qp GD λΨ hΨ fr hl h0 h1=>?_;simp[GD]at hl h0 h1;simp[GD,hl,h0,h1,nb,sb,hA,P1];exact hΨ _ ⟨(true,false),by simp[sl]⟩
theorem ir (n:Nar) (F:Fine n) (S:Lens n) (role:Int):∃(m:J3),pc Q ER [F0 n,.int .i64 role]=some (sl m 1 ((eI n role).map (AV.int .i64))):=by
 suffices hQ:∃v,pc Q ER [F0 n,.int .i64 role]=some v/\∃m:Bool×Bool,v=sl m 1 ((eI n role).map (AV.int .i64)) by
  obtain⟨v,h1,m,rfl⟩:=hQ;exact⟨m,h1⟩
 obtain⟨r,hA,hE⟩:=TH n F S role 0;have nb:=D8 n;have rb:=D8 r;by_cases h0:Lz n role 0=0
 .have he:=hE h0;obtain⟨z1,z2,z3,z4,z5⟩:=Jm h0;obtain⟨me,hme,hgd⟩:=RI h0;obtain⟨-,hR⟩:=DB z1;obtain⟨-,hsm⟩:=HD hR.nar he;obtain⟨e2,-,e5⟩:=Ej he;have hV:(eI n role).map (AV.int .i64)=Yt (SP me r.steps):=by
   unfold eI;rw[if_pos h0,hgd,fA,ee (i5 he).2.2.2.2.1 me]
  rw[hV];rw[h0]at hA;have i1:((role.toNat:Nat):Int)=role:=A0K z2;have hme':Jb (r.roles.map AV.str) role.toNat=some (.str me):=G0 (by rw[e2];exact hme);refine Qp Eb λΨ hΨ fr hl h0 h1=>?_;simp[Eb]at hl h0 h1;simp[Eb,hl,h0,h1,nb,rb,hA];refine B9.mono (aC r hsm.steps role.toNat me hme' (F0 n).cells _ _ ?_ ?_ ?_ ?_ ?_ ?_) ?_<;>first|(simp[hl,h1,i1,nb,rb];done)|skip
  rintro e E1 ⟨bx,F1⟩ ⟨K,rfl,hg⟩;have A6:E1.length=55:=K.1.trans (by simp[hl]);obtain⟨mm,hf⟩:=Lu hg;simp only at hf;simp[A6,hf];exact hΨ _ ⟨mm,rfl⟩
 .have hV:eI n role=[]:=by unfold eI;rw[if_neg h0]
  rw[hV];generalize Lz n role 0=e at *
  have P1:=h0;clear h0;refine Qp Eb λΨ hΨ fr hl h0 h1=>?_;simp[Eb]at hl h0 h1;simp[Eb,hl,h0,h1,nb,rb,hA,P1];exact hΨ _ ⟨(true,false),by simp[sl]⟩
end Go.Abs.Q
namespace Go.Abs.Q
open Go.Proofs
def NG (x:Tm):Prop:=(x.kind=2/\0<=x.sort/\x.sort<=5/\x.kids=[]/\W8 x.name=true/\Qq x.name (bs [101,35])=false) \/
 (x.kind=3/\x.sort=0/\x.name∈Ax/\Nd x.name x.kids.length=true/\Yr x.name x.kids=0)
def Io (t:Tm):Prop:=∀x∈GW t,NG x
theorem ZT:∀a∈Ax,W8 a=true/\ME a≠0/\∀n,Nd a n=true->n<=2:=by
 intro a ha;have h1:(Ax.all λa=>W8 a&&decide (ME a≠0)&&decide ((OU a).2.2.1<=2))=true:=by decide
 have h2:=List.all_eq_true.1 h1 a ha;simp only[A0A,decide_eq_true_eq]at h2;refine⟨h2.1.1,h2.1.2,λn hn=>?_⟩;unfold Nd at hn;simp only[A0A,decide_eq_true_eq]at hn;omega
theorem Io.kid {t x:Tm} (h:Io t) (hx:x∈t.kids):Io x:=λy hy=>h y (by
 rw[Cp,K6];exact A0J _ (A0N.2 ⟨x,hx,hy⟩))
theorem Io.root {t:Tm} (h:Io t):NG t:=h t (by rw[Cp];exact A0M)
theorem eL {t:Tm} (h:NG t) (hk:∀x∈t.kids,Io x):Io t:=λy hy=>by
 rw[Cp,K6]at hy;rcases A0D.1 hy with rfl|hy
 .exact h
 .obtain⟨x,hx,hy⟩:=A0N.1 hy;exact hk x hx y hy
theorem fu:∀(N:Nat) (t:Tm),t.size<=N->Io t->I7 t=0/\Tv t=0:=by
 intro N
 induction N with
 |zero=>intro t h;have:=t.size_pos;omega
 |succ N ih =>
  intro t hs h;have hr:=h.root;have hkid:∀x∈t.kids,I7 x=0/\Tv x=0:=λx hx=>ih x (by have:=Tm.size_le hx;have:=t.kids_size;omega) (h.kid hx);obtain⟨k,nm,s,m,l⟩:=t;simp only[Tm.kids]at hkid;have e1:R2 l=0:=by
   clear hr hs h ih
   induction l with
   |nil=>rfl
   |cons a l ihl =>
    have h1:=hkid a A0M;have h2:=ihl λx hx=>hkid x (A0J _ hx);rw[R2,h1.1,h2];simp
  have e2:OV l=0:=by
   clear hr hs h ih e1
   induction l with
   |nil=>rfl
   |cons a l ihl =>
    have h1:=hkid a A0M;have h2:=ihl λx hx=>hkid x (A0J _ hx);rw[OV,h1.2,h2];simp
  rcases hr with ⟨q1,q2,q3,q4,q5,q6⟩|⟨q1,q2,q3,q4,q5⟩
  .simp only[Tm.kind,Tm.sort,Tm.kids,Tm.name]at q1 q2 q3 q4 q5;subst q1 q4;refine⟨?_,by rw[Tv];simp⟩;have:r9 2 s nm 0=0:=by
    unfold r9;rw[if_neg (by omega),if_neg (by simp[q5]),if_neg (by omega)]
   rw[I7,List.length_nil,this];simp[R2]
  .simp only[Tm.kind,Tm.sort,Tm.kids,Tm.name]at q1 q2 q3 q4 q5;subst q1 q2;obtain⟨f1,f2,f3⟩:=ZT nm q3;have hl:=f3 _ q4;have:r9 3 0 nm l.length=0:=by
    unfold r9;rw[if_neg (by omega),if_neg (by simp[f1]),if_neg (by omega)]
   refine⟨by rw[I7,this,e1];simp,?_⟩;rw[Tv];rw[if_neg (by omega),if_neg f2,if_neg (by simp[q4]),if_neg (by simp[q5])];exact e2
theorem Io.good {t:Tm} (h:Io t) (hs:t.size<=40):GoodT t:=by
 obtain⟨h1,h2⟩:=fu _ t (A0G _) h;refine⟨λx hx hk=>?_,?_,?_,λx hx hk=>?_⟩
 .rcases h x hx with q|q
  .have:=q.1;omega
  .exact q.2.2.1
 .unfold vE;have hv:Q4 t=0:=by
   unfold Q4;have:=cQ t;rw[if_neg (by simp[h1]),if_neg (by omega)]
  rw[if_neg (by simp[hv]),h2]
 .unfold uu;rw[List.isEmpty_iff,List.filter_eq_nil_iff];intro x hx;rcases h x hx with q|q<;>have:=q.1<;>simp<;>omega
 .rcases h x hx with q|q
  .exact q.2.2.2.2.2
  .have:=q.1;omega
theorem uF {t:Tm} (h:NG (E8 t)):NG t:=by
 obtain⟨k,nm,s,m,l⟩:=t;simp only[NG,E8,Tm.kind,Tm.sort,Tm.kids,Tm.name]at h ⊢;rw[jv,E3,A0P]at h;rcases h with ⟨q1,q2,q3,q4,q5,q6⟩|h
 .exact .inl ⟨q1,q2,q3,by simpa using q4,q5,q6⟩
 .exact .inr h
theorem Ph {t:Tm} (h:Io (E8 t)):Io t:=λx hx=>uF (h _ (by rw[UB];exact A0L hx))
inductive Wt (ro:ByteArray->Prop) (ok:ByteArray->Int->Prop):Tm->Prop
 |atom (a:ByteArray) (s:Int) (h:ok a s):Wt ro ok (.mk 2 a s (false,false) [])
 |pair (x y:Tm) (hx:Wt ro ok x) (hy:Wt ro ok y):Wt ro ok (.mk 3 (bs [112,97,105,114]) 0 (false,false) [x,y])
 |enc (x y:Tm) (hx:Wt ro ok x) (hy:Wt ro ok y):Wt ro ok (.mk 3 (bs [101,110,99]) 0 (false,false) [x,y])
 |hash (x:Tm) (hx:Wt ro ok x):Wt ro ok (.mk 3 (bs [104,97,115,104]) 0 (false,false) [x])
 |aenc (x:Tm) (r:ByteArray) (hx:Wt ro ok x) (hr:ro r):Wt ro ok (.mk 3 (bs [97,101,110,99]) 0 (false,false) [x,cA r])
 |sign (x:Tm) (r:ByteArray) (hx:Wt ro ok x) (hr:ro r):Wt ro ok (.mk 3 (bs [115,105,103,110]) 0 (false,false) [x,jX r])
 |pk (r:ByteArray) (hr:ro r):Wt ro ok (cA r)
 |shk (a b:ByteArray) (ha:ro a) (hb:ro b) (P1:a≠b):Wt ro ok (jW a b)
def Tx (a:ByteArray):Prop:=W8 a=true/\Qq a (bs [101,35])=false
theorem Pg {a:I3} {s:Int} {m:J3} (h:Tx a) (h1:0<=s) (h2:s<=5):Io (.mk 2 a s m []) :=
 eL (.inl ⟨rfl,h1,h2,rfl,h.1,h.2⟩) (λx hx=>nomatch hx)
theorem Ji {nm:I3} {m:J3} {l:I6} (h:nm∈Ax) (hf:Nd nm l.length=true) (ha:Yr nm l=0) (hl:∀x∈l,Io x):Io (.mk 3 nm 0 m l) :=
 eL (.inr ⟨rfl,rfl,h,hf,ha⟩) hl
theorem SK {nm:I3} {l:I6} (h:nm≠bs [115,107]/\nm≠bs [115,104,107]/\nm≠bs [110,101,119]):Yr nm l=0:=by
 unfold Yr;rw[if_neg (by simp[h.1,h.2.1]),if_neg h.2.2]
theorem nN {P:Tm->Prop} {x:Tm} (h:P x):∀z∈[x],P z:=λz hz=>by rw[A0C.1 hz];exact h
theorem XX {P:Tm->Prop} {x y:Tm} (h:P x) (k:P y):∀z∈[x,y],P z:=λz hz=>by
 rcases A0D.1 hz with rfl|hz
 .exact h
 .rw[A0C.1 hz];exact k
theorem XL {a:I3} (h:Tx a):Io (E8 (GV a)):=Pg h (by omega) (by omega)
theorem XO {a:I3} (h:Tx a):Io (jX a) :=
 Ji (l:=[E8 (GV a)]) (by simp[Ax]) rfl rfl λx hx=>by rw[A0C.1 hx];exact XL h
theorem XM {a:I3} (h:Tx a):Io (cA a) :=
 Ji (l:=[jX a]) (by simp[Ax]) rfl (SK (by decide)) λx hx=>by rw[A0C.1 hx];exact XO h
theorem XN {a b:I3} (h:Tx a) (h':Tx b):Io (jW a b) :=
 Ji (l:=[E8 (GV a),E8 (GV b)]) (by simp[Ax]) rfl rfl λx hx=>by
  rcases A0D.1 hx with rfl|hx
  .exact XL h
  .rw[A0C.1 hx];exact XL h'
theorem Wt.allN {ro:ByteArray->Prop} {ok:ByteArray->Int->Prop} (hr:∀a,ro a->Tx a) (ho:∀a s,ok a s->Tx a/\0<=s/\s<=5) {t:Tm} (h:Wt ro ok t):Io t:=by
 induction h with
 |atom a s h=>obtain⟨h1,h2,h3⟩:=ho a s h;exact Pg h1 h2 h3
 |pair x y _ _ ix iy=>exact Ji (by simp[Ax]) rfl (SK (by decide)) (XX ix iy)
 |enc x y _ _ ix iy=>exact Ji (by simp[Ax]) rfl (SK (by decide)) (XX ix iy)
 |hash x _ ix=>exact Ji (by simp[Ax]) rfl (SK (by decide)) (nN ix)
 |aenc x r _ h ix=>exact Ji (by simp[Ax]) rfl (SK (by decide)) (XX ix (XM (hr r h)))
 |sign x r _ h ix=>exact Ji (by simp[Ax]) rfl (SK (by decide)) (XX ix (XO (hr r h)))
 |pk r h=>exact XM (hr r h)
 |shk a b h h' _=>exact XN (hr a h) (hr b h')
theorem mH {a:I3} (h:OM a=false):Qq a (bs [101,35])=false:=by
 unfold Qq;by_cases h1:(L6 a).take (bs [101,35]).size=L6 (bs [101,35])
 .exfalso
  have e1:L6 (bs [101,35])=[101,35]:=by decide
  have e2:(bs [101,35]).size=2:=by decide
  rw[e1,e2]at h1;unfold OM at h;have hm:(35:UInt8)∈L6 a:=List.mem_of_mem_take (i:=2) (by rw[h1];simp);rw[List.contains_iff_mem.2 hm]at h;cases h
 .rw[show decide ((L6 a).take (bs [101,35]).size=L6 (bs [101,35]))=false from decide_eq_false h1,Bool.and_false]
theorem Zn {a:I3} (h:N8 a=true):W8 a=true:=by
 unfold N8 at h;rw[A0A]at h;exact h.1
theorem Qk {n:Nar} (h:Ij n=0):(∀a∈n.roles,W8 a=true)/\(∀f∈n.fresh,W8 f.name=true/\2<=f.sort/\f.sort<=4)/\∀a∈n.tags,W8 a=true:=by
 unfold Ij at h;split at h
 .omega
 .split at h
  .rename_i h1;exact absurd h h1
  .split at h
   .omega
   .rename_i h1;split at h
    .rename_i h2;exact absurd h h2
    .rename_i h2;split at h
     .omega
     .rename_i h3;have key:∀l:List ByteArray,¬l.any HP=true->∀a∈l,W8 a=true:=λl hl a ha=>by
       refine Zn ?_;cases hb:N8 a with
       |true=>rfl
       |false=>exact absurd (A0H.2 ⟨a,ha,by simp[HP,hb]⟩) hl
      refine⟨key _ h1,λf hf=>?_,key _ h3⟩;have h4:C9 Js n.fresh=0:=by
       apply Classical.byContradiction;exact h2
      have h5:=DZ h4 f hf;unfold Js at h5;split at h5
      .omega
      .rename_i h6;split at h5
       .omega
       .exact⟨Zn (by
         cases hb:N8 f.name with
         |true=>rfl
         |false=>exact absurd (.inr hb) h6),by omega,by omega⟩
theorem Ui {n:Nar} (h:Right n):∀a∈B4 n,Tx a:=λa ha=>by
 obtain⟨k1,k2,k3⟩:=Qk (EU h.nar).1;refine⟨?_,mH ((TC h.dec).2 a ha)⟩;unfold B4 at ha;rcases A0I.1 ha with ha|ha
 .rcases A0I.1 ha with ha|ha
  .exact k1 a ha
  .obtain⟨f,hf,rfl⟩:=A0E.1 ha;exact(k2 f hf).1
 .exact k3 a ha
theorem mY {n:Nar} (h:Right n) (a:I3):0<=J8 (B4 n) (G3 n) a/\J8 (B4 n) (G3 n) a<=5:=by
 obtain⟨k1,k2,k3⟩:=Qk (EU h.nar).1;unfold J8;split
 .rw[A0O];cases hx:(G3 n)[(idx (U3 a) (B4 n)).toNat]? with
  |none=>simp
  |some x =>
   have hm:=A0d hx;simp only[Option.getD_some];unfold G3 at hm;rcases A0I.1 hm with hm|hm
   .rcases A0I.1 hm with hm|hm
    .obtain⟨_,_,rfl⟩:=A0E.1 hm;omega
    .obtain⟨f,hf,rfl⟩:=A0E.1 hm;have:=(k2 f hf).2;omega
   .obtain⟨_,_,rfl⟩:=A0E.1 hm;omega
 .omega
theorem Sw {α:Type} (p:α->Bool):∀(l l':List α) (i:Nat),l.any p=true->R1 p i (l++l')=R1 p i l
 | [],l',i,h=>by simp at h
 |a::l,l',i,h=>by
  rw[List.cons_append];unfold R1;by_cases hp:p a=true
  .rw[if_pos hp,if_pos hp]
  .rw[if_neg hp,if_neg hp];refine Sw p l l' _ ?_;rw[A0g]at h;simpa[hp]using h
theorem jP {n:Nar} {a:I3} (h:a∈n.roles):J8 (B4 n) (G3 n) a=1:=by
 have h1:n.roles.any (U3 a)=true:=A0H.2 ⟨a,h,(JV a a).2 rfl⟩;have h2:(B4 n).any (U3 a)=true:=TL n a h1;unfold J8;rw[if_pos h2];have e:idx (U3 a) (B4 n)=idx (U3 a) n.roles:=by
  unfold idx B4;rw[A0T];exact Sw _ _ _ _ h1
 have hge:=(CX (U3 a) n.roles 0).2 h1;have A7:=Ir (U3 a) n.roles 0;rw[e];have hi:(idx (U3 a) n.roles).toNat<n.roles.length:=by unfold idx;omega
 rw[A0O];have:(G3 n)[(idx (U3 a) n.roles).toNat]?=some 1:=by
  unfold G3;rw[A0T,List.getElem?_append_left (by simpa using hi),A0e,A0Q hi];rfl
 rw[this];rfl
theorem VS {rs:List ByteArray} {f:ByteArray->Int} (hf:∀a∈rs,f a=1) {t:Tm} (hn:I7 t=0) (h:BG rs t=true):∃a∈rs,t.name=a/\BT f t=E8 (GV a):=by
 obtain⟨k,nm,s,m,l⟩:=t;obtain⟨h1,_⟩:=Z2 hn;rw[BG,A0A]at h;have hk:k=2:=of_decide_eq_true h.1;have hr:rs.any (U3 nm)=true:=h.2;obtain⟨a,ha,he⟩:=A0H.1 hr;rw[JV]at he;subst he;have hl:l=[]:=A0U ((HK h1).2.1 (.inr hk));subst hl hk;refine⟨nm,ha,rfl,?_⟩;rw[BT,if_pos rfl,hf nm ha];rfl
theorem ba {rs:List ByteArray} {f:ByteArray->Int} (hf:∀a∈rs,f a=1) {t:Tm} (hn:I7 t=0) (h:BU rs t=true):∃a∈rs,BT f t=jX a:=by
 obtain⟨k,nm,s,m,l⟩:=t;obtain⟨h1,h2⟩:=Z2 hn;rw[BU,A0A,f8,A0A,A0A]at h;obtain⟨⟨⟨hk0,hnm0⟩,hl0⟩,hff⟩:=h;have hk:k=3:=of_decide_eq_true hk0;have hnm:nm=bs [115,107]:=of_decide_eq_true hnm0;have hl:(l.length:Int)=1:=of_decide_eq_true hl0;clear hk0 hnm0 hl0
 replace hff:Qj (BG rs) l=true:=hff
 subst hk hnm
 replace hl:l.length=1:=by omega
 have hs:s=0:=by
  unfold r9 at h1;split at h1
  .omega
  .omega
 match l,hl,hff,h2 with
 | [a],_,hff,h2 =>
  obtain⟨r,hr,_,e⟩:=VS hf (O1 h2 a (by simp)) hff;refine⟨r,hr,?_⟩;rw[BT,if_neg (by omega),Z6,Z6,e,hs];rfl
theorem bb {rs:List ByteArray} {f:ByteArray->Int} (hf:∀a∈rs,f a=1) {t:Tm} (hn:I7 t=0) (h:Ft rs t=true):∃a∈rs,BT f t=cA a:=by
 obtain⟨k,nm,s,m,l⟩:=t;obtain⟨h1,h2⟩:=Z2 hn;rw[Ft,A0A,f8,A0A,A0A]at h;obtain⟨⟨⟨hk0,hnm0⟩,hl0⟩,hff⟩:=h;have hk:k=3:=of_decide_eq_true hk0;have hnm:nm=bs [112,107]:=of_decide_eq_true hnm0;have hl:(l.length:Int)=1:=of_decide_eq_true hl0;clear hk0 hnm0 hl0
 replace hff:Qj (BU rs) l=true:=hff
 subst hk hnm
 replace hl:l.length=1:=by omega
 have hs:s=0:=by
  unfold r9 at h1;split at h1
  .omega
  .omega
 match l,hl,hff,h2 with
 | [a],_,hff,h2 =>
  obtain⟨r,hr,e⟩:=ba hf (O1 h2 a (by simp)) hff;refine⟨r,hr,?_⟩;rw[BT,if_neg (by omega),Z6,Z6,e,hs];rfl
theorem mI {k:Int} {nm:I3} {s:Int} {m:J3} {l:I6} (h:LL (.mk k nm s m l)=0):k≠1/\s=0/\∀x∈l,LL x=0:=by
 rw[LL]at h;split at h
 .omega
 .rename_i h1;split at h
  .omega
  .refine⟨λe=>h1 (.inl e),by
    apply Classical.byContradiction;exact λe=>h1 (.inr e),?_⟩
   clear h1
   induction l with
   |nil=>exact λx hx=>nomatch hx
   |cons a l ih =>
    rw[LM]at h;by_cases ha:LL a=0
    .rw[if_neg (by simp[ha])]at h;intro x hx;rcases A0D.1 hx with rfl|hx
     .exact ha
     .exact ih h x hx
    .rw[if_pos ha]at h;exact absurd h ha
def wm (n:Nar) (a:ByteArray) (s:Int):Prop:=a∈B4 n/\s=J8 (B4 n) (G3 n) a
theorem uJ {n:Nar}:∀(N:Nat) (t:Tm),t.size<=N->I7 t=0->LL t=0->o6 (B4 n) n.roles t=0->Wt (·∈n.roles) (wm n) (BT (J8 (B4 n) (G3 n)) t):=by
 have hf:∀a∈n.roles,J8 (B4 n) (G3 n) a=1:=λa ha=>jP ha;intro N
 induction N with
 |zero=>intro t h;have:=t.size_pos;omega
 |succ N ih =>
  intro t hn P1 hraw hs;obtain⟨k,nm,s,m,l⟩:=t;have I9:Tm.size (.mk k nm s m l)=1+Tm.sizes l:=rfl;obtain⟨h1,h2⟩:=Z2 P1;obtain⟨w1,w2,w3⟩:=mI hraw;subst w2;have one:∀t∈l,o6 (B4 n) n.roles t=0->Wt (·∈n.roles) (wm n) (BT (J8 (B4 n) (G3 n)) t):=λt ht h0=>ih t (by have:=Tm.size_le ht;omega) (O1 h2 t ht) (w3 t ht) h0;have nk:=λt (ht:t∈l)=>O1 h2 t ht;by_cases hk:k=3
  .subst hk;rw[BT,if_neg (by omega)];rw[QA]at hs;simp only[Tm.kind,ne_eq,not_true,if_false]at hs;split at hs
   .omega
   .rename_i hkd;have i6:=DZ hs;rw[fD]at i6 hkd;simp only[Tm.kids]at i6;by_cases c1:nm=bs [112,97,105,114]/\(l.length:Int)=2\/nm=bs [101,110,99]/\(l.length:Int)=2
    .rw[if_pos c1]at i6;have hl:l.length=2:=by omega
     match l,hl,i6,one with
     | [a,b],_,i6,one =>
      have ha:=one a (by simp) (i6 a (by simp));have hb:=one b (by simp) (i6 b (by simp));rw[Z6,Z6,Z6];rcases c1 with ⟨rfl,_⟩|⟨rfl,_⟩
      .exact .pair _ _ ha hb
      .exact .enc _ _ ha hb
    .rw[if_neg c1]at i6 hkd;by_cases c2:nm=bs [104,97,115,104]/\(l.length:Int)=1
     .rw[if_pos c2]at i6;have hl:l.length=1:=by omega
      match l,hl,i6,one with
      | [a],_,i6,one =>
       obtain⟨rfl,_⟩:=c2;exact .hash _ (one a (by simp) (i6 a (by simp)))
     .rw[if_neg c2]at i6 hkd;by_cases c3:(nm=bs [97,101,110,99]/\(l.length:Int)=2)/\OA (Ft n.roles) l=true\/(nm=bs [115,105,103,110]/\(l.length:Int)=2)/\OA (BU n.roles) l=true
      .rw[if_pos c3]at i6;have hl:l.length=2:=by omega
       match l,hl,i6,one,c3,nk with
       | [a,b],_,i6,one,c3,nk =>
        have ha:=one a (by simp) (i6 a (by simp));rw[Z6,Z6,Z6];rcases c3 with ⟨⟨rfl,_⟩,hb⟩|⟨⟨rfl,_⟩,hb⟩
        .obtain⟨r,hr,e⟩:=bb hf (nk b (by simp)) hb;rw[e];exact .aenc _ r ha hr
        .obtain⟨r,hr,e⟩:=ba hf (nk b (by simp)) hb;rw[e];exact .sign _ r ha hr
      .rw[if_neg c3]at i6 hkd;by_cases c4:Ft n.roles (.mk 3 nm 0 m l)=true\/Sh n.roles (.mk 3 nm 0 m l)=true
       .rcases c4 with c4|c4
        .obtain⟨r,hr,e⟩:=bb hf P1 c4;rw[BT,if_neg (by omega)]at e;rw[e];exact .pk r hr
        .rw[Sh,A0A,A0A,A0A,cK]at c4;obtain⟨⟨⟨⟨rfl,hl⟩,ha⟩,hb⟩,hd⟩:=c4
         replace ha:Qj (BG n.roles) l=true:=ha
         replace hb:OA (BG n.roles) l=true:=hb
         replace hd:nY l=true:=hd
         have hl:l.length=2:=by omega
         match l,hl,ha,hb,nk,hd with
         | [a,b],_,ha,hb,nk,hd =>
          obtain⟨r,hr,e1,e⟩:=VS hf (nk a (by simp)) ha;obtain⟨r',hr',e1',e'⟩:=VS hf (nk b (by simp)) hb;rw[Z6,Z6,Z6,e,e'];refine .shk r r' hr hr' λhe=>?_;have:a.name≠b.name:=of_decide_eq_true hd;exact this (by rw[e1,e1',he])
       .rw[if_neg c4]at hkd;omega
  .have hb:=(HK h1);have hk2:k=2:=by rcases hb.2.2.1 with h|h|h<;>omega
   subst hk2;have hl:l=[]:=A0U (hb.2.1 (.inr rfl));subst hl;rw[QA]at hs;simp only[Tm.kind,ne_eq,hk,not_false_eq_true,if_true,Tm.name]at hs;by_cases h:(B4 n).any (U3 nm)=true
   .obtain⟨a,ha,he⟩:=A0H.1 h;rw[JV]at he;subst he;rw[BT,if_pos rfl];exact .atom nm _ ⟨ha,rfl⟩
   .replace hs:(if (B4 n).any (U3 nm)=true then (0:Int)else 13)=0:=hs
    rw[if_neg h]at hs;omega
theorem og {t:Tm} (h:Es t=0):LL t=0:=by
 have h1:Jx t=0:=by
  apply Classical.byContradiction;intro hc;unfold Es at h;rw[if_pos hc]at h;exact hc h
 unfold Jx at h1;have hv:Q4 t=0:=by
  apply Classical.byContradiction;intro hc;rw[if_pos hc]at h1;exact hc h1
 rw[if_neg (by simp[hv])]at h1;exact h1
theorem Right.role_ok {n:Nar} (h:Right n):∀a,a∈n.roles->Tx a:=λa ha=>Ui h a (by unfold B4;simp[ha])
theorem Right.at_ok {n:Nar} (h:Right n):∀a s,wm n a s->Tx a/\0<=s/\s<=5:=λa s ha=>by
 obtain⟨h1,rfl⟩:=ha;exact⟨Ui h a h1,mY h a⟩
theorem Right.msg {n:Nar} (h:Right n) {s:Ste} (hs:s∈n.steps):Wt (·∈n.roles) (wm n) (BT (J8 (B4 n) (G3 n)) s.msg)/\s.msg.size<=40:=by
 have h1:=QC ((EU h.nar).2.1 s hs);exact⟨uJ _ _ (A0G _) (Iu h1) (og h1) (bS (h.steps s hs)),Ug h1⟩
end Go.Abs.Q
namespace Go.Abs.Q
open Go.Proofs
attribute [local simp] D9 E4 fin I8 G6 P7 M4 R4 R3
open Classical in
noncomputable def ZP (k:List Tm) (t:Tm):Nat:=if h:∃U,P8 U (alls (k++[t]))then h.choose.length else 0
theorem gF {U U' l l':I6} (h:P8 U l) (h':P8 U' l') (e:∀e,e∈l.map E8↔e∈l'.map E8):U.length=U'.length:=by
 have:=ZG h h' e;rw[E3,E3]at this;simpa using congrArg A0b this
theorem Xf {k:I6} {t:Tm} {U:I6} (h:P8 U (alls (k++[t]))):ZP k t=U.length:=by
 unfold ZP;rw[dif_pos ⟨U,h⟩];exact gF (l:=alls (k++[t])) (l':=alls (k++[t])) (Exists.choose_spec (⟨U,h⟩:∃U,P8 U (alls (k++[t])))) h λ_=>Iff.rfl
theorem Jl {l l':I6} (h:l.map E8=l'.map E8):(alls l).map E8=(alls l').map E8:=by
 rw[←Tc,←Tc,E3,E3,h]
theorem ef {k k':I6} {t t':Tm} (h:k.map E8=k'.map E8) (ht:E8 t=E8 t'):(k++[t]).map E8=(k'++[t']).map E8:=by
 rw[A0F,A0F,h,A0B,A0B,ht,A0S]
theorem Ko {U l l':I6} (h:P8 U l) (e:l.map E8=l'.map E8):P8 U l':=⟨h.1,λx=>by rw[←e];exact h.2 x⟩
theorem nS {k k':I6} {t t':Tm} (h:k.map E8=k'.map E8) (ht:E8 t=E8 t'):ZP k t=ZP k' t':=by
 have e:=Jl (ef h ht);have hiff:(∃U,P8 U (alls (k++[t])))↔∃U,P8 U (alls (k'++[t'])):=⟨λ⟨U,hU⟩=>⟨U,Ko hU e⟩,λ⟨U,hU⟩=>⟨U,Ko hU e.symm⟩⟩;by_cases hx:∃U,P8 U (alls (k++[t]))
 .obtain⟨U,hU⟩:=hx;rw[Xf hU,Xf (Ko hU e)]
 .unfold ZP;rw[dif_neg hx,dif_neg λh=>hx (hiff.2 h)]
theorem eM {k k':I6} {t t':Tm} (h:k.map E8=k'.map E8) (ht:E8 t=E8 t'):TT k t↔TT k' t':=by
 have e:=Jl (ef h ht);unfold TT;rw[ht];exact⟨RC (λx hx=>by rw[←h];exact hx) (λx hx=>by rw[←e];exact hx),RC (λx hx=>by rw[h];exact hx) (λx hx=>by rw[e];exact hx)⟩
open Classical in
noncomputable def d9 (k:List Tm) (t:Tm):Int×Bool:=if 60<k.length\/200<ZP k t then (3,false)else (0,decide (TT k t))
theorem Pm {k k':I6} {t t':Tm} (h:k.map E8=k'.map E8) (ht:E8 t=E8 t'):d9 k t=d9 k' t':=by
 have hl:k.length=k'.length:=by simpa using congrArg A0b h
 have e2:(@decide (TT k t) (Classical.propDecidable _))=@decide (TT k' t') (Classical.propDecidable _):=by
  by_cases hd:TT k t
  .rw[@decide_eq_true _ (Classical.propDecidable _) hd,@decide_eq_true _ (Classical.propDecidable _) ((eM h ht).1 hd)]
  .rw[@decide_eq_false _ (Classical.propDecidable _) hd,@decide_eq_false _ (Classical.propDecidable _) λk=>hd ((eM h ht).2 k)]
 unfold d9;rw[hl,nS h ht,e2]
theorem YJ (m:J3) (k:I6) (t:Tm) (hk:∀x∈k,GoodT x) (ht:GoodT t) (HH:k.length<=1048576) :
  pc Q P6 [sl m 4 (A4 k),B7 t]=some (.tup [.bool (d9 k t).2,.int .i64 (d9 k t).1]):=by
 obtain⟨U,h1,h2⟩:=YK m k t hk ht HH;rw[h1];unfold rC d9;by_cases hc:k.length<=60
 .rw[Xf (h2 hc)];split<;>rfl
 .rw[if_pos (.inl (by omega)),if_pos (.inl (by omega))]
open Classical in
theorem gZ {k:I6} {t:Tm} (h:(d9 k t).2=true):(d9 k t).1=0/\TT k t:=by
 unfold d9 at h ⊢;split at h
 .cases h
 .rename_i hc;rw[if_neg hc];exact⟨rfl,of_decide_eq_true h⟩
theorem UY {m:J3} {r n:Nar} (hR:Right n) (he:Pn r=Cn (J8 (B4 n) (G3 n)) n) {me:I3} (hme:me∈n.roles) {role q:Nat} {x:Tm} (h:x∈Ni m r n me role q):Io x/\x.size<=40:=by
 obtain⟨e2,e3,e5⟩:=Ej he;have ro:=hR.role_ok;rcases fE h with rfl|⟨a,ha,rfl⟩|h|h|⟨s,h1,_,rfl⟩
 .exact⟨Ph (XO (ro me hme)),by rw[(Ha m me me).1];omega⟩
 .exact⟨Ph (XM (ro a (by rw[←e2];exact ha))),by rw[(Ha m a me).2.1];omega⟩
 .refine⟨?_,by rw[NN _ _ _ _ _ _ h];omega⟩;obtain⟨j,r',-,-,hj,h4⟩:=Ts (A0L (f:=E8) h);have hr':r'∈n.roles:=by rw[←e2];exact A0d hj
  refine Ph ?_;rcases h4 with h4|h4<;>rw[h4]
  .exact XN (ro me hme) (ro r' hr')
  .exact XN (ro r' hr') (ro me hme)
 .refine⟨?_,by rw[Kr h];omega⟩;unfold Fe at h;rw[A0E]at h;obtain⟨f,hf,rfl⟩:=h;have hf':=(List.mem_filter.1 hf).1;obtain⟨-,k2,-⟩:=Qk (EU hR.nar).1;have:=k2 f hf';exact Pg (Ui hR f.name (by unfold B4;simp only[A0I,A0E];exact .inl (.inr ⟨f,hf',rfl⟩))) (by omega) (by omega)
 .refine⟨?_,Nn hR.nar he s h1⟩;have hm:KV s∈n.steps.map (Cd (J8 (B4 n) (G3 n))):=by rw[←(i5 he).2.2.2.2.1];exact A0L h1
  obtain⟨s',hs',e⟩:=A0E.1 hm;unfold KV Cd at e;injection e with _ _ e _
  refine Ph ?_;rw[←e];exact(hR.msg hs').1.allN hR.role_ok hR.at_ok
theorem aM {r n:Nar} (hR:Right n) (he:Pn r=Cn (J8 (B4 n) (G3 n)) n) {s:Ste} (hs:s∈r.steps):Io s.msg/\s.msg.size<=40:=by
 refine⟨?_,Nn hR.nar he s hs⟩;have hm:KV s∈n.steps.map (Cd (J8 (B4 n) (G3 n))):=by rw[←(i5 he).2.2.2.2.1];exact A0L hs
 obtain⟨s',hs',e⟩:=A0E.1 hm;unfold KV Cd at e;injection e with _ _ e _
 refine Ph ?_;rw[←e];exact(hR.msg hs').1.allN hR.role_ok hR.at_ok
theorem jy:∀(N:Nat) (t:Tm),t.size<=N->∀x∈GW t,x.size<=t.size:=by
 intro N
 induction N with
 |zero=>intro t h;have:=t.size_pos;omega
 |succ N ih =>
  intro t h x hx;have I9:=t.kids_size;rw[Cp,K6]at hx;rcases A0D.1 hx with rfl|hx
  .exact A0G _
  .obtain⟨y,hy,hx⟩:=A0N.1 hx;have:=Tm.size_le hy;have:=ih y (by omega) x hx;omega
theorem gK:∀(N:Nat) (t:Tm),t.size<=N->∀x∈GW t,∀y∈GW x,y∈GW t:=by
 intro N
 induction N with
 |zero=>intro t h;have:=t.size_pos;omega
 |succ N ih =>
  intro t h x hx y hy;have I9:=t.kids_size;rw[Cp,K6]at hx;rcases A0D.1 hx with rfl|hx
  .exact hy
  .obtain⟨z,hz,hx⟩:=A0N.1 hx;rw[Cp,K6];refine A0J _ (A0N.2 ⟨z,hz,?_⟩);have:=Tm.size_le hz;exact ih z (by omega) x hx y hy
theorem mb {R:I6} {t:Tm} (h:P8 R (alls [t])) (hN:Io t) (hs:t.size<=40):∀x∈R,Io x/\x.size<=40:=λx hx=>by
 obtain⟨y,hy,e⟩:=SH h hx;rw[alls,alls,List.append_nil]at hy;have h1:Io y:=λz hz=>hN z (gK _ t (A0G _) y hy z hz);have h2:=jy _ t (A0G _) y hy;refine⟨Ph ?_,?_⟩
 .rw[←e];intro z hz;rw[UB]at hz;obtain⟨w,hw,rfl⟩:=A0E.1 hz;have:=h1 w hw;obtain⟨k,nm,s,m,l⟩:=w;simp only[NG,E8,Tm.kind,Tm.sort,Tm.kids,Tm.name]at this ⊢;rw[jv,E3,A0P];rcases this with ⟨q1,q2,q3,q4,q5,q6⟩|h
  .exact .inl ⟨q1,q2,q3,by simp[q4],q5,q6⟩
  .exact .inr h
 .have h3:x.size=y.size:=by rw[←Hq _ x (A0G _),←e,Hq _ y (A0G _)]
  omega
theorem ax (r n:Nar) (hl:r.roles.length<=1000) (a:I3):pc Q Eo [Ee r n,.str a]=some (.int .i64 (idx (U3 a) r.roles)):=by
 have hI:=TD r.rm r.roles a (by omega);simp only[CK]at hI;have sb:=w8 r n;refine O2 Ib λfr hl h0 h1=>?_;simp[Ib]at hl h0 h1;simp[Ib,hl,h0,h1,sb,hI]
def OQ (rs:List ByteArray) (a:ByteArray):Nat:=(idx (U3 a) rs).toNat
theorem Se {rs:List ByteArray} {a:I3} (h:a∈rs):rs[OQ rs a]?=some a/\idx (U3 a) rs=((OQ rs a:Nat):Int):=by
 have h1:rs.any (U3 a)=true:=A0H.2 ⟨a,h,(JV a a).2 rfl⟩;have hge:=(CX (U3 a) rs 0).2 h1;have A7:=Ir (U3 a) rs 0;have key:∀(l:List ByteArray) (i:Nat),l.any (U3 a)=true->∃j:Nat,R1 (U3 a) i l=((i+j:Nat):Int)/\l[j]?=some a:=by
  intro l
  induction l with
  |nil=>intro i h;simp at h
  |cons b l ih =>
   intro i h;unfold R1;by_cases hb:U3 a b=true
   .rw[if_pos hb];exact⟨0,by simp,by rw[(JV a b).1 hb];rfl⟩
   .rw[if_neg hb];rw[A0g]at h;obtain⟨j,j1,j2⟩:=ih (i+1) (by simpa[hb]using h);exact⟨j+1,by rw[j1];congr 1;omega,by simpa using j2⟩
 obtain⟨j,j1,j2⟩:=key rs 0 h1;rw[Nat.zero_add]at j1;have e:OQ rs a=j:=by unfold OQ idx;rw[j1];rfl
 exact⟨by rw[e];exact j2,by rw[e];exact j1⟩
theorem Ny {ns rs:List ByteArray} {s:Ste} (h:FN ns rs s=0):s.frm∈rs/\s.to∈rs/\s.frm≠s.to:=by
 have h1:LQ rs s.frm s.to=0:=by
  unfold FN at h;apply Classical.byContradiction;intro hc;rw[if_pos hc]at h;exact hc h
 unfold LQ at h1;split at h1
 .rename_i h2;split at h1
  .omega
  .rename_i h3;obtain⟨q1,q2⟩:=h2;obtain⟨a,ha,ea⟩:=A0H.1 q1;obtain⟨b,hb,eb⟩:=A0H.1 q2;rw[JV]at ea eb;exact⟨ea ▸ ha,eb ▸ hb,h3⟩
 .omega
end Go.Abs.Q
