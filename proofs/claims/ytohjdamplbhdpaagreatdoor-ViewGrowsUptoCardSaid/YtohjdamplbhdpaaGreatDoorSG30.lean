/- A part of the proof. -/
import Derived.Test.YtohjdamplbhdpaaGreatDoorSG29
set_option linter.all false
open Bool renaming and_eq_true->xk,false_eq_true->yE
open List renaming mem_map->xl,any_eq_true->xm,mem_map_of_mem->xn,drop_eq_nil_of_le->xo,map_cons->xp,mem_append->xr,eq_nil_of_length_eq_zero->xt,getD_eq_getElem?_getD->xu,drop_eq_getElem_cons->xw,getElem?_eq_getElem->xy,mem_flatMap->xz,length_map->yA,mem_cons_of_mem->yB,mem_of_getElem?->yC,mem_cons->yD,append_assoc->yF,length->yG,getElem_mem->yH,map_append->yI,any_cons->yJ,map_map->yK
open Nat renaming le_refl->xq
namespace Go.Abs.Q
open Go.Proofs
theorem iV {a:H7} (h:MQ a=false):OH a (bs [101,35])=false:=by
 unfold OH;by_cases h1:(FI a).take (bs [101,35]).size=FI (bs [101,35])
 .exfalso
  have e1:FI (bs [101,35])=[101,35]:=by decide
  have e2:(bs [101,35]).size=2:=by decide
  rw[e1,e2]at h1;unfold MQ at h;have hm:(35:UInt8)∈FI a:=List.mem_of_mem_take (i:=2) (by rw[h1];simp);rw[List.contains_iff_mem.2 hm]at h;cases h
 .rw[show decide ((FI a).take (bs [101,35]).size=FI (bs [101,35]))=false from decide_eq_false h1,Bool.and_false]
theorem Oy {a:H7} (h:Y3 a=true):BK a=true:=by
 unfold Y3 at h;rw[xk]at h;exact h.1
theorem OD {n:Nar} (h:Hh n=0):(∀a∈n.roles,BK a=true)/\(∀f∈n.fresh,BK f.name=true/\2<=f.sort/\f.sort<=4)/\∀a∈n.tags,BK a=true:=by
 unfold Hh at h;split at h
 .omega
 .split at h
  .rename_i h1;exact absurd h h1
  .split at h
   .omega
   .rename_i h1;split at h
    .rename_i h2;exact absurd h h2
    .rename_i h2;split at h
     .omega
     .rename_i h3;have key:∀l:List ByteArray,¬l.any KY=true->∀a∈l,BK a=true:=λl hl a ha=>by
       refine Oy ?_;cases hb:Y3 a with
       |true=>rfl
       |false=>exact absurd (xm.2 ⟨a,ha,by simp[KY,hb]⟩) hl
      refine⟨key _ h1,λf hf=>?_,key _ h3⟩;have h4:E9 MO n.fresh=0:=by
       apply Classical.byContradiction;exact h2
      have h5:=FL h4 f hf;unfold MO at h5;split at h5
      .omega
      .rename_i h6;split at h5
       .omega
       .exact⟨Oy (by
         cases hb:Y3 f.name with
         |true=>rfl
         |false=>exact absurd (.inr hb) h6),by omega,by omega⟩
theorem SK {n:Nar} (h:Right n):∀a∈B5 n,RV a:=λa ha=>by
 obtain⟨k1,k2,k3⟩:=OD (Dt h.nar).1;refine⟨?_,iV ((Qc h.dec).2 a ha)⟩;unfold B5 at ha;rcases xr.1 ha with ha|ha
 .rcases xr.1 ha with ha|ha
  .exact k1 a ha
  .obtain⟨f,hf,rfl⟩:=xl.1 ha;exact(k2 f hf).1
 .exact k3 a ha
theorem iu {n:Nar} (h:Right n) (a:H7):0<=H5 (B5 n) (E4 n) a/\H5 (B5 n) (E4 n) a<=5:=by
 obtain⟨k1,k2,k3⟩:=OD (Dt h.nar).1;unfold H5;split
 .rw[xu];cases hx:(E4 n)[(idx (BS a) (B5 n)).toNat]? with
  |none=>simp
  |some x =>
   have hm:=yC hx;simp only[Option.getD_some];unfold E4 at hm;rcases xr.1 hm with hm|hm
   .rcases xr.1 hm with hm|hm
    .obtain⟨_,_,rfl⟩:=xl.1 hm;omega
    .obtain⟨f,hf,rfl⟩:=xl.1 hm;have:=(k2 f hf).2;omega
   .obtain⟨_,_,rfl⟩:=xl.1 hm;omega
 .omega
theorem QW {α:Type} (p:α->Bool):∀(l l':List α) (i:Nat),l.any p=true->R8 p i (l++l')=R8 p i l
 | [],l',i,h=>by simp at h
 |a::l,l',i,h=>by
  rw[List.cons_append];unfold R8;by_cases hp:p a=true
  .rw[if_pos hp,if_pos hp]
  .rw[if_neg hp,if_neg hp];refine QW p l l' _ ?_;rw[yJ]at h;simpa[hp]using h
theorem Ul {n:Nar} {a:H7} (h:a∈n.roles):H5 (B5 n) (E4 n) a=1:=by
 have h1:n.roles.any (BS a)=true:=xm.2 ⟨a,h,(Ek a a).2 rfl⟩;have h2:(B5 n).any (BS a)=true:=YR n a h1;unfold H5;rw[if_pos h2];have e:idx (BS a) (B5 n)=idx (BS a) n.roles:=by
  unfold idx B5;rw[yF];exact QW _ _ _ _ h1
 have hge:=(CL (BS a) n.roles 0).2 h1;have A6:=IL (BS a) n.roles 0;rw[e];have hi:(idx (BS a) n.roles).toNat<n.roles.length:=by unfold idx;omega
 rw[xu];have:(E4 n)[(idx (BS a) n.roles).toNat]?=some 1:=by
  unfold E4;rw[yF,List.getElem?_append_left (by simpa using hi),List.getElem?_map,xy hi];rfl
 rw[this];rfl
theorem Ss {rs:List ByteArray} {f:ByteArray->Int} (hf:∀a∈rs,f a=1) {t:Tm} (hn:L3 t=0) (h:EG rs t=true):∃a∈rs,t.name=a/\Y7 f t=D5 (HU a):=by
 obtain⟨k,nm,s,m,l⟩:=t;obtain⟨h1,_⟩:=CS hn;rw[EG,xk]at h;have hk:k=2:=of_decide_eq_true h.1;have hr:rs.any (BS nm)=true:=h.2;obtain⟨a,ha,he⟩:=xm.1 hr;rw[Ek]at he;subst he;have hl:l=[]:=xt ((IT h1).2.1 (.inr hk));subst hl hk;refine⟨nm,ha,rfl,?_⟩;rw[Y7,if_pos rfl,hf nm ha];rfl
theorem Yb {rs:List ByteArray} {f:ByteArray->Int} (hf:∀a∈rs,f a=1) {t:Tm} (hn:L3 t=0) (h:HR rs t=true):∃a∈rs,Y7 f t=Qu a:=by
 obtain⟨k,nm,s,m,l⟩:=t;obtain⟨h1,h2⟩:=CS hn;rw[HR,xk,Aj,xk,xk]at h;obtain⟨⟨⟨hk0,hnm0⟩,hl0⟩,hff⟩:=h;have hk:k=3:=of_decide_eq_true hk0;have hnm:nm=bs [115,107]:=of_decide_eq_true hnm0;have hl:(l.length:Int)=1:=of_decide_eq_true hl0;clear hk0 hnm0 hl0
 replace hff:VS (EG rs) l=true:=hff
 subst hk hnm
 replace hl:l.length=1:=by omega
 have hs:s=0:=by
  unfold t8 at h1;split at h1
  .omega
  .omega
 match l,hl,hff,h2 with
 | [a],_,hff,h2 =>
  obtain⟨r,hr,_,e⟩:=Ss hf (BM h2 a (by simp)) hff;refine⟨r,hr,?_⟩;rw[Y7,if_neg (by omega),AS,AS,e,hs];rfl
theorem Yc {rs:List ByteArray} {f:ByteArray->Int} (hf:∀a∈rs,f a=1) {t:Tm} (hn:L3 t=0) (h:LI rs t=true):∃a∈rs,Y7 f t=Pz a:=by
 obtain⟨k,nm,s,m,l⟩:=t;obtain⟨h1,h2⟩:=CS hn;rw[LI,xk,Aj,xk,xk]at h;obtain⟨⟨⟨hk0,hnm0⟩,hl0⟩,hff⟩:=h;have hk:k=3:=of_decide_eq_true hk0;have hnm:nm=bs [112,107]:=of_decide_eq_true hnm0;have hl:(l.length:Int)=1:=of_decide_eq_true hl0;clear hk0 hnm0 hl0
 replace hff:VS (HR rs) l=true:=hff
 subst hk hnm
 replace hl:l.length=1:=by omega
 have hs:s=0:=by
  unfold t8 at h1;split at h1
  .omega
  .omega
 match l,hl,hff,h2 with
 | [a],_,hff,h2 =>
  obtain⟨r,hr,e⟩:=Yb hf (BM h2 a (by simp)) hff;refine⟨r,hr,?_⟩;rw[Y7,if_neg (by omega),AS,AS,e,hs];rfl
theorem iW {k:Int} {nm:H7} {s:Int} {m:I8} {l:I2} (h:LJ (.mk k nm s m l)=0):k≠1/\s=0/\∀x∈l,LJ x=0:=by
 rw[LJ]at h;split at h
 .omega
 .rename_i h1;split at h
  .omega
  .refine⟨λe=>h1 (.inl e),by
    apply Classical.byContradiction;exact λe=>h1 (.inr e),?_⟩
   clear h1
   induction l with
   |nil=>exact λx hx=>nomatch hx
   |cons a l ih =>
    rw[Mg]at h;by_cases ha:LJ a=0
    .rw[if_neg (by simp[ha])]at h;intro x hx;rcases yD.1 hx with rfl|hx
     .exact ha
     .exact ih h x hx
    .rw[if_pos ha]at h;exact absurd h ha
def uB (n:Nar) (a:ByteArray) (s:Int):Prop:=a∈B5 n/\s=H5 (B5 n) (E4 n) a
theorem qY {n:Nar}:∀(N:Nat) (t:Tm),t.size<=N->L3 t=0->LJ t=0->Ah (B5 n) n.roles t=0->Wt (·∈n.roles) (uB n) (Y7 (H5 (B5 n) (E4 n)) t):=by
 have hf:∀a∈n.roles,H5 (B5 n) (E4 n) a=1:=λa ha=>Ul ha;intro N
 induction N with
 |zero=>intro t h;have:=t.size_pos;omega
 |succ N ih =>
  intro t hn M5 hraw hs;obtain⟨k,nm,s,m,l⟩:=t;have K4:Tm.size (.mk k nm s m l)=1+Tm.sizes l:=rfl;obtain⟨h1,h2⟩:=CS M5;obtain⟨w1,w2,w3⟩:=iW hraw;subst w2;have one:∀t∈l,Ah (B5 n) n.roles t=0->Wt (·∈n.roles) (uB n) (Y7 (H5 (B5 n) (E4 n)) t):=λt ht h0=>ih t (by have:=Tm.size_le ht;omega) (BM h2 t ht) (w3 t ht) h0;have nk:=λt (ht:t∈l)=>BM h2 t ht;by_cases hk:k=3
  .subst hk;rw[Y7,if_neg (by omega)];rw[RM]at hs;simp only[Tm.kind,ne_eq,not_true,if_false]at hs;split at hs
   .omega
   .rename_i hkd;have GK:=FL hs;rw[kM]at GK hkd;simp only[Tm.kids]at GK;by_cases c1:nm=bs [112,97,105,114]/\(l.length:Int)=2\/nm=bs [101,110,99]/\(l.length:Int)=2
    .rw[if_pos c1]at GK;have hl:l.length=2:=by omega
     match l,hl,GK,one with
     | [a,b],_,GK,one =>
      have ha:=one a (by simp) (GK a (by simp));have hb:=one b (by simp) (GK b (by simp));rw[AS,AS,AS];rcases c1 with ⟨rfl,_⟩|⟨rfl,_⟩
      .exact .pair _ _ ha hb
      .exact .enc _ _ ha hb
    .rw[if_neg c1]at GK hkd;by_cases c2:nm=bs [104,97,115,104]/\(l.length:Int)=1
     .rw[if_pos c2]at GK;have hl:l.length=1:=by omega
      match l,hl,GK,one with
      | [a],_,GK,one =>
       obtain⟨rfl,_⟩:=c2;exact .hash _ (one a (by simp) (GK a (by simp)))
     .rw[if_neg c2]at GK hkd;by_cases c3:(nm=bs [97,101,110,99]/\(l.length:Int)=2)/\Sr (LI n.roles) l=true\/(nm=bs [115,105,103,110]/\(l.length:Int)=2)/\Sr (HR n.roles) l=true
      .rw[if_pos c3]at GK;have hl:l.length=2:=by omega
       match l,hl,GK,one,c3,nk with
       | [a,b],_,GK,one,c3,nk =>
        have ha:=one a (by simp) (GK a (by simp));rw[AS,AS,AS];rcases c3 with ⟨⟨rfl,_⟩,hb⟩|⟨⟨rfl,_⟩,hb⟩
        .obtain⟨r,hr,e⟩:=Yc hf (nk b (by simp)) hb;rw[e];exact .aenc _ r ha hr
        .obtain⟨r,hr,e⟩:=Yb hf (nk b (by simp)) hb;rw[e];exact .sign _ r ha hr
      .rw[if_neg c3]at GK hkd;by_cases c4:LI n.roles (.mk 3 nm 0 m l)=true\/YX n.roles (.mk 3 nm 0 m l)=true
       .rcases c4 with c4|c4
        .obtain⟨r,hr,e⟩:=Yc hf M5 c4;rw[Y7,if_neg (by omega)]at e;rw[e];exact .pk r hr
        .rw[YX,xk,xk,xk,fa]at c4;obtain⟨⟨⟨⟨rfl,hl⟩,ha⟩,hb⟩,hd⟩:=c4
         replace ha:VS (EG n.roles) l=true:=ha
         replace hb:Sr (EG n.roles) l=true:=hb
         replace hd:ma l=true:=hd
         have hl:l.length=2:=by omega
         match l,hl,ha,hb,nk,hd with
         | [a,b],_,ha,hb,nk,hd =>
          obtain⟨r,hr,e1,e⟩:=Ss hf (nk a (by simp)) ha;obtain⟨r',hr',e1',e'⟩:=Ss hf (nk b (by simp)) hb;rw[AS,AS,AS,e,e'];refine .shk r r' hr hr' λhe=>?_;have:a.name≠b.name:=of_decide_eq_true hd;exact this (by rw[e1,e1',he])
       .rw[if_neg c4]at hkd;omega
  .have hb:=(IT h1);have hk2:k=2:=by rcases hb.2.2.1 with h|h|h<;>omega
   subst hk2;have hl:l=[]:=xt (hb.2.1 (.inr rfl));subst hl;rw[RM]at hs;simp only[Tm.kind,ne_eq,hk,not_false_eq_true,if_true,Tm.name]at hs;by_cases h:(B5 n).any (BS nm)=true
   .obtain⟨a,ha,he⟩:=xm.1 h;rw[Ek]at he;subst he;rw[Y7,if_pos rfl];exact .atom nm _ ⟨ha,rfl⟩
   .replace hs:(if (B5 n).any (BS nm)=true then (0:Int)else 13)=0:=hs
    rw[if_neg h]at hs;omega
theorem kZ {t:Tm} (h:HN t=0):LJ t=0:=by
 have h1:KS t=0:=by
  apply Classical.byContradiction;intro hc;unfold HN at h;rw[if_pos hc]at h;exact hc h
 unfold KS at h1;have hv:S5 t=0:=by
  apply Classical.byContradiction;intro hc;rw[if_pos hc]at h1;exact hc h1
 rw[if_neg (by simp[hv])]at h1;exact h1
theorem Right.role_ok {n:Nar} (h:Right n):∀a,a∈n.roles->RV a:=λa ha=>SK h a (by unfold B5;simp[ha])
theorem Right.at_ok {n:Nar} (h:Right n):∀a s,uB n a s->RV a/\0<=s/\s<=5:=λa s ha=>by
 obtain⟨h1,rfl⟩:=ha;exact⟨SK h a h1,iu h a⟩
theorem Right.msg {n:Nar} (h:Right n) {s:Ste} (hs:s∈n.steps):Wt (·∈n.roles) (uB n) (Y7 (H5 (B5 n) (E4 n)) s.msg)/\s.msg.size<=40:=by
 have h1:=RP ((Dt h.nar).2.1 s hs);exact⟨qY _ _ (xq _) (Pp h1) (kZ h1) (ii (h.steps s hs)),SI h1⟩
end Go.Abs.Q
namespace Go.Abs.Q
open Go.Proofs
attribute [local simp] D0 D1 fin I1 E7 K8 I3 N6 P4
open Classical in
noncomputable def Wl (k:List Tm) (t:Tm):Nat:=if h:∃U,O1 U (alls (k++[t]))then h.choose.length else 0
theorem cM {U U' l l':I2} (h:O1 U l) (h':O1 U' l') (e:∀e,e∈l.map D5↔e∈l'.map D5):U.length=U'.length:=by
 have:=WZ h h' e;rw[D3,D3]at this;simpa using congrArg yG this
theorem VJ {k:I2} {t:Tm} {U:I2} (h:O1 U (alls (k++[t]))):Wl k t=U.length:=by
 unfold Wl;rw[dif_pos ⟨U,h⟩];exact cM (l:=alls (k++[t])) (l':=alls (k++[t])) (Exists.choose_spec (⟨U,h⟩:∃U,O1 U (alls (k++[t])))) h λ_=>Iff.rfl
theorem HH {l l':I2} (h:l.map D5=l'.map D5):(alls l).map D5=(alls l').map D5:=by
 rw[←Qx,←Qx,D3,D3,h]
theorem al {k k':I2} {t t':Tm} (h:k.map D5=k'.map D5) (ht:D5 t=D5 t'):(k++[t]).map D5=(k'++[t']).map D5:=by
 rw[yI,yI,h,xp,xp,ht,List.map_nil]
theorem IB {U l l':I2} (h:O1 U l) (e:l.map D5=l'.map D5):O1 U l':=⟨h.1,λx=>by rw[←e];exact h.2 x⟩
theorem jn {k k':I2} {t t':Tm} (h:k.map D5=k'.map D5) (ht:D5 t=D5 t'):Wl k t=Wl k' t':=by
 have e:=HH (al h ht);have hiff:(∃U,O1 U (alls (k++[t])))↔∃U,O1 U (alls (k'++[t'])):=⟨λ⟨U,hU⟩=>⟨U,IB hU e⟩,λ⟨U,hU⟩=>⟨U,IB hU e.symm⟩⟩;by_cases hx:∃U,O1 U (alls (k++[t]))
 .obtain⟨U,hU⟩:=hx;rw[VJ hU,VJ (IB hU e)]
 .unfold Wl;rw[dif_neg hx,dif_neg λh=>hx (hiff.2 h)]
theorem aN {k k':I2} {t t':Tm} (h:k.map D5=k'.map D5) (ht:D5 t=D5 t'):PW k t↔PW k' t':=by
 have e:=HH (al h ht);unfold PW;rw[ht];exact⟨OV (λx hx=>by rw[←h];exact hx) (λx hx=>by rw[←e];exact hx),OV (λx hx=>by rw[h];exact hx) (λx hx=>by rw[e];exact hx)⟩
open Classical in
noncomputable def U1 (k:List Tm) (t:Tm):Int×Bool:=if 60<k.length\/200<Wl k t then (3,false)else (0,decide (PW k t))
theorem NH {k k':I2} {t t':Tm} (h:k.map D5=k'.map D5) (ht:D5 t=D5 t'):U1 k t=U1 k' t':=by
 have hl:k.length=k'.length:=by simpa using congrArg yG h
 have e2:(@decide (PW k t) (Classical.propDecidable _))=@decide (PW k' t') (Classical.propDecidable _):=by
  by_cases hd:PW k t
  .rw[@decide_eq_true _ (Classical.propDecidable _) hd,@decide_eq_true _ (Classical.propDecidable _) ((aN h ht).1 hd)]
  .rw[@decide_eq_false _ (Classical.propDecidable _) hd,@decide_eq_false _ (Classical.propDecidable _) λk=>hd ((aN h ht).2 k)]
 unfold U1;rw[hl,jn h ht,e2]
theorem Vh (m:I8) (k:I2) (t:Tm) (hk:∀x∈k,GoodT x) (ht:GoodT t) (CI:k.length<=1048576) :
  pc Q O0 [sl m 4 (A3 k),B8 t]=some (.tup [.bool (U1 k t).2,.int .i64 (U1 k t).1]):=by
 obtain⟨U,h1,h2⟩:=Vi m k t hk ht CI;rw[h1];unfold mZ U1;by_cases hc:k.length<=60
 .rw[VJ (h2 hc)];split<;>rfl
 .rw[if_pos (.inl (by omega)),if_pos (.inl (by omega))]
open Classical in
theorem cq {k:I2} {t:Tm} (h:(U1 k t).2=true):(U1 k t).1=0/\PW k t:=by
 unfold U1 at h ⊢;split at h
 .cases h
 .rename_i hc;rw[if_neg hc];exact⟨rfl,of_decide_eq_true h⟩
theorem Ox {m:I8} {r n:Nar} (hR:Right n) (he:On r=DD (H5 (B5 n) (E4 n)) n) {me:H7} (hme:me∈n.roles) {role q:Nat} {x:Tm} (h:x∈Kv m r n me role q):FS x/\x.size<=40:=by
 obtain⟨e2,e3,e5⟩:=Fe he;have ro:=hR.role_ok;rcases bA h with rfl|⟨a,ha,rfl⟩|h|h|⟨s,h1,_,rfl⟩
 .exact⟨Kb (Uy (ro me hme)),by rw[(ID m me me).1];omega⟩
 .exact⟨Kb (Uw (ro a (by rw[←e2];exact ha))),by rw[(ID m a me).2.1];omega⟩
 .refine⟨?_,by rw[KU _ _ _ _ _ _ h];omega⟩;obtain⟨j,r',-,-,hj,h4⟩:=RN (xn (f:=D5) h);have hr':r'∈n.roles:=by rw[←e2];exact yC hj
  refine Kb ?_;rcases h4 with h4|h4<;>rw[h4]
  .exact Ux (ro me hme) (ro r' hr')
  .exact Ux (ro r' hr') (ro me hme)
 .refine⟨?_,by rw[KJ h];omega⟩;unfold FZ at h;rw[xl]at h;obtain⟨f,hf,rfl⟩:=h;have hf':=(List.mem_filter.1 hf).1;obtain⟨-,k2,-⟩:=OD (Dt hR.nar).1;have:=k2 f hf';exact NA (SK hR f.name (by unfold B5;simp only[xr,xl];exact .inl (.inr ⟨f,hf',rfl⟩))) (by omega) (by omega)
 .refine⟨?_,LC hR.nar he s h1⟩;have hm:Lo s∈n.steps.map (Dd (H5 (B5 n) (E4 n))):=by rw[←(AI he).2.2.2.2.1];exact xn h1
  obtain⟨s',hs',e⟩:=xl.1 hm;unfold Lo Dd at e;injection e with _ _ e _
  refine Kb ?_;rw[←e];exact(hR.msg hs').1.allN hR.role_ok hR.at_ok
theorem Xe {r n:Nar} (hR:Right n) (he:On r=DD (H5 (B5 n) (E4 n)) n) {s:Ste} (hs:s∈r.steps):FS s.msg/\s.msg.size<=40:=by
 refine⟨?_,LC hR.nar he s hs⟩;have hm:Lo s∈n.steps.map (Dd (H5 (B5 n) (E4 n))):=by rw[←(AI he).2.2.2.2.1];exact xn hs
 obtain⟨s',hs',e⟩:=xl.1 hm;unfold Lo Dd at e;injection e with _ _ e _
 refine Kb ?_;rw[←e];exact(hR.msg hs').1.allN hR.role_ok hR.at_ok
theorem fW:∀(N:Nat) (t:Tm),t.size<=N->∀x∈EH t,x.size<=t.size:=by
 intro N
 induction N with
 |zero=>intro t h;have:=t.size_pos;omega
 |succ N ih =>
  intro t h x hx;have K4:=t.kids_size;rw[Ac,J1]at hx;rcases yD.1 hx with rfl|hx
  .exact xq _
  .obtain⟨y,hy,hx⟩:=xz.1 hx;have:=Tm.size_le hy;have:=ih y (by omega) x hx;omega
theorem cV:∀(N:Nat) (t:Tm),t.size<=N->∀x∈EH t,∀y∈EH x,y∈EH t:=by
 intro N
 induction N with
 |zero=>intro t h;have:=t.size_pos;omega
 |succ N ih =>
  intro t h x hx y hy;have K4:=t.kids_size;rw[Ac,J1]at hx;rcases yD.1 hx with rfl|hx
  .exact hy
  .obtain⟨z,hz,hx⟩:=xz.1 hx;rw[Ac,J1];refine yB _ (xz.2 ⟨z,hz,?_⟩);have:=Tm.size_le hz;exact ih z (by omega) x hx y hy
theorem jC {R:I2} {t:Tm} (h:O1 R (alls [t])) (hN:FS t) (hs:t.size<=40):∀x∈R,FS x/\x.size<=40:=λx hx=>by
 obtain⟨y,hy,e⟩:=Pc h hx;rw[alls,alls,List.append_nil]at hy;have h1:FS y:=λz hz=>hN z (cV _ t (xq _) y hy z hz);have h2:=fW _ t (xq _) y hy;refine⟨Kb ?_,?_⟩
 .rw[←e];intro z hz;rw[Pf]at hz;obtain⟨w,hw,rfl⟩:=xl.1 hz;have:=h1 w hw;obtain⟨k,nm,s,m,l⟩:=w;simp only[NG,D5,Tm.kind,Tm.sort,Tm.kids,Tm.name]at this ⊢;rw[aU,D3,yA];rcases this with ⟨q1,q2,q3,q4,q5,q6⟩|h
  .exact .inl ⟨q1,q2,q3,by simp[q4],q5,q6⟩
  .exact .inr h
 .have h3:x.size=y.size:=by rw[←CK _ x (xq _),←e,CK _ y (xq _)]
  omega
theorem YE (r n:Nar) (hl:r.roles.length<=1000) (a:H7):pc Q DN [Dw r n,.str a]=some (.int .i64 (idx (BS a) r.roles)):=by
 have hI:=Qd r.rm r.roles a (by omega);simp only[GP]at hI;have sb:=AR r n;refine Q6 GG λfr hl h0 h1=>?_;simp[GG]at hl h0 h1;simp[GG,hl,h0,h1,sb,hI]
def LL (rs:List ByteArray) (a:ByteArray):Nat:=(idx (BS a) rs).toNat
theorem OK {rs:List ByteArray} {a:H7} (h:a∈rs):rs[LL rs a]?=some a/\idx (BS a) rs=((LL rs a:Nat):Int):=by
 have h1:rs.any (BS a)=true:=xm.2 ⟨a,h,(Ek a a).2 rfl⟩;have hge:=(CL (BS a) rs 0).2 h1;have A6:=IL (BS a) rs 0;have key:∀(l:List ByteArray) (i:Nat),l.any (BS a)=true->∃j:Nat,R8 (BS a) i l=((i+j:Nat):Int)/\l[j]?=some a:=by
  intro l
  induction l with
  |nil=>intro i h;simp at h
  |cons b l ih =>
   intro i h;unfold R8;by_cases hb:BS a b=true
   .rw[if_pos hb];exact⟨0,by simp,by rw[(Ek a b).1 hb];rfl⟩
   .rw[if_neg hb];rw[yJ]at h;obtain⟨j,j1,j2⟩:=ih (i+1) (by simpa[hb]using h);exact⟨j+1,by rw[j1];congr 1;omega,by simpa using j2⟩
 obtain⟨j,j1,j2⟩:=key rs 0 h1;rw[Nat.zero_add]at j1;have e:LL rs a=j:=by unfold LL idx;rw[j1];rfl
 exact⟨by rw[e];exact j2,by rw[e];exact j1⟩
theorem LO {ns rs:List ByteArray} {s:Ste} (h:JB ns rs s=0):s.frm∈rs/\s.to∈rs/\s.frm≠s.to:=by
 have h1:Mm rs s.frm s.to=0:=by
  unfold JB at h;apply Classical.byContradiction;intro hc;rw[if_pos hc]at h;exact hc h
 unfold Mm at h1;split at h1
 .rename_i h2;split at h1
  .omega
  .rename_i h3;obtain⟨q1,q2⟩:=h2;obtain⟨a,ha,ea⟩:=xm.1 q1;obtain⟨b,hb,eb⟩:=xm.1 q2;rw[Ek]at ea eb;exact⟨ea ▸ ha,eb ▸ hb,h3⟩
 .omega
end Go.Abs.Q
namespace Go.Abs.Q
open Go.Proofs
attribute [local simp] D0 D1 fin I1 E7 K8 I3 N6 P4
def Yx:Tm:=.mk 0 (bs []) 0 (true,false) []
noncomputable def JC (k:List Tm) (i:Int):List Tm->Option (Int×Tm×Int)
 | []=>none
 |t::l=>if (U1 k t).1≠0 then some (0,Yx,(U1 k t).1)else if (U1 k t).2=true then JC k i l else some (i,t,13)
def VN (x:Int×Tm×Int):Int×Tm×Int:=(x.1,D5 x.2.1,x.2.2)
theorem RR {k k':I2} (h:k.map D5=k'.map D5) (i:Int):∀{l l':I2},l.map D5=l'.map D5->(JC k i l).map VN=(JC k' i l').map VN
 | [],[],_=>rfl
 | [],_::_,e=>by simp at e
 |_::_,[],e=>by simp at e
 |t::l,t'::l',e=>by
  rw[xp,xp,List.cons.injEq]at e;have hd:=NH h e.1;rw[JC,JC,hd];split
  .rfl
  .split
   .exact RR h i e.2
   .simp only[Option.map_some,VN,e.1]
theorem gZ (R kk:I2) (mr mk:I8) (C2:R.length<=1000) (hR:∀x∈R,GoodT x/\x.size<=1000) (hk:∀x∈kk,GoodT x) (CI:kk.length<=10000) (q:Int) (C0 Z SC:E6) (hZ:Z.length=4) (hZm:CJ Z=false) (fr:Fr) (h:AH) (B0:List (List AV)) (hB0:h.boxes=C0::Z::SC::B0) (hl:fr.length=83) (h3:A0 fr 3=.ptr 1 0) (h7:A0 fr 7=.int .i64 q) (h9:A0 fr 9=sl mk 4 (A3 kk)) (h56:A0 fr 56=sl mr 4 (A3 R)) (h57:A0 fr 57=.int .i64 R.length) (h58:A0 fr 58=.int .i64 0) :
  C8 (lp (A1 (Q8 Q) (G7 X0) R5) (fr,h)) λe D4 h'=>Kp R5.wr fr D4/\((e=.exit 2/\JC kk q R=none/\∃B,h'.boxes=C0::Z::SC::B)\/(e=.ret/\∃(a c:Int) (t t':Tm),JC kk q R=some (a,t',c)/\D5 t=D5 t'/\A0 D4 2=.int .i64 a/\A0 D4 4=.int .i64 c/\∃B,h'.boxes=C0::(B8 t).cells::SC::B)):=by
 refine C3 rfl fr (λn fr h'=>∃(i:Nat),i+n=R.length/\A0 fr 58=.int .i64 (i:Nat)/\(∃B,h'.boxes=C0::Z::SC::B)/\JC kk q (R.drop i)=JC kk q R) ?_ R.length h ⟨0,by omega,h58,⟨_,hB0⟩,rfl⟩;rintro J Φ hJ hΦ n G9 H1 K ⟨i,hi,k58,hr⟩;have B4:=K.1.trans hl;have k3:=A5 K 3 h3;have k7:=A5 K 7 h7;have k9:=A5 K 9 h9;have k56:=A5 K 56 h56;have k57:=A5 K 57 h57;clear K;by_cases A6:i<R.length
 .have V7:=E5 i (by omega);obtain⟨⟨B,hB⟩,hr⟩:=hr;obtain⟨bx,fams⟩:=H1;simp only at hB;subst hB;have hx:=S4 A6;have hZd:Z.drop 4=[]:=xo (by omega);rw[xw A6,JC]at hr;obtain⟨hg,K4⟩:=hR _ (yH A6);generalize R[i]=t at *
  have hD:=Vh mk kk t hk hg (by omega);generalize hd:U1 kk t=d at *
  obtain⟨de,db⟩:=d;simp only at hD hr;by_cases hde:de=0
  .subst hde;rw[if_neg (by simp)]at hr;cases db with
   |true =>
    simp only[if_true]at hr;simp[R5,B4,k9,k56,k57,k58,A6,V7,hx,hD];exact O4 hJ ⟨i+1,by omega,by simp[B4],⟨_,rfl⟩,hr⟩
   |false =>
    simp only[yE,if_false]at hr;obtain⟨m',l',hC,hCe⟩:=Px _ (true,true) [t] (xq _) (by simp only[Tm.sizes];omega);rw[show A3 [t]=[B8 t] from rfl]at hC;have Jc:l'.length=1:=by
     have:=congrArg yG hCe;rw[D3,D3,yA,yA]at this;simpa using this
    obtain⟨t2,rfl⟩:∃t2,l'=[t2]:=by
     match l',Jc with
     | [t2],_=>exact⟨t2,rfl⟩
    have he2:D5 t2=D5 t:=by
     rw[D3,D3]at hCe;simpa using hCe
    rw[show A3 [t2]=[B8 t2] from rfl]at hC;simp[R5,B4,k3,k7,k9,k56,k57,k58,A6,hx,hD,A4,hC,hZ,hZm,I9];exact hΦ _ _ _ (.inr ⟨rfl,q,13,t2,t,hr.symm,he2,by simp[B4],by simp[B4],B++[(B8 t).cells],by simp[hZd]⟩)
  .rw[if_pos hde]at hr;simp[R5,B4,k3,k9,k56,k57,k58,A6,hx,hD,hde,D2,E8,hZ,hZm,I9];refine hΦ _ _ _ (.inr ⟨rfl,0,de,Yx,Yx,hr.symm,rfl,by simp[B4],by simp[B4],B++[(B8 t).cells],?_⟩);simp[Yx,Tm.kind,Tm.name,Tm.sort,Tm.cm,Tm.kids,A3,hZd];exact Fw 4
 .obtain⟨⟨B,hB⟩,hr⟩:=hr;rw[xo (by omega),JC]at hr;simp[R5,B4,k57,k58,A6];exact hΦ _ _ _ (.inl ⟨rfl,hr.symm,B,hB⟩)
open Classical in
noncomputable def PR (t:Tm):List Tm:=if h:∃R,O1 R (alls [t])then h.choose else []
theorem RQ {t t':Tm} {R:I2} (h:O1 R (alls [t])) (e:D5 t=D5 t'):R.map D5=(PR t').map D5:=by
 have hx:∃R,O1 R (alls [t']):=⟨R,IB h (HH (by simp[e]))⟩;unfold PR;rw[dif_pos hx];have:=WZ (IB h (HH (l:=[t]) (l':=[t']) (by simp[e]))) hx.choose_spec λ_=>Iff.rfl
 rwa [D3,D3]at this
noncomputable def TM (kf:ByteArray->Nat->List Tm):Nat->List Ste->Int×Tm×Int
 |_,[]=>(0,Yx,0)
 |i,s::l=>if (U1 (kf s.frm i) s.msg).1≠0 then (0,Yx,(U1 (kf s.frm i) s.msg).1)else if (U1 (kf s.frm i) s.msg).2=true then TM kf (i+1) l else
  match JC (kf s.frm i) i (PR s.msg)with
  |some x=>x
  |none=>TM kf (i+1) l
theorem fy {kf kf':ByteArray->Nat->List Tm}:∀{l l':List Ste} (i:Nat),(∀s∈l,∀j,j<i+l.length->(kf s.frm j).map D5=(kf' s.frm j).map D5)->l.map Lo=l'.map Lo->VN (TM kf i l)=VN (TM kf' i l')
 | [],[],i,_,_=>rfl
 | [],_::_,i,_,e=>by simp at e
 |_::_,[],i,_,e=>by simp at e
 |s::l,s'::l',i,hk,e=>by
  rw[xp,xp,List.cons.injEq]at e;obtain⟨e1,e2⟩:=e;unfold Lo at e1;injection e1 with a1 a2 a3 a4
  have hki:=hk s List.mem_cons_self i (by simp);have ih:=fy (kf:=kf) (kf':=kf') (l:=l) (l':=l') (i+1) (λx hx j hj=>hk x (yB _ hx) j (by simp;omega)) e2;have hd:=NH hki a3;have hsub:(PR s.msg).map D5=(PR s'.msg).map D5:=by
   by_cases hx:∃R,O1 R (alls [s.msg])
   .obtain⟨R,hR⟩:=hx;rw[←RQ hR rfl,RQ hR a3]
   .have hx':¬ ∃R,O1 R (alls [s'.msg]):=λ⟨R,hR⟩=>hx ⟨R,IB hR (HH (by simp[a3]))⟩;unfold PR;rw[dif_neg hx,dif_neg hx']
  have hs:=RR hki (i:Int) hsub;rw[TM,TM,←a1,hd];split
  .rfl
  .split
   .exact ih
   .generalize JC (kf s.frm i) i (PR s.msg)=o1 at hs;generalize JC (kf' s.frm i) i (PR s'.msg)=o2 at hs;cases o1 with
    |none =>
     cases o2 with
     |none=>exact ih
     |some y=>simp at hs
    |some x =>
     cases o2 with
     |none=>simp at hs
     |some y=>simpa using hs
theorem ga (r na:Nar) (F:Fine na) (S:Lens na) (hz:(Al na).2=0) (hR:Right na) (he:On r=DD (H5 (B5 na) (E4 na)) na) (C0 Z:E6) (hZ:Z.length=4) (hZm:CJ Z=false) (hstl:r.steps.length<=1000) (fr:Fr) (h:AH) (B0:List (List AV)) (hB0:h.boxes=C0::Z::(Dw r na).cells::B0) (hl:fr.length=83) (h3:A0 fr 3=.ptr 1 0) (h5:A0 fr 5=.ptr 2 0) (h27:A0 fr 27=sl r.sm 7 (r.steps.map Cl)) (h28:A0 fr 28=.int .i64 r.steps.length) (h29:A0 fr 29=.int .i64 0) :
  C8 (lp (A1 (Q8 Q) (G7 X0) R6) (fr,h)) λe D4 h'=>Kp R6.wr fr D4/\((e=.exit 0/\TM (λme i=>Kv (true,true) r na me (LL r.roles me) i) 0 r.steps=(0,Yx,0)/\∃B,h'.boxes=C0::Z::(Dw r na).cells::B)\/(e=.ret/\∃(x:Int×Tm×Int) (t:Tm),VN (TM (λme i=>Kv (true,true) r na me (LL r.roles me) i) 0 r.steps)=VN x/\D5 t=D5 x.2.1/\A0 D4 2=.int .i64 x.1/\A0 D4 4=.int .i64 x.2.2/\∃B,h'.boxes=C0::(B8 t).cells::(Dw r na).cells::B)):=by
 refine C3 rfl fr (λn fr h'=>∃(i:Nat),i+n=r.steps.length/\A0 fr 29=.int .i64 (i:Nat)/\(∃B,h'.boxes=C0::Z::(Dw r na).cells::B)/\TM (λme i=>Kv (true,true) r na me (LL r.roles me) i) i (r.steps.drop i)=TM (λme i=>Kv (true,true) r na me (LL r.roles me) i) 0 r.steps) ?_ r.steps.length h ⟨0,by omega,h29,⟨_,hB0⟩,rfl⟩;rintro J Φ hJ hΦ n G9 H1 K ⟨i,hi,k29,hr⟩;have B4:=K.1.trans hl;have k3:=A5 K 3 h3;have k5:=A5 K 5 h5;have k27:=A5 K 27 h27;have k28:=A5 K 28 h28;clear K;by_cases A6:i<r.steps.length
 .have V7:=E5 i (by omega);obtain⟨⟨B,hB⟩,hr⟩:=hr;obtain⟨bx,fams⟩:=H1;simp only at hB;subst hB;have sb:=AR r na;have hx:=H8 (f:=Cl) (xy A6);have Jd:=yH A6;rw[xw A6,TM]at hr;obtain⟨hmA,hmS⟩:=Xe hR he Jd;obtain⟨hsm,-⟩:=Hy hR.nar he;obtain⟨e2,e3,e5⟩:=Fe he;have hrl:=hsm.roles;have hfr:r.steps[i].frm∈r.roles:=by
   have hm:Lo r.steps[i]∈na.steps.map (Dd (H5 (B5 na) (E4 na))):=by rw[←(AI he).2.2.2.2.1];exact xn Jd
   obtain⟨s',hs',e⟩:=xl.1 hm;unfold Lo Dd at e;injection e with e _ _ _
   rw[←e,e2];exact(LO (hR.steps s' hs')).1
  generalize r.steps[i]=s at *
  obtain⟨x1,x2⟩:=OK hfr;have hrole:=YE r na hrl s.frm;rw[x2]at hrole;obtain⟨mk,hK⟩:=PG r na F S hz hsm e2 (LL r.roles s.frm) s.frm x1 i (by omega);have Lf:∀x∈Kv (true,true) r na s.frm (LL r.roles s.frm) i,GoodT x:=λx hx=>by
   obtain⟨h1,h2⟩:=Ox hR he (by rw[←e2];exact hfr) hx;exact h1.good h2
  have CI:=VV (m:=(true,true)) (me:=s.frm) (role:=LL r.roles s.frm) (q:=i) hsm;generalize MR:Kv (true,true) r na s.frm (LL r.roles s.frm) i=kk at *
  have hD:=Vh mk kk s.msg Lf (hmA.good hmS) (by omega);obtain⟨R,mr,hSub,hSet,hRl⟩:=Qe (true,true) [s.msg] (by simp only[Tm.sizes];omega);rw[show A3 [s.msg]=[B8 s.msg] from rfl]at hSub;simp only[Tm.sizes]at hRl;have hRg:=jC hSet hmA hmS;have hse:=RR (k:=kk) (k':=kk) rfl (i:Int) (RQ hSet rfl);generalize hd:U1 kk s.msg=d at *
  obtain⟨de,db⟩:=d;simp only at hD hr;by_cases hde:de=0
  .subst hde;rw[if_neg (by simp)]at hr;cases db with
   |true =>
    simp only[if_true]at hr;simp[R6,B4,k5,k27,k28,k29,A6,V7,sb,hx,hrole,hK,hD];exact O4 hJ ⟨i+1,by omega,by simp[B4],⟨B++[(Cl s).cells],by rw[sb];simp⟩,hr⟩
   |false =>
    simp only[yE,if_false]at hr;simp[R6,B4,k5,k27,k28,k29,A6,sb,hx,hrole,hK,hD,A4,hSub];refine C8.mono (gZ R kk mr mk (by omega) (λx hx=>by obtain⟨h1,h2⟩:=hRg x hx;exact⟨h1.good h2,by omega⟩) Lf CI (i:Int) C0 Z (Dw r na).cells hZ hZm _ _ (B++[(Cl s).cells]) ?_ ?_ ?_ ?_ ?_ ?_ ?_ ?_) ?_<;>first|(simp[B4,k3,sb];done)|skip
    rintro e Cs ⟨bx2,F2⟩ ⟨K,⟨rfl,hn,B2,hB2⟩|⟨rfl,a,c,t,t',hso,het,l2,l4,B2,hB2⟩⟩
    .simp only at hB2;subst hB2;have Jc:Cs.length=83:=K.1.trans (by simp[B4]);have k29':A0 Cs 29=.int .i64 (i:Nat):=A5 K 29 (by simp[k29]);have k3':A0 Cs 3=.ptr 1 0:=A5 K 3 (by simp[k3]);have k5':A0 Cs 5=.ptr 2 0:=A5 K 5 (by simp[k5]);have k27':=A5 K 27 (by simp[k27]:_=sl r.sm 7 (r.steps.map Cl));have k28':=A5 K 28 (by simp[k28]:_=AV.int .i64 r.steps.length);clear K;rw[hn]at hse;have hnone:JC kk (i:Int) (PR s.msg)=none:=by
      cases hq:JC kk (i:Int) (PR s.msg)with
      |none=>rfl
      |some x=>rw[hq]at hse;simp at hse
     rw[hnone]at hr;simp only at hr;simp[Jc,k29',V7];exact O4 hJ ⟨i+1,by omega,by simp[Jc],⟨B2,rfl⟩,hr⟩
    .simp only at hB2;subst hB2;rw[hso]at hse;obtain⟨y,hy,hye⟩:∃y,JC kk (i:Int) (PR s.msg)=some y/\VN (a,t',c)=VN y:=by
      cases hq:JC kk (i:Int) (PR s.msg)with
      |none=>rw[hq]at hse;simp at hse
      |some y=>rw[hq]at hse;exact⟨y,rfl,by simpa using hse⟩
     rw[hy]at hr;simp only at hr;simp;exact hΦ _ _ _ (.inr ⟨rfl,(a,t',c),t,by rw[←hr,hye],het,l2,l4,B2,by simp⟩)
  .rw[if_pos hde]at hr;have hZd:Z.drop 4=[]:=xo (by omega);simp[R6,B4,k3,k5,k27,k28,k29,A6,sb,hx,hrole,hK,hD,hde,D2,E8,hZ,hZm,I9];refine hΦ _ _ _ (.inr ⟨rfl,(0,Yx,de),Yx,by rw[←hr],rfl,by simp[B4],by simp[B4],B++[(Cl s).cells],?_⟩);simp[Yx,Tm.kind,Tm.name,Tm.sort,Tm.cm,Tm.kids,A3,hZd,sb];exact Fw 4
 .obtain⟨⟨B,hB⟩,hr⟩:=hr;rw[xo (by omega),TM]at hr;simp[R6,B4,k28,k29,A6];exact hΦ _ _ _ (.inl ⟨rfl,hr.symm,B,hB⟩)
noncomputable def Oq (n:Nar):Int×Tm×Int :=
 if (Al n).2≠0 then (0,D5 Yx,(Al n).2)else VN (TM (λme i=>JA (H5 (B5 n) (E4 n)) n me (LL n.roles me) i) 0 (n.steps.map (Dd (H5 (B5 n) (E4 n)))))
theorem Rt {f:ByteArray->Int} {n:Nar} {me:H7} {role q:Nat} (hd:Hk n=0) {r:Nar} (he:On r=DD f n) (hme:n.roles[role]?=some me):(JA f n me role q).map D5=JA f n me role q:=by
 rw[←Kw (m:=(true,true)) hd he hme q,yK];congr 1;funext x;exact UA x
theorem lR {l l':List Ste} {f:ByteArray->Int} (h:l.map Lo=l'.map (Dd f)):l.map Lo=(l'.map (Dd f)).map Lo:=by
 have:=congrArg (List.map Lo) h;rw[←this,yK];congr 1;funext s;simp only[Function.comp,Lo,UA s.msg]
theorem kA {r n:Nar} (hR:Right n) (he:On r=DD (H5 (B5 n) (E4 n)) n) (kf:ByteArray->Nat->List Tm) (hk:∀me∈n.roles,∀q,(kf me q).map D5=JA (H5 (B5 n) (E4 n)) n me (LL n.roles me) q):VN (TM kf 0 r.steps)=VN (TM (λme i=>JA (H5 (B5 n) (E4 n)) n me (LL n.roles me) i) 0 (n.steps.map (Dd (H5 (B5 n) (E4 n))))):=by
 refine fy 0 (λs hs j _=>?_) (lR (AI he).2.2.2.2.1);have hm:Lo s∈n.steps.map (Dd (H5 (B5 n) (E4 n))):=by rw[←(AI he).2.2.2.2.1];exact xn hs
 obtain⟨s',hs',e⟩:=xl.1 hm;unfold Lo Dd at e;injection e with e _ _ _
 have hfr:s.frm∈n.roles:=by rw[←e];exact(LO (hR.steps s' hs')).1
 rw[hk s.frm hfr j,Rt hR.dec he (OK hfr).1]
theorem bU (n:Nar) (F:Fine n) (S:Lens n):∃t,pc Q X0 [V8 n]=some (.tup [.int .i64 (Oq n).1,B8 t,.int .i64 (Oq n).2.2])/\D5 t=(Oq n).2.1:=by
 suffices hq:∃v,pc Q X0 [V8 n]=some v/\∃t,v=.tup [.int .i64 (Oq n).1,B8 t,.int .i64 (Oq n).2.2]/\D5 t=(Oq n).2.1 by
  obtain⟨v,h1,t,rfl,h2⟩:=hq;exact⟨t,h1,h2⟩
 obtain⟨r,hO,hE⟩:=Vq n F S;have nb:=U9 n;have sb:=AR r n;have hz4:B8 Yx=.agg [.int .i64 0,.str (bs []),.int .i64 0,.vs true 0 []]:=by rw[Fw 4];rfl
 by_cases h1:(Al n).2=0
 .have he:=hE h1;obtain⟨-,hR⟩:=FQ h1;obtain⟨hsm,-⟩:=Hy hR.nar he;obtain⟨e2,-,-⟩:=Fe he;rw[h1]at hO;have hX:Oq n=VN (TM (λme i=>Kv (true,true) r n me (LL r.roles me) i) 0 r.steps):=by
   unfold Oq;rw[if_neg (by simp[h1])];refine(kA hR he _ λme hme q=>?_).symm;rw[e2];exact Kw hR.dec he (OK hme).1 q
  rw[hX];refine Jk p8 λΨ hΨ fr hl h0=>?_;simp[p8]at hl h0;simp[p8,hl,h0,nb,sb,hO];refine C8.mono (ga r n F S h1 hR he (V8 n).cells [.int .i64 0,.str (bs []),.int .i64 0,.vs true 0 []] rfl rfl hsm.steps _ _ [] ?_ ?_ ?_ ?_ ?_ ?_ ?_) ?_<;>first|(simp[hl,nb,sb];done)|skip
  rintro e G9 ⟨bx,F1⟩ ⟨K,⟨rfl,hn,B2,hB2⟩|⟨rfl,x,t,hx,het,l2,l4,B2,hB2⟩⟩
  .simp only at hB2;subst hB2;have B4:G9.length=83:=K.1.trans (by simp[hl]);have k3':A0 G9 3=.ptr 1 0:=A5 K 3 (by simp[hl]);rw[hn]at hΨ;simp[B4,k3',D2,E8,I9];exact hΨ _ ⟨Yx,by rw[hz4];rfl,rfl⟩
  .simp only at hB2;subst hB2;have B4:G9.length=83:=K.1.trans (by simp[hl]);have k3':A0 G9 3=.ptr 1 0:=A5 K 3 (by simp[hl]);rw[hx]at hΨ;simp[l2,l4,k3'];exact hΨ _ ⟨t,rfl,het⟩
 .have hX:Oq n=(0,D5 Yx,(Al n).2):=by unfold Oq;rw[if_pos h1]
  rw[hX];generalize (Al n).2=e at *
  have M5:=h1;refine Jk p8 λΨ hΨ fr hl h0=>?_;simp[p8]at hl h0;simp[p8,hl,h0,nb,sb,hO,M5,D2,E8,I9];exact hΨ _ ⟨Yx,by rw[hz4];rfl,rfl⟩
end Go.Abs.Q
