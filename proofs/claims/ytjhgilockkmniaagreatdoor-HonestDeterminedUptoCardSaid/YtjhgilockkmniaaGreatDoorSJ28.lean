/- A part of the proof. -/
import Derived.Test.YtjhgilockkmniaaGreatDoorSJ27
set_option linter.all false
open Bool renaming and_eq_true->zf0z,true_or->zg4z
open List renaming getElem?_eq_getElem->zf1z,take_succ_eq_append_getElem->zf2z,map_append->zf3z,getElem_mem->zf4z,take_of_length_le->zf6z,map_cons->zf7z,map_nil->zf8z,getElem?_set_ne->zg0z,eq_nil_of_length_eq_zero->zg1z,drop_eq_nil_of_le->zg2z,any_append->zg3z
open Option renaming bind_some->zf5z
open Nat renaming le_refl->zf9z
namespace Go.Abs.Q
open Go.Proofs
attribute [local simp] C8 D5 fin H6 G0 D4
theorem Sy {sz:Nat} {L5:C6} {v:AV} {h:AH} (hg:EY sz L5 v h):∃m,∀B:List (List AV),AS ⟨B,h.fams⟩ true v=some (sl m sz L5):=by
 rcases hg with ⟨rfl,rfl⟩|⟨_,k,rfl,h3⟩
 .exact⟨(true,false),λB=>by rw[OT];exact congrArg some (EC _ rfl _ _)⟩
 .exact⟨_,λB=>Ni (h:=⟨B,h.fams⟩) h3 rfl⟩
mutual
def VX (ns:List ByteArray):Tm->Bool
 | .mk k nm _ _ l=>(decide (k≠2)||ns.any (V4 nm))&&MO ns l
def MO (ns:List ByteArray):List Tm->Bool
 | []=>true
 |t::l=>VX ns t&&MO ns l
end
theorem cQ (ns:List ByteArray) {l:Hg} (h:MO ns l=true):∀t∈l,VX ns t=true:=by
 induction l with
 |nil=>intro t ht;cases ht
 |cons a l ih =>
  simp only[MO,zf0z]at h;intro t ht;rcases List.mem_cons.1 ht with rfl|ht
  .exact h.1
  .exact ih h.2 t ht
@[simp] theorem qe (t:Tm):BJ (I1 t)=true:=by cases t;rfl
theorem UI (na:Nar) (f:ByteArray->Int) (m:U8) (l:Hg) (C4:l.length<=1099511627776) (IH:∀t∈l,∃t',pc Q J2 [D2 na,I1 t]=some (I1 t')/\Hw t'=ED f t) (x0 x1 x2:AV) (C:C6) (fr:Fr) (h:AH) (hh:h.boxes=[(D2 na).cells,[x0,x1,x2,sl m 4 (D1 l)],C]) (h7:A2 fr 7=.vs true 0 []) (hl:fr.length=45) (h2:A2 fr 2=.ptr 0 0) (h3:A2 fr 3=.ptr 1 0) (h8:A2 fr 8=.int .i64 0) :
  C3 (lp (A4 (N5 Q) (B9 J2) BX) (fr,h)) λe fr' h'=>Kp BX.wr fr fr'/\e=.exit 0/\h'.boxes=h.boxes/\∃done:List Tm,EY 4 (D1 done) (A2 fr' 7) h'/\AR done=a7 f l:=by
 refine C1 rfl fr (λn fr h'=>∃(i:Nat),i+n=l.length/\A2 fr 8=.int .i64 (i:Nat)/\h'.boxes=h.boxes/\(∃done:List Tm,EY 4 (D1 done) (A2 fr 7) h'/\AR done=a7 f (l.take i)/\done.length=i)) ?_ l.length h ⟨0,by omega,h8,rfl,[],by rw[h7];exact Fk _ _,by simp[AR,a7],rfl⟩;rintro J Φ hJ hΦ n E4 H1 K ⟨i,hi,k8,hr⟩;have A6:=K.1.trans hl;have k2:=B8 K 2 h2;have k3:=B8 K 3 h3;clear K;by_cases A9:i<l.length
 .have j0:=C9 i (by omega);obtain⟨hB,done,hg,hd,Gr⟩:=hr;obtain⟨bx,fams⟩:=H1;rw[hh]at hB hJ;simp only at hB;subst hB;have hx:=Et A9;obtain⟨t',hI,ht⟩:=IH l[i] (zf4z A9);obtain⟨v',h',ha,Ch,JU⟩:=Eb (c:=B9 J2) (bytes:=56) (x:=I1 t') hg rfl (true,true) (by simp;omega) (by simp;omega);have e2:AR (done++[t'])=a7 f (l.take (i+1)):=by
   rw[zf2z A9,Ef,zf3z,←Ef,hd,EU,EU,zf3z,zf7z,zf8z,zf7z,zf8z,ht]
  have hg2:EY 4 (D1 (done++[t'])) v' h':=by rw[Il];exact Ch
  clear ht hd;generalize l[i]=t at *
  rw[D4]at ha;simp[BX,A6,k2,k3,k8,A9,j0,hx,hI,B5,ha];exact H0 hJ ⟨i+1,by omega,by simp[A6],by rw[JU,D4],done++[t'],by simp[A6];exact hg2,e2,by simp[Gr]⟩
 .obtain⟨hB,done,hg,hd,Gr⟩:=hr;obtain⟨bx,fams⟩:=H1;rw[hh]at hB hΦ;simp only at hB;subst hB;rw[zf6z (by omega)]at hd;simp[BX,A6,k2,k3,k8,A9];exact hΦ _ _ _ ⟨rfl,by rw[D4],done,by simp[A6];exact hg,hd⟩
theorem Qu (na:Nar) (S:Lens na):∀(n:Nat) (t:Tm),t.size<=n->t.size<=1099511627776->N9 t=0->VX (B4 na) t=true->∃t',pc Q J2 [D2 na,I1 t]=some (I1 t')/\Hw t'=ED (W6 (B4 na) (J7 na)) t:=by
 have s0:=S.names;intro n
 induction n with
 |zero=>intro t h;have:=t.size_pos;omega
 |succ n ih =>
  intro t hn hb T6 hkn;obtain⟨k,nm,s,m,kids⟩:=t;have L4:Tm.size (.mk k nm s m kids)=1+Tm.sizes kids:=rfl;have C4:=Tm.length_le kids;obtain⟨hne1,hne2⟩:=Dz T6;simp only[VX,zf0z,Bool.or_eq_true,decide_eq_true_eq]at hkn;have hkm:=cQ _ hkn.2;have IW:=UI na (W6 (B4 na) (J7 na)) m kids (by omega) (λt ht=>ih t (by have:=Tm.size_le ht;omega) (by have:=Tm.size_le ht;omega) (Z0 hne2 t ht) (hkm t ht));clear ih;obtain⟨r,hNm,m1,m2,rfl⟩:=Ot na ⟨by omega,by omega,by omega⟩;unfold EV at hNm;have hI:=DH m1 (B4 na) nm (by simp[B4];omega)
  suffices h:∃v,pc Q J2 [D2 na,I1 (.mk k nm s m kids)]=some v/\∃t',v=I1 t'/\Hw t'=ED (W6 (B4 na) (J7 na)) (.mk k nm s m kids) by
   obtain⟨v,h1,t',rfl,h2⟩:=h;exact⟨t',h1,h2⟩
  refine Ud FG λΨ hΨ fr hl h0 h1=>?_;simp[FG,I1]at hl h0 h1;by_cases hk:k=2
  .have hany:(B4 na).any (V4 nm)=true:=by
    rcases hkn.1 with h|h
    .exact absurd hk h
    .exact h
   have hge:0<=idx (V4 nm) (B4 na):=(Rn _ _).2 hany;have A9:idx (V4 nm) (B4 na)<(0:Nat)+(B4 na).length:=Iv (V4 nm) (B4 na) 0;have hix:(idx (V4 nm) (B4 na)).toNat<(J7 na).length:=by rw[←HS];omega
   have hx:=E5 (f:=AV.int .i64) (zf1z hix);have hls:W6 (B4 na) (J7 na) nm=(J7 na)[(idx (V4 nm) (B4 na)).toNat]:=by
    unfold W6;rw[if_pos hany,List.getD_eq_getElem?_getD,zf1z hix];rfl
   rw[←hls]at hx;simp[FG,hl,h0,h1,A7 hk,hNm,hI,hge,hx];refine C3.mono (IW (.int .i64 k) (.str nm) (.int .i64 (W6 (B4 na) (J7 na) nm)) [.int .i64 0,.str (bs []),.int .i64 0,.vs true 0 []] _ _ ?_ ?_ ?_ ?_ ?_ ?_) ?_<;>first|(simp[hl];done)|skip
   rintro e E4 ⟨bx,fams⟩ ⟨K,rfl,hB,done,hg,hd⟩;simp only at hB;subst hB;have M9:E4.length=45:=K.1.trans (by simp[hl]);have Od:A2 E4 3=.ptr 1 0:=B8 K 3 (by simp[hl]);have IY:A2 E4 4=.ptr 2 0:=B8 K 4 (by simp[hl]);clear K;obtain⟨c1,c2,c3⟩:=EG hg;obtain⟨mm,hz⟩:=Sy hg;generalize hv7:A2 E4 7=v7 at *
   simp[M9,Od,IY,hv7,c1,c2,c3,hz];exact hΨ _ ⟨.mk k nm (W6 (B4 na) (J7 na) nm) mm done,rfl,by simp[Hw,ED,hk,hd]⟩
  .simp[FG,hl,h0,h1,A0 hk];refine C3.mono (IW (.int .i64 k) (.str nm) (.int .i64 s) [.int .i64 0,.str (bs []),.int .i64 0,.vs true 0 []] _ _ ?_ ?_ ?_ ?_ ?_ ?_) ?_<;>first|(simp[hl];done)|skip
   rintro e E4 ⟨bx,fams⟩ ⟨K,rfl,hB,done,hg,hd⟩;simp only at hB;subst hB;have M9:E4.length=45:=K.1.trans (by simp[hl]);have Od:A2 E4 3=.ptr 1 0:=B8 K 3 (by simp[hl]);have IY:A2 E4 4=.ptr 2 0:=B8 K 4 (by simp[hl]);clear K;obtain⟨c1,c2,c3⟩:=EG hg;obtain⟨mm,hz⟩:=Sy hg;generalize hv7:A2 E4 7=v7 at *
   simp[M9,Od,IY,hv7,c1,c2,c3,hz];exact hΨ _ ⟨.mk k nm s mm done,rfl,by simp[Hw,ED,hk,hd]⟩
end Go.Abs.Q
namespace Go.Abs.Q
open Go.Proofs
attribute [local simp] C8 D5 fin H6 G0
structure Grx (sz:Nat) (L5:List AV) (v:AV) (h0 h:AH):Prop where
 g:EY sz L5 v h
 low:∀j,j<h0.fams.length->h.fams[j]?=h0.fams[j]?
 row:∀k n o l,v=.sl k n o l->h0.fams.length<=k
theorem RL (sz:Nat) (h0 h:AH) (e:h.fams=h0.fams):Grx sz [] (.vs true 0 []) h0 h:=⟨Fk _ _,λj _=>by rw[e],λk n o l h=>by cases h⟩
theorem Wa {h0 h:AH} (hl:∀j,j<h0.fams.length->h.fams[j]?=h0.fams[j]?):h0.fams.length<=h.fams.length:=by
 apply Classical.byContradiction;intro hc;have h1:=hl h.fams.length (by omega);rw[List.getElem?_eq_none (zf9z _),zf1z (by omega)]at h1;cases h1
theorem XN {sz:Nat} {L5:C6} {v:AV} {h h':AH} (hg:EY sz L5 v h) (hl:∀j,j<h.fams.length->h'.fams[j]?=h.fams[j]?):EY sz L5 v h':=by
 rcases hg with hg|⟨h1,k,h2,h3⟩
 .exact .inl hg
 .exact .inr ⟨h1,k,h2,by rw[hl k (Q6 h3)];exact h3⟩
theorem Hj {sz:Nat} {L5:C6} {v:AV} {h0 h h':AH} (hg:Grx sz L5 v h0 h) (hl:∀j,j<h.fams.length->h'.fams[j]?=h.fams[j]?):Grx sz L5 v h0 h' :=
 ⟨XN hg.g hl,λj hj=>by rw[hl j (by have:=Wa hg.low;omega)];exact hg.low j hj,hg.row⟩
theorem fB {c:Ctx} {sz bytes:Nat} {L5 ys:C6} {v x:AV} {h0 h:AH} (hg:Grx sz L5 v h0 h) (hm:c.mutApp=false) (hx:elems h sz x=some ys)
  (hb:(L5.length+ys.length)*bytes<=I0/\L5.length+ys.length<=maxLen):∃v' h',N7 c h sz bytes v x=some (v',h')/\Grx sz (L5++ys) v' h0 h'/\h'.boxes=h.boxes:=by
 obtain⟨hg,hlow,hrow⟩:=hg;obtain⟨v',h',h1,h2,h3⟩:=Nb (c:=c) (bytes:=bytes) hg hm hx hb;refine⟨v',h',h1,⟨h2,?_,?_⟩,h3⟩
 .rcases hg with ⟨rfl,rfl⟩|⟨T6,k,rfl,hk⟩
  .rw[LO,hx,zf5z]at h1;split at h1
   .cases h1;exact hlow
   .split at h1
    .cases h1;intro j hj;have:=Wa hlow;rw[←hlow j hj];exact List.getElem?_append_left (by omega)
    .cases h1
  .rw[Jd,hx,zf5z,hk,zf5z]at h1;split at h1
   .cases h1;intro j hj;have:=hrow _ _ _ _ rfl;rw[←hlow j hj];exact zg0z (by omega)
   .simp[Vl]at h1
 .rcases hg with ⟨rfl,rfl⟩|⟨T6,k,rfl,hk⟩
  .rw[LO,hx,zf5z]at h1;split at h1
   .cases h1;intro _ _ _ _ e;cases e
   .split at h1
    .cases h1;intro _ _ _ _ e;cases e;exact Wa hlow
    .cases h1
  .rw[Jd,hx,zf5z,hk,zf5z]at h1;split at h1
   .cases h1;intro _ _ _ _ e;cases e;exact hrow _ _ _ _ rfl
   .simp[Vl]at h1
theorem RM {c:Ctx} {sz bytes:Nat} {L5:C6} {v x:AV} {h0 h:AH} (hg:Grx sz L5 v h0 h) (hm:c.mutApp=false) (m:U8)
  (hb:(L5.length+1)*bytes<=140737488355328) (hb':L5.length<=1099511627776):∃v' h',N7 c h sz bytes v (sl m sz [x])=some (v',h')/\Grx sz (L5++[x]) v' h0 h'/\h'.boxes=h.boxes :=
 fB hg hm (Ad h m sz [x]) (by simp only[I0,maxLen,List.length_singleton];omega)
theorem JZ {sz:Nat} {L5:C6} {v:AV} {h:AH} (hg:EY sz L5 v h):∃m,∀(B:List (List AV)) (am:Bool),AS ⟨B,h.fams⟩ am v=some (sl m sz L5):=by
 rcases hg with ⟨rfl,rfl⟩|⟨_,k,rfl,h3⟩
 .exact⟨(true,false),λB am=>by rw[OT];exact congrArg some (EC _ rfl _ _)⟩
 .refine⟨(false,true),λB am=>?_⟩;rw[EM];simp only[h3,zf5z];rw[if_pos (by simp),List.drop_zero,zf6z (zf9z _)]
theorem ZP (na:Nar) (f:ByteArray->Int) (C4:na.steps.length<=1048576) (IH:∀s∈na.steps,∃t',pc Q J2 [D2 na,I1 s.msg]=some (I1 t')/\Hw t'=ED f s.msg) (A1:C6) (o0 o1 o2 o3 o5:AV) (fr:Fr) (h:AH) (hh:h.boxes=[(D2 na).cells,A1,[o0,o1,o2,o3,.vs true 0 [],o5]]) (hl:fr.length=96) (h1:A2 fr 1=.ptr 0 0) (h7:A2 fr 7=.ptr 2 0) (h8:A2 fr 8=.int .i64 0) :
  C3 (lp (A4 (N5 Q) (B9 L7) Aj) (fr,h)) λe fr' h'=>Kp Aj.wr fr fr'/\e=.exit 0/\∃(B:List (List AV)) (v:AV) (done:List Ste),h'.boxes=(D2 na).cells::A1::[o0,o1,o2,o3,v,o5]::B/\Grx 7 (done.map Q2) v h h'/\done.map Re=na.steps.map (LC f):=by
 refine C1 rfl fr (λn fr h'=>∃(i:Nat),i+n=na.steps.length/\A2 fr 8=.int .i64 (i:Nat)/\(∃(B:List (List AV)) (v:AV) (done:List Ste),h'.boxes=(D2 na).cells::A1::[o0,o1,o2,o3,v,o5]::B/\Grx 7 (done.map Q2) v h h'/\done.map Re=(na.steps.take i).map (LC f)/\done.length=i)) ?_ na.steps.length h ⟨0,by omega,h8,[],_,[],hh,RL _ _ _ rfl,by simp,by simp⟩;rintro J Φ hJ hΦ n E4 H1 K ⟨i,hi,k8,hr⟩;have A6:=K.1.trans hl;have k1:=B8 K 1 h1;have k7:=B8 K 7 h7;clear K;by_cases A9:i<na.steps.length
 .have j0:=C9 i (by omega);obtain⟨B,v,done,hB,hg,hd,Gr⟩:=hr;obtain⟨bx,fams⟩:=H1;simp only at hB;subst hB;have hx:=E5 (f:=Q2) (zf1z A9);obtain⟨t',hI,ht⟩:=IH na.steps[i] (zf4z A9);obtain⟨v',h',ha,Ch,JU⟩:=RM (c:=B9 L7) (bytes:=96) (x:=Q2 ⟨na.steps[i].frm,na.steps[i].to,t',na.steps[i].line⟩) (h:=⟨(D2 na).cells::A1::[o0,o1,o2,o3,v,o5]::(B++[(Q2 ⟨na.steps[i].frm,na.steps[i].to,t',na.steps[i].line⟩).cells]),fams⟩) (Hj hg λ_ _=>rfl) rfl (true,true) (by simp;omega) (by simp;omega);have e2:(done++[Ste.mk na.steps[i].frm na.steps[i].to t' na.steps[i].line]).map Re=(na.steps.take (i+1)).map (LC f):=by
   rw[zf2z A9,zf3z,hd,zf3z,zf7z,zf8z,zf7z,zf8z];simp only[Re,ht,LC]
  have e3:(done.map Q2++[Q2 ⟨na.steps[i].frm,na.steps[i].to,t',na.steps[i].line⟩])=(done++[Ste.mk na.steps[i].frm na.steps[i].to t' na.steps[i].line]).map Q2:=by simp
  rw[e3]at Ch;have e6:=ix na.steps[i].frm na.steps[i].to t' na.steps[i].line;clear hd ht;generalize hY:done++[Ste.mk na.steps[i].frm na.steps[i].to t' na.steps[i].line]=Y at *
  have hYl:Y.length=i+1:=by rw[←hY];simp[Gr]
  clear hY e3;generalize na.steps[i]=s at *
  obtain⟨bx',fams'⟩:=h';simp only at JU;subst JU;simp only[Lr,D4]at ha;obtain⟨c1,c2,-⟩:=EG Ch.g;simp[Aj,A6,k1,k7,k8,A9,j0,hx,hI,B5,e6,ha,D4,c1,c2];exact H0 hJ ⟨i+1,by omega,by simp[A6],_,v',Y,rfl,Hj Ch λ_ _=>rfl,e2,hYl⟩
 .obtain⟨B,v,done,hB,hg,hd,Gr⟩:=hr;obtain⟨bx,fams⟩:=H1;simp only at hB;subst hB;rw[zf6z (by omega)]at hd;simp[Aj,A6,k1,k7,k8,A9,D4];exact hΦ _ _ _ ⟨rfl,B,v,done,rfl,Hj hg λ_ _=>rfl,hd⟩
theorem ZN (na:Nar) (f:ByteArray->Int) (j:Nat) (g:Gol) (hj:JY (na.goals.map Be) j=some (Be g)) (hjl:j<na.goals.length) (C4:g.data.length<=1048576) (IH:∀t∈g.data,∃t',pc Q J2 [D2 na,I1 t]=some (I1 t')/\Hw t'=ED f t) (p:Nat) (hp0:0≠p) (g0 g1 g2 g4:AV) (fr:Fr) (h:AH) (hb0:h.boxes[0]?=some (D2 na).cells) (hbp:h.boxes[p]?=some [g0,g1,g2,.vs true 0 [],g4]) (hl:fr.length=96) (h1:A2 fr 1=.ptr 0 0) (h10:A2 fr 10=.int .i64 j) (h11:A2 fr 11=.ptr p 0) (h12:A2 fr 12=.int .i64 0) :
  C3 (lp (A4 (N5 Q) (B9 L7) Ah) (fr,h)) λe fr' h'=>Kp Ah.wr fr fr'/\e=.exit 4/\∃(v:AV) (done:List Tm),h'.boxes=h.boxes.set p [g0,g1,g2,v,g4]/\Grx 4 (D1 done) v h h'/\AR done=a7 f g.data:=by
 refine C1 rfl fr (λn fr h'=>∃(i:Nat),i+n=g.data.length/\A2 fr 12=.int .i64 (i:Nat)/\(∃(v:AV) (done:List Tm),h'.boxes=h.boxes.set p [g0,g1,g2,v,g4]/\Grx 4 (D1 done) v h h'/\AR done=a7 f (g.data.take i)/\done.length=i)) ?_ g.data.length h ⟨0,by omega,h12,_,[],(HU hbp).symm,RL _ _ _ rfl,by simp[AR,a7],rfl⟩;rintro J Φ hJ hΦ n E4 H1 K ⟨i,hi,k12,hr⟩;have A6:=K.1.trans hl;have k1:=B8 K 1 h1;have k10:=B8 K 10 h10;have k11:=B8 K 11 h11;clear K;by_cases A9:i<g.data.length
 .have j0:=C9 i (by omega);obtain⟨v,done,hB,hg,hd,Gr⟩:=hr;obtain⟨bx,fams⟩:=H1;simp only at hB;subst hB;have hx:=Et A9;obtain⟨t',hI,ht⟩:=IH g.data[i] (zf4z A9);have hpl:=Q6 hbp;have q1:∀X,(h.boxes.set p X)[0]?=some (D2 na).cells:=λX=>by rw[zg0z (Ne.symm hp0)];exact hb0
  have q2:∀X,(h.boxes.set p X)[p]?=some X:=λX=>List.getElem?_set_self hpl;obtain⟨v',h',ha,Ch,JU⟩:=RM (c:=B9 L7) (bytes:=56) (x:=I1 t') hg rfl (true,true) (by simp;omega) (by simp;omega);have e2:AR (done++[t'])=a7 f (g.data.take (i+1)):=by
   rw[zf2z A9,Ef,zf3z,←Ef,hd,EU,EU,zf3z,zf7z,zf8z,zf7z,zf8z,ht]
  have hg2:Grx 4 (D1 (done++[t'])) v' h h':=by rw[Il];exact Ch
  clear ht hd;generalize g.data[i]=t at *
  obtain⟨bx',fams'⟩:=h';simp only at JU;subst JU;rw[D4]at q1;obtain⟨c1,c2,-⟩:=EG Ch.g;simp[Ah,A6,k1,k10,k11,k12,A9,j0,hx,hI,hj,hjl,B5,q1,q2,ha,c1,c2];exact H0 hJ ⟨i+1,by omega,by simp[A6],v',done++[t'],by simp,Hj hg2 λ_ _=>rfl,e2,by simp[Gr]⟩
 .obtain⟨v,done,hB,hg,hd,Gr⟩:=hr;obtain⟨bx,fams⟩:=H1;simp only at hB;subst hB;have hpl:=Q6 hbp;have q1:∀X,(h.boxes.set p X)[0]?=some (D2 na).cells:=λX=>by rw[zg0z (Ne.symm hp0)];exact hb0
  rw[zf6z (by omega)]at hd;rw[D4]at q1;simp[Ah,A6,k1,k10,k11,k12,A9,hj,hjl,q1];exact hΦ _ _ _ ⟨rfl,v,done,rfl,Hj hg λ_ _=>rfl,hd⟩
theorem ZO (na:Nar) (f:ByteArray->Int) (C4:na.goals.length<=1048576) (Gr:∀g∈na.goals,g.data.length<=1048576) (IH:∀g∈na.goals,∀t∈g.data,∃t',pc Q J2 [D2 na,I1 t]=some (I1 t')/\Hw t'=ED f t) (A1:C6) (o0 o1 o2 o3 o4:AV) (D:List (List AV)) (fr:Fr) (h:AH) (hh:h.boxes=(D2 na).cells::A1::[o0,o1,o2,o3,o4,.vs true 0 []]::D) (hl:fr.length=96) (h1:A2 fr 1=.ptr 0 0) (h7:A2 fr 7=.ptr 2 0) (h10:A2 fr 10=.int .i64 0) :
  C3 (lp (A4 (N5 Q) (B9 L7) Ai) (fr,h)) λe fr' h'=>Kp Ai.wr fr fr'/\e=.exit 2/\∃(B:List (List AV)) (v:AV) (done:List Gol),h'.boxes=(D2 na).cells::A1::[o0,o1,o2,o3,o4,v]::B/\Grx 5 (done.map Be) v h h'/\done.map Yq=na.goals.map (Md f):=by
 refine C1 rfl fr (λn fr h'=>∃(i:Nat),i+n=na.goals.length/\A2 fr 10=.int .i64 (i:Nat)/\(∃(B:List (List AV)) (v:AV) (done:List Gol),h'.boxes=(D2 na).cells::A1::[o0,o1,o2,o3,o4,v]::B/\Grx 5 (done.map Be) v h h'/\done.map Yq=(na.goals.take i).map (Md f)/\done.length=i)) ?_ na.goals.length h ⟨0,by omega,h10,D,_,[],hh,RL _ _ _ rfl,rfl,rfl⟩;rintro J Φ hJ hΦ n E4 H1 K ⟨i,hi,k10,hr⟩;have A6:=K.1.trans hl;have k1:=B8 K 1 h1;have k7:=B8 K 7 h7;clear K;by_cases A9:i<na.goals.length
 .have j0:=C9 i (by omega);obtain⟨B,v,done,hB,hg,hd,hdn⟩:=hr;obtain⟨bx,fams⟩:=H1;simp only at hB;subst hB;have hx:=E5 (f:=Be) (zf1z A9);have q1:=ZN na f i na.goals[i] hx A9 (Gr _ (zf4z A9)) (IH _ (zf4z A9)) (B.length+3) (by omega) (.int .i64 na.goals[i].kind) (.str na.goals[i].role) (.str na.goals[i].wth) (.int .i64 na.goals[i].line);have e2:∀g',Yq g'=Md f na.goals[i]->(done++[g']).map Yq=(na.goals.take (i+1)).map (Md f):=by
   intro g' he;rw[zf2z A9,zf3z,hd,zf3z,zf7z,zf8z,zf7z,zf8z,he]
  clear hd;generalize na.goals[i]=g at *
  simp[Ai,A6,k1,k7,k10,A9,j0,hx,D4];refine C3.mono (q1 _ _ ?_ ?_ ?_ ?_ ?_ ?_ ?_) ?_<;>first|(simp[A6,k1,k10,D4];done)|skip
  rintro e T9 ⟨bx2,fams2⟩ ⟨K,rfl,vd,dd,hB2,hgd,hdd⟩;have M3:T9.length=96:=K.1.trans (by simp[A6]);have k1fr2:A2 T9 1=.ptr 0 0:=B8 K 1 (by simp[A6,k1]);have k7fr2:A2 T9 7=.ptr 2 0:=B8 K 7 (by simp[A6,k7]);have k10fr2:A2 T9 10=.int .i64 (i:Nat):=B8 K 10 (by simp[A6,k10]);have k11fr2:A2 T9 11=.ptr (B.length+3) 0:=B8 K 11 (by simp[A6]);clear K;have hg2:=Hj hg (h':=⟨bx2,fams2⟩) (λj hj=>hgd.low j hj);simp at hB2;subst hB2;obtain⟨m,hz⟩:=JZ hgd.g;simp only at hz;obtain⟨v',⟨bx',fams'⟩,ha,Ch,JU⟩:=RM (c:=B9 L7) (bytes:=72) (x:=Be ⟨g.kind,g.role,g.wth,m,dd,g.line⟩) hg2 rfl (true,true) (by simp;omega) (by simp;omega);simp only at JU;subst JU;have e3:done.map Be++[Be ⟨g.kind,g.role,g.wth,m,dd,g.line⟩]=(done++[Gol.mk g.kind g.role g.wth m dd g.line]).map Be:=by simp
  rw[e3]at Ch;have e4:=e2 ⟨g.kind,g.role,g.wth,m,dd,g.line⟩ (by simp[Yq,Md,hdd]);have e6:=cK g.kind g.role g.wth m dd g.line;obtain⟨c1,c2,-⟩:=EG Ch.g;simp[M3,k1fr2,k7fr2,k10fr2,k11fr2,hz,B5,e6,ha,j0,c1,c2];exact H0 hJ ⟨i+1,by omega,by simp[M3],_,v',_,rfl,Hj Ch λ_ _=>rfl,e4,by simp[hdn]⟩
 .obtain⟨B,v,done,hB,hg,hd,hdn⟩:=hr;obtain⟨bx,fams⟩:=H1;simp only at hB;subst hB;rw[zf6z (by omega)]at hd;simp[Ai,A6,k1,k7,k10,A9,D4];exact hΦ _ _ _ ⟨rfl,B,v,done,rfl,Hj hg λ_ _=>rfl,hd⟩
theorem Rq {ns rs:List ByteArray} (hrs:∀a,rs.any (V4 a)=true->ns.any (V4 a)=true) {t:Tm} (hn:N9 t=0) (h:Bm rs t=true):VX ns t=true:=by
 obtain⟨k,nm,s,m,l⟩:=t;obtain⟨h1,_⟩:=Dz hn;rw[Bm,zf0z]at h;have hk:k=2:=of_decide_eq_true h.1;have hr:rs.any (V4 nm)=true:=h.2;have hl:l=[]:=zg1z ((JC h1).2.1 (.inr hk));subst hl;simp[VX,MO,hrs nm hr]
theorem Xi {ns rs:List ByteArray} (hrs:∀a,rs.any (V4 a)=true->ns.any (V4 a)=true) {t:Tm} (hn:N9 t=0) (h:Bj rs t=true):VX ns t=true:=by
 obtain⟨k,nm,s,m,l⟩:=t;obtain⟨_,h2⟩:=Dz hn;rw[Bj,zf0z,W8,zf0z,zf0z]at h;obtain⟨⟨⟨hk,_⟩,hl⟩,hf⟩:=h;have hk:k=3:=of_decide_eq_true hk;have hl:(l.length:Int)=1:=of_decide_eq_true hl
 replace hf:NO (Bm rs) l=true:=hf
 subst hk
 replace hl:l.length=1:=by omega
 match l,hl,hf with
 | [a],_,hf=>simp[VX,MO,Rq hrs (Z0 h2 a (by simp)) hf]
theorem cV {ns rs:List ByteArray} (hrs:∀a,rs.any (V4 a)=true->ns.any (V4 a)=true) {t:Tm} (hn:N9 t=0) (h:EW rs t=true):VX ns t=true:=by
 obtain⟨k,nm,s,m,l⟩:=t;obtain⟨_,h2⟩:=Dz hn;rw[EW,zf0z,W8,zf0z,zf0z]at h;obtain⟨⟨⟨hk,_⟩,hl⟩,hf⟩:=h;have hk:k=3:=of_decide_eq_true hk;have hl:(l.length:Int)=1:=of_decide_eq_true hl
 replace hf:NO (Bj rs) l=true:=hf
 subst hk
 replace hl:l.length=1:=by omega
 match l,hl,hf with
 | [a],_,hf=>simp[VX,MO,Xi hrs (Z0 h2 a (by simp)) hf]
theorem bG (nm s) (m:U8) (l:Hg) (x:R7) (n:Int):(W8 (.mk 3 nm s m l) x n=true)=(nm=x/\(l.length:Int)=n):=by
 rw[W8,zf0z,zf0z];exact propext ⟨λh=>⟨of_decide_eq_true h.1.2,of_decide_eq_true h.2⟩,λh=>⟨⟨decide_eq_true (p:=(3:Int)=3) rfl,decide_eq_true (p:=nm=x) h.1⟩,decide_eq_true (p:=(l.length:Int)=n) h.2⟩⟩
theorem gC (rs:List ByteArray) (nm s) (m:U8) (l:Hg):EP rs (.mk 3 nm s m l) =
  if (nm=bs [112,97,105,114]/\(l.length:Int)=2)\/(nm=bs [101,110,99]/\(l.length:Int)=2)then 2
  else if nm=bs [104,97,115,104]/\(l.length:Int)=1 then 1
  else if ((nm=bs [97,101,110,99]/\(l.length:Int)=2)/\Kb (EW rs) l=true)\/((nm=bs [115,105,103,110]/\(l.length:Int)=2)/\Kb (Bj rs) l=true)then 1
  else if EW rs (.mk 3 nm s m l)=true\/PY rs (.mk 3 nm s m l)=true then 0 else -1:=by
 unfold EP;simp only[bG];rfl
theorem cW {ns rs:List ByteArray} (hrs:∀a,rs.any (V4 a)=true->ns.any (V4 a)=true):∀(n:Nat) (t:Tm),t.size<=n->N9 t=0->Z3 ns rs t=0->VX ns t=true:=by
 intro n
 induction n with
 |zero=>intro t h;have:=t.size_pos;omega
 |succ n ih =>
  intro t hn T6 hs;obtain⟨k,nm,s,m,l⟩:=t;have L4:Tm.size (.mk k nm s m l)=1+Tm.sizes l:=rfl;obtain⟨h1,h2⟩:=Dz T6;by_cases hk:k=3
  .subst hk;rw[Ns]at hs;simp only[Tm.kind,ne_eq,not_true,if_false]at hs;split at hs
   .omega
   .rename_i hkd;have AU:=EL hs
    suffices hl:MO ns l=true by simp[VX,hl]
    have one:∀t∈l,Z3 ns rs t=0->VX ns t=true:=λt ht h0=>ih t (by have:=Tm.size_le ht;omega) (Z0 h2 t ht) h0;rw[gC]at AU hkd;simp only[Tm.kids]at AU;by_cases c1:nm=bs [112,97,105,114]/\(l.length:Int)=2\/nm=bs [101,110,99]/\(l.length:Int)=2
    .rw[if_pos c1]at AU;have hl:l.length=2:=by omega
     match l,hl,AU,one with
     | [a,b],_,AU,one=>simp[MO,one a (by simp) (AU a (by simp)),one b (by simp) (AU b (by simp))]
    .rw[if_neg c1]at AU hkd;by_cases c2:nm=bs [104,97,115,104]/\(l.length:Int)=1
     .rw[if_pos c2]at AU;have hl:l.length=1:=by omega
      match l,hl,AU,one with
      | [a],_,AU,one=>simp[MO,one a (by simp) (AU a (by simp))]
     .rw[if_neg c2]at AU hkd;by_cases c3:(nm=bs [97,101,110,99]/\(l.length:Int)=2)/\Kb (EW rs) l=true\/(nm=bs [115,105,103,110]/\(l.length:Int)=2)/\Kb (Bj rs) l=true
      .rw[if_pos c3]at AU;have hl:l.length=2:=by omega
       match l,hl,AU,one,c3,h2 with
       | [a,b],_,AU,one,c3,h2 =>
        have hb:VX ns b=true:=by
         rcases c3 with c3|c3
         .exact cV hrs (Z0 h2 b (by simp)) c3.2
         .exact Xi hrs (Z0 h2 b (by simp)) c3.2
        simp[MO,one a (by simp) (AU a (by simp)),hb]
      .rw[if_neg c3]at AU hkd;by_cases c4:EW rs (.mk 3 nm s m l)=true\/PY rs (.mk 3 nm s m l)=true
       .rcases c4 with c4|c4
        .have:=cV hrs T6 c4;simpa[VX]using this
        .rw[PY,zf0z,zf0z,zf0z,bG]at c4;obtain⟨⟨⟨⟨_,hl⟩,ha⟩,hb⟩,_⟩:=c4
         replace ha:NO (Bm rs) l=true:=ha
         replace hb:Kb (Bm rs) l=true:=hb
         have hl:l.length=2:=by omega
         match l,hl,ha,hb,h2 with
         | [a,b],_,ha,hb,h2=>simp[MO,Rq hrs (Z0 h2 a (by simp)) ha,Rq hrs (Z0 h2 b (by simp)) hb]
       .rw[if_neg c4]at hkd;omega
  .have hb:=(JC h1);have hl:l=[]:=zg1z (hb.2.1 (by rcases hb.2.2.1 with h|h|h<;>omega))
   subst hl;rw[Ns]at hs;simp only[Tm.kind,ne_eq,hk,not_false_eq_true,if_true,Tm.name]at hs;by_cases h:ns.any (V4 nm)=true
   .simp[VX,MO,h]
   .replace hs:(if ns.any (V4 nm)=true then (0:Int)else 13)=0:=hs
    rw[if_neg h]at hs;omega
theorem Uv (n:Nar):∀a,n.roles.any (V4 a)=true->(B4 n).any (V4 a)=true:=by
 intro a h;unfold B4;rw[zg3z,zg3z,h,zg4z,zg4z]
theorem eB {ns rs:List ByteArray} {s:Ste} (h:DI ns rs s=0):Z3 ns rs s.msg=0:=by
 unfold DI at h;split at h
 .rename_i h1;exact absurd h h1
 .exact h
theorem aC {ns rs:List ByteArray} {g:Gol} (h:EB ns rs g=0):∀t∈g.data,Z3 ns rs t=0:=by
 unfold EB at h;split at h
 .omega
 .split at h
  .rename_i h1;exact absurd h h1.2
  .exact EL h
theorem Ua (n:Nar) (F:Fine n) (S:Lens n):∃r,pc Q L7 [D2 n]=some (.tup [D2 r,.int .i64 (Bv n).1,.int .i64 (Bv n).2])/\((Bv n).2=0->aM r=NX (W6 (B4 n) (J7 n)) n):=by
 suffices h:∃v,pc Q L7 [D2 n]=some v/\∃r,v=.tup [D2 r,.int .i64 (Bv n).1,.int .i64 (Bv n).2]/\((Bv n).2=0->aM r=NX (W6 (B4 n) (J7 n)) n) by
  obtain⟨v,h1,r,rfl,h2⟩:=h;exact⟨r,h1,h2⟩
 have hC:=Zi n F S;have nb:=D4 n;by_cases hz:(Bv n).2=0
 .obtain⟨hz0,hR⟩:=Ih hz;obtain⟨k1,k2,k3⟩:=Gu hR.nar;have hrk:=Uv n;have q1:=ZP n (W6 (B4 n) (J7 n)) S.steps (λs hs=>Qu n S _ _ (zf9z _) (F.steps s hs).2.2 (Gt (Sl (k2 s hs))) (cW hrk _ _ (zf9z _) (Gt (Sl (k2 s hs))) (eB (hR.steps s hs))));have q2:=ZO n (W6 (B4 n) (J7 n)) S.goals S.data (λg hg t ht=>Qu n S _ _ (zf9z _) (by have:=(F.goals g hg).2.2;have:=Tm.size_le ht;omega) (Gt (OX (k3 g hg) t ht)) (cW hrk _ _ (zf9z _) (Gt (OX (k3 g hg) t ht)) (aC (hR.goals g hg) t ht)));rw[hz0]at hC ⊢;refine Ka AF λΨ hΨ fr hl h0=>?_;simp[AF]at hl h0;simp[AF,hl,h0,nb,hC];refine C3.mono (q1 [.str (bs []),.vs true 0 [],.vs true 0 [],.vs true 0 [],.vs true 0 [],.vs true 0 []] (.str n.name) (sl n.rm 1 (n.roles.map .str)) (sl n.fm 3 (n.fresh.map Gq)) (sl n.tm 1 (n.tags.map .str)) (.vs true 0 []) _ _ ?_ ?_ ?_ ?_ ?_) ?_<;>first|(simp[hl,nb];done)|skip
  rintro e E4 ⟨bx1,fams1⟩ ⟨K,rfl,B,v,done,hB,hg,hd⟩;have M9:E4.length=96:=K.1.trans (by simp[hl]);have EO:A2 E4 1=.ptr 0 0:=B8 K 1 (by simp[hl]);have IX:A2 E4 2=.ptr 1 0:=B8 K 2 (by simp[hl]);have k7fr1:A2 E4 7=.ptr 2 0:=B8 K 7 (by simp[hl]);clear K;simp only at hB;subst hB;simp[M9,EO,IX,k7fr1];refine C3.mono (q2 [.str (bs []),.vs true 0 [],.vs true 0 [],.vs true 0 [],.vs true 0 [],.vs true 0 []] (.str n.name) (sl n.rm 1 (n.roles.map .str)) (sl n.fm 3 (n.fresh.map Gq)) (sl n.tm 1 (n.tags.map .str)) v B _ _ ?_ ?_ ?_ ?_ ?_) ?_<;>first|(simp[M9,EO,k7fr1];done)|rfl|skip
  rintro e T9 ⟨bx2,fams2⟩ ⟨K,rfl,B2,v2,done2,hB2,hg2,hd2⟩;have M3:T9.length=96:=K.1.trans (by simp[M9]);have k1fr2:A2 T9 1=.ptr 0 0:=B8 K 1 (by simp[M9,EO]);have k2fr2:A2 T9 2=.ptr 1 0:=B8 K 2 (by simp[M9,IX]);have k7fr2:A2 T9 7=.ptr 2 0:=B8 K 7 (by simp[M9,k7fr1]);clear K;simp only at hB2;subst hB2;have hg1:=XN hg.g hg2.low;obtain⟨m1,z1⟩:=JZ hg1;obtain⟨m2,z2⟩:=JZ hg2.g;simp only at z1 z2;simp[M3,k1fr2,k2fr2,k7fr2,z1,z2];exact hΨ _ ⟨⟨n.name,n.rm,n.roles,n.fm,n.fresh,n.tm,n.tags,m1,done,m2,done2⟩,rfl,λ_=>by simp[aM,NX,hd,hd2]⟩
 .refine Ka AF λΨ hΨ fr hl h0=>?_;simp[AF]at hl h0;simp[AF,hl,h0,nb,hC,hz,Q3,F8];exact hΨ _ ⟨rW,by rw[←cu,EC (true,false) rfl 1 1],λh=>absurd h hz⟩
end Go.Abs.Q
namespace Go.Abs.Q
open Go.Proofs
attribute [local simp] C8 D5 fin H6 G0 Cb BG Af Ae
def VL (r:ByteArray) (s:Ste):Bool:=decide (s.frm=r)||decide (s.to=r)
theorem PE (s:Ste) (r:R7):pc Q BM [Q2 s,.str r]=some (.bool (VL r s)):=by
 obtain⟨a,b,t,ln⟩:=s;obtain⟨tk,tn,ts,tm,tl⟩:=t;have e:Q2 ⟨a,b,.mk tk tn ts tm tl,ln⟩=.agg [.str a,.str b,.int .i64 tk,.str tn,.int .i64 ts,sl tm 4 (D1 tl),.int .i64 ln]:=by simp[Q2,I1]
 rw[e];unfold VL;by_cases e1:a=r
 .subst e1;refine Fe T3 λfr hl h0 h1=>?_;simp[T3]at hl h0 h1;simp[T3,hl,h0,h1]
 .by_cases e2:b=r
  .subst e2;refine Fe T3 λfr hl h0 h1=>?_;simp[T3]at hl h0 h1;simp[T3,hl,h0,h1,e1]
  .refine Fe T3 λfr hl h0 h1=>?_;simp[T3]at hl h0 h1;simp[T3,hl,h0,h1,e1,e2]
def bu (a b:Ste):Bool:=decide (a.frm=b.frm)&&decide (a.to=b.to)&&nd a.msg b.msg
def Bg:List Ste->List Ste->Bool
 | [],[]=>true
 |a::l,b::l'=>bu a b&&Bg l l'
 |_,_=>false
theorem QV:∀{l l':List Ste},Bg l l'=true->l.length=l'.length
 | [],[],_=>rfl
 |a::l,b::l',h=>by
  simp only[Bg,zf0z]at h;simp[QV h.2]
 | [],_::_,h=>by simp[Bg]at h
 |_::_,[],h=>by simp[Bg]at h
theorem TX:∀(l l':List Ste) (i:Nat) (h:i<l.length) (h':i<l'.length),Bg (l.drop i) (l'.drop i)=(bu l[i] l'[i]&&Bg (l.drop (i+1)) (l'.drop (i+1)))
 |a::l,b::l',0,_,_=>by simp[Bg]
 |a::l,b::l',i+1,h,h'=>by
  simp only[List.drop_succ_cons,List.getElem_cons_succ];exact TX l l' i (by simpa using h) (by simpa using h')
theorem Yy (m m':U8) (l l':List Ste) (C4:l.length<=1099511627776) (he:l.length=l'.length) (hs:∀s∈l,s.msg.size<=1099511627776) (hs':∀s∈l',s.msg.size<=1099511627776) (fr:Fr) (h:AH) (hl:fr.length=55)
  (h0:A2 fr 0=sl m 7 (l.map Q2)) (h1:A2 fr 1=sl m' 7 (l'.map Q2)) (h5:A2 fr 5=.int .i64 0) :
  C3 (lp (A4 (N5 Q) (B9 S9) M5) (fr,h)) λe fr' h'=>Kp M5.wr fr fr'/\(e=.exit 0/\Bg l l'=true\/e=.ret/\A2 fr' 4=.bool false/\Bg l l'=false):=by
 refine C1 rfl fr (λn fr h'=>∃(i:Nat),i+n=l.length/\A2 fr 5=.int .i64 (i:Nat)/\Bg l l'=Bg (l.drop i) (l'.drop i)) ?_ l.length h ⟨0,by omega,h5,rfl⟩;rintro J Φ hJ hΦ n E4 H1 K ⟨i,hi,k5,hr⟩;have A6:=K.1.trans hl;have k0:=B8 K 0 h0;have k1:=B8 K 1 h1;clear K;by_cases A9:i<l.length
 .have U2:i<l'.length:=by omega
  have hx:=E5 (f:=Q2) (zf1z A9);have hx':=E5 (f:=Q2) (zf1z U2);have hw:=C9 i (by omega);rw[TX l l' i A9 U2]at hr;have L4:=hs _ (zf4z A9);have hsz':=hs' _ (zf4z U2);generalize l[i]=s at *
  generalize l'[i]=s' at *
  have hS:=gJ s.msg s'.msg L4 hsz';obtain⟨a,b,t,ln⟩:=s;obtain⟨a',b',t',ln'⟩:=s';obtain⟨tk,tn,ts,tm,tl⟩:=t;obtain⟨tk',tn',ts',tm',tl'⟩:=t';simp only at hS;simp only[Q2,I1,FO,List.cons_append,List.nil_append]at hx hx' hS;unfold bu at hr;simp only at hr;by_cases e1:a=a'
  .by_cases e2:b=b'
   .subst e1 e2;cases e3:nd (.mk tk tn ts tm tl) (.mk tk' tn' ts' tm' tl')with
    |true =>
     rw[e3]at hS hr;simp[M5,A6,k0,k1,k5,A9,hx,hx',hw,hS];exact H0 hJ ⟨i+1,by omega,by simp[A6],by rw[hr];simp⟩
    |false =>
     rw[e3]at hS hr;simp[M5,A6,k0,k1,k5,A9,hx,hx',hw,hS];exact hΦ _ _ _ (.inr ⟨rfl,by simp[A6],by rw[hr];simp⟩)
   .simp[M5,A6,k0,k1,k5,A9,hx,hx',hw,e1,e2];exact hΦ _ _ _ (.inr ⟨rfl,by simp[A6],by rw[hr];simp[e2]⟩)
  .simp[M5,A6,k0,k1,k5,A9,hx,hx',hw,e1];exact hΦ _ _ _ (.inr ⟨rfl,by simp[A6],by rw[hr];simp[e1]⟩)
 .rw[zg2z (by omega),zg2z (by omega)]at hr;simp[M5,A6,k0,k1,k5,A9];exact hΦ _ _ _ (.inl ⟨rfl,by rw[hr];rfl⟩)
theorem JG (m m':U8) (l l':List Ste) (C4:l.length<=1099511627776) (hlen':l'.length<=1099511627776) (hs:∀s∈l,s.msg.size<=1099511627776) (hs':∀s∈l',s.msg.size<=1099511627776) :
  pc Q S9 [sl m 7 (l.map Q2),sl m' 7 (l'.map Q2)]=some (.bool (Bg l l')):=by
 by_cases he:l.length=l'.length
 .refine Fe a8 λfr hl h0 h1=>?_;simp[a8]at hl h0 h1;simp[a8,hl,h0,h1,he];refine(Yy m m' l l' C4 he hs hs' _ _ (by simp[hl]) (by simp[hl,h0]) (by simp[hl,h1]) (by simp[hl])).mono ?_;rintro e E4 H1 ⟨K,⟨rfl,hr⟩|⟨rfl,k4,hr⟩⟩
  .have A6:E4.length=55:=K.1.trans (by simp[hl]);simp[A6,hr]
  .simp[k4,hr]
 .have hf:Bg l l'=false:=by
   cases hb:Bg l l' with
   |false=>rfl
   |true=>exact absurd (QV hb) he
  have hi:¬((l.length:Int)=(l'.length:Int)):=by omega
  rw[hf];refine Fe a8 λfr hl h0 h1=>?_;simp[a8]at hl h0 h1;simp[a8,hl,h0,h1,he,hi]
theorem Tc {α:Type} (p:α->Bool) (l:List α) {i:Nat} (hi:i<l.length):(l.take (i+1)).filter p=(l.take i).filter p++(if p l[i]=true then [l[i]]else []):=by
 rw[zf2z hi,List.filter_append];congr 1;by_cases h:p l[i]=true<;>simp[h]
theorem NN {α:Type} (p:α->Bool) (l:List α) (i:Nat):((l.take i).filter p).length<=i:=by
 have:=List.length_filter_le p (l.take i);rw[List.length_take]at this;omega
end Go.Abs.Q
