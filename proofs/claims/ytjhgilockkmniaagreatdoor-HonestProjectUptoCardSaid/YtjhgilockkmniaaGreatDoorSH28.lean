/- A part of the proof. -/
import Derived.Test.YtjhgilockkmniaaGreatDoorSH27
set_option linter.all false
open Bool renaming and_eq_true->zf0z,true_or->zg4z
open List renaming getElem?_eq_getElem->zf1z,take_succ_eq_append_getElem->zf2z,take_of_length_le->zf3z,map_append->zf4z,getElem_mem->zf5z,map_cons->zf7z,map_nil->zf8z,getElem?_set_ne->zg0z,eq_nil_of_length_eq_zero->zg1z,drop_eq_nil_of_le->zg2z,any_append->zg3z
open Option renaming bind_some->zf6z
open Nat renaming le_refl->zf9z
namespace Go.Abs.Q
open Go.Proofs
attribute [local simp] D3 D6 fin H4 G2 C7
theorem Sd {sz:Nat} {M8:C6} {v:AV} {h:AH} (hg:EQ sz M8 v h):∃m,∀B:List (List AV),uE ⟨B,h.fams⟩ true v=some (sl m sz M8):=by
 rcases hg with ⟨rfl,rfl⟩|⟨_,k,rfl,h3⟩
 .exact⟨(true,false),λB=>by rw[OK];exact congrArg some (Dr _ rfl _ _)⟩
 .exact⟨_,λB=>NZ (h:=⟨B,h.fams⟩) h3 rfl⟩
mutual
def Uw (ns:List ByteArray):Tm->Bool
 | .mk k nm _ _ l=>(decide (k≠2)||ns.any (U4 nm))&&MH ns l
def MH (ns:List ByteArray):List Tm->Bool
 | []=>true
 |t::l=>Uw ns t&&MH ns l
end
theorem bb (ns:List ByteArray) {l:Hm} (h:MH ns l=true):∀t∈l,Uw ns t=true:=by
 induction l with
 |nil=>intro t ht;cases ht
 |cons a l ih =>
  simp only[MH,zf0z]at h;intro t ht;rcases List.mem_cons.1 ht with rfl|ht
  .exact h.1
  .exact ih h.2 t ht
@[simp] theorem pj (t:Tm):Bh (H2 t)=true:=by cases t;rfl
theorem Tl (na:Nar) (f:ByteArray->Int) (m:W8) (l:Hm) (C4:l.length<=1099511627776) (IH:∀t∈l,∃t',pc Q I4 [D1 na,H2 t]=some (H2 t')/\Km t'=HM f t) (x0 x1 x2:AV) (C:C6) (fr:Fr) (h:AH) (hh:h.boxes=[(D1 na).cells,[x0,x1,x2,sl m 4 (D0 l)],C]) (h7:A2 fr 7=.vs true 0 []) (hl:fr.length=45) (h2:A2 fr 2=.ptr 0 0) (h3:A2 fr 3=.ptr 1 0) (h8:A2 fr 8=.int .i64 0) :
  C3 (lp (A4 (M3 Q) (B8 I4) BH) (fr,h)) λe fr' h'=>Kp BH.wr fr fr'/\e=.exit 0/\h'.boxes=h.boxes/\∃done:List Tm,EQ 4 (D0 done) (A2 fr' 7) h'/\Cr done=BS f l:=by
 refine C1 rfl fr (λn fr h'=>∃(i:Nat),i+n=l.length/\A2 fr 8=.int .i64 (i:Nat)/\h'.boxes=h.boxes/\(∃done:List Tm,EQ 4 (D0 done) (A2 fr 7) h'/\Cr done=BS f (l.take i)/\done.length=i)) ?_ l.length h ⟨0,by omega,h8,rfl,[],by rw[h7];exact FZ _ _,by simp[Cr,BS],rfl⟩;rintro J Φ hJ hΦ n E3 H1 K ⟨i,hi,k8,hr⟩;have A6:=K.1.trans hl;have k2:=C0 K 2 h2;have k3:=C0 K 3 h3;clear K;by_cases A9:i<l.length
 .have Z0:=C8 i (by omega);obtain⟨hB,done,hg,hd,Gi⟩:=hr;obtain⟨bx,fams⟩:=H1;rw[hh]at hB hJ;simp only at hB;subst hB;have hx:=Eh A9;obtain⟨t',hI,ht⟩:=IH l[i] (zf5z A9);obtain⟨v',h',ha,CN,Ie⟩:=ER (c:=B8 I4) (bytes:=56) (x:=H2 t') hg rfl (true,true) (by simp;omega) (by simp;omega);have e2:Cr (done++[t'])=BS f (l.take (i+1)):=by
   rw[zf2z A9,EV,zf4z,←EV,hd,EK,EK,zf4z,zf7z,zf8z,zf7z,zf8z,ht]
  have hg2:EQ 4 (D0 (done++[t'])) v' h':=by rw[Ic];exact CN
  clear ht hd;generalize l[i]=t at *
  rw[C7]at ha;simp[BH,A6,k2,k3,k8,A9,Z0,hx,hI,B4,ha];exact F7 hJ ⟨i+1,by omega,by simp[A6],by rw[Ie,C7],done++[t'],by simp[A6];exact hg2,e2,by simp[Gi]⟩
 .obtain⟨hB,done,hg,hd,Gi⟩:=hr;obtain⟨bx,fams⟩:=H1;rw[hh]at hB hΦ;simp only at hB;subst hB;rw[zf3z (by omega)]at hd;simp[BH,A6,k2,k3,k8,A9];exact hΦ _ _ _ ⟨rfl,by rw[C7],done,by simp[A6];exact hg,hd⟩
theorem Qe (na:Nar) (S:Lens na):∀(n:Nat) (t:Tm),t.size<=n->t.size<=1099511627776->N0 t=0->Uw (B7 na) t=true->∃t',pc Q I4 [D1 na,H2 t]=some (H2 t')/\Km t'=HM (Bj (B7 na) (R6 na)) t:=by
 have s0:=S.names;intro n
 induction n with
 |zero=>intro t h;have:=t.size_pos;omega
 |succ n ih =>
  intro t hn hb S6 hkn;obtain⟨k,nm,s,m,kids⟩:=t;have K3:Tm.size (.mk k nm s m kids)=1+Tm.sizes kids:=rfl;have C4:=Tm.length_le kids;obtain⟨hne1,hne2⟩:=Do S6;simp only[Uw,zf0z,Bool.or_eq_true,decide_eq_true_eq]at hkn;have hkm:=bb _ hkn.2;have IQ:=Tl na (Bj (B7 na) (R6 na)) m kids (by omega) (λt ht=>ih t (by have:=Tm.size_le ht;omega) (by have:=Tm.size_le ht;omega) (Y3 hne2 t ht) (hkm t ht));clear ih;obtain⟨r,hNm,m1,m2,rfl⟩:=Of na ⟨by omega,by omega,by omega⟩;unfold EL at hNm;have hI:=Cy m1 (B7 na) nm (by simp[B7];omega)
  suffices h:∃v,pc Q I4 [D1 na,H2 (.mk k nm s m kids)]=some v/\∃t',v=H2 t'/\Km t'=HM (Bj (B7 na) (R6 na)) (.mk k nm s m kids) by
   obtain⟨v,h1,t',rfl,h2⟩:=h;exact⟨t',h1,h2⟩
  refine MN Et λΨ hΨ fr hl h0 h1=>?_;simp[Et,H2]at hl h0 h1;by_cases hk:k=2
  .have hany:(B7 na).any (U4 nm)=true:=by
    rcases hkn.1 with h|h
    .exact absurd hk h
    .exact h
   have hge:0<=idx (U4 nm) (B7 na):=(RT _ _).2 hany;have A9:idx (U4 nm) (B7 na)<(0:Nat)+(B7 na).length:=Ip (U4 nm) (B7 na) 0;have hix:(idx (U4 nm) (B7 na)).toNat<(R6 na).length:=by rw[←HH];omega
   have hx:=D5 (f:=AV.int .i64) (zf1z hix);have hls:Bj (B7 na) (R6 na) nm=(R6 na)[(idx (U4 nm) (B7 na)).toNat]:=by
    unfold Bj;rw[if_pos hany,List.getD_eq_getElem?_getD,zf1z hix];rfl
   rw[←hls]at hx;simp[Et,hl,h0,h1,A7 hk,hNm,hI,hge,hx];refine C3.mono (IQ (.int .i64 k) (.str nm) (.int .i64 (Bj (B7 na) (R6 na) nm)) [.int .i64 0,.str (bs []),.int .i64 0,.vs true 0 []] _ _ ?_ ?_ ?_ ?_ ?_ ?_) ?_<;>first|(simp[hl];done)|skip
   rintro e E3 ⟨bx,fams⟩ ⟨K,rfl,hB,done,hg,hd⟩;simp only at hB;subst hB;have K1:E3.length=45:=K.1.trans (by simp[hl]);have OU:A2 E3 3=.ptr 1 0:=C0 K 3 (by simp[hl]);have IS:A2 E3 4=.ptr 2 0:=C0 K 4 (by simp[hl]);clear K;obtain⟨c1,c2,c3⟩:=FB hg;obtain⟨mm,hz⟩:=Sd hg;generalize hv7:A2 E3 7=v7 at *
   simp[K1,OU,IS,hv7,c1,c2,c3,hz];exact hΨ _ ⟨.mk k nm (Bj (B7 na) (R6 na) nm) mm done,rfl,by simp[Km,HM,hk,hd]⟩
  .simp[Et,hl,h0,h1,A0 hk];refine C3.mono (IQ (.int .i64 k) (.str nm) (.int .i64 s) [.int .i64 0,.str (bs []),.int .i64 0,.vs true 0 []] _ _ ?_ ?_ ?_ ?_ ?_ ?_) ?_<;>first|(simp[hl];done)|skip
   rintro e E3 ⟨bx,fams⟩ ⟨K,rfl,hB,done,hg,hd⟩;simp only at hB;subst hB;have K1:E3.length=45:=K.1.trans (by simp[hl]);have OU:A2 E3 3=.ptr 1 0:=C0 K 3 (by simp[hl]);have IS:A2 E3 4=.ptr 2 0:=C0 K 4 (by simp[hl]);clear K;obtain⟨c1,c2,c3⟩:=FB hg;obtain⟨mm,hz⟩:=Sd hg;generalize hv7:A2 E3 7=v7 at *
   simp[K1,OU,IS,hv7,c1,c2,c3,hz];exact hΨ _ ⟨.mk k nm s mm done,rfl,by simp[Km,HM,hk,hd]⟩
end Go.Abs.Q
namespace Go.Abs.Q
open Go.Proofs
attribute [local simp] D3 D6 fin H4 G2
structure Grx (sz:Nat) (M8:List AV) (v:AV) (h0 h:AH):Prop where
 g:EQ sz M8 v h
 low:∀j,j<h0.fams.length->h.fams[j]?=h0.fams[j]?
 row:∀k n o l,v=.sl k n o l->h0.fams.length<=k
theorem Qs (sz:Nat) (h0 h:AH) (e:h.fams=h0.fams):Grx sz [] (.vs true 0 []) h0 h:=⟨FZ _ _,λj _=>by rw[e],λk n o l h=>by cases h⟩
theorem Vy {h0 h:AH} (hl:∀j,j<h0.fams.length->h.fams[j]?=h0.fams[j]?):h0.fams.length<=h.fams.length:=by
 apply Classical.byContradiction;intro hc;have h1:=hl h.fams.length (by omega);rw[List.getElem?_eq_none (zf9z _),zf1z (by omega)]at h1;cases h1
theorem Wi {sz:Nat} {M8:C6} {v:AV} {h h':AH} (hg:EQ sz M8 v h) (hl:∀j,j<h.fams.length->h'.fams[j]?=h.fams[j]?):EQ sz M8 v h':=by
 rcases hg with hg|⟨h1,k,h2,h3⟩
 .exact .inl hg
 .exact .inr ⟨h1,k,h2,by rw[hl k (P5 h3)];exact h3⟩
theorem Ha {sz:Nat} {M8:C6} {v:AV} {h0 h h':AH} (hg:Grx sz M8 v h0 h) (hl:∀j,j<h.fams.length->h'.fams[j]?=h.fams[j]?):Grx sz M8 v h0 h' :=
 ⟨Wi hg.g hl,λj hj=>by rw[hl j (by have:=Vy hg.low;omega)];exact hg.low j hj,hg.row⟩
theorem eG {c:Ctx} {sz bytes:Nat} {M8 ys:C6} {v x:AV} {h0 h:AH} (hg:Grx sz M8 v h0 h) (hm:c.mutApp=false) (hx:elems h sz x=some ys)
  (hb:(M8.length+ys.length)*bytes<=G3/\M8.length+ys.length<=maxLen):∃v' h',J7 c h sz bytes v x=some (v',h')/\Grx sz (M8++ys) v' h0 h'/\h'.boxes=h.boxes:=by
 obtain⟨hg,hlow,hrow⟩:=hg;obtain⟨v',h',h1,h2,h3⟩:=NS (c:=c) (bytes:=bytes) hg hm hx hb;refine⟨v',h',h1,⟨h2,?_,?_⟩,h3⟩
 .rcases hg with ⟨rfl,rfl⟩|⟨S6,k,rfl,hk⟩
  .rw[LG,hx,zf6z]at h1;split at h1
   .cases h1;exact hlow
   .split at h1
    .cases h1;intro j hj;have:=Vy hlow;rw[←hlow j hj];exact List.getElem?_append_left (by omega)
    .cases h1
  .rw[JS,hx,zf6z,hk,zf6z]at h1;split at h1
   .cases h1;intro j hj;have:=hrow _ _ _ _ rfl;rw[←hlow j hj];exact zg0z (by omega)
   .simp[VL]at h1
 .rcases hg with ⟨rfl,rfl⟩|⟨S6,k,rfl,hk⟩
  .rw[LG,hx,zf6z]at h1;split at h1
   .cases h1;intro _ _ _ _ e;cases e
   .split at h1
    .cases h1;intro _ _ _ _ e;cases e;exact Vy hlow
    .cases h1
  .rw[JS,hx,zf6z,hk,zf6z]at h1;split at h1
   .cases h1;intro _ _ _ _ e;cases e;exact hrow _ _ _ _ rfl
   .simp[VL]at h1
theorem Qt {c:Ctx} {sz bytes:Nat} {M8:C6} {v x:AV} {h0 h:AH} (hg:Grx sz M8 v h0 h) (hm:c.mutApp=false) (m:W8)
  (hb:(M8.length+1)*bytes<=140737488355328) (hb':M8.length<=1099511627776):∃v' h',J7 c h sz bytes v (sl m sz [x])=some (v',h')/\Grx sz (M8++[x]) v' h0 h'/\h'.boxes=h.boxes :=
 eG hg hm (Ax h m sz [x]) (by simp only[G3,maxLen,List.length_singleton];omega)
theorem Nl {sz:Nat} {M8:C6} {v:AV} {h:AH} (hg:EQ sz M8 v h):∃m,∀(B:List (List AV)) (am:Bool),uE ⟨B,h.fams⟩ am v=some (sl m sz M8):=by
 rcases hg with ⟨rfl,rfl⟩|⟨_,k,rfl,h3⟩
 .exact⟨(true,false),λB am=>by rw[OK];exact congrArg some (Dr _ rfl _ _)⟩
 .refine⟨(false,true),λB am=>?_⟩;rw[EA];simp only[h3,zf6z];rw[if_pos (by simp),List.drop_zero,zf3z (zf9z _)]
theorem Yr (na:Nar) (f:ByteArray->Int) (C4:na.steps.length<=1048576) (IH:∀s∈na.steps,∃t',pc Q I4 [D1 na,H2 s.msg]=some (H2 t')/\Km t'=HM f s.msg) (A1:C6) (o0 o1 o2 o3 o5:AV) (fr:Fr) (h:AH) (hh:h.boxes=[(D1 na).cells,A1,[o0,o1,o2,o3,.vs true 0 [],o5]]) (hl:fr.length=96) (h1:A2 fr 1=.ptr 0 0) (h7:A2 fr 7=.ptr 2 0) (h8:A2 fr 8=.int .i64 0) :
  C3 (lp (A4 (M3 Q) (B8 K5) AU) (fr,h)) λe fr' h'=>Kp AU.wr fr fr'/\e=.exit 0/\∃(B:List (List AV)) (v:AV) (done:List Ste),h'.boxes=(D1 na).cells::A1::[o0,o1,o2,o3,v,o5]::B/\Grx 7 (done.map P3) v h h'/\done.map OB=na.steps.map (MW f):=by
 refine C1 rfl fr (λn fr h'=>∃(i:Nat),i+n=na.steps.length/\A2 fr 8=.int .i64 (i:Nat)/\(∃(B:List (List AV)) (v:AV) (done:List Ste),h'.boxes=(D1 na).cells::A1::[o0,o1,o2,o3,v,o5]::B/\Grx 7 (done.map P3) v h h'/\done.map OB=(na.steps.take i).map (MW f)/\done.length=i)) ?_ na.steps.length h ⟨0,by omega,h8,[],_,[],hh,Qs _ _ _ rfl,by simp,by simp⟩;rintro J Φ hJ hΦ n E3 H1 K ⟨i,hi,k8,hr⟩;have A6:=K.1.trans hl;have k1:=C0 K 1 h1;have k7:=C0 K 7 h7;clear K;by_cases A9:i<na.steps.length
 .have Z0:=C8 i (by omega);obtain⟨B,v,done,hB,hg,hd,Gi⟩:=hr;obtain⟨bx,fams⟩:=H1;simp only at hB;subst hB;have hx:=D5 (f:=P3) (zf1z A9);obtain⟨t',hI,ht⟩:=IH na.steps[i] (zf5z A9);obtain⟨v',h',ha,CN,Ie⟩:=Qt (c:=B8 K5) (bytes:=96) (x:=P3 ⟨na.steps[i].frm,na.steps[i].to,t',na.steps[i].line⟩) (h:=⟨(D1 na).cells::A1::[o0,o1,o2,o3,v,o5]::(B++[(P3 ⟨na.steps[i].frm,na.steps[i].to,t',na.steps[i].line⟩).cells]),fams⟩) (Ha hg λ_ _=>rfl) rfl (true,true) (by simp;omega) (by simp;omega);have e2:(done++[Ste.mk na.steps[i].frm na.steps[i].to t' na.steps[i].line]).map OB=(na.steps.take (i+1)).map (MW f):=by
   rw[zf2z A9,zf4z,hd,zf4z,zf7z,zf8z,zf7z,zf8z];simp only[OB,ht,MW]
  have e3:(done.map P3++[P3 ⟨na.steps[i].frm,na.steps[i].to,t',na.steps[i].line⟩])=(done++[Ste.mk na.steps[i].frm na.steps[i].to t' na.steps[i].line]).map P3:=by simp
  rw[e3]at CN;have e6:=iG na.steps[i].frm na.steps[i].to t' na.steps[i].line;clear hd ht;generalize hY:done++[Ste.mk na.steps[i].frm na.steps[i].to t' na.steps[i].line]=Y at *
  have hYl:Y.length=i+1:=by rw[←hY];simp[Gi]
  clear hY e3;generalize na.steps[i]=s at *
  obtain⟨bx',fams'⟩:=h';simp only at Ie;subst Ie;simp only[Jw,C7]at ha;obtain⟨c1,c2,-⟩:=FB CN.g;simp[AU,A6,k1,k7,k8,A9,Z0,hx,hI,B4,e6,ha,C7,c1,c2];exact F7 hJ ⟨i+1,by omega,by simp[A6],_,v',Y,rfl,Ha CN λ_ _=>rfl,e2,hYl⟩
 .obtain⟨B,v,done,hB,hg,hd,Gi⟩:=hr;obtain⟨bx,fams⟩:=H1;simp only at hB;subst hB;rw[zf3z (by omega)]at hd;simp[AU,A6,k1,k7,k8,A9,C7];exact hΦ _ _ _ ⟨rfl,B,v,done,rfl,Ha hg λ_ _=>rfl,hd⟩
theorem Yp (na:Nar) (f:ByteArray->Int) (j:Nat) (g:Gol) (hj:Jj (na.goals.map Bz) j=some (Bz g)) (hjl:j<na.goals.length) (C4:g.data.length<=1048576) (IH:∀t∈g.data,∃t',pc Q I4 [D1 na,H2 t]=some (H2 t')/\Km t'=HM f t) (p:Nat) (hp0:0≠p) (g0 g1 g2 g4:AV) (fr:Fr) (h:AH) (hb0:h.boxes[0]?=some (D1 na).cells) (hbp:h.boxes[p]?=some [g0,g1,g2,.vs true 0 [],g4]) (hl:fr.length=96) (h1:A2 fr 1=.ptr 0 0) (h10:A2 fr 10=.int .i64 j) (h11:A2 fr 11=.ptr p 0) (h12:A2 fr 12=.int .i64 0) :
  C3 (lp (A4 (M3 Q) (B8 K5) AS) (fr,h)) λe fr' h'=>Kp AS.wr fr fr'/\e=.exit 4/\∃(v:AV) (done:List Tm),h'.boxes=h.boxes.set p [g0,g1,g2,v,g4]/\Grx 4 (D0 done) v h h'/\Cr done=BS f g.data:=by
 refine C1 rfl fr (λn fr h'=>∃(i:Nat),i+n=g.data.length/\A2 fr 12=.int .i64 (i:Nat)/\(∃(v:AV) (done:List Tm),h'.boxes=h.boxes.set p [g0,g1,g2,v,g4]/\Grx 4 (D0 done) v h h'/\Cr done=BS f (g.data.take i)/\done.length=i)) ?_ g.data.length h ⟨0,by omega,h12,_,[],(GB hbp).symm,Qs _ _ _ rfl,by simp[Cr,BS],rfl⟩;rintro J Φ hJ hΦ n E3 H1 K ⟨i,hi,k12,hr⟩;have A6:=K.1.trans hl;have k1:=C0 K 1 h1;have k10:=C0 K 10 h10;have k11:=C0 K 11 h11;clear K;by_cases A9:i<g.data.length
 .have Z0:=C8 i (by omega);obtain⟨v,done,hB,hg,hd,Gi⟩:=hr;obtain⟨bx,fams⟩:=H1;simp only at hB;subst hB;have hx:=Eh A9;obtain⟨t',hI,ht⟩:=IH g.data[i] (zf5z A9);have hpl:=P5 hbp;have q1:∀X,(h.boxes.set p X)[0]?=some (D1 na).cells:=λX=>by rw[zg0z (Ne.symm hp0)];exact hb0
  have q2:∀X,(h.boxes.set p X)[p]?=some X:=λX=>List.getElem?_set_self hpl;obtain⟨v',h',ha,CN,Ie⟩:=Qt (c:=B8 K5) (bytes:=56) (x:=H2 t') hg rfl (true,true) (by simp;omega) (by simp;omega);have e2:Cr (done++[t'])=BS f (g.data.take (i+1)):=by
   rw[zf2z A9,EV,zf4z,←EV,hd,EK,EK,zf4z,zf7z,zf8z,zf7z,zf8z,ht]
  have hg2:Grx 4 (D0 (done++[t'])) v' h h':=by rw[Ic];exact CN
  clear ht hd;generalize g.data[i]=t at *
  obtain⟨bx',fams'⟩:=h';simp only at Ie;subst Ie;rw[C7]at q1;obtain⟨c1,c2,-⟩:=FB CN.g;simp[AS,A6,k1,k10,k11,k12,A9,Z0,hx,hI,hj,hjl,B4,q1,q2,ha,c1,c2];exact F7 hJ ⟨i+1,by omega,by simp[A6],v',done++[t'],by simp,Ha hg2 λ_ _=>rfl,e2,by simp[Gi]⟩
 .obtain⟨v,done,hB,hg,hd,Gi⟩:=hr;obtain⟨bx,fams⟩:=H1;simp only at hB;subst hB;have hpl:=P5 hbp;have q1:∀X,(h.boxes.set p X)[0]?=some (D1 na).cells:=λX=>by rw[zg0z (Ne.symm hp0)];exact hb0
  rw[zf3z (by omega)]at hd;rw[C7]at q1;simp[AS,A6,k1,k10,k11,k12,A9,hj,hjl,q1];exact hΦ _ _ _ ⟨rfl,v,done,rfl,Ha hg λ_ _=>rfl,hd⟩
theorem Yq (na:Nar) (f:ByteArray->Int) (C4:na.goals.length<=1048576) (Gi:∀g∈na.goals,g.data.length<=1048576) (IH:∀g∈na.goals,∀t∈g.data,∃t',pc Q I4 [D1 na,H2 t]=some (H2 t')/\Km t'=HM f t) (A1:C6) (o0 o1 o2 o3 o4:AV) (D:List (List AV)) (fr:Fr) (h:AH) (hh:h.boxes=(D1 na).cells::A1::[o0,o1,o2,o3,o4,.vs true 0 []]::D) (hl:fr.length=96) (h1:A2 fr 1=.ptr 0 0) (h7:A2 fr 7=.ptr 2 0) (h10:A2 fr 10=.int .i64 0) :
  C3 (lp (A4 (M3 Q) (B8 K5) AT) (fr,h)) λe fr' h'=>Kp AT.wr fr fr'/\e=.exit 2/\∃(B:List (List AV)) (v:AV) (done:List Gol),h'.boxes=(D1 na).cells::A1::[o0,o1,o2,o3,o4,v]::B/\Grx 5 (done.map Bz) v h h'/\done.map YO=na.goals.map (MV f):=by
 refine C1 rfl fr (λn fr h'=>∃(i:Nat),i+n=na.goals.length/\A2 fr 10=.int .i64 (i:Nat)/\(∃(B:List (List AV)) (v:AV) (done:List Gol),h'.boxes=(D1 na).cells::A1::[o0,o1,o2,o3,o4,v]::B/\Grx 5 (done.map Bz) v h h'/\done.map YO=(na.goals.take i).map (MV f)/\done.length=i)) ?_ na.goals.length h ⟨0,by omega,h10,D,_,[],hh,Qs _ _ _ rfl,rfl,rfl⟩;rintro J Φ hJ hΦ n E3 H1 K ⟨i,hi,k10,hr⟩;have A6:=K.1.trans hl;have k1:=C0 K 1 h1;have k7:=C0 K 7 h7;clear K;by_cases A9:i<na.goals.length
 .have Z0:=C8 i (by omega);obtain⟨B,v,done,hB,hg,hd,hdn⟩:=hr;obtain⟨bx,fams⟩:=H1;simp only at hB;subst hB;have hx:=D5 (f:=Bz) (zf1z A9);have q1:=Yp na f i na.goals[i] hx A9 (Gi _ (zf5z A9)) (IH _ (zf5z A9)) (B.length+3) (by omega) (.int .i64 na.goals[i].kind) (.str na.goals[i].role) (.str na.goals[i].wth) (.int .i64 na.goals[i].line);have e2:∀g',YO g'=MV f na.goals[i]->(done++[g']).map YO=(na.goals.take (i+1)).map (MV f):=by
   intro g' he;rw[zf2z A9,zf4z,hd,zf4z,zf7z,zf8z,zf7z,zf8z,he]
  clear hd;generalize na.goals[i]=g at *
  simp[AT,A6,k1,k7,k10,A9,Z0,hx,C7];refine C3.mono (q1 _ _ ?_ ?_ ?_ ?_ ?_ ?_ ?_) ?_<;>first|(simp[A6,k1,k10,C7];done)|skip
  rintro e X2 ⟨bx2,fams2⟩ ⟨K,rfl,vd,dd,hB2,hgd,hdd⟩;have L3:X2.length=96:=K.1.trans (by simp[A6]);have k1fr2:A2 X2 1=.ptr 0 0:=C0 K 1 (by simp[A6,k1]);have k7fr2:A2 X2 7=.ptr 2 0:=C0 K 7 (by simp[A6,k7]);have k10fr2:A2 X2 10=.int .i64 (i:Nat):=C0 K 10 (by simp[A6,k10]);have k11fr2:A2 X2 11=.ptr (B.length+3) 0:=C0 K 11 (by simp[A6]);clear K;have hg2:=Ha hg (h':=⟨bx2,fams2⟩) (λj hj=>hgd.low j hj);simp at hB2;subst hB2;obtain⟨m,hz⟩:=Nl hgd.g;simp only at hz;obtain⟨v',⟨bx',fams'⟩,ha,CN,Ie⟩:=Qt (c:=B8 K5) (bytes:=72) (x:=Bz ⟨g.kind,g.role,g.wth,m,dd,g.line⟩) hg2 rfl (true,true) (by simp;omega) (by simp;omega);simp only at Ie;subst Ie;have e3:done.map Bz++[Bz ⟨g.kind,g.role,g.wth,m,dd,g.line⟩]=(done++[Gol.mk g.kind g.role g.wth m dd g.line]).map Bz:=by simp
  rw[e3]at CN;have e4:=e2 ⟨g.kind,g.role,g.wth,m,dd,g.line⟩ (by simp[YO,MV,hdd]);have e6:=bS g.kind g.role g.wth m dd g.line;obtain⟨c1,c2,-⟩:=FB CN.g;simp[L3,k1fr2,k7fr2,k10fr2,k11fr2,hz,B4,e6,ha,Z0,c1,c2];exact F7 hJ ⟨i+1,by omega,by simp[L3],_,v',_,rfl,Ha CN λ_ _=>rfl,e4,by simp[hdn]⟩
 .obtain⟨B,v,done,hB,hg,hd,hdn⟩:=hr;obtain⟨bx,fams⟩:=H1;simp only at hB;subst hB;rw[zf3z (by omega)]at hd;simp[AT,A6,k1,k7,k10,A9,C7];exact hΦ _ _ _ ⟨rfl,B,v,done,rfl,Ha hg λ_ _=>rfl,hd⟩
theorem RW {ns rs:List ByteArray} (hrs:∀a,rs.any (U4 a)=true->ns.any (U4 a)=true) {t:Tm} (hn:N0 t=0) (h:BR rs t=true):Uw ns t=true:=by
 obtain⟨k,nm,s,m,l⟩:=t;obtain⟨h1,_⟩:=Do hn;rw[BR,zf0z]at h;have hk:k=2:=of_decide_eq_true h.1;have hr:rs.any (U4 nm)=true:=h.2;have hl:l=[]:=zg1z ((Iv h1).2.1 (.inr hk));subst hl;simp[Uw,MH,hrs nm hr]
theorem XE {ns rs:List ByteArray} (hrs:∀a,rs.any (U4 a)=true->ns.any (U4 a)=true) {t:Tm} (hn:N0 t=0) (h:BQ rs t=true):Uw ns t=true:=by
 obtain⟨k,nm,s,m,l⟩:=t;obtain⟨_,h2⟩:=Do hn;rw[BQ,zf0z,V7,zf0z,zf0z]at h;obtain⟨⟨⟨hk,_⟩,hl⟩,hf⟩:=h;have hk:k=3:=of_decide_eq_true hk;have hl:(l.length:Int)=1:=of_decide_eq_true hl
 replace hf:ND (BR rs) l=true:=hf
 subst hk
 replace hl:l.length=1:=by omega
 match l,hl,hf with
 | [a],_,hf=>simp[Uw,MH,RW hrs (Y3 h2 a (by simp)) hf]
theorem bc {ns rs:List ByteArray} (hrs:∀a,rs.any (U4 a)=true->ns.any (U4 a)=true) {t:Tm} (hn:N0 t=0) (h:EM rs t=true):Uw ns t=true:=by
 obtain⟨k,nm,s,m,l⟩:=t;obtain⟨_,h2⟩:=Do hn;rw[EM,zf0z,V7,zf0z,zf0z]at h;obtain⟨⟨⟨hk,_⟩,hl⟩,hf⟩:=h;have hk:k=3:=of_decide_eq_true hk;have hl:(l.length:Int)=1:=of_decide_eq_true hl
 replace hf:ND (BQ rs) l=true:=hf
 subst hk
 replace hl:l.length=1:=by omega
 match l,hl,hf with
 | [a],_,hf=>simp[Uw,MH,XE hrs (Y3 h2 a (by simp)) hf]
theorem aW (nm s) (m:W8) (l:Hm) (x:Q1) (n:Int):(V7 (.mk 3 nm s m l) x n=true)=(nm=x/\(l.length:Int)=n):=by
 rw[V7,zf0z,zf0z];exact propext ⟨λh=>⟨of_decide_eq_true h.1.2,of_decide_eq_true h.2⟩,λh=>⟨⟨decide_eq_true (p:=(3:Int)=3) rfl,decide_eq_true (p:=nm=x) h.1⟩,decide_eq_true (p:=(l.length:Int)=n) h.2⟩⟩
theorem fL (rs:List ByteArray) (nm s) (m:W8) (l:Hm):ED rs (.mk 3 nm s m l) =
  if (nm=bs [112,97,105,114]/\(l.length:Int)=2)\/(nm=bs [101,110,99]/\(l.length:Int)=2)then 2
  else if nm=bs [104,97,115,104]/\(l.length:Int)=1 then 1
  else if ((nm=bs [97,101,110,99]/\(l.length:Int)=2)/\KR (EM rs) l=true)\/((nm=bs [115,105,103,110]/\(l.length:Int)=2)/\KR (BQ rs) l=true)then 1
  else if EM rs (.mk 3 nm s m l)=true\/PL rs (.mk 3 nm s m l)=true then 0 else -1:=by
 unfold ED;simp only[aW];rfl
theorem be {ns rs:List ByteArray} (hrs:∀a,rs.any (U4 a)=true->ns.any (U4 a)=true):∀(n:Nat) (t:Tm),t.size<=n->N0 t=0->Y5 ns rs t=0->Uw ns t=true:=by
 intro n
 induction n with
 |zero=>intro t h;have:=t.size_pos;omega
 |succ n ih =>
  intro t hn S6 hs;obtain⟨k,nm,s,m,l⟩:=t;have K3:Tm.size (.mk k nm s m l)=1+Tm.sizes l:=rfl;obtain⟨h1,h2⟩:=Do S6;by_cases hk:k=3
  .subst hk;rw[Nj]at hs;simp only[Tm.kind,ne_eq,not_true,if_false]at hs;split at hs
   .omega
   .rename_i hkd;have AG:=Dz hs
    suffices hl:MH ns l=true by simp[Uw,hl]
    have one:∀t∈l,Y5 ns rs t=0->Uw ns t=true:=λt ht h0=>ih t (by have:=Tm.size_le ht;omega) (Y3 h2 t ht) h0;rw[fL]at AG hkd;simp only[Tm.kids]at AG;by_cases c1:nm=bs [112,97,105,114]/\(l.length:Int)=2\/nm=bs [101,110,99]/\(l.length:Int)=2
    .rw[if_pos c1]at AG;have hl:l.length=2:=by omega
     match l,hl,AG,one with
     | [a,b],_,AG,one=>simp[MH,one a (by simp) (AG a (by simp)),one b (by simp) (AG b (by simp))]
    .rw[if_neg c1]at AG hkd;by_cases c2:nm=bs [104,97,115,104]/\(l.length:Int)=1
     .rw[if_pos c2]at AG;have hl:l.length=1:=by omega
      match l,hl,AG,one with
      | [a],_,AG,one=>simp[MH,one a (by simp) (AG a (by simp))]
     .rw[if_neg c2]at AG hkd;by_cases c3:(nm=bs [97,101,110,99]/\(l.length:Int)=2)/\KR (EM rs) l=true\/(nm=bs [115,105,103,110]/\(l.length:Int)=2)/\KR (BQ rs) l=true
      .rw[if_pos c3]at AG;have hl:l.length=2:=by omega
       match l,hl,AG,one,c3,h2 with
       | [a,b],_,AG,one,c3,h2 =>
        have hb:Uw ns b=true:=by
         rcases c3 with c3|c3
         .exact bc hrs (Y3 h2 b (by simp)) c3.2
         .exact XE hrs (Y3 h2 b (by simp)) c3.2
        simp[MH,one a (by simp) (AG a (by simp)),hb]
      .rw[if_neg c3]at AG hkd;by_cases c4:EM rs (.mk 3 nm s m l)=true\/PL rs (.mk 3 nm s m l)=true
       .rcases c4 with c4|c4
        .have:=bc hrs S6 c4;simpa[Uw]using this
        .rw[PL,zf0z,zf0z,zf0z,aW]at c4;obtain⟨⟨⟨⟨_,hl⟩,ha⟩,hb⟩,_⟩:=c4
         replace ha:ND (BR rs) l=true:=ha
         replace hb:KR (BR rs) l=true:=hb
         have hl:l.length=2:=by omega
         match l,hl,ha,hb,h2 with
         | [a,b],_,ha,hb,h2=>simp[MH,RW hrs (Y3 h2 a (by simp)) ha,RW hrs (Y3 h2 b (by simp)) hb]
       .rw[if_neg c4]at hkd;omega
  .have hb:=(Iv h1);have hl:l=[]:=zg1z (hb.2.1 (by rcases hb.2.2.1 with h|h|h<;>omega))
   subst hl;rw[Nj]at hs;simp only[Tm.kind,ne_eq,hk,not_false_eq_true,if_true,Tm.name]at hs;by_cases h:ns.any (U4 nm)=true
   .simp[Uw,MH,h]
   .replace hs:(if ns.any (U4 nm)=true then (0:Int)else 13)=0:=hs
    rw[if_neg h]at hs;omega
theorem UX (n:Nar):∀a,n.roles.any (U4 a)=true->(B7 n).any (U4 a)=true:=by
 intro a h;unfold B7;rw[zg3z,zg3z,h,zg4z,zg4z]
theorem dO {ns rs:List ByteArray} {s:Ste} (h:DN ns rs s=0):Y5 ns rs s.msg=0:=by
 unfold DN at h;split at h
 .rename_i h1;exact absurd h h1
 .exact h
theorem Zd {ns rs:List ByteArray} {g:Gol} (h:Dq ns rs g=0):∀t∈g.data,Y5 ns rs t=0:=by
 unfold Dq at h;split at h
 .omega
 .split at h
  .rename_i h1;exact absurd h h1.2
  .exact Dz h
theorem UF (n:Nar) (F:Fine n) (S:Lens n):∃r,pc Q K5 [D1 n]=some (.tup [D1 r,.int .i64 (AQ n).1,.int .i64 (AQ n).2])/\((AQ n).2=0->Zo r=NN (Bj (B7 n) (R6 n)) n):=by
 suffices h:∃v,pc Q K5 [D1 n]=some v/\∃r,v=.tup [D1 r,.int .i64 (AQ n).1,.int .i64 (AQ n).2]/\((AQ n).2=0->Zo r=NN (Bj (B7 n) (R6 n)) n) by
  obtain⟨v,h1,r,rfl,h2⟩:=h;exact⟨r,h1,h2⟩
 have hC:=MM n F S;have nb:=C7 n;by_cases hz:(AQ n).2=0
 .obtain⟨hz0,hR⟩:=EJ hz;obtain⟨k1,k2,k3⟩:=Gl hR.nar;have hrk:=UX n;have q1:=Yr n (Bj (B7 n) (R6 n)) S.steps (λs hs=>Qe n S _ _ (zf9z _) (F.steps s hs).2.2 (Gk (SS (k2 s hs))) (be hrk _ _ (zf9z _) (Gk (SS (k2 s hs))) (dO (hR.steps s hs))));have q2:=Yq n (Bj (B7 n) (R6 n)) S.goals S.data (λg hg t ht=>Qe n S _ _ (zf9z _) (by have:=(F.goals g hg).2.2;have:=Tm.size_le ht;omega) (Gk (OO (k3 g hg) t ht)) (be hrk _ _ (zf9z _) (Gk (OO (k3 g hg) t ht)) (Zd (hR.goals g hg) t ht)));rw[hz0]at hC ⊢;refine JA y6 λΨ hΨ fr hl h0=>?_;simp[y6]at hl h0;simp[y6,hl,h0,nb,hC];refine C3.mono (q1 [.str (bs []),.vs true 0 [],.vs true 0 [],.vs true 0 [],.vs true 0 [],.vs true 0 []] (.str n.name) (sl n.rm 1 (n.roles.map .str)) (sl n.fm 3 (n.fresh.map Hp)) (sl n.tm 1 (n.tags.map .str)) (.vs true 0 []) _ _ ?_ ?_ ?_ ?_ ?_) ?_<;>first|(simp[hl,nb];done)|skip
  rintro e E3 ⟨bx1,fams1⟩ ⟨K,rfl,B,v,done,hB,hg,hd⟩;have K1:E3.length=96:=K.1.trans (by simp[hl]);have EC:A2 E3 1=.ptr 0 0:=C0 K 1 (by simp[hl]);have IR:A2 E3 2=.ptr 1 0:=C0 K 2 (by simp[hl]);have k7fr1:A2 E3 7=.ptr 2 0:=C0 K 7 (by simp[hl]);clear K;simp only at hB;subst hB;simp[K1,EC,IR,k7fr1];refine C3.mono (q2 [.str (bs []),.vs true 0 [],.vs true 0 [],.vs true 0 [],.vs true 0 [],.vs true 0 []] (.str n.name) (sl n.rm 1 (n.roles.map .str)) (sl n.fm 3 (n.fresh.map Hp)) (sl n.tm 1 (n.tags.map .str)) v B _ _ ?_ ?_ ?_ ?_ ?_) ?_<;>first|(simp[K1,EC,k7fr1];done)|rfl|skip
  rintro e X2 ⟨bx2,fams2⟩ ⟨K,rfl,B2,v2,done2,hB2,hg2,hd2⟩;have L3:X2.length=96:=K.1.trans (by simp[K1]);have k1fr2:A2 X2 1=.ptr 0 0:=C0 K 1 (by simp[K1,EC]);have k2fr2:A2 X2 2=.ptr 1 0:=C0 K 2 (by simp[K1,IR]);have k7fr2:A2 X2 7=.ptr 2 0:=C0 K 7 (by simp[K1,k7fr1]);clear K;simp only at hB2;subst hB2;have hg1:=Wi hg.g hg2.low;obtain⟨m1,z1⟩:=Nl hg1;obtain⟨m2,z2⟩:=Nl hg2.g;simp only at z1 z2;simp[L3,k1fr2,k2fr2,k7fr2,z1,z2];exact hΨ _ ⟨⟨n.name,n.rm,n.roles,n.fm,n.fresh,n.tm,n.tags,m1,done,m2,done2⟩,rfl,λ_=>by simp[Zo,NN,hd,hd2]⟩
 .refine JA y6 λΨ hΨ fr hl h0=>?_;simp[y6]at hl h0;simp[y6,hl,h0,nb,hC,hz,P2,F4];exact hΨ _ ⟨qf,by rw[←bz,Dr (true,false) rfl 1 1],λh=>absurd h hz⟩
end Go.Abs.Q
namespace Go.Abs.Q
open Go.Proofs
attribute [local simp] D3 D6 fin H4 G2 EP Co Bd Bc
def KS (r:ByteArray) (s:Ste):Bool:=decide (s.frm=r)||decide (s.to=r)
theorem Lf (s:Ste) (r:Q1):pc Q o6 [P3 s,.str r]=some (.bool (KS r s)):=by
 obtain⟨a,b,t,ln⟩:=s;obtain⟨tk,tn,ts,tm,tl⟩:=t;have e:P3 ⟨a,b,.mk tk tn ts tm tl,ln⟩=.agg [.str a,.str b,.int .i64 tk,.str tn,.int .i64 ts,sl tm 4 (D0 tl),.int .i64 ln]:=by simp[P3,H2]
 rw[e];unfold KS;by_cases e1:a=r
 .subst e1;refine Ez S3 λfr hl h0 h1=>?_;simp[S3]at hl h0 h1;simp[S3,hl,h0,h1]
 .by_cases e2:b=r
  .subst e2;refine Ez S3 λfr hl h0 h1=>?_;simp[S3]at hl h0 h1;simp[S3,hl,h0,h1,e1]
  .refine Ez S3 λfr hl h0 h1=>?_;simp[S3]at hl h0 h1;simp[S3,hl,h0,h1,e1,e2]
def bJ (a b:Ste):Bool:=decide (a.frm=b.frm)&&decide (a.to=b.to)&&mi a.msg b.msg
def Ft:List Ste->List Ste->Bool
 | [],[]=>true
 |a::l,b::l'=>bJ a b&&Ft l l'
 |_,_=>false
theorem QG:∀{l l':List Ste},Ft l l'=true->l.length=l'.length
 | [],[],_=>rfl
 |a::l,b::l',h=>by
  simp only[Ft,zf0z]at h;simp[QG h.2]
 | [],_::_,h=>by simp[Ft]at h
 |_::_,[],h=>by simp[Ft]at h
theorem TA:∀(l l':List Ste) (i:Nat) (h:i<l.length) (h':i<l'.length),Ft (l.drop i) (l'.drop i)=(bJ l[i] l'[i]&&Ft (l.drop (i+1)) (l'.drop (i+1)))
 |a::l,b::l',0,_,_=>by simp[Ft]
 |a::l,b::l',i+1,h,h'=>by
  simp only[List.drop_succ_cons,List.getElem_cons_succ];exact TA l l' i (by simpa using h) (by simpa using h')
theorem YW (m m':W8) (l l':List Ste) (C4:l.length<=1099511627776) (he:l.length=l'.length) (hs:∀s∈l,s.msg.size<=1099511627776) (hs':∀s∈l',s.msg.size<=1099511627776) (fr:Fr) (h:AH) (hl:fr.length=55)
  (h0:A2 fr 0=sl m 7 (l.map P3)) (h1:A2 fr 1=sl m' 7 (l'.map P3)) (h5:A2 fr 5=.int .i64 0) :
  C3 (lp (A4 (M3 Q) (B8 AN) L4) (fr,h)) λe fr' h'=>Kp L4.wr fr fr'/\(e=.exit 0/\Ft l l'=true\/e=.ret/\A2 fr' 4=.bool false/\Ft l l'=false):=by
 refine C1 rfl fr (λn fr h'=>∃(i:Nat),i+n=l.length/\A2 fr 5=.int .i64 (i:Nat)/\Ft l l'=Ft (l.drop i) (l'.drop i)) ?_ l.length h ⟨0,by omega,h5,rfl⟩;rintro J Φ hJ hΦ n E3 H1 K ⟨i,hi,k5,hr⟩;have A6:=K.1.trans hl;have k0:=C0 K 0 h0;have k1:=C0 K 1 h1;clear K;by_cases A9:i<l.length
 .have T1:i<l'.length:=by omega
  have hx:=D5 (f:=P3) (zf1z A9);have hx':=D5 (f:=P3) (zf1z T1);have hw:=C8 i (by omega);rw[TA l l' i A9 T1]at hr;have K3:=hs _ (zf5z A9);have hsz':=hs' _ (zf5z T1);generalize l[i]=s at *
  generalize l'[i]=s' at *
  have hS:=fS s.msg s'.msg K3 hsz';obtain⟨a,b,t,ln⟩:=s;obtain⟨a',b',t',ln'⟩:=s';obtain⟨tk,tn,ts,tm,tl⟩:=t;obtain⟨tk',tn',ts',tm',tl'⟩:=t';simp only at hS;simp only[P3,H2,FC,List.cons_append,List.nil_append]at hx hx' hS;unfold bJ at hr;simp only at hr;by_cases e1:a=a'
  .by_cases e2:b=b'
   .subst e1 e2;cases e3:mi (.mk tk tn ts tm tl) (.mk tk' tn' ts' tm' tl')with
    |true =>
     rw[e3]at hS hr;simp[L4,A6,k0,k1,k5,A9,hx,hx',hw,hS];exact F7 hJ ⟨i+1,by omega,by simp[A6],by rw[hr];simp⟩
    |false =>
     rw[e3]at hS hr;simp[L4,A6,k0,k1,k5,A9,hx,hx',hw,hS];exact hΦ _ _ _ (.inr ⟨rfl,by simp[A6],by rw[hr];simp⟩)
   .simp[L4,A6,k0,k1,k5,A9,hx,hx',hw,e1,e2];exact hΦ _ _ _ (.inr ⟨rfl,by simp[A6],by rw[hr];simp[e2]⟩)
  .simp[L4,A6,k0,k1,k5,A9,hx,hx',hw,e1];exact hΦ _ _ _ (.inr ⟨rfl,by simp[A6],by rw[hr];simp[e1]⟩)
 .rw[zg2z (by omega),zg2z (by omega)]at hr;simp[L4,A6,k0,k1,k5,A9];exact hΦ _ _ _ (.inl ⟨rfl,by rw[hr];rfl⟩)
theorem Rs (m m':W8) (l l':List Ste) (C4:l.length<=1099511627776) (hlen':l'.length<=1099511627776) (hs:∀s∈l,s.msg.size<=1099511627776) (hs':∀s∈l',s.msg.size<=1099511627776) :
  pc Q AN [sl m 7 (l.map P3),sl m' 7 (l'.map P3)]=some (.bool (Ft l l')):=by
 by_cases he:l.length=l'.length
 .refine Ez Z5 λfr hl h0 h1=>?_;simp[Z5]at hl h0 h1;simp[Z5,hl,h0,h1,he];refine(YW m m' l l' C4 he hs hs' _ _ (by simp[hl]) (by simp[hl,h0]) (by simp[hl,h1]) (by simp[hl])).mono ?_;rintro e E3 H1 ⟨K,⟨rfl,hr⟩|⟨rfl,k4,hr⟩⟩
  .have A6:E3.length=55:=K.1.trans (by simp[hl]);simp[A6,hr]
  .simp[k4,hr]
 .have hf:Ft l l'=false:=by
   cases hb:Ft l l' with
   |false=>rfl
   |true=>exact absurd (QG hb) he
  have hi:¬((l.length:Int)=(l'.length:Int)):=by omega
  rw[hf];refine Ez Z5 λfr hl h0 h1=>?_;simp[Z5]at hl h0 h1;simp[Z5,hl,h0,h1,he,hi]
theorem Mg {α:Type} (p:α->Bool) (l:List α) {i:Nat} (hi:i<l.length):(l.take (i+1)).filter p=(l.take i).filter p++(if p l[i]=true then [l[i]]else []):=by
 rw[zf2z hi,List.filter_append];congr 1;by_cases h:p l[i]=true<;>simp[h]
theorem JI {α:Type} (p:α->Bool) (l:List α) (i:Nat):((l.take i).filter p).length<=i:=by
 have:=List.length_filter_le p (l.take i);rw[List.length_take]at this;omega
theorem bq (m:W8) (l:List Ste) (r:Q1) (C4:l.length<=1048576) (fr:Fr) (h:AH) (h5:A2 fr 5=.vs true 0 []) (hl:fr.length=37) (h0:A2 fr 0=sl m 7 (l.map P3)) (h1:A2 fr 1=.str r) (h6:A2 fr 6=.int .i64 0) :
  C3 (lp (A4 (M3 Q) (B8 Q2) N1) (fr,h)) λe fr' h'=>Kp N1.wr fr fr'/\e=.exit 0/\EQ 7 ((l.filter (KS r)).map P3) (A2 fr' 5) h':=by
 refine C1 rfl fr (λn fr h'=>∃(i:Nat),i+n=l.length/\A2 fr 6=.int .i64 (i:Nat)/\(∃(v:AV) (A:List Ste),A2 fr 5=v/\EQ 7 (A.map P3) v h'/\A=(l.take i).filter (KS r))) ?_ l.length h ⟨0,by omega,h6,_,[],h5,FZ _ _,by simp⟩;rintro J Φ hJ hΦ n E3 H1 K ⟨i,hi,k6,hr⟩;have A6:=K.1.trans hl;have k0:=C0 K 0 h0;have k1:=C0 K 1 h1;clear K;by_cases A9:i<l.length
 .have Z0:=C8 i (by omega);obtain⟨v,A,k5,hg,hA⟩:=hr;obtain⟨bx,fams⟩:=H1;have hx:=D5 (f:=P3) (zf1z A9);have hft:=Mg (KS r) l A9;have hfl:=JI (KS r) l i;rw[←hA]at hft hfl;obtain⟨v',h',ha,CN,Ie⟩:=ER (c:=B8 Q2) (bytes:=96) (x:=P3 l[i]) hg rfl (true,true) (by simp;omega) (by simp;omega);have e6:A.map P3++[P3 l[i]]=(A++[l[i]]).map P3:=by simp
  rw[e6]at CN;obtain⟨fl,hfl'⟩:∃fl,fl=(l.take (i+1)).filter (KS r):=⟨_,rfl⟩;rw[←hfl']at hft;generalize l[i]=s at *
  clear hA hfl e6;unfold KS at hft;by_cases e1:s.frm=r
  .have hft2:fl=A++[s]:=by rw[hft];simp[e1]
   clear hft;subst e1;simp[N1,A6,k0,k1,k6,A9,Z0,k5,hx,B4,ha];exact F7 hJ ⟨i+1,by omega,by simp[A6],_,fl,rfl,by simp[A6];rw[hft2];exact CN,hfl'⟩
  .by_cases e2:s.to=r
   .have hft2:fl=A++[s]:=by rw[hft];simp[e2]
    clear hft;subst e2;simp[N1,A6,k0,k1,k6,A9,Z0,k5,hx,B4,ha,e1];exact F7 hJ ⟨i+1,by omega,by simp[A6],_,fl,rfl,by simp[A6];rw[hft2];exact CN,hfl'⟩
   .have hft2:fl=A:=by rw[hft];simp[e1,e2]
    clear hft;simp[N1,A6,k0,k1,k6,A9,Z0,k5,hx,e1,e2];exact F7 hJ ⟨i+1,by omega,by simp[A6],_,fl,rfl,by simp[A6,k5];rw[hft2];exact hg,hfl'⟩
 .obtain⟨v,A,k5,hg,hA⟩:=hr;rw[zf3z (by omega)]at hA;simp[N1,A6,k0,k1,k6,A9];exact hΦ _ _ _ ⟨rfl,by simp[k5];rw[←hA];exact hg⟩
theorem Pl (m:W8) (l:List Ste) (r:Q1) (C4:l.length<=1048576):∃m',pc Q Q2 [sl m 7 (l.map P3),.str r]=some (sl m' 7 ((l.filter (KS r)).map P3)):=by
 suffices h:∃v,pc Q Q2 [sl m 7 (l.map P3),.str r]=some v/\∃m',v=sl m' 7 ((l.filter (KS r)).map P3) by
  obtain⟨v,h1,m',rfl⟩:=h;exact⟨m',h1⟩
 refine MN Dt λΨ hΨ fr hl h0 h1=>?_;simp[Dt]at hl h0 h1;simp[Dt,hl,h0,h1];refine C3.mono (bq m l r C4 _ _ ?_ ?_ ?_ ?_ ?_) ?_<;>first|(simp[hl,h0,h1];done)|skip
 rintro e E3 U1 ⟨K,rfl,hg⟩;have K1:E3.length=37:=K.1.trans (by simp[hl]);clear K;obtain⟨m',hm'⟩:=Ke hg;simp[K1,hm'];exact hΨ _ ⟨m',rfl⟩
end Go.Abs.Q
