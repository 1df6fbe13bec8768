/- A part of the proof. -/
import Derived.Test.YtohjdamplbhdpaaGreatDoorSD24
set_option linter.all false
open List renaming getElem?_append_left->oD,getElem_mem->xX,mem_singleton->xY,length_cons->xa,filter_cons->xb,take_succ_eq_append_getElem->xc,getD_eq_getElem?_getD->xd,take_of_length_le->xe,length_singleton->xg,replicate->xh,mem_cons_of_mem->xi,map_cons->xj,map_nil->xk,mem_cons_self->xl,append_assoc->xm,any_eq_true->xo,cons_append->xp,length_map->xt,map_append->xu,nil_append->xw
open Option renaming map_some->xZ
open Nat renaming le_refl->xf
open Bool renaming and_eq_true->xn,eq_iff_iff->xq,or_eq_true->xr
namespace Go.Abs.Q
open Go.Proofs
attribute [local simp] D1 D4 fin I2 G0 K7 I3 N4 O5
theorem Tm.kind_mk (k:Int) (nm:H6) (s:Int) (m:J0) (l:I1):(Tm.mk k nm s m l).kind=k:=rfl
theorem Tm.name_mk (k:Int) (nm:H6) (s:Int) (m:J0) (l:I1):(Tm.mk k nm s m l).name=nm:=rfl
theorem Tm.sort_mk (k:Int) (nm:H6) (s:Int) (m:J0) (l:I1):(Tm.mk k nm s m l).sort=s:=rfl
theorem Xd (t:Tm) (hb:t.size<=1048576):∃t',pc Q IK [B8 t,sl (true,false) 1 [],B8 t]=some (.tup [B8 t',.int .i64 0])/\D2 t'=D2 t:=by
 obtain⟨t',hC,hE⟩:=SK _ t (xf _) (by omega);refine⟨t',?_,hE⟩;refine JZ Ih λfr hl h0 h1 h2=>?_;simp[Ih]at hl h0 h1 h2;simp[Ih,hl,h0,h1,h2,hC];refine J4 ?_;simp[KP,hl,hC]
theorem gR (m:J0) (l:I1) (k:Nat) (C2:l.length<=1048576) (Z:I1) (hZ:Z.length=l.length) (K3:∀t∈l,t.size<=1048576) (IH:∀t∈l,∃(K:I1) (m':J0),pc Q FK [sl t.cm 4 (A4 t.kids)]=some (sl m' 4 (A4 K))/\H3 K=H3 t.kids) (fr:Fr) (h:AH) (hfam:h.fams[k]?=some ⟨A4 Z,4,true⟩) (hl:fr.length=42) (h3:A0 fr 3=.sl k l.length 0 l.length) (h9:A0 fr 9=sl m 4 (A4 l)) (h10:A0 fr 10=.int .i64 l.length) (h11:A0 fr 11=.int .i64 0) :
  C8 (lp (A1 (Q8 Q) (G8 FK) Dk) (fr,h)) λe D3 h'=>Kp Dk.wr fr D3/\e=.exit 0/\∃(B:List (List AV)) (done:List Tm),h'=⟨B,h.fams.set k ⟨A4 done,4,true⟩⟩/\H3 done=H3 l/\done.length=l.length:=by
 refine C3 rfl fr (λn fr h'=>∃(i:Nat),i+n=l.length/\A0 fr 11=.int .i64 (i:Nat)/\(∃(B:List (List AV)) (done:List Tm) (X:List AV),X=(done++Z.drop i).map B8/\h'=⟨B,h.fams.set k ⟨X,4,true⟩⟩/\H3 done=H3 (l.take i)/\done.length=i)) ?_ l.length h ⟨0,by omega,h11,⟨h.boxes,[],A4 Z,by simp[D7],by rw[Ch hfam],by simp[H3],rfl⟩⟩;rintro J Φ hJ hΦ n H0 H1 K ⟨i,hi,k11,hr⟩;have B5:=K.1.trans hl;have k3:=A5 K 3 h3;have k9:=A5 K 9 h9;have k10:=A5 K 10 h10;clear K;by_cases A7:i<l.length
 .have V9:=E6 i (by omega);obtain⟨B,done,X,hX,rfl,hd,EF⟩:=hr;have hltZ:i<Z.length:=by omega
  obtain⟨t1,hR,ht1⟩:=Xd l[i] (K3 _ (xX A7));obtain⟨K,mk,hO,hK⟩:=IH l[i] (xX A7);have hx:=U2 A7;obtain⟨q1,q2',q3⟩:=NB B8 done Z hltZ EF;have q4:=λt'=>NC B8 done Z hltZ EF t';rw[←hX]at q1 q3 q4;rw[hZ]at q3;have q2:X[i]'q1=B8 Z[i]:=by subst hX;exact q2'
  clear q2';have e2:∀t',D2 t'=D2 l[i]->H3 (done++[t'])=H3 (l.take (i+1)):=λt' ht=>by
   rw[xc A7,E4,xu,←E4,hd,E4,E4,xu,xj,xk,xj,xk,ht]
  have CF:=J1 hfam;clear hd;generalize l[i]=s at *
  obtain⟨d1,d2,d3,d4⟩:=JC ht1;have hag:AV.agg [.int .i64 t1.kind,.str t1.name,.int .i64 t1.sort,sl mk 4 (A4 K)]=B8 (.mk t1.kind t1.name t1.sort mk K):=rfl;have her:D2 (.mk t1.kind t1.name t1.sort mk K)=D2 s:=by
   obtain⟨k0,nm0,s0,m0,l0⟩:=s;simp only[Tm.kind,Tm.name,Tm.sort,Tm.kids]at d1 d2 d3 hK;simp only[D2,hK,Tm.mk.injEq];exact⟨d1,d2,d3,trivial,trivial⟩
  by_cases hk0:s.kids=[]
  .have hag2:AV.agg [.int .i64 t1.kind,.str t1.name,.int .i64 t1.sort,sl (true,false) 1 []]=B8 (.mk t1.kind t1.name t1.sort (true,false) []):=rfl;have her2:D2 (.mk t1.kind t1.name t1.sort (true,false) [])=D2 s:=by
    rw[←her];have:K=[]:=by
     rw[hk0]at hK;cases K with
     |nil=>rfl
     |cons a K=>simp[H3]at hK
    simp only[D2,this]
   have hkn:s.kids.length=0:=by rw[hk0];rfl
   have q5:=q4 (.mk t1.kind t1.name t1.sort (true,false) []);have e3:=e2 _ her2;generalize hY:(done++[Tm.mk t1.kind t1.name t1.sort (true,false) []]++Z.drop (i+1)).map B8=Y at *
   clear hX;simp[Dk,B5,k3,k9,k10,k11,A7,V9,hR,hO,hx,q2,q3,CF,hag,hkn,hag2,q5,Tm.kind_mk,Tm.name_mk,Tm.sort_mk];exact O9 hJ ⟨i+1,by omega,by simp[B5],_,_,Y,hY.symm,rfl,e3,by simp[EF]⟩
  .have hkn:s.kids.length≠0:=by
    intro h;exact hk0 (List.eq_nil_of_length_eq_zero h)
   have q5:=q4 (.mk t1.kind t1.name t1.sort mk K);have e3:=e2 _ her;generalize hY:(done++[Tm.mk t1.kind t1.name t1.sort mk K]++Z.drop (i+1)).map B8=Y at *
   simp[Dk,B5,k3,k9,k10,k11,A7,V9,hR,hO,hx,q2,q3,CF,hag,hkn,q5];exact O9 hJ ⟨i+1,by omega,by simp[B5],_,_,Y,hY.symm,rfl,e3,by simp[EF]⟩
 .obtain⟨B,done,X,hX,rfl,hd,EF⟩:=hr;have e:i=l.length:=by omega
  subst e;rw[List.take_length]at hd;rw[List.drop_of_length_le (by omega),List.append_nil,←D7]at hX;simp[Dk,B5,k10,k11];exact hΦ _ _ _ ⟨rfl,B,done,by rw[hX],hd,EF⟩
theorem kX:∀(n:Nat) (l:I1),Tm.sizes l<=n->Tm.sizes l<=1048576->∀m:Bool×Bool,∃(l':I1) (m':J0),pc Q FK [sl m 4 (A4 l)]=some (sl m' 4 (A4 l'))/\H3 l'=H3 l:=by
 intro n
 induction n with
 |zero =>
  intro l h _ m;have hl0:l=[]:=by
   cases l with
   |nil=>rfl
   |cons a l =>
    have:=a.size_pos;simp only[Tm.sizes]at h;omega
  subst hl0
  suffices h:∃v,pc Q FK [sl m 4 (A4 [])]=some v/\∃q:Bool×Bool,v=sl q 4 (A4 []) by
   obtain⟨v,h1,q,rfl⟩:=h;exact⟨[],q,h1,rfl⟩
  have hr:G5=140737488355328:=rfl;have hm:maxLen=9223372036854775807:=rfl;have hn:A4 []=[]:=rfl;refine Ja Hy λΨ hΨ fr hl h0=>?_;simp[Hy]at hl h0;simp[Hy,hl,h0,hr,hm,hn];refine J4 ?_;simp[Dk,hl];exact hΨ _ ⟨(false,true),rfl⟩
 |succ n ih =>
  intro l hn hb m;have hll:=Tm.length_le l;have hlv:(A4 l).length=l.length:=by rw[D7,xt]
  have hr:(l.length:Int)*56<=G5/\(l.length:Int)<=maxLen:=by
   have e1:G5=140737488355328:=rfl;have e2:maxLen=9223372036854775807:=rfl;omega
  have hz:xh l.length (AV.agg [.int .i64 0,.str (bs []),.int .i64 0,.vs true 0 []])=A4 (xh l.length Yl):=by
   rw[ir,D7,List.map_replicate]
  suffices h:∃v,pc Q FK [sl m 4 (A4 l)]=some v/\∃q:List Tm×(Bool×Bool),v=sl q.2 4 (A4 q.1)/\H3 q.1=H3 l by
   obtain⟨v,h1,q,rfl,h2⟩:=h;exact⟨q.1,q.2,h1,h2⟩
  have Pc:=gR m l 0 (by omega) (xh l.length Yl) (by simp) (λt ht=>by have:=Tm.size_le ht;omega) (λt ht=>by
   have h1:=Tm.size_le ht;have h2:=t.kids_size;obtain⟨K,m',a,b⟩:=ih t.kids (by omega) (by omega) t.cm;exact⟨K,m',a,b⟩)
  clear ih;refine Ja Hy λΨ hΨ fr hl h0=>?_;simp[Hy]at hl h0;simp[Hy,hl,h0,hr,hz];refine C8.mono (Pc _ _ ?_ ?_ ?_ ?_ ?_ ?_) ?_<;>first|(simp[hl];done)|skip
  rintro e H0 h1 ⟨K,rfl,B,done,rfl,hd,EF⟩;have M7:H0.length=42:=K.1.trans (by simp[hl]);have QI:A0 H0 3=.sl 0 l.length 0 l.length:=A5 K 3 (by simp[hl]);clear K;have hf:∀B',y5 ⟨B',[⟨A4 done,4,true⟩]⟩ true (.sl 0 l.length 0 l.length)=some (sl (false,true) 4 (A4 done)):=λB'=>Hj (b:=true) rfl (by rw[D7,xt,EF]);simp[M7,QI,hf];exact hΨ _ ⟨(done,(false,true)),rfl,hd⟩
theorem XU (m:J0) (l:I1) (C2:l.length<=1048576) (hv:∀t∈l,OkT t) (fr:Fr) (h:AH) (hl:fr.length=26) (h14:A0 fr 14=sl m 4 (A4 l)) (h15:A0 fr 15=.int .i64 l.length) (h16:A0 fr 16=.int .i64 0) :
  C8 (lp (A1 (Q8 Q) (G8 HH) Ef) (fr,h)) λe D3 h'=>Kp Ef.wr fr D3/\e=.exit 0:=by
 refine C3 rfl fr (λn fr h'=>∃(i:Nat),i+n=l.length/\A0 fr 16=.int .i64 (i:Nat)/\True) ?_ l.length h ⟨0,by omega,h16,trivial⟩;rintro J Φ hJ hΦ n H0 H1 K ⟨i,hi,k16,hr⟩;have B5:=K.1.trans hl;have k14:=A5 K 14 h14;have k15:=A5 K 15 h15;clear K;by_cases A7:i<l.length
 .have V9:=E6 i (by omega);have hx:=U2 A7;have ho:=hv l[i] (xX A7);have hV:=Dw l[i] (by have:=ho.size;omega);rw[(Eb ho.valid).1]at hV;obtain⟨bx,F⟩:=H1;generalize l[i]=s at *
  simp[Ef,B5,k14,k15,k16,A7,V9,hx,hV];exact O9 hJ ⟨i+1,by omega,by simp[B5],trivial⟩
 .simp[Ef,B5,k15,k16,A7];exact hΦ _ _ _ rfl
theorem UZ (u:Tm) (hu:OkT u):pc Q HH [sl (true,false) 1 [],sl (true,true) 4 [B8 u]]=some (.int .i64 0):=by
 have hfl:(([((true,false),[]),((true,true),[u])]:List ML).flatMap λq=>q.2)=[u]:=by simp
 obtain⟨mc,hC⟩:=US (true,true) [((true,false),[]),((true,true),[u])] (by simp) (by unfold Iu;rw[hfl];simp);rw[hfl]at hC;simp only[xj,xk,ZQ,show A4 []=[] from rfl,show A4 [u]=[B8 u] from rfl,Db (true,false) rfl 4 1]at hC;refine R9 Mn λfr hl h0 h1=>?_;simp[Mn]at hl h0 h1;simp[Mn,hl,h0,h1,hC,A3];refine C8.mono (XU mc [u] (by simp) (λt ht=>by rw[xY.1 ht];exact hu) _ _ ?_ ?_ ?_ ?_) ?_<;>first|(simp[hl,show A4 [u]=[B8 u] from rfl];done)|skip
 rintro e H0 Jp ⟨K,rfl⟩;have B5:H0.length=26:=K.1.trans (by simp[hl]);simp[B5]
theorem MQ (u:Tm) (hf:u.kind=3->u.name∈AD):pc Q Bo [B8 u]=some (sl (true,true) 4 [B8 u]):=by
 by_cases hk:u.kind=3
 .obtain⟨-,-,-,-,-,-,n7,-,-,-,-,n12,-⟩:=Ob (hf hk);have hag:AV.agg [.int .i64 3,.str u.name,.int .i64 u.sort,sl u.cm 4 (A4 u.kids)]=B8 u:=by rw[←hk];exact Vx u
  refine N0 CD λfr hl h0=>?_;simp[CD]at hl h0;simp[CD,hl,h0,hk,hag,n7,n12,A3]
 .refine N0 CD λfr hl h0=>?_;simp[CD]at hl h0;simp[CD,hl,h0,hk,A3]
theorem gi (u:Tm) (hu:OkT u):∃(u':Tm) (m':J0),pc Q JH [B8 u]=some (.tup [sl m' 4 [B8 u'],.int .i64 0])/\D2 u'=D2 u:=by
 have hR:=UZ u hu;have hS:=MQ u hu.nm;obtain⟨l',m',hO,he⟩:=kX _ [u] (xf _) (by have:=hu.size;simp only[Tm.sizes];omega) (true,true);obtain⟨u',rfl⟩:∃u',l'=[u']:=by
  have hl:l'.length=1:=by
   have:=congrArg List.length he;simpa[E4]using this
  match l',hl with
  | [a],_=>exact⟨a,rfl⟩
 have he':D2 u'=D2 u:=by simpa[H3]using he
 rw[show A4 [u]=[B8 u] from rfl,show A4 [u']=[B8 u'] from rfl]at hO;refine⟨u',m',?_,he'⟩;refine N0 Mm λfr hl h0=>?_;simp[Mm]at hl h0;simp[Mm,hl,h0,hR,hS,hO,A3]
@[simp] theorem sC (b:Nat):(AV.mp b).isTup=false:=rfl
@[simp] theorem sB (b:Nat):(AV.mp b).cells=[.mp b]:=rfl
theorem iF (k:Nat) (h:AH) (u:Tm) (hu:u.size<=1048576) (hk:h.fams[k]?=some ⟨[B8 u],4,true⟩):rc Q C9 [.sl k 1 0 1,.fn A8 []] h=some (A9,h):=by
 obtain⟨l',hp,-,hS⟩:=Ox k h [u] hk (by simp) (by simp;omega) (by simp);have hl':l'=[u]:=List.perm_singleton.1 hp;subst hl';rw[show A4 [u]=[B8 u] from rfl,Ch hk]at hS;exact hS
theorem YF (g:FuncId) (k:Nat) (h:AH) (u:Tm) (hg:Px g [u]) (hk:h.fams[k]?=some ⟨[B8 u],4,true⟩):rc Q B9 [.sl k 1 0 1,.fn g []] h=some (.sl k 1 0 1,h):=by
 obtain⟨Z,hZ,hZR,hK⟩:=IS g [u] hg k h hk (by simp);have hZ1:Z=[u]:=by
  have:(P4 [u])=[u]:=rfl;rw[this]at hZR;rw[←hZR,xe (by simp[hZ])]
 subst hZ1;rw[show A4 [u]=[B8 u] from rfl,Ch hk]at hK;exact hK
theorem dw (a b:Tm) (h:a.size<=1099511627776) (h':b.size<=1099511627776):pc Q BH [B8 a,B8 b]=some (.bool (decide (G9 a b=0))):=by
 have hC:=Z3 _ a b (xf _) h h';refine R9 Fv λfr hl h0 h1=>?_;simp[Fv]at hl h0 h1;simp[Fv,hl,h0,h1,hC]
theorem YD (B:List (List AV)) (F:List Fam):rc Q G6 [sl (true,false) 1 []] ⟨B,F⟩=some (.vs true 0 [],⟨B,F⟩):=by
 suffices hq:∃v h',rc Q G6 [sl (true,false) 1 []] ⟨B,F⟩=some (v,h')/\(v=.vs true 0 []/\h'=⟨B,F⟩) by
  obtain⟨v,h',h1,rfl,rfl⟩:=hq;exact h1
 refine YC N9 λfr hl h0=>?_;simp[N9]at hl h0;simp[N9,hl,h0,Nw]
theorem ku (u:Tm) (hu:OkT u) (B:List (List AV)) (F:List Fam) :
  ∃(k:Nat) (h':AH) (a b:AV) (B':List (List AV)),rc Q Y0 [sl (true,false) 1 [],B8 u] ⟨B,F⟩=some (.ptr (B.length+3) 0,h') /\
   h'.boxes=B++[(B8 u).cells]++[[.mbox [] []],[.mbox [] []],[.sl k 1 0 1,.int .i64 0,.mp (B.length+1),.mp (B.length+2),.vs true 0 []]]++B'/\h'.fams[k]?=some ⟨[B8 u],4,true⟩:=by
 have hs:=hu.size;have hS:=MQ u hu.nm;have hC:=YD;have hr:G5=140737488355328:=rfl;have hm:maxLen=9223372036854775807:=rfl;have hmu:TM Y0=true:=rfl;have h01:IntKind.i64.wrap 1=1:=by decide
 have hcm:Px BH [u]:=⟨rfl,λa ha b hb=>by
  rw[xY]at ha hb;exact dw a b (by rw[ha];omega) (by rw[hb];omega)⟩
 have hso:∀B',rc Q C9 [.sl (F.length+1) 1 0 1,.fn A8 []] ⟨B',F++[⟨[B8 u],4,true⟩,⟨[B8 u],4,true⟩]⟩=some (A9,⟨B',F++[⟨[B8 u],4,true⟩,⟨[B8 u],4,true⟩]⟩):=λB'=>iF _ _ u (by omega) (by simp);have hco:∀B',rc Q B9 [.sl (F.length+1) 1 0 1,.fn BH []] ⟨B',F++[⟨[B8 u],4,true⟩,⟨[B8 u],4,true⟩]⟩=some (.sl (F.length+1) 1 0 1,⟨B',F++[⟨[B8 u],4,true⟩,⟨[B8 u],4,true⟩]⟩):=λB'=>YF _ _ _ u hcm (by simp)
 suffices hq:∃v h',rc Q Y0 [sl (true,false) 1 [],B8 u] ⟨B,F⟩=some (v,h')/\∃(k:Nat) (B':List (List AV)),v=.ptr (B.length+3) 0 /\
   h'.boxes=B++[(B8 u).cells]++[[.mbox [] []],[.mbox [] []],[.sl k 1 0 1,.int .i64 0,.mp (B.length+1),.mp (B.length+2),.vs true 0 []]]++B'/\h'.fams[k]?=some ⟨[B8 u],4,true⟩ by
  obtain⟨v,h',h1,k,B',rfl,h2,h3⟩:=hq;exact⟨k,h',.nilp,.nilp,B',h1,h2,h3⟩
 refine FM Ha λfr hl h0 h1=>?_;simp[Ha]at hl h0 h1;simp[Ha,hl,h0,h1,D0,E7,hC,A3,hr,hm,hmu];refine J4 ?_;simp[Il,hl,hS,hr,hm,hmu,h01];refine J4 ?_;simp[hl,h0,hso,hco];refine J4 ?_;simp[JP,hl]
theorem dx:pc Q Du [sl (false,true) 1 [.int .u64 1],.int .i64 1]=some (.int .i64 0):=by
 have hH:pc Q DY [sl (false,true) 1 [.int .u64 1],.int .i64 0]=some (.bool true):=by
  have e1:D5 .quo (.int .i64 0) (.int .i64 64)=some (.int .i64 0):=by rfl
  have e2:D5 .rem (.int .i64 0) (.int .i64 64)=some (.int .i64 0):=by rfl
  have e3:D5 .shr (.int .u64 1) (.int .i64 0)=some (.int .u64 1):=by rfl
  have e4:D5 .and (.int .u64 1) (.int .u64 1)=some (.int .u64 1):=by rfl
  refine R9 Ik λfr hl h0 h1=>?_;simp[Ik]at hl h0 h1;simp[Ik,hl,h0,h1,e1,e2,e3,e4]
 refine R9 Gl λfr hl h0 h1=>?_;simp[Gl]at hl h0 h1;simp[Gl,h1];refine J4 ?_;simp[Ij,hl,h0,hH]
theorem iE (k:Nat) (h:AH) (hk:h.fams[k]?=some ⟨[.int .u64 0],1,true⟩):rc Q r7 [.sl k 1 0 1,.int .i64 0] h=some (A9,⟨h.boxes,h.fams.set k ⟨[.int .u64 1],1,true⟩⟩):=by
 have CF:=J1 hk
 suffices hq:∃v h',rc Q r7 [.sl k 1 0 1,.int .i64 0] h=some (v,h')/\(v=A9/\h'=⟨h.boxes,h.fams.set k ⟨[.int .u64 1],1,true⟩⟩) by
  obtain⟨v,h',h1,rfl,rfl⟩:=hq;exact h1
 have e1:D5 .quo (.int .i64 0) (.int .i64 64)=some (.int .i64 0):=by rfl
 have e2:D5 .rem (.int .i64 0) (.int .i64 64)=some (.int .i64 0):=by rfl
 have e3:D5 .shl (.int .u64 1) (.int .i64 0)=some (.int .u64 1):=by rfl
 have e4:D5 .xor (.int .u64 0) (.int .u64 1)=some (.int .u64 1):=by rfl
 refine FM HZ λfr hl h0 h1=>?_;simp[HZ]at hl h0 h1;simp[HZ,hl,h0,h1,e1,e2,e3,e4,hk]
theorem nY (u:Tm) (hu:OkT u) (a k:Nat) (B:List (List AV)) (F:List Fam) (c1 c2 c3 c4:AV) (ha:B[a]?=some [.sl k 1 0 1,c1,c2,c3,c4]) (hk:F[k]?=some ⟨[B8 u],4,true⟩) :
  ∃B',rc Q Z2 [.ptr a 0,B8 u] ⟨B,F⟩=some (.sl F.length 1 0 1,⟨B++B',F++[⟨[.int .u64 1],1,true⟩]⟩):=by
 have hs:=hu.size;have hS:=MQ u hu.nm;have hr:G5=140737488355328:=rfl;have hm:maxLen=9223372036854775807:=rfl;have h01:IntKind.i64.wrap 1=1:=by decide
 have e1:D5 .quo (.int .i64 1) (.int .i64 64)=some (.int .i64 0):=by rfl
 have CF:=J1 hk;have hal:=J1 ha;have hBST:=bA (false,true) u (by omega);have hcol:∀(B2:List (List AV)) (F2:List Fam),B2[a]?=some [.sl k 1 0 1,c1,c2,c3,c4]->F2[k]?=some ⟨[B8 u],4,true⟩->rc Q X6 [.ptr a 0,B8 u] ⟨B2,F2⟩=some (.int .i64 0,⟨B2++[(B8 u).cells],F2⟩):=by
  intro B2 F2 hB2 hF2
  suffices hq:∃v h',rc Q X6 [.ptr a 0,B8 u] ⟨B2,F2⟩=some (v,h')/\(v=.int .i64 0/\h'=⟨B2++[(B8 u).cells],F2⟩) by
   obtain⟨v,h',h1,rfl,rfl⟩:=hq;exact h1
  have hB3:(B2++[(B8 u).cells])[a]?=some [.sl k 1 0 1,c1,c2,c3,c4]:=by rw[oD (J1 hB2)];exact hB2
  have hz:∀B',y5 ⟨B',F2⟩ true (.sl k 1 0 1)=some (sl (false,true) 4 [B8 u]):=λB'=>Hj hF2 rfl;simp only[H4]at hB3;refine FM EQ λfr hl h0 h1=>?_;simp[EQ]at hl h0 h1;simp[EQ,hl,h0,h1,hB3,hz,hBST]
 suffices hq:∃v h',rc Q Z2 [.ptr a 0,B8 u] ⟨B,F⟩=some (v,h')/\∃B',v=.sl F.length 1 0 1/\h'=⟨B++B',F++[⟨[.int .u64 1],1,true⟩]⟩ by
  obtain⟨v,h',h1,B',rfl,rfl⟩:=hq;exact⟨B',h1⟩
 have ha1:(B++[(B8 u).cells])[a]?=some [.sl k 1 0 1,c1,c2,c3,c4]:=by rw[oD hal];exact ha
 have ha2:(B++[(B8 u).cells,(B8 u).cells])[a]?=some [.sl k 1 0 1,c1,c2,c3,c4]:=by rw[oD hal];exact ha
 have hk1:(F++[⟨[.int .u64 0],1,true⟩])[k]?=some ⟨[B8 u],4,true⟩:=by rw[oD CF];exact hk
 have hc:=hcol _ _ ha2 hk1;have hf:=iE F.length ⟨B++[(B8 u).cells,(B8 u).cells,(B8 u).cells],F++[⟨[.int .u64 0],1,true⟩]⟩ (by simp);simp only[H4,xm,xp,xw]at ha1 hc hf;refine FM Gm λfr hl h0 h1=>?_;simp[Gm]at hl h0 h1;simp[Gm,hl,h0,h1,ha1,e1,h01,hr,hm,hS];refine J4 ?_;simp[Im,hl,h0,hc,hf,h01];refine J4 ?_;simp[hl]
theorem Zn (u:Tm) (a k k2 x:Nat) (B:List (List AV)) (F:List Fam) (c3 c4:AV) (ha:B[a]?=some [.sl k 1 0 1,.int .i64 0,.mp x,c3,c4]) (hx:B[x]?=some [.mbox [] []]) (hk:F[k]?=some ⟨[B8 u],4,true⟩) :
  rc Q R1 [.ptr a 0,.sl k2 1 0 1] ⟨B,F⟩=some (.tup [.sl k2 1 0 1,.sl F.length 1 0 1],⟨B,F++[⟨[.int .u64 0],1,true⟩]⟩):=by
 have hr:G5=140737488355328:=rfl;have hm:maxLen=9223372036854775807:=rfl;have h01:IntKind.i64.wrap 1=1:=by decide
 have e1:D5 .quo (.int .i64 0) (.int .i64 64)=some (.int .i64 0):=by rfl
 suffices hq:∃v h',rc Q R1 [.ptr a 0,.sl k2 1 0 1] ⟨B,F⟩=some (v,h')/\(v=.tup [.sl k2 1 0 1,.sl F.length 1 0 1]/\h'=⟨B,F++[⟨[.int .u64 0],1,true⟩]⟩) by
  obtain⟨v,h',h1,rfl,rfl⟩:=hq;exact h1
 have hml:∀F' z,En false true z ⟨B,F'⟩ (.mp x) (.int .i64 0)=some (.tup [z,.bool false],⟨B,F'⟩):=by
  intro F' z;have e:CK ⟨B,F'⟩ (.mp x)=some ([],[]):=by simp only[CK,hx]
  simp only[En,e];rfl
 refine FM ER λfr hl h0 h1=>?_;simp[ER]at hl h0 h1;simp[ER,hl,h0,ha,e1,h01,hr,hm];refine J4 ?_;simp[GJ,hl,h0,ha,hml,h01];refine J4 ?_;simp[hl,h1]
theorem kO (u:Tm) (hu:OkT u):∃v,pc Q Nv [sl (true,false) 1 [],B8 u]=some (.tup [v,.int .i64 4]):=by
 obtain⟨k,⟨B1,F1⟩,-,-,B',hE,hB,hk⟩:=ku u hu [(B8 u).cells] [];simp only at hB hk;subst hB;have hR:=UZ u hu;obtain⟨B2,hW⟩:=nY u hu 4 k ((B8 u).cells::(B8 u).cells::[AV.mbox [] []]::[AV.mbox [] []]::[AV.sl k 1 0 1,.int .i64 0,.mp 2,.mp 3,.vs true 0 []]::B') F1 _ _ _ _ rfl hk;have hD:=Zn u 4 k F1.length 2 (((B8 u).cells::(B8 u).cells::[AV.mbox [] []]::[AV.mbox [] []]::[AV.sl k 1 0 1,.int .i64 0,.mp 2,.mp 3,.vs true 0 []]::B')++B2) (F1++[⟨[.int .u64 1],1,true⟩]) _ _ rfl rfl (by rw[oD (J1 hk)];exact hk);have hF:=dx;have hz:∀B',y5 ⟨B',F1++[⟨[.int .u64 1],1,true⟩]++[⟨[.int .u64 0],1,true⟩]⟩ true (.sl F1.length 1 0 1)=some (sl (false,true) 1 [.int .u64 1]):=λB'=>Hj (b:=true) (by simp) rfl;simp only[xg,Nat.reduceAdd,xp,xw,xm,H4]at hE hW hD hz;refine⟨sl (true,false) 1 [],?_⟩;refine R9 OF λfr hl h0 h1=>?_;simp[OF]at hl h0 h1;simp[OF,hl,h0,h1,hR,A3,hE,hW,hD,hz,hF]
theorem VQ (m:J0) (S:I1) (C2:S.length<=1048576) (hs:∀x∈S,OkT x) (p:AV) (C:E5) (fr:Fr) (h:AH) (h5:A0 fr 5=p) (hB:∃B,h.boxes=C::B) (hl:fr.length=69) (h22:A0 fr 22=sl m 4 (A4 S)) (h23:A0 fr 23=.int .i64 S.length) (h24:A0 fr 24=.int .i64 0) :
  C8 (lp (A1 (Q8 Q) (G8 W5) S8) (fr,h)) λe D3 h'=>Kp S8.wr fr D3/\(e=.exit 0/\A0 D3 5=p/\∃B,h'.boxes=C::B):=by
 refine C3 rfl fr (λn fr h'=>∃(i:Nat),i+n=S.length/\A0 fr 24=.int .i64 (i:Nat)/\(A0 fr 5=p/\∃B,h'.boxes=C::B)) ?_ S.length h ⟨0,by omega,h24,h5,hB⟩;rintro J Φ hJ hΦ n H0 H1 K ⟨i,hi,k24,hr⟩;have B5:=K.1.trans hl;have k22:=A5 K 22 h22;have k23:=A5 K 23 h23;clear K;by_cases A7:i<S.length
 .have V9:=E6 i (by omega);obtain⟨hr,B,hB⟩:=hr;have hx:=U2 A7;have hX:=MO S[i] (bs [120,111,114]);rw[Rj (hs _ (xX A7)).nm (by decide)]at hX;obtain⟨bx,F⟩:=H1;simp only at hB;subst hB;generalize S[i]=s at *
  simp[S8,B5,k22,k23,k24,A7,V9,hx,hX,A3];exact O9 hJ ⟨i+1,by omega,by simp[B5],by simp[hr],_,rfl⟩
 .obtain⟨hr,hB⟩:=hr;simp[S8,B5,k23,k24,A7];exact hΦ _ _ _ ⟨rfl,by simp[hr],hB⟩
theorem VP (m mr:J0) (S R:I1) (C2:S.length<=1048576) (hs:∀x∈S,OkT x) (hR:d9 R) (hRl:R.length<=1048576) (hRs:∀x∈R,x.size<=1048576) (hn:∀x∈S,P3 R x=false) (C:E5) (fr:Fr) (h:AH) (h12:A0 fr 12=.vs true 0 []) (hB:∃B,h.boxes=C::B) (hl:fr.length=69) (h11:A0 fr 11=sl mr 4 (A4 R)) (h42:A0 fr 42=sl m 4 (A4 S)) (h43:A0 fr 43=.int .i64 S.length) (h44:A0 fr 44=.int .i64 0) :
  C8 (lp (A1 (Q8 Q) (G8 W5) S7) (fr,h)) λe D3 h'=>Kp S7.wr fr D3/\(e=.exit 2/\A0 D3 12=.vs true 0 []/\∃B,h'.boxes=C::B):=by
 refine C3 rfl fr (λn fr h'=>∃(i:Nat),i+n=S.length/\A0 fr 44=.int .i64 (i:Nat)/\(A0 fr 12=.vs true 0 []/\∃B,h'.boxes=C::B)) ?_ S.length h ⟨0,by omega,h44,h12,hB⟩;rintro J Φ hJ hΦ n H0 H1 K ⟨i,hi,k44,hr⟩;have B5:=K.1.trans hl;have k11:=A5 K 11 h11;have k42:=A5 K 42 h42;have k43:=A5 K 43 h43;clear K;by_cases A7:i<S.length
 .have V9:=E6 i (by omega);obtain⟨hr,B,hB⟩:=hr;have hx:=U2 A7;have ho:=hs _ (xX A7);have hX:=MO S[i] (bs [120,111,114]);rw[Rj ho.nm (by decide)]at hX;have hH:=GX mr R S[i] hR (by omega) (λx hx=>by have:=hRs x hx;omega) (by have:=ho.size;omega);rw[hn _ (xX A7)]at hH;obtain⟨bx,F⟩:=H1;simp only at hB;subst hB;generalize S[i]=s at *
  simp[S7,B5,k11,k42,k43,k44,A7,V9,hx,hX,hH,A3];exact O9 hJ ⟨i+1,by omega,by simp[B5],by simp[hr],_,rfl⟩
 .obtain⟨hr,hB⟩:=hr;simp[S7,B5,k43,k44,A7];exact hΦ _ _ _ ⟨rfl,by simp[hr],hB⟩
theorem dt (m:J0) (S:I1) (C2:S.length<=1048576) (hs:∀x∈S,OkT x) (u:Tm) (hu:OkT u) (hn:P3 S u=false) :
  pc Q W5 [sl m 4 (A4 S),B8 u]=some (.bool false):=by
 obtain⟨u',m',hP,he⟩:=gi u hu;obtain⟨R,mr,hO,ID,hsub,hRl⟩:=Xq m' [u'] (λt ht=>by rw[xY.1 ht];have:=(hu.er he).size;omega) (by simp);rw[show A4 [u']=[B8 u'] from rfl]at hO;obtain⟨v,hSp⟩:=kO u hu;have hnR:∀x∈S,P3 R x=false:=by
  intro x hx;rw[bk ID];have h1:=UE hn hx;have:HN u' x=HN u x:=by
   unfold HN;rw[xq,decide_eq_true_iff,decide_eq_true_iff,AC,AC,he]
  simp[P3,this,h1]
 refine R9 CT λfr hl h0 h1=>?_;simp[CT]at hl h0 h1;simp[CT,hl,h0,h1,hP];refine C8.mono (VQ m S C2 hs (sl m' 4 [B8 u']) (B8 u).cells _ _ ?_ ?_ ?_ ?_ ?_ ?_) ?_<;>first|(simp[hl];done)|skip
 rintro e H0 ⟨bx,F⟩ ⟨K,rfl,k5,B,hB⟩;simp only at hB;subst hB;have M7:H0.length=69:=K.1.trans (by simp[hl]);have MB:A0 H0 0=sl m 4 (A4 S):=A5 K 0 (by simp[h0]);have QI:A0 H0 3=.ptr 0 0:=A5 K 3 (by simp[hl]);clear K;simp[M7,MB,k5,hO];refine C8.mono (VP m mr S R C2 hs ID.1 (by simp only[xg]at hRl;omega) (λx hx=>by rw[xY.1 (hsub x hx)];have:=(hu.er he).size;omega) hnR (B8 u).cells _ _ ?_ ?_ ?_ ?_ ?_ ?_ ?_) ?_<;>first|(simp[M7];done)|skip
 rintro e Cq ⟨bx,F2⟩ ⟨K,rfl,k12,B2,hB⟩;simp only at hB;subst hB;have JS:Cq.length=69:=K.1.trans (by simp[M7]);have k3:A0 Cq 3=.ptr 0 0:=A5 K 3 (by simp[QI]);clear K;simp[JS,k12,k3,hSp]
def Dc (S:List Tm) (u:Tm):Bool:=QL u||Cn S u||Hs S u
theorem kV (m:J0) (S:I1) (hS:d9 S) (C2:S.length<=1048576) (hs:∀x∈S,OkT x) (u:Tm) (hu:OkT u) (hn:P3 S u=false) :
  pc Q DS [sl m 4 (A4 S),B8 u]=some (.bool (Dc S u)):=by
 have hs2:∀x∈S,x.size<=1099511627776:=λx hx=>by have:=(hs x hx).size;omega
 have husz:=hu.size;have q0:=GX m S u hS (by omega) hs2 (by omega);rw[hn]at q0;have q1:=dY u hu.nm hu.ow;have q2:=Xg m S hS C2 hs2 u (by omega);have q3:=dh m S hS C2 hs u (by omega);have q4:=dt m S C2 hs u hu hn;have q5:=dj m S C2 hs u hu hn;have q6:=TQ m S hS C2 hs u hu hn;unfold Dc;generalize QL u=c1 at *
 generalize Cn S u=c2 at *
 generalize Hs S u=c3 at *
 cases c1 with
 |true =>
  refine R9 H5 λfr hl h0 h1=>?_;simp[H5]at hl h0 h1;simp[H5,hl,h0,h1,q0,q1]
 |false =>
  cases c2 with
  |true =>
   refine R9 H5 λfr hl h0 h1=>?_;simp[H5]at hl h0 h1;simp[H5,hl,h0,h1,q0,q1,q2]
  |false =>
   cases c3 with
   |true =>
    refine R9 H5 λfr hl h0 h1=>?_;simp[H5]at hl h0 h1;simp[H5,hl,h0,h1,q0,q1,q2,q3]
   |false =>
    refine R9 H5 λfr hl h0 h1=>?_;simp[H5]at hl h0 h1;simp[H5,hl,h0,h1,q0,q1,q2,q3,q4,q5,q6]
inductive Kn (S U:List Tm):Tm->Prop
 |base (e:Tm) (h:e∈S.map D2):Kn S U e
 |step (T:List Tm) (h:∀e,e∈T.map D2->Kn S U e) (u:Tm) (hu:u∈U) (hs:Dc T u=true):Kn S U (D2 u)
def bq (T S:List Tm):Prop:=∀e,e∈T.map D2->e∈S.map D2
theorem PZ {T S:I1} (h:bq T S) {x:Tm} (hx:P3 T x=true):P3 S x=true:=f8.2 (h _ (f8.1 hx))
theorem Qo {a b c d:Tm} (h:D2 a=D2 c) (k:D2 b=D2 d):HN a b=HN c d:=by
 unfold HN;rw[xq,decide_eq_true_iff,decide_eq_true_iff,AC,AC,h,k]
theorem HQ {a b:Tm} (h:D2 a=D2 b) (nm:H6):CI a nm=CI b nm:=by
 obtain⟨h1,h2,-⟩:=JC h;unfold CI;rw[h1,h2]
theorem CJ {a b:Tm} (h:D2 a=D2 b) (i:Nat):D2 (M3 a i)=D2 (M3 b i):=by
 obtain⟨-,-,-,h4⟩:=JC h;rw[E4,E4]at h4;have:∀l:List Tm,D2 (l.getD i Yl)=(l.map D2).getD i (D2 Yl):=by
  intro l;rw[xd,xd,List.getElem?_map];cases l[i]?<;>rfl
 unfold M3;rw[this,this,h4]
theorem js {a b:Tm} (h:D2 a=D2 b):(NO a).map D2=(NO b).map D2:=by
 unfold NO;rw[HQ h,HQ h,HQ (CJ h 1)];by_cases h1:CI b (bs [101,110,99])=true
 .rw[if_pos h1,if_pos h1,xZ,xZ,CJ h]
 .rw[if_neg h1,if_neg h1];by_cases h2:(CI b (bs [97,101,110,99])&&CI (M3 b 1) (bs [112,107]))=true
  .rw[if_pos h2,if_pos h2,xZ,xZ,CJ (CJ h 1)]
  .rw[if_neg h2,if_neg h2]
theorem ZT {T S:I1} (h:bq T S) {u t t':Tm} (he:D2 t=D2 t') (ho:IP T u t=true):IP S u t'=true:=by
 unfold IP at ho ⊢;rw[←HQ he,←HQ he];have e0:HN (M3 t' 0) u=HN (M3 t 0) u:=Qo (CJ he 0).symm rfl;have e1:HN (M3 t' 1) u=HN (M3 t 1) u:=Qo (CJ he 1).symm rfl;rw[e0,e1];by_cases h1:CI t (bs [112,97,105,114])=true
 .rw[if_pos h1]at ho ⊢;exact ho
 .rw[if_neg h1]at ho ⊢;by_cases h2:CI t (bs [115,105,103,110])=true
  .rw[if_pos h2]at ho ⊢;exact ho
  .rw[if_neg h2]at ho ⊢;have hk:=js he;cases hk1:NO t with
   |none=>rw[hk1]at ho;cases ho
   |some k =>
    rw[hk1]at ho hk;cases hk2:NO t' with
    |none=>rw[hk2]at hk;cases hk
    |some k' =>
     rw[hk2,xZ,xZ,Option.some.injEq]at hk;simp only[xn]at ho ⊢;refine⟨ho.1,?_⟩;rw[←Qr hk];exact PZ h ho.2
theorem Sn {T S:I1} (h:bq T S) {u:Tm} (hs:Dc T u=true):Dc S u=true:=by
 unfold Dc at hs ⊢;rw[xr,xr]at hs ⊢;rcases hs with (hs|hs)|hs
 .exact .inl (.inl hs)
 .refine .inl (.inr ?_);unfold Cn at hs ⊢;rw[xn]at hs ⊢;refine⟨hs.1,?_⟩;rw[List.all_eq_true]at hs ⊢;exact λx hx=>PZ h (hs.2 x hx)
 .refine .inr ?_;unfold Hs at hs ⊢;obtain⟨t,ht,ho⟩:=xo.1 hs;obtain⟨t',ht',e⟩:=List.mem_map.1 (h _ (List.mem_map_of_mem ht));exact xo.2 ⟨t',ht',ZT h e.symm ho⟩
def Ye (T U:List Tm):Nat:=(U.filter λu=>!P3 T u).length
theorem Tt {α:Type} {p q:α->Bool}:∀{l:List α},(∀x∈l,q x=true->p x=true)->(∃x∈l,p x=true/\q x=false)->(l.filter q).length<(l.filter p).length
 | [],_,⟨x,hx,_⟩=>absurd hx List.not_mem_nil
 |a::l,h,⟨x,hx,hp,hq⟩=>by
  have Pb:∀{l:List α},(∀x∈l,q x=true->p x=true)->(l.filter q).length<=(l.filter p).length:=by
   intro l
   induction l with
   |nil=>intro _;exact xf _
   |cons a l ih =>
    intro h;have:=ih λx hx=>h x (xi _ hx);rw[xb,xb];by_cases ha:q a=true
    .rw[if_pos ha,if_pos (h a xl ha)];simp only[xa];omega
    .rw[if_neg ha];by_cases hb:p a=true
     .rw[if_pos hb];simp only[xa];omega
     .rw[if_neg hb];exact this
  have h':∀x∈l,q x=true->p x=true:=λx hx=>h x (xi _ hx);rw[xb,xb];rcases List.mem_cons.1 hx with rfl|hx
  .rw[if_pos hp,if_neg (by simp[hq])];have:=Pb h';simp only[xa];omega
  .have:=Tt h' ⟨x,hx,hp,hq⟩;by_cases ha:q a=true
   .rw[if_pos ha,if_pos (h a xl ha)];simp only[xa];omega
   .rw[if_neg ha];by_cases hb:p a=true
    .rw[if_pos hb];simp only[xa];omega
    .rw[if_neg hb];exact this
theorem nw {T T' U:I1} {u:Tm} (h:∀e,e∈T'.map D2↔e=D2 u\/e∈T.map D2) (hu:u∈U) (hn:P3 T u=false):Ye T' U<Ye T U:=by
 refine Tt (λx _ hx=>?_) ⟨u,hu,by simp[hn],?_⟩
 .simp only[Bool.not_eq_true']at hx ⊢;rw[Bool.eq_false_iff]at hx ⊢;exact λk=>hx (PZ (λe he=>(h e).2 (.inr he)) k)
 .have:P3 T' u=true:=f8.2 ((h _).2 (.inl rfl));simp[this]
structure ClS (S U T:List Tm):Prop where
 srt:d9 T
 ok:∀x∈T,OkT x
 kn:∀e,e∈T.map D2->Kn S U e
 sub:bq S T
 len:T.length+Ye T U<=S.length+U.length
theorem dB (m:J0) (S U T:I1) (hb:S.length+U.length<=1048576) (hU:∀x∈U,OkT x) (hT:ClS S U T) (fr:Fr) (h:AH) (h0:∃mT,A0 fr 0=sl mT 4 (A4 T)) (h5:A0 fr 5=.bool false) (hl:fr.length=29) (h9:A0 fr 9=sl m 4 (A4 U)) (h10:A0 fr 10=.int .i64 U.length) (h11:A0 fr 11=.int .i64 0) :
  C8 (lp (A1 (Q8 Q) (G8 U6) K5) (fr,h)) λe D3 h'=>Kp K5.wr fr D3/\(e=.exit 2/\∃(T':List Tm) (mT:Bool×Bool) (c:Bool),A0 D3 0=sl mT 4 (A4 T')/\A0 D3 5=.bool c/\ClS S U T'/\(c=true/\Ye T' U<Ye T U\/c=false/\T'=T/\∀u∈U,P3 T u=true\/Dc T u=false)):=by
 refine C3 rfl fr (λn fr h'=>∃(i:Nat),i+n=U.length/\A0 fr 11=.int .i64 (i:Nat)/\(∃(T':List Tm) (mT:Bool×Bool) (c:Bool),A0 fr 0=sl mT 4 (A4 T')/\A0 fr 5=.bool c/\ClS S U T'/\(c=true/\Ye T' U<Ye T U\/c=false/\T'=T/\∀u∈U.take i,P3 T u=true\/Dc T u=false))) ?_ U.length h ⟨0,by omega,h11,T,h0.choose,false,h0.choose_spec,h5,hT,.inr ⟨rfl,rfl,λu hu=>(nomatch hu)⟩⟩;rintro J Φ hJ hΦ n H0 H1 K ⟨i,hi,k11,hr⟩;have B5:=K.1.trans hl;have k9:=A5 K 9 h9;have k10:=A5 K 10 h10;clear K;by_cases A7:i<U.length
 .have V9:=E6 i (by omega);obtain⟨T',mT,c,k0,k5,hC,hc⟩:=hr;have hx:=U2 A7;have HP:=xX A7;have ho:=hU _ HP;have hs2:∀x∈T',x.size<=1099511627776:=λx hx=>by have:=(hC.ok x hx).size;omega
  have hTl:T'.length<=1048576:=by have:=hC.len;omega
  have hH:=GX mT T' U[i] hC.srt (by omega) hs2 (by have:=ho.size;omega);have htk:∀u∈U.take (i+1),u∈U.take i\/u=U[i]:=λu hu=>by
   rw[xc A7]at hu;rcases List.mem_append.1 hu with h|h
   .exact .inl h
   .exact .inr (xY.1 h)
  obtain⟨bx,F⟩:=H1;by_cases hh:P3 T' U[i]=true
  .have hc':c=true/\Ye T' U<Ye T U\/c=false/\T'=T/\∀u∈U.take (i+1),P3 T u=true\/Dc T u=false:=by
    rcases hc with hc|⟨c1,c2,c3⟩
    .exact .inl hc
    .refine .inr ⟨c1,c2,λu hu=>?_⟩;rcases htk u hu with h|h
     .exact c3 u h
     .rw[h,←c2];exact .inl hh
   rw[hh]at hH;clear htk hc;generalize U[i]=s at *
   simp[K5,B5,k9,k10,k11,A7,V9,k0,hx,hH];exact O9 hJ ⟨i+1,by omega,by simp[B5],T',mT,c,by simp[k0],by simp[k5],hC,hc'⟩
  .have hh':P3 T' U[i]=false:=by simpa using hh
   have hS:=kV mT T' hC.srt hTl hC.ok U[i] ho hh';rw[hh']at hH;by_cases DG:Dc T' U[i]=true
   .obtain⟨T2,m2,hW,w1,w2,w3,w4⟩:=kW mT T' U[i] hC.srt hTl hs2 (by have:=ho.size;omega) hh';have hlt2:=nw w2 HP hh';have hC2:ClS S U T2:=⟨w1,λx hx=>by
      rcases w3 x hx with rfl|hx
      .exact ho
      .exact hC.ok x hx,λe he=>by
      rcases (w2 e).1 he with rfl|he
      .exact .step T' hC.kn _ HP DG
      .exact hC.kn e he,λe he=>(w2 e).2 (.inr (hC.sub e he)),by have:=hC.len;omega⟩
    have hlt3:Ye T2 U<Ye T U:=by
     rcases hc with ⟨-,hc⟩|⟨-,rfl,-⟩
     .omega
     .exact hlt2
    rw[DG]at hS;clear htk hc;generalize U[i]=s at *
    simp[K5,B5,k9,k10,k11,A7,V9,k0,hx,hH,hS,hW];exact O9 hJ ⟨i+1,by omega,by simp[B5],T2,m2,true,by simp[B5],by simp[B5],hC2,.inl ⟨rfl,hlt3⟩⟩
   .have hst':Dc T' U[i]=false:=by simpa using DG
    have hc':c=true/\Ye T' U<Ye T U\/c=false/\T'=T/\∀u∈U.take (i+1),P3 T u=true\/Dc T u=false:=by
     rcases hc with hc|⟨c1,c2,c3⟩
     .exact .inl hc
     .refine .inr ⟨c1,c2,λu hu=>?_⟩;rcases htk u hu with h|h
      .exact c3 u h
      .rw[h,←c2];exact .inr hst'
    rw[hst']at hS;clear htk hc;generalize U[i]=s at *
    simp[K5,B5,k9,k10,k11,A7,V9,k0,hx,hH,hS];exact O9 hJ ⟨i+1,by omega,by simp[B5],T',mT,c,by simp[k0],by simp[k5],hC,hc'⟩
 .obtain⟨T',mT,c,k0,k5,hC,hc⟩:=hr;rw[xe (by omega)]at hc;simp[K5,B5,k10,k11,A7];exact hΦ _ _ _ ⟨rfl,T',mT,c,by simp[k0],by simp[k5],hC,hc⟩
end Go.Abs.Q
