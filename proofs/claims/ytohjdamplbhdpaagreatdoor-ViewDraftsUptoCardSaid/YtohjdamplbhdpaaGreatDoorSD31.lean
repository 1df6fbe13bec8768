/- A part of the proof. -/
import Derived.Test.YtohjdamplbhdpaaGreatDoorSD30
import Derived.KernelRfl
set_option linter.all false
open List renaming getElem?_eq_getElem->oD,length_map->xY,eq_nil_of_length_eq_zero->xa,mem_map->xb,length_replicate->xd,map_append->xe,mem_of_getElem?->xf,mem_range->xg,getD_eq_getElem?_getD->xh,all_eq_true->xi,mem_append->xj,mem_append_left->xk,range->xl,mem_cons->xm,mem_map_of_mem->xn,mem_singleton->xo,all_eq_false->xp,getElem?_map->xq,getElem_mem->xt,length_cons->xu,not_mem_nil->xw,nodup_cons->xy,replicate->xz,length->yC
open Int renaming toNat_natCast->xX,eq_ofNat_of_zero_le->xc
open Nat renaming le_refl->xZ,le_trans->yB,zero_le->yD
open Bool renaming and_eq_true->xr,true_and->yA
namespace Go.Abs.Q
open Go.Proofs
attribute [local simp] D1 D4 fin I2 G0 K7 I3 N4 O5
theorem iG (h:AH) (b:Bool) (xs:E5) (hx:xs.length<=1):rc Q C9 [sl (true,b) 4 xs,.fn A8 []] h=some (A9,h):=by
 refine JL (s:=Uh 4) rfl rfl ?_;show (if xs.length<=1 then some (A9,h)else none)=_
 rw[if_pos hx]
theorem YG (g:FuncId) (h:AH) (b:Bool) (xs:E5) (hx:xs.length<=1):rc Q B9 [sl (true,b) 4 xs,.fn g []] h=some (sl (true,b) 4 xs,h):=by
 suffices hq:∃v h',rc Q B9 [sl (true,b) 4 xs,.fn g []] h=some (v,h')/\(v=sl (true,b) 4 xs/\h'=h) by
  obtain⟨v,h',h1,rfl,rfl⟩:=hq;exact h1
 have h2:(xs.length:Int)<2:=by omega
 refine FM G7 λfr hl h0 h1=>?_;simp[G7]at hl h0 h1;simp[G7,hl,h0,h2]
theorem Td (l:I1) (h:l.length<=1):O1 l l:=by
 refine⟨?_,λ_=>Iff.rfl⟩
 match l,h with
 | [],_=>exact List.Pairwise.nil
 | [a],_=>exact List.pairwise_singleton _ _
theorem sw (g:FuncId) (L:Nat) (l:I1) (v:AV) (B:List (List AV)) (F:List Fam) (hg:WM L true 4 (A4 l) v ⟨B,F⟩) (hcm:∀l':List Tm,(∀x∈l',x∈l)->Px g l') (K3:∀t∈l,t.size<=1099511627776) (C2:l.length<=1048576) :
  ∃F1 v2 F2 R,UJ true ⟨B,F⟩ (rc Q C9 [v,.fn A8 []] ⟨B,F⟩)=some (A9,⟨B,F1⟩)/\rc Q B9 [v,.fn g []] ⟨B,F1⟩=some (v2,⟨B,F2⟩)/\O1 R l/\(∀x∈R,x∈l)/\R.length<=l.length/\v2.isTup=false/\v2.cells=[v2]/\∃m,Bj ⟨B,F2⟩ v2=some (sl m 4 (A4 R)):=by
 rcases hg with ⟨hx,b,rfl⟩|⟨M8,k,hk0,rfl,hk⟩
 .have B5:l.length<=1:=by simpa using hx
  exact⟨F,_,F,l,by rw[iG _ _ _ hx];exact rp _ _,YG _ _ _ _ hx,Td l B5,λ_ h=>h,xZ _,rfl,rfl,(true,b),rfl⟩
 .have hne':l≠[]:=by rintro rfl;exact M8 rfl
  have CF:=J1 hk;have hlv:(A4 l).length=l.length:=by simp
  obtain⟨l',hp,hsort,hS⟩:=Ox k ⟨B,F⟩ l hk hne' K3 (by omega);have hl':l'.length=l.length:=hp.length_eq;have hcm:=hcm l' (λx hx=>hp.mem_iff.1 hx);obtain⟨Z,hZ,hZR,hK⟩:=IS g l' hcm k ⟨B,F.set k ⟨A4 l',4,true⟩⟩ (by simp only at CF;simp[CF]) (by omega);obtain⟨s1,s2,s3⟩:=KW l' hsort;rw[hl']at hK hZ;generalize P4 l'=R at *
  simp only[List.set_set]at hK hS CF;have e1:(A4 Z).length=l.length:=by rw[D7,xY,hZ]
  have e2:(A4 Z).take R.length=A4 R:=by rw[←Um,hZR]
  have e3:R.length<=l.length:=by omega
  rw[hlv];refine⟨_,_,_,R,by rw[hS];exact fy _ _ _,hK,⟨s1.1,λe=>(s1.2 e).trans (by simp only[xb,hp.mem_iff])⟩,λx hx=>hp.mem_iff.1 (s2 x hx),e3,rfl,rfl,(false,true),?_⟩;rw[HD,Do];simp[CF,e1,e2,e3]
theorem Xe (a b:Tm) (h:a.size<=1099511627776) (h':b.size<=1099511627776):pc Q x5 [B8 a,B8 b]=some (.bool (decide (G9 a b=0))):=by
 have hC:=Z3 _ a b (xZ _) h h';refine R9 CY λfr hl h0 h1=>?_;simp[CY]at hl h0 h1;simp[CY,hl,h0,h1,hC]
noncomputable def jP (k:List Tm) (t:Tm):List Tm:=FL k t.size t
theorem mD (k:I1):∀(N:Nat) (t:Tm),∀x∈FL k N t,x.size<=t.size:=by
 intro N
 induction N with
 |zero=>intro t x hx;exact absurd hx xw
 |succ N ih =>
  intro t x hx;have hkid:∀i,(M3 t i).size<=t.size:=λi=>by
   unfold M3;rw[xh];cases h:t.kids[i]? with
   |none=>have:=t.size_pos;simp[Yl,Tm.size,Tm.sizes];omega
   |some y=>have h1:=Tm.size_le (xf h);have h2:=t.kids_size;simp only[Option.getD_some];omega
  have h0:∀i,∀x∈FL k N (M3 t i),x.size<=t.size:=λi x hx=>yB (ih _ x hx) (hkid i);have h1:∀x∈[t],x.size<=t.size:=λx hx=>by rw[xo.1 hx];exact xZ _
  have h2:∀x∈([]:List Tm),x.size<=t.size:=λx hx=>absurd hx xw;rw[FL]at hx
  repeat' split at hx
  all_goals first|exact h0 _ x hx|exact h1 x hx|exact h2 x hx|skip
  rcases xj.1 hx with hx|hx<;>exact h0 _ x hx
theorem ZY (r n:Nar) (F:Fine n) (S:Lens n) (hz:(Ae n).2=0) (hR:Right n) (he:Oc r=DA (G3 (B4 n) (D6 n)) n) (i:Nat) (hi:i<r.steps.length) (hAe:TY r.steps[i].msg) :
  ∃m R,pc Q V0 [Dx r n,.int .i64 (i:Nat)]=some (sl m 4 (A4 R))/\O1 R (jP (NX (true,true) r n r.steps[i].to (Jq r.roles r.steps[i].to) (i+1)) r.steps[i].msg)/\Tm.sizes R<=10000/\R.length<=40:=by
 have sb:=BK r n;have hx:=H8 (f:=Ci) (oD hi);have HP:=xt hi;obtain⟨hmA,hmS⟩:=XW hR he HP;obtain⟨hsm,-⟩:=LB hR.nar he;obtain⟨e2,e3,e5⟩:=Hl he;have hrl:=hsm.roles;have hstl:=hsm.steps;have hto:r.steps[i].to∈r.roles:=by
  have hm:LX r.steps[i]∈n.steps.map (DB (G3 (B4 n) (D6 n))):=by rw[←(AE he).2.2.2.2.1];exact xn HP
  obtain⟨s',hs',e⟩:=xb.1 hm;unfold LX DB at e;injection e with _ e _ _
  rw[←e,e2];exact(Kz (hR.steps s' hs')).2.1
 generalize r.steps[i]=s at *
 obtain⟨x1,x2⟩:=Kw hto;have hrole:=Xv r n hrl s.to;rw[x2]at hrole;obtain⟨mk,hK⟩:=SM r n F S hz hsm e2 (Jq r.roles s.to) s.to x1 (i+1) (by omega);have LP:∀x∈NX (true,true) r n s.to (Jq r.roles s.to) (i+1),GoodT x:=λx hx=>by
  obtain⟨h1,h2⟩:=Rl hR he (by rw[←e2];exact hto) hx;exact h1.good h2
 have CF:=VM (m:=(true,true)) (me:=s.to) (role:=Jq r.roles s.to) (q:=i+1) hsm;generalize MA:NX (true,true) r n s.to (Jq r.roles s.to) (i+1)=kk at *
 obtain⟨v,h',b1,b2,b3,⟨B,b4⟩,-⟩:=eD mk kk LP (by omega) _ s.msg (xZ _) hmA hAe hmS ⟨[(Dx r n).cells,(Ci s).cells],[]⟩;have b5:=Rm b1 (Js b2.a).2.2.2 ⟨B,b4⟩;obtain⟨bx,Fb⟩:=h';have K3:∀t∈FL kk s.msg.size s.msg,t.size<=40:=λt ht=>yB (mD kk _ _ t ht) hmS;obtain⟨F1,v2,F2,R,c1,c2,c3,c4,c5,c6,c7,m,c8⟩:=sw x5 _ _ v [(Dx r n).cells,(Ci s).cells] Fb (Lb b2 rfl) (λl' hl'=>⟨rfl,λa ha b hb=>Xe a b (by have:=K3 a (hl' a ha);omega) (by have:=K3 b (hl' b hb);omega)⟩) (λt ht=>by have:=K3 t ht;omega) (by omega)
 suffices hq:∃w,pc Q V0 [Dx r n,.int .i64 (i:Nat)]=some w/\w=sl m 4 (A4 R) by
  obtain⟨w,hw,rfl⟩:=hq;exact⟨m,R,hw,c3,by have:=MZ λx hx=>K3 x (c4 x hx);have:R.length*40<=40*40:=Nat.mul_le_mul_right 40 (by omega);omega,by omega⟩
 have hw:=E6 i (by omega);rw[show ((i+1:Nat):Int)=(i:Int)+1 from by omega]at hK;have ss:(Ci s).cells=[.str s.frm,.str s.to,.int .i64 s.msg.kind,.str s.msg.name,.int .i64 s.msg.sort,sl s.msg.cm 4 (A4 s.msg.kids),.int .i64 s.line]:=by
  show [.str s.frm,.str s.to]++(B8 s.msg).cells++[.int .i64 s.line]=_;rw[H4];rfl
 simp only[sb,ss]at b5 c1 c2 c8;refine TT Dj λΨ hΨ fr hl h0 h1=>?_;simp[Dj]at hl h0 h1;simp[Dj,hl,h0,h1,sb,hx,hw,hrole,hK,b5,c1,c2,c8];exact hΨ _ rfl
theorem fG {k k':I1} (hk:k.map D2=k'.map D2):∀(N:Nat) {t t':Tm},D2 t=D2 t'->(FL k N t).map D2=(FL k' N t').map D2:=by
 intro N
 induction N with
 |zero=>intro t t' _;rfl
 |succ N ih =>
  intro t t' h;have hd:∀i,(Q7 k (M3 t i)).2=(Q7 k' (M3 t' i)).2:=λi=>by rw[Mv hk (CJ h i)]
  have hd2:(Q7 k (M3 (M3 t 1) 0)).2=(Q7 k' (M3 (M3 t' 1) 0)).2:=by rw[Mv hk (CJ (CJ h 1) 0)]
  have hone:[t].map D2=[t'].map D2:=by simp[h]
  rw[FL,FL,HQ h,HQ h,HQ h,HQ h,HQ h,hd,hd,hd2];split
  .rw[xe,xe,ih (CJ h 0),ih (CJ h 1)]
  .split
   .exact ih (CJ h 0)
   .split
    .split
     .exact ih (CJ h 0)
     .exact hone
    .split
     .split
      .exact ih (CJ h 0)
      .split
       .rfl
       .exact hone
     .split
      .split
       .rfl
       .exact hone
      .rfl
theorem mC {k k':I1} (hk:k.map D2=k'.map D2) {t t':Tm} (h:D2 t=D2 t'):(jP k t).map D2=(jP k' t').map D2:=by
 have hs:t.size=t'.size:=by rw[←Dn _ t (xZ _),←Dn _ t' (xZ _),h]
 unfold jP;rw[hs];exact fG hk _ h
theorem bi {R l l':I1} (h:O1 R l) (e:l.map D2=l'.map D2):O1 R l':=⟨h.1,λx=>by rw[←e];exact h.2 x⟩
theorem ai {α:Type}:∀{a b:List α},a.Nodup->(∀x∈a,x∈b)->a.length<=b.length
 | [],_,_,_=>yD _
 |x::a,b,hn,hs=>by
  obtain⟨s,t,rfl⟩:=List.append_of_mem (hs x List.mem_cons_self);obtain⟨h1,h2⟩:=xy.1 hn;have:=ai (b:=s++t) h2 λy hy=>by
   have h3:=hs y (List.mem_cons_of_mem _ hy);have M8:y≠x:=λe=>h1 (e ▸ hy);rcases xj.1 h3 with h|h
   .exact xk _ h
   .rcases xm.1 h with h|h
    .exact absurd h M8
    .exact List.mem_append_right _ h
  simp only[List.length_append,xu]at this ⊢;omega
theorem WS {R l:I1} (h:O1 R l):(R.map D2).Nodup:=by
 have h1:=h.1;clear h
 induction R with
 |nil=>exact List.nodup_nil
 |cons a R ih =>
  obtain⟨p,q⟩:=List.pairwise_cons.1 h1;rw[List.map_cons];refine xy.2 ⟨λhm=>?_,ih q⟩;obtain⟨x,hx,e⟩:=xb.1 hm;have:=p x hx;rw[AC.2 e.symm]at this;omega
theorem RJ {R l:I1} (h:O1 R l):R.length<=l.length:=by
 have:=ai (WS h) λx hx=>(h.2 x).1 hx;simpa using this
theorem Tc {R l:I1} (h:O1 R l):R=[]↔l=[]:=by
 constructor
 .rintro rfl;cases l with
  |nil=>rfl
  |cons a l=>exact absurd ((h.2 (D2 a)).2 (by simp)) (by simp)
 .rintro rfl;have:=RJ h;exact xa (by simpa using this)
theorem aO (k:I1) (t:Tm):We k t<=(alls (k++[t])).length:=by
 unfold We;split
 .rename_i h;exact RJ h.choose_spec
 .exact yD _
theorem lk {t t':Tm} (h:TY t') (e:D2 t=D2 t'):TY t:=λx hx hi=>by
 obtain⟨y,hy,e1⟩:=Uv e hx;rw[HQ (CJ e1.symm 1)];exact h y hy (by rw[←HQ e1.symm];exact hi)
theorem Ym {t:Tm} (h:CI t (bs [97,101,110,99])=true->CI (M3 t 1) (bs [112,107])=true) (hk:∀x∈t.kids,TY x):TY t:=λy hy=>by
 rw[AY,I9]at hy;rcases xm.1 hy with rfl|hy
 .exact h
 .obtain⟨x,hx,hy⟩:=List.mem_flatMap.1 hy;exact hk x hx y hy
theorem OI (a:H6) (s:Int) (m:J0):TY (.mk 2 a s m []):=Ym (λh=>absurd (JD.1 h).1 (by simp[Tm.kind])) λx hx=>nomatch hx
theorem KS {nm:H6} {m:J0} {l:I1} (h:nm≠bs [97,101,110,99]) (hl:∀x∈l,TY x):TY (.mk 3 nm 0 m l):=Ym (λq=>absurd (JD.1 q).2 h) hl
theorem ed (a:H6):TY (PM a):=KS (l:=[D2 (HM a)]) (by decide) (Ll (OI _ _ _))
theorem eZ (a:H6):TY (Ow a):=KS (l:=[PM a]) (by decide) (Ll (ed a))
theorem ll (a b:H6):TY (KR a b):=KS (l:=[D2 (HM a),D2 (HM b)]) (by decide) (HO (OI _ _ _) (OI _ _ _))
theorem Wt.aeN {ro:ByteArray->Prop} {ok:ByteArray->Int->Prop} {t:Tm} (h:Wt ro ok t):TY t:=by
 induction h with
 |atom a s h=>exact OI _ _ _
 |pair x y _ _ ix iy=>exact KS (by decide) (HO ix iy)
 |enc x y _ _ ix iy=>exact KS (by decide) (HO ix iy)
 |hash x _ ix=>exact KS (by decide) (Ll ix)
 |aenc x r _ h ix=>exact Ym (λ_=>rfl) (HO ix (eZ r))
 |sign x r _ h ix=>exact KS (by decide) (HO ix (ed r))
 |pk r h=>exact eZ r
 |shk a b h h' _=>exact ll a b
theorem mq {r n:Nar} (hR:Right n) (he:Oc r=DA (G3 (B4 n) (D6 n)) n) {s:Ste} (hs:s∈r.steps):TY s.msg:=by
 have hm:LX s∈n.steps.map (DB (G3 (B4 n) (D6 n))):=by rw[←(AE he).2.2.2.2.1];exact xn hs
 obtain⟨s',hs',e⟩:=xb.1 hm;unfold LX DB at e;injection e with _ _ e _
 exact lk (hR.msg hs').1.aeN (by rw[e,Wp])
noncomputable def Jv (n:Nar) (i:Nat):List Tm :=
 match (n.steps.map (DB (G3 (B4 n) (D6 n))))[i]? with
 |some s=>jP (KQ (G3 (B4 n) (D6 n)) n s.to (Jq n.roles s.to) (i+1)) s.msg
 |none=>[]
theorem gn (r n:Nar) (F:Fine n) (S:Lens n) (hz:(Ae n).2=0) (hR:Right n) (he:Oc r=DA (G3 (B4 n) (D6 n)) n) (i:Nat) (hi:i<r.steps.length) :
  ∃m R,pc Q V0 [Dx r n,.int .i64 (i:Nat)]=some (sl m 4 (A4 R))/\O1 R (Jv n i)/\Tm.sizes R<=10000/\R.length<=40:=by
 have HP:=xt hi;obtain⟨m,R,h1,h2,h3,h4⟩:=ZY r n F S hz hR he i hi (mq hR he HP);refine⟨m,R,h1,bi h2 ?_,h3,h4⟩;obtain⟨e2,e3,e5⟩:=Hl he;have hq:(n.steps.map (DB (G3 (B4 n) (D6 n))))[i]?=some (LX r.steps[i]):=by
  rw[←(AE he).2.2.2.2.1,xq,oD hi];rfl
 have hto:r.steps[i].to∈n.roles:=by
  obtain⟨s',hs',e⟩:=xb.1 (xf hq);unfold LX DB at e;injection e with _ e _ _
  rw[←e];exact(Kz (hR.steps s' hs')).2.1
 unfold Jv;rw[hq];simp only[LX];refine mC ?_ (Wp _).symm;rw[e2,Rk hR.dec he (Kw hto).1];exact Pd hR.dec he (Kw hto).1 _
noncomputable def Sr (n:Nar):Bool:=decide ((Ae n).2=0)&&(xl n.steps.length).all λi=>(Jv n i).isEmpty
theorem kH (r na:Nar) (F:Fine na) (S:Lens na) (hz:(Ae na).2=0) (hR:Right na) (he:Oc r=DA (G3 (B4 na) (D6 na)) na) (C0:E5) (hstl:r.steps.length<=1000) (fr:Fr) (h:AH) (B0:List (List AV)) (hB0:h.boxes=C0::(Dx r na).cells::B0) (hl:fr.length=26) (h3:A0 fr 3=.ptr 1 0) (h16:A0 fr 16=.int .i64 r.steps.length) (h17:A0 fr 17=.int .i64 0) :
  C8 (lp (A1 (Q8 Q) (G8 Ds) CC) (fr,h)) λe D3 h'=>Kp CC.wr fr D3/\((e=.exit 0/\(∀j,j<r.steps.length->Jv na j=[]))\/(e=.ret/\A0 D3 2=.bool false/\∃j,j<r.steps.length/\Jv na j≠[])):=by
 refine C3 rfl fr (λn fr h'=>∃(i:Nat),i+n=r.steps.length/\A0 fr 17=.int .i64 (i:Nat)/\(∃B,h'.boxes=C0::(Dx r na).cells::B)/\(∀j,j<i->Jv na j=[])) ?_ r.steps.length h ⟨0,by omega,h17,⟨_,hB0⟩,λj h=>absurd h (Nat.not_lt_zero j)⟩;rintro J Φ hJ hΦ n H0 H1 K ⟨i,hi,k17,hr⟩;have B5:=K.1.trans hl;have k3:=A5 K 3 h3;have k16:=A5 K 16 h16;clear K;by_cases A7:i<r.steps.length
 .have V9:=E6 i (by omega);obtain⟨⟨B,hB⟩,hr⟩:=hr;obtain⟨bx,fams⟩:=H1;simp only at hB;subst hB;have sb:=BK r na;obtain⟨m,R,hb1,hb2,-,hb4⟩:=gn r na F S hz hR he i A7;have hnil:=Tc hb2;cases R with
  |nil =>
   simp[CC,B5,k3,k16,k17,A7,V9,sb,hb1];exact⟨n-1,by omega,hJ _ _ _ ⟨i+1,by omega,by simp[B5],⟨B,by rw[sb]⟩,λj hj=>by
    rcases Nat.lt_or_eq_of_le (Nat.lt_succ_iff.1 hj)with h|rfl
    .exact hr j h
    .exact hnil.1 rfl⟩⟩
  |cons a R =>
   have N7:(0:Int)<((A4 (a::R)).length:Int):=by simp only[D7,xY,xu];omega
   simp[CC,B5,k3,k16,k17,A7,sb,hb1];exact hΦ _ _ _ (.inr ⟨rfl,by simp[B5],i,A7,λh=>nomatch hnil.2 h⟩)
 .obtain⟨⟨B,hB⟩,hr⟩:=hr;simp[CC,B5,k16,k17,A7];exact hΦ _ _ _ (.inl ⟨rfl,λj hj=>hr j (by omega)⟩)
theorem SG (n:Nar) (F:Fine n) (S:Lens n):pc Q Ds [X7 n]=some (.bool (Sr n)):=by
 obtain⟨r,hO,hE⟩:=Vi n F S;have nb:=Y6 n;have sb:=BK r n;by_cases h1:(Ae n).2=0
 .have he:=hE h1;obtain⟨-,hR⟩:=KK h1;obtain⟨hsm,-⟩:=LB hR.nar he;obtain⟨e2,-,e5⟩:=Hl he;have hT:Sr n=(xl n.steps.length).all λi=>(Jv n i).isEmpty:=by unfold Sr;simp[h1]
  rw[h1]at hO;rw[hT];refine N0 EE λfr hl h0=>?_;simp[EE]at hl h0;simp[EE,hl,h0,nb,sb,hO];refine C8.mono (kH r n F S h1 hR he (X7 n).cells hsm.steps _ _ [] ?_ ?_ ?_ ?_ ?_) ?_<;>first|(simp[hl,nb,sb];done)|skip
  rintro e H0 ⟨bx,F1⟩ ⟨K,⟨rfl,hn⟩|⟨rfl,l2,j,hj,hn⟩⟩
  .have B5:H0.length=26:=K.1.trans (by simp[hl]);have hA:(xl n.steps.length).all (λi=>(Jv n i).isEmpty)=true:=by
    rw[xi];intro i hi;rw[hn i (by rw[e5];exact xg.1 hi)];rfl
   simp[B5,hA]
  .have hA:(xl n.steps.length).all (λi=>(Jv n i).isEmpty)=false:=by
    rw[xp];exact⟨j,xg.2 (by omega),by simpa using hn⟩
   simp[l2,hA]
 .have hT:Sr n=false:=by unfold Sr;simp[h1]
  rw[hT];generalize (Ae n).2=e at *
  have M8:=h1;refine N0 EE λfr hl h0=>?_;simp[EE]at hl h0;simp[EE,hl,h0,nb,sb,hO,M8]
def Ys (n:Nar) (role step:Int):Int:=if Sw n role step≠0 then Sw n role step else match n.steps[step.toNat]? with
 |some s=>if some s.to=n.roles[role.toNat]? then 0 else 7
 |none=>7
theorem dv (n:Nar) (F:Fine n) (S:Lens n) (role step:Int):∃(m:J0) (l:I1),pc Q Hp [X7 n,.int .i64 role,.int .i64 step]=some (.tup [sl m 4 (A4 l),.int .i64 (Ys n role step)])/\(Ys n role step=0->O1 l (Jv n step.toNat)/\Tm.sizes l<=10000/\l.length<=40)/\(Ys n role step≠0->l=[]):=by
 suffices hq:∃v,pc Q Hp [X7 n,.int .i64 role,.int .i64 step]=some v/\∃(m:Bool×Bool) (l:List Tm),v=.tup [sl m 4 (A4 l),.int .i64 (Ys n role step)]/\(Ys n role step=0->O1 l (Jv n step.toNat)/\Tm.sizes l<=10000/\l.length<=40)/\(Ys n role step≠0->l=[]) by
  obtain⟨v,h1,m,l,rfl,h2⟩:=hq;exact⟨m,l,h1,h2⟩
 obtain⟨r,n',hO,hE⟩:=lW n F S role step;have nb:=Y6 n;have sb:=BK r n';have hz4:sl (true,false) 4 (A4 [])=.vs true 0 []:=rfl;by_cases hat:Sw n role step=0
 .obtain⟨rfl,he⟩:=hE hat;obtain⟨hs0,g1,g2,g3,g4⟩:=WY hat;obtain⟨-,hR⟩:=KK hs0;obtain⟨hsm,-⟩:=LB hR.nar he;obtain⟨e2,-,e5⟩:=Hl he;obtain⟨role,rfl⟩:=xc g1;obtain⟨step,rfl⟩:=xc g3;simp only[xX]at g2 g4 ⊢;rw[hat]at hO;by_cases h2:step=n'.steps.length
  .have hB:Ys n' role step=7:=by unfold Ys;rw[if_neg (by simp[hat])];simp only[xX];rw[List.getElem?_eq_none (by omega)]
   rw[hB];obtain rfl:step=r.steps.length:=by omega
   refine Xw T8 λΨ hΨ fr hl h0 h1 h2=>?_;simp[T8]at hl h0 h1 h2;simp[T8,hl,h0,h1,h2,nb,sb,hO];exact hΨ _ ⟨(true,false),[],rfl,by simp⟩
  .have h2':¬(step:Int)=r.steps.length:=by omega
   have A7:step<r.steps.length:=by omega
   have hx:=H8 (f:=Ci) (oD A7);have hlr:role<r.roles.length:=by rw[e2];exact g2
   have hy:=H8 (f:=AV.str) (oD hlr);have hss:n'.steps[step]?=some (n'.steps[step]'(by omega)):=oD _;have hto:(n'.steps[step]'(by omega)).to=r.steps[step].to:=by
    have:=(AE he).2.2.2.2.1;have h3:=congrArg (·[step]?) this;simp only[xq,oD A7,hss,Option.map_some,Option.some.injEq]at h3;unfold LX DB at h3;injection h3 with _ h3 _ _
    exact h3.symm
   have hrr:n'.roles[role]?=some r.roles[role]:=by rw[←e2];exact oD hlr
   by_cases h3:r.steps[step].to=r.roles[role]
   .have hB:Ys n' role step=0:=by unfold Ys;rw[if_neg (by simp[hat])];simp only[xX];rw[hss];simp only[hto,hrr,h3];rfl
    rw[hB];obtain⟨m,R,hb1,hb2,hb3,hb4⟩:=gn r n' F S hs0 hR he step A7;obtain⟨m',l',hc1,hc2⟩:=UV _ m R (xZ _) (by omega);refine Xw T8 λΨ hΨ fr hl h0 h1 h2=>?_;simp[T8]at hl h0 h1 h2;simp[T8,hl,h0,h1,h2,nb,sb,hO,h2',hx,hy,h3,hb1,hc1];refine hΨ _ ⟨m',l',rfl,λ_=>⟨Py hb2 hc2,?_,?_⟩,λh=>absurd rfl h⟩
    .rw[←Lv l',hc2,Lv];exact hb3
    .have:=congrArg yC hc2;rw[E4,E4,xY,xY]at this;omega
   .have hB:Ys n' role step=7:=by unfold Ys;rw[if_neg (by simp[hat])];simp only[xX];rw[hss];simp only[hto,hrr,Option.some.injEq,h3,if_false]
    rw[hB];refine Xw T8 λΨ hΨ fr hl h0 h1 h2=>?_;simp[T8]at hl h0 h1 h2;simp[T8,hl,h0,h1,h2,nb,sb,hO,h2',hx,hy,h3];exact hΨ _ ⟨(true,false),[],rfl,by simp⟩
 .have hB:Ys n role step=Sw n role step:=by unfold Ys;rw[if_pos hat]
  rw[hB];generalize Sw n role step=e at *
  have M8:=hat;refine Xw T8 λΨ hΨ fr hl h0 h1 h2=>?_;simp[T8]at hl h0 h1 h2;simp[T8,hl,h0,h1,h2,nb,sb,hO,M8];exact hΨ _ ⟨(true,false),[],rfl,λh=>absurd h M8,λ_=>rfl⟩
noncomputable def KB (kf:Nat->List Tm) (t:Tm):Nat->Nat->Int×Int
 |_,0=>(0,4)
 |i,c+1=>if (Q7 (kf i) t).1≠0 then (0,(Q7 (kf i) t).1)else if (Q7 (kf i) t).2=true then ((i:Nat),0)else KB kf t (i+1) c
theorem an {kf kf':Nat->List Tm} {t t':Tm} (h:∀i,(kf i).map D2=(kf' i).map D2) (ht:D2 t=D2 t'):∀(c i:Nat),KB kf t i c=KB kf' t' i c
 |0,_=>rfl
 |c+1,i=>by rw[KB,KB,Mv (h i) ht,an h ht c (i+1)]
theorem kD (L:List Unit) (hL1:L.length<=2000) (r na:Nar) (hL:L.length=r.steps.length+1) (F:Fine na) (S:Lens na) (hz:(Ae na).2=0) (hR:Right na) (he:Oc r=DA (G3 (B4 na) (D6 na)) na) (t:Tm) (ht:GoodT t) (me:H6) (role:Nat) (hme:r.roles[role]?=some me) (C0:E5) (fr:Fr) (h:AH) (B0:List (List AV)) (hB0:h.boxes=C0::(B8 t).cells::(Dx r na).cells::B0) (hl:fr.length=45) (h5:A0 fr 5=.ptr 1 0) (h8:A0 fr 8=.ptr 2 0) (h1:A0 fr 1=.int .i64 (role:Nat)) (h26:A0 fr 26=.int .i64 L.length) (h27:A0 fr 27=.int .i64 0) :
  C8 (lp (A1 (Q8 Q) (G8 EZ) s7) (fr,h)) λe D3 h'=>Kp s7.wr fr D3/\((e=.exit 0/\KB (NX (true,true) r na me role) t 0 L.length=(0,4))\/(e=.ret/\A0 D3 6=.int .i64 (KB (NX (true,true) r na me role) t 0 L.length).1/\A0 D3 7=.int .i64 (KB (NX (true,true) r na me role) t 0 L.length).2)):=by
 refine C3 rfl fr (λn fr h'=>∃(i:Nat),i+n=L.length/\A0 fr 27=.int .i64 (i:Nat)/\(∃B,h'.boxes=C0::(B8 t).cells::(Dx r na).cells::B)/\KB (NX (true,true) r na me role) t i (L.length-i)=KB (NX (true,true) r na me role) t 0 L.length) ?_ L.length h ⟨0,by omega,h27,⟨_,hB0⟩,rfl⟩;rintro J Φ hJ hΦ n H0 H1 K ⟨i,hi,k27,hr⟩;have B5:=K.1.trans hl;have k5:=A5 K 5 h5;have k8:=A5 K 8 h8;have k1:=A5 K 1 h1;have k26:=A5 K 26 h26;clear K;by_cases A7:i<L.length
 .have V9:=E6 i (by omega);obtain⟨⟨B,hB⟩,hr⟩:=hr;obtain⟨bx,fams⟩:=H1;simp only at hB;subst hB;have sb:=BK r na;obtain⟨hsm,-⟩:=LB hR.nar he;obtain⟨e2,e3,e5⟩:=Hl he;obtain⟨mk,hK⟩:=SM r na F S hz hsm e2 role me hme i (by omega);have LP:∀x∈NX (true,true) r na me role i,GoodT x:=λx hx=>by
   obtain⟨h1,h2⟩:=Rl hR he (by rw[←e2];exact xf hme) hx;exact h1.good h2
  have CF:=VM (m:=(true,true)) (me:=me) (role:=role) (q:=i) hsm;have hD:=VZ mk _ t LP ht (by omega);rw[show L.length-i=(L.length-(i+1))+1 from by omega,KB]at hr;generalize NX (true,true) r na me role i=kk at *
  generalize Q7 kk t=d at *
  obtain⟨de,db⟩:=d;simp only at hD hr;have ht4:(B8 t).cells=[.int .i64 t.kind,.str t.name,.int .i64 t.sort,sl t.cm 4 (A4 t.kids)]:=H4 t;by_cases hde:de=0
  .subst hde;rw[if_neg (by simp)]at hr;cases db with
   |true =>
    simp only[if_true]at hr;simp[s7,B5,k5,k8,k1,k26,k27,A7,sb,hK,hD];exact hΦ _ _ _ (.inr ⟨rfl,by rw[←hr];simp[B5],by rw[←hr];simp[B5]⟩)
   |false =>
    simp only[Bool.false_eq_true,if_false]at hr;simp[s7,B5,k5,k8,k1,k26,k27,A7,V9,sb,hK,hD];exact O9 hJ ⟨i+1,by omega,by simp[B5],⟨B,by rw[sb,H4]⟩,hr⟩
  .rw[if_pos hde]at hr;simp[s7,B5,k5,k8,k1,k26,k27,A7,sb,hK,hD,hde];exact hΦ _ _ _ (.inr ⟨rfl,by rw[←hr];simp[B5],by rw[←hr];simp[B5]⟩)
 .obtain⟨⟨B,hB⟩,hr⟩:=hr;rw[show L.length-i=0 from by omega,KB]at hr;simp[s7,B5,k26,k27,A7];exact hΦ _ _ _ (.inl ⟨rfl,hr.symm⟩)
noncomputable def Rt (n:Nar) (role:Int) (t:Tm):Int×Int :=
 if Sw n role 0≠0 then (0,Sw n role 0)else KB (KQ (G3 (B4 n) (D6 n)) n (n.roles.getD role.toNat (bs [])) role.toNat) t 0 (n.steps.length+1)
theorem UT (n:Nar) (F:Fine n) (S:Lens n) (role:Int) (t:Tm) (ht:GoodT t):pc Q EZ [X7 n,.int .i64 role,B8 t]=some (.tup [.int .i64 (Rt n role t).1,.int .i64 (Rt n role t).2]):=by
 obtain⟨r,n',hO,hE⟩:=lW n F S role 0;have nb:=Y6 n;have sb:=BK r n';by_cases hat:Sw n role 0=0
 .obtain⟨rfl,he⟩:=hE hat;obtain⟨hs0,g1,g2,g3,g4⟩:=WY hat;obtain⟨-,hR⟩:=KK hs0;obtain⟨hsm,-⟩:=LB hR.nar he;obtain⟨e2,-,e5⟩:=Hl he;obtain⟨role,rfl⟩:=xc g1;simp only[xX]at g2;have hL:Rt n' role t=KB (KQ (G3 (B4 n') (D6 n')) n' (n'.roles.getD role (bs [])) role) t 0 (n'.steps.length+1):=by
   unfold Rt;rw[if_neg (by simp[hat]),xX]
  have hme:r.roles[role]?=some (n'.roles.getD role (bs [])):=by
   rw[e2,xh,oD g2];rfl
  have hX:Rt n' role t=KB (NX (true,true) r n' (n'.roles.getD role (bs [])) role) t 0 (xz (r.steps.length+1) ()).length:=by
   rw[hL,xd,e5];refine an (λi=>?_) rfl _ _;have hme':n'.roles[role]?=some (n'.roles.getD role (bs [])):=by have h:=hme;rw[e2]at h;exact h
   rw[Rk hR.dec he hme'];exact(Pd hR.dec he hme' _).symm
  rw[hat]at hO;rw[hX];generalize n'.roles.getD role (bs [])=me at *
  have DG:=hsm.steps;have hw:IntKind.i64.wrap ((r.steps.length:Int)+1)=(r.steps.length:Int)+1:=M5 (by omega) (by omega);refine JZ Cx λfr hl h0 h1 h2=>?_;simp[Cx]at hl h0 h1 h2;simp[Cx,hl,h0,h1,h2,nb,sb,hO,hw];refine C8.mono (kD (xz (r.steps.length+1) ()) (by simp;omega) r n' (by simp) F S hs0 hR he t ht me role hme (X7 n').cells _ _ [] ?_ ?_ ?_ ?_ ?_ ?_ ?_) ?_<;>first|(simp[hl,nb,sb,h1];done)|skip
  rintro e H0 ⟨bx,F1⟩ ⟨K,⟨rfl,hn⟩|⟨rfl,l6,l7⟩⟩
  .have B5:H0.length=45:=K.1.trans (by simp[hl]);simp only[xd]at hn;simp[B5,hn]
  .simp only[xd]at l6 l7;simp[l6,l7]
 .have hX:Rt n role t=(0,Sw n role 0):=by unfold Rt;rw[if_pos hat]
  rw[hX];generalize Sw n role 0=e at *
  have M8:=hat;refine JZ Cx λfr hl h0 h1 h2=>?_;simp[Cx]at hl h0 h1 h2;simp[Cx,hl,h0,h1,h2,nb,sb,hO,M8]
end Go.Abs.Q
namespace Go.Abs.Q
open Go.Proofs
theorem jw {S U T:I1} (hS:bq S T) (Cr:∀u∈U,P3 T u=true\/Dc T u=false) {e:Tm} (h:Kn S U e):e∈T.map D2:=by
 induction h with
 |base e h=>exact hS e h
 |step T0 _ u hu hs ih =>
  rcases Cr u hu with h|h
  .exact f8.1 h
  .rw[Sn ih hs]at h;cases h
def iJ (U T:List Tm):List Tm:=T++U.filter λu=>!P3 T u&&Dc T u
def Zo (U:List Tm):Nat->List Tm->List Tm
 |0,T=>T
 |n+1,T=>Zo U n (iJ U T)
def vJ (U T:List Tm):Bool:=U.all λu=>P3 T u||!Dc T u
theorem lB {S U T:I1} (h:∀e,e∈T.map D2->Kn S U e):∀e,e∈(iJ U T).map D2->Kn S U e:=by
 intro e he;unfold iJ at he;rw[xe,xj]at he;rcases he with he|he
 .exact h e he
 .obtain⟨u,hu,rfl⟩:=xb.1 he;obtain⟨h1,h2⟩:=List.mem_filter.1 hu;rw[xr]at h2;exact Kn.step T h u h1 h2.2
theorem bP {S U:I1}:∀(n:Nat) {T:I1},(∀e,e∈T.map D2->Kn S U e)->∀e,e∈(Zo U n T).map D2->Kn S U e
 |0,_,h=>h
 |n+1,_,h=>bP n (lB h)
theorem YK {U:I1}:∀(n:Nat) (T:I1),bq T (Zo U n T)
 |0,_,_,h=>h
 |n+1,T,e,h=>YK n (iJ U T) e (by unfold iJ;rw[xe];exact xk _ h)
def Yv (k:List Tm) (t:Tm):Bool×Bool :=
 let U:=alls (k++[t])
 let T:=Zo U 3 k
 (decide (k.length<=60)&&decide (U.length<=200)&&vJ U T,P3 T t)
open Classical in
theorem RV {k:I1} {t:Tm} {b:Bool} (h:Yv k t=(true,b)):Q7 k t=(0,b):=by
 unfold Yv at h;simp only[Prod.mk.injEq,xr,decide_eq_true_eq]at h;obtain⟨⟨⟨h1,h2⟩,h3⟩,h4⟩:=h;unfold Q7;rw[if_neg (by have:=aO k t;omega)];congr 1;subst h4;have Cr:∀u∈alls (k++[t]),P3 (Zo (alls (k++[t])) 3 k) u=true\/Dc (Zo (alls (k++[t])) 3 k) u=false:=λu hu=>by
  have:=xi.1 h3 u hu;simpa using this
 by_cases hd:Nf k t
 .rw[@decide_eq_true _ (Classical.propDecidable _) hd];have:=jw (YK 3 k) Cr hd;exact(f8.2 this).symm
 .rw[@decide_eq_false _ (Classical.propDecidable _) hd];cases hq:P3 (Zo (alls (k++[t])) 3 k) t with
  |false=>rfl
  |true=>exact absurd (bP 3 (λe he=>Kn.base e he) _ (f8.1 hq)) hd
end Go.Abs.Q
namespace Go.Abs.Q
open Go.Proofs
attribute [local simp] D1 D4 fin I2 G0 K7 I3 N4 O5
def C7 (a:ByteArray):Tm:=.mk 2 a 0 (true,false) []
theorem Qx (a:H6):pc Q DU [.str a]=some (B8 (C7 a)):=by
 have hA:=VY a 0;refine N0 Mc λfr hl h0=>?_;simp[Mc]at hl h0;simp[Mc,hl,h0,hA,I6];rfl
def qy (k:Tm):Nar:=⟨bs [80],(true,true),[bs [65],bs [66]],(true,true),[⟨bs [65],bs [110],2⟩,⟨bs [65],bs [107],3⟩],(true,false),[],(true,true),[⟨bs [65],bs [66],Y3 (bs [101,110,99]) (false,true) [C7 (bs [110]),k],0⟩,⟨bs [66],bs [65],C7 (bs [110]),0⟩],(true,false),[]⟩
theorem SL (k:Tm):pc Q Ei [B8 k]=some (X7 (qy k)):=by
 have hR:=Qx (bs [110]);have hA:=Qw (bs [101,110,99]) (true,true) [C7 (bs [110]),k] (by simp) (by simp);rw[show A4 [C7 (bs [110]),k]=[B8 (C7 (bs [110])),B8 k] from rfl]at hA;refine N0 HT λfr hl h0=>?_;simp[HT]at hl h0;simp[HT,hl,h0,hR,hA,A3,D0,E7,I6];rfl
def GN:Nar:=qy (Y3 (bs [115,104,107]) (false,true) [C7 (bs [65]),C7 (bs [66])])
def Iq:Nar:=qy (C7 (bs [107]))
def NQ:Tm:=.mk 2 (bs [110]) 2 (true,false) []
theorem aV:(Ae GN).2=0:=by kernel_rfl
theorem aW:(Ae Iq).2=0:=by kernel_rfl
theorem Ka:Hf GN=0:=by kernel_rfl
theorem VG:Hf Iq=0:=by kernel_rfl
def fN (n:Nar):ByteArray->Int:=G3 (B4 n) (D6 n)
theorem No:Oc (DA (fN GN) GN)=DA (fN GN) GN:=by kernel_rfl
theorem Yy:Oc (DA (fN Iq) Iq)=DA (fN Iq) Iq:=by kernel_rfl
theorem aX (k:Tm) (hk:k.size<=100):Fine (qy k) where
 name:=of_decide_eq_true (by kernel_rfl)
 roles:=of_decide_eq_true (by kernel_rfl)
 rolesL:=of_decide_eq_true (by kernel_rfl)
 fresh:=of_decide_eq_true (by kernel_rfl)
 freshL:=of_decide_eq_true (by kernel_rfl)
 tags:=of_decide_eq_true (by kernel_rfl)
 tagsL:=of_decide_eq_true (by kernel_rfl)
 steps:=by
  intro s hs;rcases xm.1 hs with rfl|hs
  .refine⟨of_decide_eq_true (by kernel_rfl),of_decide_eq_true (by kernel_rfl),?_⟩;simp only[Y3,C7,Tm.size,Tm.sizes];omega
  .rw[xo.1 hs];exact⟨of_decide_eq_true (by kernel_rfl),of_decide_eq_true (by kernel_rfl),of_decide_eq_true (by kernel_rfl)⟩
 stepsL:=of_decide_eq_true (by kernel_rfl)
 goals:=λg hg=>nomatch hg
 goalsL:=of_decide_eq_true (by kernel_rfl)
theorem aj (k:Tm):Lens (qy k) where
 names:=of_decide_eq_true (by kernel_rfl)
 steps:=of_decide_eq_true (by kernel_rfl)
 goals:=of_decide_eq_true (by kernel_rfl)
 data:=λg hg=>nomatch hg
theorem dA {n:Nar} (hd:Hf n=0) (he:Oc (DA (fN n) n)=DA (fN n) n) {me:H6} {role i:Nat} {t:Tm} {b:Bool} (hme:n.roles[role]?=some me)
  (h:Yv (NX (true,true) (DA (fN n) n) n me role i) t=(true,b)):Q7 (KQ (fN n) n me role i) t=(0,b):=by
 rw[Mv (k':=NX (true,true) (DA (fN n) n) n me role i) (by rw[Rk hd he hme];exact(Pd hd he hme i).symm) rfl];exact RV h
theorem VH {kf:ByteArray->Nat->List Tm} {i:Nat} {s:Ste} {l:List Ste} (h:Q7 (kf s.frm i) s.msg=(0,true)):Sx kf i (s::l)=Sx kf (i+1) l:=by
 rw[Sx,h];rfl
theorem mR {kf:ByteArray->Nat->List Tm} {i:Nat} {s:Ste} {l:List Ste} (h:Q7 (kf s.frm i) s.msg=(0,false)) (ha:alls [s.msg]=[s.msg]):VE (Sx kf i (s::l))=((i:Int),D2 s.msg,13):=by
 have hS:O1 [s.msg] (alls [s.msg]):=by rw[ha];exact Td _ (xZ _)
 have hs:=RE (k:=kf s.frm i) (k':=kf s.frm i) rfl (i:Int) (RD hS rfl);have h1:It (kf s.frm i) (i:Int) [s.msg]=some ((i:Int),s.msg,13):=by rw[It,h];rfl
 rw[h1]at hs;obtain⟨y,hy,hye⟩:∃y,It (kf s.frm i) (i:Int) (PI s.msg)=some y/\VE ((i:Int),s.msg,(13:Int))=VE y:=by
  cases hq:It (kf s.frm i) (i:Int) (PI s.msg)with
  |none=>rw[hq]at hs;simp at hs
  |some y=>rw[hq]at hs;exact⟨y,rfl,by simpa using hs⟩
 rw[Sx,h,hy];exact hye.symm
theorem jb:NN GN=(0,D2 WE,0):=by
 have q0:Q7 (KQ (fN GN) GN (bs [65]) 0 0) (U3 (fN GN) (Y3 (bs [101,110,99]) (false,true) [C7 (bs [110]),Y3 (bs [115,104,107]) (false,true) [C7 (bs [65]),C7 (bs [66])]]))=(0,true):=dA Ka No rfl (by kernel_rfl);have q1:Q7 (KQ (fN GN) GN (bs [66]) 1 1) (U3 (fN GN) (C7 (bs [110])))=(0,true):=dA Ka No rfl (by kernel_rfl);have r0:Jq GN.roles (bs [65])=0:=by kernel_rfl
 have r1:Jq GN.roles (bs [66])=1:=by kernel_rfl
 have q0':Q7 (KQ (fN GN) GN (bs [65]) (Jq GN.roles (bs [65])) 0) (U3 (fN GN) (Y3 (bs [101,110,99]) (false,true) [C7 (bs [110]),Y3 (bs [115,104,107]) (false,true) [C7 (bs [65]),C7 (bs [66])]]))=(0,true):=by rw[r0];exact q0
 have q1':Q7 (KQ (fN GN) GN (bs [66]) (Jq GN.roles (bs [66])) 1) (U3 (fN GN) (C7 (bs [110])))=(0,true):=by rw[r1];exact q1
 unfold NN;rw[if_neg (by rw[aV];simp)];refine(congrArg VE (VH (kf:=λme i=>KQ (fN GN) GN me (Jq GN.roles me) i) q0')).trans ?_;refine(congrArg VE (VH (kf:=λme i=>KQ (fN GN) GN me (Jq GN.roles me) i) q1')).trans ?_;rfl
theorem jf:NN Iq=(1,D2 NQ,13):=by
 have q0:Q7 (KQ (fN Iq) Iq (bs [65]) 0 0) (U3 (fN Iq) (Y3 (bs [101,110,99]) (false,true) [C7 (bs [110]),C7 (bs [107])]))=(0,true):=dA VG Yy rfl (by kernel_rfl);have q1:Q7 (KQ (fN Iq) Iq (bs [66]) 1 1) (U3 (fN Iq) (C7 (bs [110])))=(0,false):=dA VG Yy rfl (by kernel_rfl);have r0:Jq Iq.roles (bs [65])=0:=by kernel_rfl
 have r1:Jq Iq.roles (bs [66])=1:=by kernel_rfl
 have q0':Q7 (KQ (fN Iq) Iq (bs [65]) (Jq Iq.roles (bs [65])) 0) (U3 (fN Iq) (Y3 (bs [101,110,99]) (false,true) [C7 (bs [110]),C7 (bs [107])]))=(0,true):=by rw[r0];exact q0
 have q1':Q7 (KQ (fN Iq) Iq (bs [66]) (Jq Iq.roles (bs [66])) 1) (U3 (fN Iq) (C7 (bs [110])))=(0,false):=by rw[r1];exact q1
 unfold NN;rw[if_neg (by rw[aW];simp)];refine(congrArg VE (VH (kf:=λme i=>KQ (fN Iq) Iq me (Jq Iq.roles me) i) q0')).trans ?_;refine(mR (kf:=λme i=>KQ (fN Iq) Iq me (Jq Iq.roles me) i) q1' rfl).trans ?_;have:D2 (U3 (fN Iq) (C7 (bs [110])))=D2 NQ:=by kernel_rfl
 exact congrArg (λx=>((1:Int),x,(13:Int))) this
theorem jc:Rt GN 0 NQ=(0,0):=by
 have q0:Q7 (KQ (fN GN) GN (bs [65]) 0 0) NQ=(0,true):=dA Ka No rfl (by kernel_rfl);have ha:Sw GN 0 0=0:=by kernel_rfl
 unfold Rt;rw[if_neg (by rw[ha];simp)];show KB (KQ (fN GN) GN (bs [65]) 0) NQ 0 3=_;rw[KB,q0];rfl
theorem jd:Rt GN 1 NQ=(1,0):=by
 have q0:Q7 (KQ (fN GN) GN (bs [66]) 1 0) NQ=(0,false):=dA Ka No rfl (by kernel_rfl);have q1:Q7 (KQ (fN GN) GN (bs [66]) 1 1) NQ=(0,true):=dA Ka No rfl (by kernel_rfl);have ha:Sw GN 1 0=0:=by kernel_rfl
 unfold Rt;rw[if_neg (by rw[ha];simp)];show KB (KQ (fN GN) GN (bs [66]) 1) NQ 0 3=_;rw[KB,q0,KB,q1];rfl
def iv (k:List Tm):Nat->Tm->Option (List Tm)
 |0,_=>some []
 |n+1,t =>
  if CI t (bs [112,97,105,114])=true then (match iv k n (M3 t 0),iv k n (M3 t 1)with|some a,some b=>some (a++b)|_,_=>none)
  else if CI t (bs [115,105,103,110])=true then iv k n (M3 t 0)
  else if CI t (bs [101,110,99])=true then (if Yv k (M3 t 1)=(true,true)then iv k n (M3 t 0)else if Yv k (M3 t 1)=(true,false)then some [t]else none)
  else if CI t (bs [97,101,110,99])=true then none
  else if CI t (bs [104,97,115,104])=true then none else some []
theorem OX {k:I1}:∀(N:Nat) {t:Tm} {l:I1},iv k N t=some l->FL k N t=l
 |0,_,_,h=>by rw[iv]at h;exact Option.some.inj h
 |N+1,t,l,h=>by
  rw[iv]at h;rw[FL];by_cases c1:CI t (bs [112,97,105,114])=true
  .rw[if_pos c1]at h ⊢;cases h1:iv k N (M3 t 0)with
   |none=>rw[h1]at h;cases h
   |some a =>
    cases h2:iv k N (M3 t 1)with
    |none=>rw[h1,h2]at h;cases h
    |some b =>
     rw[h1,h2]at h;rw[OX N h1,OX N h2];exact Option.some.inj h
  .rw[if_neg c1]at h ⊢;by_cases c2:CI t (bs [115,105,103,110])=true
   .rw[if_pos c2]at h ⊢;exact OX N h
   .rw[if_neg c2]at h ⊢;by_cases c3:CI t (bs [101,110,99])=true
    .rw[if_pos c3]at h ⊢;by_cases d1:Yv k (M3 t 1)=(true,true)
     .rw[if_pos d1]at h;rw[RV d1,if_pos rfl];exact OX N h
     .rw[if_neg d1]at h;by_cases d2:Yv k (M3 t 1)=(true,false)
      .rw[if_pos d2]at h;rw[RV d2,if_neg (by simp)];exact Option.some.inj h
      .rw[if_neg d2]at h;cases h
    .rw[if_neg c3]at h ⊢;by_cases c4:CI t (bs [97,101,110,99])=true
     .rw[if_pos c4]at h;cases h
     .rw[if_neg c4]at h ⊢;by_cases c5:CI t (bs [104,97,115,104])=true
      .rw[if_pos c5]at h;cases h
      .rw[if_neg c5]at h ⊢;exact Option.some.inj h
theorem Uy {n:Nar} (hd:Hf n=0) (he:Oc (DA (fN n) n)=DA (fN n) n) {i N:Nat} {s:Ste} (hs:(n.steps.map (DB (fN n)))[i]?=some s) (hme:n.roles[Jq n.roles s.to]?=some s.to) {l:I1}
  (hN:s.msg.size=N) (h:iv (NX (true,true) (DA (fN n) n) n s.to (Jq n.roles s.to) (i+1)) N s.msg=some l):(Jv n i).length=l.length:=by
 have h1:=OX N h;have h2:=congrArg yC (fG (k:=KQ (fN n) n s.to (Jq n.roles s.to) (i+1)) (k':=NX (true,true) (DA (fN n) n) n s.to (Jq n.roles s.to) (i+1)) (by rw[Rk hd he hme];exact(Pd hd he hme _).symm) N (rfl:D2 s.msg=D2 s.msg));rw[h1,xY,xY]at h2;rw[←h2];unfold Jv;change (match (n.steps.map (DB (fN n)))[i]? with|some s=>_|none=>_:List Tm).length=_
 rw[hs];show (jP _ s.msg).length=_;unfold jP;rw[hN];rfl
theorem mP:(Jv GN 0).length=0:=Uy (l:=[]) Ka No rfl (by kernel_rfl) rfl (by kernel_rfl)
theorem mQ:(Jv GN 1).length=0:=Uy (l:=[]) Ka No rfl (by kernel_rfl) rfl (by kernel_rfl)
theorem fX:(Jv Iq 0).length=1:=Uy (l:=[U3 (fN Iq) (Y3 (bs [101,110,99]) (false,true) [C7 (bs [110]),C7 (bs [107])])]) VG Yy rfl (by kernel_rfl) rfl (by kernel_rfl)
theorem je:Sr GN=true:=by
 unfold Sr;rw[decide_eq_true aV,yA,xi];intro i hi;have:=xg.1 hi;change i<2 at this;have h2:i=0\/i=1:=by omega
 rcases h2 with rfl|rfl
 .rw[xa mP];rfl
 .rw[xa mQ];rfl
theorem jg:Sr Iq=false:=by
 unfold Sr;rw[decide_eq_true aW,yA,xp];refine⟨0,xg.2 (by decide),?_⟩;have:=fX;cases h:Jv Iq 0 with
 |nil=>rw[h]at this;cases this
 |cons a l=>simp
end Go.Abs.Q
