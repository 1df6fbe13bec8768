/- A part of the proof. -/
import Derived.Test.YtohjdamplbhdpaaGreatDoorSK25
set_option linter.all false
open List renaming getElem?_append_left->A0A,mem_singleton->A0B,length_singleton->A0C,getElem_mem->A0E,length_cons->A0F,take_of_length_le->A0G,filter_cons->A0H,take_succ_eq_append_getElem->A0I,length_append->A0K,getD_eq_getElem?_getD->A0L,length_map->A0M,map_append->A0N,mem_append->A0O,append_eq_nil_iff->A0P,mem_cons_of_mem->A0R,mem_map_of_mem->A0S,mem_cons_self->A0U,append_assoc->A0V,any_eq_true->A0X,cons_append->A0Y,nil_append->A0a,all_cons->A0b,map_cons->A0c,map_nil->A0d,mem_map->A0e
open Option renaming map_some->A0D
open Bool renaming eq_iff_iff->A0J,false_eq_true->A0T,and_eq_true->A0W,or_eq_true->A0Z
open Nat renaming le_refl->A0Q
namespace Go.Abs.Q
open Go.Proofs
attribute [local simp] D9 E4 fin I8 G6 P7 M4 R4 R3
@[simp] theorem vY (b:Nat):(AV.mp b).isTup=false:=rfl
@[simp] theorem vX (b:Nat):(AV.mp b).cells=[.mp b]:=rfl
theorem mM (k:Nat) (h:AH) (u:Tm) (hu:u.size<=1048576) (hk:h.fams[k]?=some ⟨[B7 u],4,true⟩):rc Q D5 [.sl k 1 0 1,.fn C2 []] h=some (C3,h):=by
 obtain⟨l',hp,-,hS⟩:=Rl k h [u] hk (by simp) (by simp;omega) (by simp);have hl':l'=[u]:=List.perm_singleton.1 hp;subst hl';rw[show A4 [u]=[B7 u] from rfl,DC hk]at hS;exact hS
theorem bI (g:FuncId) (k:Nat) (h:AH) (u:Tm) (hg:Sm g [u]) (hk:h.fams[k]?=some ⟨[B7 u],4,true⟩):rc Q D0 [.sl k 1 0 1,.fn g []] h=some (.sl k 1 0 1,h):=by
 obtain⟨Z,hZ,hZR,hK⟩:=LN g [u] hg k h hk (by simp);have hZ1:Z=[u]:=by
  have:(R0 [u])=[u]:=rfl;rw[this]at hZR;rw[←hZR,A0G (by simp[hZ])]
 subst hZ1;rw[show A4 [u]=[B7 u] from rfl,DC hk]at hK;exact hK
theorem jH (a b:Tm) (h:a.size<=1099511627776) (h':b.size<=1099511627776):pc Q CJ [B7 a,B7 b]=some (.bool (decide (H7 a b=0))):=by
 have hC:=m9 _ a b (A0Q _) h h';refine O2 Ic λfr hl h0 h1=>?_;simp[Ic]at hl h0 h1;simp[Ic,hl,h0,h1,hC]
theorem bG (B:List (List AV)) (F:List Fam):rc Q H4 [sl (true,false) 1 []] ⟨B,F⟩=some (.vs true 0 [],⟨B,F⟩):=by
 suffices hq:∃v h',rc Q H4 [sl (true,false) 1 []] ⟨B,F⟩=some (v,h')/\(v=.vs true 0 []/\h'=⟨B,F⟩) by
  obtain⟨v,h',h1,rfl,rfl⟩:=hq;exact h1
 refine bE P4 λfr hl h0=>?_;simp[P4]at hl h0;simp[P4,hl,h0,Qo]
theorem pl (u:Tm) (hu:OkT u) (B:List (List AV)) (F:List Fam) :
  ∃(k:Nat) (h':AH) (a b:AV) (B':List (List AV)),rc Q d8 [sl (true,false) 1 [],B7 u] ⟨B,F⟩=some (.ptr (B.length+3) 0,h') /\
   h'.boxes=B++[(B7 u).cells]++[[.mbox [] []],[.mbox [] []],[.sl k 1 0 1,.int .i64 0,.mp (B.length+1),.mp (B.length+2),.vs true 0 []]]++B'/\h'.fams[k]?=some ⟨[B7 u],4,true⟩:=by
 have hs:=hu.size;have hS:=PL u hu.nm;have hC:=bG;have hr:H6=140737488355328:=rfl;have hm:maxLen=9223372036854775807:=rfl;have hmu:Vp d8=true:=rfl;have h01:IntKind.i64.wrap 1=1:=by decide
 have hcm:Sm CJ [u]:=⟨rfl,λa ha b hb=>by
  rw[A0B]at ha hb;exact jH a b (by rw[ha];omega) (by rw[hb];omega)⟩
 have hso:∀B',rc Q D5 [.sl (F.length+1) 1 0 1,.fn C2 []] ⟨B',F++[⟨[B7 u],4,true⟩,⟨[B7 u],4,true⟩]⟩=some (C3,⟨B',F++[⟨[B7 u],4,true⟩,⟨[B7 u],4,true⟩]⟩):=λB'=>mM _ _ u (by omega) (by simp);have hco:∀B',rc Q D0 [.sl (F.length+1) 1 0 1,.fn CJ []] ⟨B',F++[⟨[B7 u],4,true⟩,⟨[B7 u],4,true⟩]⟩=some (.sl (F.length+1) 1 0 1,⟨B',F++[⟨[B7 u],4,true⟩,⟨[B7 u],4,true⟩]⟩):=λB'=>bI _ _ _ u hcm (by simp)
 suffices hq:∃v h',rc Q d8 [sl (true,false) 1 [],B7 u] ⟨B,F⟩=some (v,h')/\∃(k:Nat) (B':List (List AV)),v=.ptr (B.length+3) 0 /\
   h'.boxes=B++[(B7 u).cells]++[[.mbox [] []],[.mbox [] []],[.sl k 1 0 1,.int .i64 0,.mp (B.length+1),.mp (B.length+2),.vs true 0 []]]++B'/\h'.fams[k]?=some ⟨[B7 u],4,true⟩ by
  obtain⟨v,h',h1,k,B',rfl,h2,h3⟩:=hq;exact⟨k,h',.nilp,.nilp,B',h1,h2,h3⟩
 refine Gh KU λfr hl h0 h1=>?_;simp[KU]at hl h0 h1;simp[KU,hl,h0,h1,D2,E7,hC,A5,hr,hm,hmu];refine K0 ?_;simp[Ll,hl,hS,hr,hm,hmu,h01];refine K0 ?_;simp[hl,h0,hso,hco];refine K0 ?_;simp[MT,hl]
theorem jI:pc Q Fn [sl (false,true) 1 [.int .u64 1],.int .i64 1]=some (.int .i64 0):=by
 have hH:pc Q FK [sl (false,true) 1 [.int .u64 1],.int .i64 0]=some (.bool true):=by
  have e1:G7 .quo (.int .i64 0) (.int .i64 64)=some (.int .i64 0):=by rfl
  have e2:G7 .rem (.int .i64 0) (.int .i64 64)=some (.int .i64 0):=by rfl
  have e3:G7 .shr (.int .u64 1) (.int .i64 0)=some (.int .u64 1):=by rfl
  have e4:G7 .and (.int .u64 1) (.int .u64 1)=some (.int .u64 1):=by rfl
  refine O2 Lk λfr hl h0 h1=>?_;simp[Lk]at hl h0 h1;simp[Lk,hl,h0,h1,e1,e2,e3,e4]
 refine O2 JQ λfr hl h0 h1=>?_;simp[JQ]at hl h0 h1;simp[JQ,h1];refine K0 ?_;simp[Lj,hl,h0,hH]
theorem mK (k:Nat) (h:AH) (hk:h.fams[k]?=some ⟨[.int .u64 0],1,true⟩):rc Q AQ [.sl k 1 0 1,.int .i64 0] h=some (C3,⟨h.boxes,h.fams.set k ⟨[.int .u64 1],1,true⟩⟩):=by
 have HH:=I2 hk
 suffices hq:∃v h',rc Q AQ [.sl k 1 0 1,.int .i64 0] h=some (v,h')/\(v=C3/\h'=⟨h.boxes,h.fams.set k ⟨[.int .u64 1],1,true⟩⟩) by
  obtain⟨v,h',h1,rfl,rfl⟩:=hq;exact h1
 have e1:G7 .quo (.int .i64 0) (.int .i64 64)=some (.int .i64 0):=by rfl
 have e2:G7 .rem (.int .i64 0) (.int .i64 64)=some (.int .i64 0):=by rfl
 have e3:G7 .shl (.int .u64 1) (.int .i64 0)=some (.int .u64 1):=by rfl
 have e4:G7 .xor (.int .u64 0) (.int .u64 1)=some (.int .u64 1):=by rfl
 refine Gh KT λfr hl h0 h1=>?_;simp[KT]at hl h0 h1;simp[KT,hl,h0,h1,e1,e2,e3,e4,hk]
theorem sP (u:Tm) (hu:OkT u) (a k:Nat) (B:List (List AV)) (F:List Fam) (c1 c2 c3 c4:AV) (ha:B[a]?=some [.sl k 1 0 1,c1,c2,c3,c4]) (hk:F[k]?=some ⟨[B7 u],4,true⟩) :
  ∃B',rc Q m8 [.ptr a 0,B7 u] ⟨B,F⟩=some (.sl F.length 1 0 1,⟨B++B',F++[⟨[.int .u64 1],1,true⟩]⟩):=by
 have hs:=hu.size;have hS:=PL u hu.nm;have hr:H6=140737488355328:=rfl;have hm:maxLen=9223372036854775807:=rfl;have h01:IntKind.i64.wrap 1=1:=by decide
 have e1:G7 .quo (.int .i64 1) (.int .i64 64)=some (.int .i64 0):=by rfl
 have HH:=I2 hk;have hal:=I2 ha;have hBST:=fR (false,true) u (by omega);have hcol:∀(B2:List (List AV)) (F2:List Fam),B2[a]?=some [.sl k 1 0 1,c1,c2,c3,c4]->F2[k]?=some ⟨[B7 u],4,true⟩->rc Q d5 [.ptr a 0,B7 u] ⟨B2,F2⟩=some (.int .i64 0,⟨B2++[(B7 u).cells],F2⟩):=by
  intro B2 F2 hB2 hF2
  suffices hq:∃v h',rc Q d5 [.ptr a 0,B7 u] ⟨B2,F2⟩=some (v,h')/\(v=.int .i64 0/\h'=⟨B2++[(B7 u).cells],F2⟩) by
   obtain⟨v,h',h1,rfl,rfl⟩:=hq;exact h1
  have hB3:(B2++[(B7 u).cells])[a]?=some [.sl k 1 0 1,c1,c2,c3,c4]:=by rw[A0A (I2 hB2)];exact hB2
  have hz:∀B',Dy ⟨B',F2⟩ true (.sl k 1 0 1)=some (sl (false,true) 4 [B7 u]):=λB'=>JX hF2 rfl;simp only[L0]at hB3;refine Gh GR λfr hl h0 h1=>?_;simp[GR]at hl h0 h1;simp[GR,hl,h0,h1,hB3,hz,hBST]
 suffices hq:∃v h',rc Q m8 [.ptr a 0,B7 u] ⟨B,F⟩=some (v,h')/\∃B',v=.sl F.length 1 0 1/\h'=⟨B++B',F++[⟨[.int .u64 1],1,true⟩]⟩ by
  obtain⟨v,h',h1,B',rfl,rfl⟩:=hq;exact⟨B',h1⟩
 have ha1:(B++[(B7 u).cells])[a]?=some [.sl k 1 0 1,c1,c2,c3,c4]:=by rw[A0A hal];exact ha
 have ha2:(B++[(B7 u).cells,(B7 u).cells])[a]?=some [.sl k 1 0 1,c1,c2,c3,c4]:=by rw[A0A hal];exact ha
 have hk1:(F++[⟨[.int .u64 0],1,true⟩])[k]?=some ⟨[B7 u],4,true⟩:=by rw[A0A HH];exact hk
 have hc:=hcol _ _ ha2 hk1;have hf:=mK F.length ⟨B++[(B7 u).cells,(B7 u).cells,(B7 u).cells],F++[⟨[.int .u64 0],1,true⟩]⟩ (by simp);simp only[L0,A0V,A0Y,A0a]at ha1 hc hf;refine Gh JR λfr hl h0 h1=>?_;simp[JR]at hl h0 h1;simp[JR,hl,h0,h1,ha1,e1,h01,hr,hm,hS];refine K0 ?_;simp[Lm,hl,h0,hc,hf,h01];refine K0 ?_;simp[hl]
theorem dy (u:Tm) (a k k2 x:Nat) (B:List (List AV)) (F:List Fam) (c3 c4:AV) (ha:B[a]?=some [.sl k 1 0 1,.int .i64 0,.mp x,c3,c4]) (hx:B[x]?=some [.mbox [] []]) (hk:F[k]?=some ⟨[B7 u],4,true⟩) :
  rc Q T8 [.ptr a 0,.sl k2 1 0 1] ⟨B,F⟩=some (.tup [.sl k2 1 0 1,.sl F.length 1 0 1],⟨B,F++[⟨[.int .u64 0],1,true⟩]⟩):=by
 have hr:H6=140737488355328:=rfl;have hm:maxLen=9223372036854775807:=rfl;have h01:IntKind.i64.wrap 1=1:=by decide
 have e1:G7 .quo (.int .i64 0) (.int .i64 64)=some (.int .i64 0):=by rfl
 suffices hq:∃v h',rc Q T8 [.ptr a 0,.sl k2 1 0 1] ⟨B,F⟩=some (v,h')/\(v=.tup [.sl k2 1 0 1,.sl F.length 1 0 1]/\h'=⟨B,F++[⟨[.int .u64 0],1,true⟩]⟩) by
  obtain⟨v,h',h1,rfl,rfl⟩:=hq;exact h1
 have hml:∀F' z,Ht false true z ⟨B,F'⟩ (.mp x) (.int .i64 0)=some (.tup [z,.bool false],⟨B,F'⟩):=by
  intro F' z;have e:Gy ⟨B,F'⟩ (.mp x)=some ([],[]):=by simp only[Gy,hx]
  simp only[Ht,e];rfl
 refine Gh GS λfr hl h0 h1=>?_;simp[GS]at hl h0 h1;simp[GS,hl,h0,ha,e1,h01,hr,hm];refine K0 ?_;simp[In,hl,h0,ha,hml,h01];refine K0 ?_;simp[hl,h1]
theorem oo (u:Tm) (hu:OkT u):∃v,pc Q Qm [sl (true,false) 1 [],B7 u]=some (.tup [v,.int .i64 4]):=by
 obtain⟨k,⟨B1,F1⟩,-,-,B',hE,hB,hk⟩:=pl u hu [(B7 u).cells] [];simp only at hB hk;subst hB;have hR:=Wv u hu;obtain⟨B2,hW⟩:=sP u hu 4 k ((B7 u).cells::(B7 u).cells::[AV.mbox [] []]::[AV.mbox [] []]::[AV.sl k 1 0 1,.int .i64 0,.mp 2,.mp 3,.vs true 0 []]::B') F1 _ _ _ _ rfl hk;have hD:=dy u 4 k F1.length 2 (((B7 u).cells::(B7 u).cells::[AV.mbox [] []]::[AV.mbox [] []]::[AV.sl k 1 0 1,.int .i64 0,.mp 2,.mp 3,.vs true 0 []]::B')++B2) (F1++[⟨[.int .u64 1],1,true⟩]) _ _ rfl rfl (by rw[A0A (I2 hk)];exact hk);have hF:=jI;have hz:∀B',Dy ⟨B',F1++[⟨[.int .u64 1],1,true⟩]++[⟨[.int .u64 0],1,true⟩]⟩ true (.sl F1.length 1 0 1)=some (sl (false,true) 1 [.int .u64 1]):=λB'=>JX (b:=true) (by simp) rfl;simp only[A0C,Nat.reduceAdd,A0Y,A0a,A0V,L0]at hE hW hD hz;refine⟨sl (true,false) 1 [],?_⟩;refine O2 Qx λfr hl h0 h1=>?_;simp[Qx]at hl h0 h1;simp[Qx,hl,h0,h1,hR,A5,hE,hW,hD,hz,hF]
theorem YE (m:J3) (S:I6) (B8:S.length<=1048576) (hs:∀x∈S,OkT x) (p:AV) (C:G1) (fr:Fr) (h:AH) (h5:A0 fr 5=p) (hB:∃B,h.boxes=C::B) (hl:fr.length=69) (h22:A0 fr 22=sl m 4 (A4 S)) (h23:A0 fr 23=.int .i64 S.length) (h24:A0 fr 24=.int .i64 0) :
  B9 (lp (A3 (L5 Q) (E5 Y6) V2) (fr,h)) λe C6 h'=>Kp V2.wr fr C6/\(e=.exit 0/\A0 C6 5=p/\∃B,h'.boxes=C::B):=by
 refine B5 rfl fr (λn fr h'=>∃(i:Nat),i+n=S.length/\A0 fr 24=.int .i64 (i:Nat)/\(A0 fr 5=p/\∃B,h'.boxes=C::B)) ?_ S.length h ⟨0,by omega,h24,h5,hB⟩;rintro J Φ hJ hΦ n E1 H1 K ⟨i,hi,k24,hr⟩;have A6:=K.1.trans hl;have k22:=A9 K 22 h22;have k23:=A9 K 23 h23;clear K;by_cases A7:i<S.length
 .have Q6:=D1 i (by omega);obtain⟨hr,B,hB⟩:=hr;have hx:=N6 A7;have hX:=PJ S[i] (bs [120,111,114]);rw[UW (hs _ (A0E A7)).nm (by decide)]at hX;obtain⟨bx,F⟩:=H1;simp only at hB;subst hB;generalize S[i]=s at *
  simp[V2,A6,k22,k23,k24,A7,Q6,hx,hX,A5];exact G8 hJ ⟨i+1,by omega,by simp[A6],by simp[hr],_,rfl⟩
 .obtain⟨hr,hB⟩:=hr;simp[V2,A6,k23,k24,A7];exact hΦ _ _ _ ⟨rfl,by simp[hr],hB⟩
theorem YD (m mr:J3) (S R:I6) (B8:S.length<=1048576) (hs:∀x∈S,OkT x) (hR:u6 R) (hRl:R.length<=1048576) (hRs:∀x∈R,x.size<=1048576) (hn:∀x∈S,O5 R x=false) (C:G1) (fr:Fr) (h:AH) (h12:A0 fr 12=.vs true 0 []) (hB:∃B,h.boxes=C::B) (hl:fr.length=69) (h11:A0 fr 11=sl mr 4 (A4 R)) (h42:A0 fr 42=sl m 4 (A4 S)) (h43:A0 fr 43=.int .i64 S.length) (h44:A0 fr 44=.int .i64 0) :
  B9 (lp (A3 (L5 Q) (E5 Y6) V1) (fr,h)) λe C6 h'=>Kp V1.wr fr C6/\(e=.exit 2/\A0 C6 12=.vs true 0 []/\∃B,h'.boxes=C::B):=by
 refine B5 rfl fr (λn fr h'=>∃(i:Nat),i+n=S.length/\A0 fr 44=.int .i64 (i:Nat)/\(A0 fr 12=.vs true 0 []/\∃B,h'.boxes=C::B)) ?_ S.length h ⟨0,by omega,h44,h12,hB⟩;rintro J Φ hJ hΦ n E1 H1 K ⟨i,hi,k44,hr⟩;have A6:=K.1.trans hl;have k11:=A9 K 11 h11;have k42:=A9 K 42 h42;have k43:=A9 K 43 h43;clear K;by_cases A7:i<S.length
 .have Q6:=D1 i (by omega);obtain⟨hr,B,hB⟩:=hr;have hx:=N6 A7;have ho:=hs _ (A0E A7);have hX:=PJ S[i] (bs [120,111,114]);rw[UW ho.nm (by decide)]at hX;have hH:=Iz mr R S[i] hR (by omega) (λx hx=>by have:=hRs x hx;omega) (by have:=ho.size;omega);rw[hn _ (A0E A7)]at hH;obtain⟨bx,F⟩:=H1;simp only at hB;subst hB;generalize S[i]=s at *
  simp[V1,A6,k11,k42,k43,k44,A7,Q6,hx,hX,hH,A5];exact G8 hJ ⟨i+1,by omega,by simp[A6],by simp[hr],_,rfl⟩
 .obtain⟨hr,hB⟩:=hr;simp[V1,A6,k43,k44,A7];exact hΦ _ _ _ ⟨rfl,by simp[hr],hB⟩
theorem jC (m:J3) (S:I6) (B8:S.length<=1048576) (hs:∀x∈S,OkT x) (u:Tm) (hu:OkT u) (hn:O5 S u=false) :
  pc Q Y6 [sl m 4 (A4 S),B7 u]=some (.bool false):=by
 obtain⟨u',m',hP,he⟩:=le u hu;obtain⟨R,mr,hO,LA,hsub,hRl⟩:=ap m' [u'] (λt ht=>by rw[A0B.1 ht];have:=(hu.er he).size;omega) (by simp);rw[show A4 [u']=[B7 u'] from rfl]at hO;obtain⟨v,hSp⟩:=oo u hu;have hnR:∀x∈S,O5 R x=false:=by
  intro x hx;rw[gE LA];have h1:=WX hn hx;have:KZ u' x=KZ u x:=by
   unfold KZ;rw[A0J,decide_eq_true_iff,decide_eq_true_iff,Bz,Bz,he]
  simp[O5,this,h1]
 refine O2 Dp λfr hl h0 h1=>?_;simp[Dp]at hl h0 h1;simp[Dp,hl,h0,h1,hP];refine B9.mono (YE m S B8 hs (sl m' 4 [B7 u']) (B7 u).cells _ _ ?_ ?_ ?_ ?_ ?_ ?_) ?_<;>first|(simp[hl];done)|skip
 rintro e E1 ⟨bx,F⟩ ⟨K,rfl,k5,B,hB⟩;simp only at hB;subst hB;have J5:E1.length=69:=K.1.trans (by simp[hl]);have Ox:A0 E1 0=sl m 4 (A4 S):=A9 K 0 (by simp[h0]);have ON:A0 E1 3=.ptr 0 0:=A9 K 3 (by simp[hl]);clear K;simp[J5,Ox,k5,hO];refine B9.mono (YD m mr S R B8 hs LA.1 (by simp only[A0C]at hRl;omega) (λx hx=>by rw[A0B.1 (hsub x hx)];have:=(hu.er he).size;omega) hnR (B7 u).cells _ _ ?_ ?_ ?_ ?_ ?_ ?_ ?_) ?_<;>first|(simp[J5];done)|skip
 rintro e V8 ⟨bx,F2⟩ ⟨K,rfl,k12,B2,hB⟩;simp only at hB;subst hB;have GI:V8.length=69:=K.1.trans (by simp[J5]);have k3:A0 V8 3=.ptr 0 0:=A9 K 3 (by simp[ON]);clear K;simp[GI,k12,k3,hSp]
def Hi (S:List Tm) (u:Tm):Bool:=UZ u||HZ S u||MJ S u
theorem pQ (m:J3) (S:I6) (hS:u6 S) (B8:S.length<=1048576) (hs:∀x∈S,OkT x) (u:Tm) (hu:OkT u) (hn:O5 S u=false) :
  pc Q Ez [sl m 4 (A4 S),B7 u]=some (.bool (Hi S u)):=by
 have hs2:∀x∈S,x.size<=1099511627776:=λx hx=>by have:=(hs x hx).size;omega
 have husz:=hu.size;have q0:=Iz m S u hS (by omega) hs2 (by omega);rw[hn]at q0;have q1:=iY u hu.nm hu.ow;have q2:=aZ m S hS B8 hs2 u (by omega);have q3:=il m S hS B8 hs u (by omega);have q4:=jC m S B8 hs u hu hn;have q5:=iu m S B8 hs u hu hn;have q6:=Vs m S hS B8 hs u hu hn;unfold Hi;generalize UZ u=c1 at *
 generalize HZ S u=c2 at *
 generalize MJ S u=c3 at *
 cases c1 with
 |true =>
  refine O2 H9 λfr hl h0 h1=>?_;simp[H9]at hl h0 h1;simp[H9,hl,h0,h1,q0,q1]
 |false =>
  cases c2 with
  |true =>
   refine O2 H9 λfr hl h0 h1=>?_;simp[H9]at hl h0 h1;simp[H9,hl,h0,h1,q0,q1,q2]
  |false =>
   cases c3 with
   |true =>
    refine O2 H9 λfr hl h0 h1=>?_;simp[H9]at hl h0 h1;simp[H9,hl,h0,h1,q0,q1,q2,q3]
   |false =>
    refine O2 H9 λfr hl h0 h1=>?_;simp[H9]at hl h0 h1;simp[H9,hl,h0,h1,q0,q1,q2,q3,q4,q5,q6]
inductive Kn (S U:List Tm):Tm->Prop
 |base (e:Tm) (h:e∈S.map E8):Kn S U e
 |step (T:List Tm) (h:∀e,e∈T.map E8->Kn S U e) (u:Tm) (hu:u∈U) (hs:Hi T u=true):Kn S U (E8 u)
def gH (T S:List Tm):Prop:=∀e,e∈T.map E8->e∈S.map E8
theorem SO {T S:I6} (h:gH T S) {x:Tm} (hx:O5 T x=true):O5 S x=true:=CA.2 (h _ (CA.1 hx))
theorem Te {a b c d:Tm} (h:E8 a=E8 c) (k:E8 b=E8 d):KZ a b=KZ c d:=by
 unfold KZ;rw[A0J,decide_eq_true_iff,decide_eq_true_iff,Bz,Bz,h,k]
theorem KF {a b:Tm} (h:E8 a=E8 b) (nm:I3):Ew a nm=Ew b nm:=by
 obtain⟨h1,h2,-⟩:=MB h;unfold Ew;rw[h1,h2]
theorem De {a b:Tm} (h:E8 a=E8 b) (i:Nat):E8 (O8 a i)=E8 (O8 b i):=by
 obtain⟨-,-,-,h4⟩:=MB h;rw[E3,E3]at h4;have:∀l:List Tm,E8 (l.getD i jd)=(l.map E8).getD i (E8 jd):=by
  intro l;rw[A0L,A0L,List.getElem?_map];cases l[i]?<;>rfl
 unfold O8;rw[this,this,h4]
theorem oM {a b:Tm} (h:E8 a=E8 b):(RV a).map E8=(RV b).map E8:=by
 unfold RV;rw[KF h,KF h,KF (De h 1)];by_cases h1:Ew b (bs [101,110,99])=true
 .rw[if_pos h1,if_pos h1,A0D,A0D,De h]
 .rw[if_neg h1,if_neg h1];by_cases h2:(Ew b (bs [97,101,110,99])&&Ew (O8 b 1) (bs [112,107]))=true
  .rw[if_pos h2,if_pos h2,A0D,A0D,De (De h 1)]
  .rw[if_neg h2,if_neg h2]
theorem dR {T S:I6} (h:gH T S) {u t t':Tm} (he:E8 t=E8 t') (ho:Rb T u t=true):Rb S u t'=true:=by
 unfold Rb at ho ⊢;rw[←KF he,←KF he];have e0:KZ (O8 t' 0) u=KZ (O8 t 0) u:=Te (De he 0).symm rfl;have e1:KZ (O8 t' 1) u=KZ (O8 t 1) u:=Te (De he 1).symm rfl;rw[e0,e1];by_cases h1:Ew t (bs [112,97,105,114])=true
 .rw[if_pos h1]at ho ⊢;exact ho
 .rw[if_neg h1]at ho ⊢;by_cases h2:Ew t (bs [115,105,103,110])=true
  .rw[if_pos h2]at ho ⊢;exact ho
  .rw[if_neg h2]at ho ⊢;have hk:=oM he;cases hk1:RV t with
   |none=>rw[hk1]at ho;cases ho
   |some k =>
    rw[hk1]at ho hk;cases hk2:RV t' with
    |none=>rw[hk2]at hk;cases hk
    |some k' =>
     rw[hk2,A0D,A0D,Option.some.injEq]at hk;simp only[A0W]at ho ⊢;refine⟨ho.1,?_⟩;rw[←Tg hk];exact SO h ho.2
theorem VW {T S:I6} (h:gH T S) {u:Tm} (hs:Hi T u=true):Hi S u=true:=by
 unfold Hi at hs ⊢;rw[A0Z,A0Z]at hs ⊢;rcases hs with (hs|hs)|hs
 .exact .inl (.inl hs)
 .refine .inl (.inr ?_);unfold HZ at hs ⊢;rw[A0W]at hs ⊢;refine⟨hs.1,?_⟩;rw[List.all_eq_true]at hs ⊢;exact λx hx=>SO h (hs.2 x hx)
 .refine .inr ?_;unfold MJ at hs ⊢;obtain⟨t,ht,ho⟩:=A0X.1 hs;obtain⟨t',ht',e⟩:=A0e.1 (h _ (A0S ht));exact A0X.2 ⟨t',ht',dR h e.symm ho⟩
def br (T U:List Tm):Nat:=(U.filter λu=>!O5 T u).length
theorem WN {α:Type} {p q:α->Bool}:∀{l:List α},(∀x∈l,q x=true->p x=true)->(∃x∈l,p x=true/\q x=false)->(l.filter q).length<(l.filter p).length
 | [],_,⟨x,hx,_⟩=>absurd hx List.not_mem_nil
 |a::l,h,⟨x,hx,hp,hq⟩=>by
  have NF:∀{l:List α},(∀x∈l,q x=true->p x=true)->(l.filter q).length<=(l.filter p).length:=by
   intro l
   induction l with
   |nil=>intro _;exact A0Q _
   |cons a l ih =>
    intro h;have:=ih λx hx=>h x (A0R _ hx);rw[A0H,A0H];by_cases ha:q a=true
    .rw[if_pos ha,if_pos (h a A0U ha)];simp only[A0F];omega
    .rw[if_neg ha];by_cases hb:p a=true
     .rw[if_pos hb];simp only[A0F];omega
     .rw[if_neg hb];exact this
  have h':∀x∈l,q x=true->p x=true:=λx hx=>h x (A0R _ hx);rw[A0H,A0H];rcases List.mem_cons.1 hx with rfl|hx
  .rw[if_pos hp,if_neg (by simp[hq])];have:=NF h';simp only[A0F];omega
  .have:=WN h' ⟨x,hx,hp,hq⟩;by_cases ha:q a=true
   .rw[if_pos ha,if_pos (h a A0U ha)];simp only[A0F];omega
   .rw[if_neg ha];by_cases hb:p a=true
    .rw[if_pos hb];simp only[A0F];omega
    .rw[if_neg hb];exact this
theorem sh {T T' U:I6} {u:Tm} (h:∀e,e∈T'.map E8↔e=E8 u\/e∈T.map E8) (hu:u∈U) (hn:O5 T u=false):br T' U<br T U:=by
 refine WN (λx _ hx=>?_) ⟨u,hu,by simp[hn],?_⟩
 .simp only[Bool.not_eq_true']at hx ⊢;rw[Bool.eq_false_iff]at hx ⊢;exact λk=>hx (SO (λe he=>(h e).2 (.inr he)) k)
 .have:O5 T' u=true:=CA.2 ((h _).2 (.inl rfl));simp[this]
structure ClS (S U T:List Tm):Prop where
 srt:u6 T
 ok:∀x∈T,OkT x
 kn:∀e,e∈T.map E8->Kn S U e
 sub:gH S T
 len:T.length+br T U<=S.length+U.length
theorem gx (m:J3) (S U T:I6) (hb:S.length+U.length<=1048576) (hU:∀x∈U,OkT x) (hT:ClS S U T) (fr:Fr) (h:AH) (h0:∃mT,A0 fr 0=sl mT 4 (A4 T)) (h5:A0 fr 5=.bool false) (hl:fr.length=29) (h9:A0 fr 9=sl m 4 (A4 U)) (h10:A0 fr 10=.int .i64 U.length) (h11:A0 fr 11=.int .i64 0) :
  B9 (lp (A3 (L5 Q) (E5 W4) L4) (fr,h)) λe C6 h'=>Kp L4.wr fr C6/\(e=.exit 2/\∃(T':List Tm) (mT:Bool×Bool) (c:Bool),A0 C6 0=sl mT 4 (A4 T')/\A0 C6 5=.bool c/\ClS S U T'/\(c=true/\br T' U<br T U\/c=false/\T'=T/\∀u∈U,O5 T u=true\/Hi T u=false)):=by
 refine B5 rfl fr (λn fr h'=>∃(i:Nat),i+n=U.length/\A0 fr 11=.int .i64 (i:Nat)/\(∃(T':List Tm) (mT:Bool×Bool) (c:Bool),A0 fr 0=sl mT 4 (A4 T')/\A0 fr 5=.bool c/\ClS S U T'/\(c=true/\br T' U<br T U\/c=false/\T'=T/\∀u∈U.take i,O5 T u=true\/Hi T u=false))) ?_ U.length h ⟨0,by omega,h11,T,h0.choose,false,h0.choose_spec,h5,hT,.inr ⟨rfl,rfl,λu hu=>(nomatch hu)⟩⟩;rintro J Φ hJ hΦ n E1 H1 K ⟨i,hi,k11,hr⟩;have A6:=K.1.trans hl;have k9:=A9 K 9 h9;have k10:=A9 K 10 h10;clear K;by_cases A7:i<U.length
 .have Q6:=D1 i (by omega);obtain⟨T',mT,c,k0,k5,hC,hc⟩:=hr;have hx:=N6 A7;have Ow:=A0E A7;have ho:=hU _ Ow;have hs2:∀x∈T',x.size<=1099511627776:=λx hx=>by have:=(hC.ok x hx).size;omega
  have hTl:T'.length<=1048576:=by have:=hC.len;omega
  have hH:=Iz mT T' U[i] hC.srt (by omega) hs2 (by have:=ho.size;omega);have htk:∀u∈U.take (i+1),u∈U.take i\/u=U[i]:=λu hu=>by
   rw[A0I A7]at hu;rcases A0O.1 hu with h|h
   .exact .inl h
   .exact .inr (A0B.1 h)
  obtain⟨bx,F⟩:=H1;by_cases hh:O5 T' U[i]=true
  .have hc':c=true/\br T' U<br T U\/c=false/\T'=T/\∀u∈U.take (i+1),O5 T u=true\/Hi T u=false:=by
    rcases hc with hc|⟨c1,c2,c3⟩
    .exact .inl hc
    .refine .inr ⟨c1,c2,λu hu=>?_⟩;rcases htk u hu with h|h
     .exact c3 u h
     .rw[h,←c2];exact .inl hh
   rw[hh]at hH;clear htk hc;generalize U[i]=s at *
   simp[L4,A6,k9,k10,k11,A7,Q6,k0,hx,hH];exact G8 hJ ⟨i+1,by omega,by simp[A6],T',mT,c,by simp[k0],by simp[k5],hC,hc'⟩
  .have hh':O5 T' U[i]=false:=by simpa using hh
   have hS:=pQ mT T' hC.srt hTl hC.ok U[i] ho hh';rw[hh']at hH;by_cases Gx:Hi T' U[i]=true
   .obtain⟨T2,m2,hW,w1,w2,w3,w4⟩:=pS mT T' U[i] hC.srt hTl hs2 (by have:=ho.size;omega) hh';have hlt2:=sh w2 Ow hh';have hC2:ClS S U T2:=⟨w1,λx hx=>by
      rcases w3 x hx with rfl|hx
      .exact ho
      .exact hC.ok x hx,λe he=>by
      rcases (w2 e).1 he with rfl|he
      .exact .step T' hC.kn _ Ow Gx
      .exact hC.kn e he,λe he=>(w2 e).2 (.inr (hC.sub e he)),by have:=hC.len;omega⟩
    have hlt3:br T2 U<br T U:=by
     rcases hc with ⟨-,hc⟩|⟨-,rfl,-⟩
     .omega
     .exact hlt2
    rw[Gx]at hS;clear htk hc;generalize U[i]=s at *
    simp[L4,A6,k9,k10,k11,A7,Q6,k0,hx,hH,hS,hW];exact G8 hJ ⟨i+1,by omega,by simp[A6],T2,m2,true,by simp[A6],by simp[A6],hC2,.inl ⟨rfl,hlt3⟩⟩
   .have hst':Hi T' U[i]=false:=by simpa using Gx
    have hc':c=true/\br T' U<br T U\/c=false/\T'=T/\∀u∈U.take (i+1),O5 T u=true\/Hi T u=false:=by
     rcases hc with hc|⟨c1,c2,c3⟩
     .exact .inl hc
     .refine .inr ⟨c1,c2,λu hu=>?_⟩;rcases htk u hu with h|h
      .exact c3 u h
      .rw[h,←c2];exact .inr hst'
    rw[hst']at hS;clear htk hc;generalize U[i]=s at *
    simp[L4,A6,k9,k10,k11,A7,Q6,k0,hx,hH,hS];exact G8 hJ ⟨i+1,by omega,by simp[A6],T',mT,c,by simp[k0],by simp[k5],hC,hc'⟩
 .obtain⟨T',mT,c,k0,k5,hC,hc⟩:=hr;rw[A0G (by omega)]at hc;simp[L4,A6,k10,k11,A7];exact hΦ _ _ _ ⟨rfl,T',mT,c,by simp[k0],by simp[k5],hC,hc⟩
theorem gQ {S U T:I6} (hC:ClS S U T) (GF:∀u∈U,O5 T u=true\/Hi T u=false) {e:Tm} (h:Kn S U e):e∈T.map E8:=by
 induction h with
 |base e h=>exact hC.sub e h
 |step T0 _ u hu hs ih =>
  rcases GF u hu with h|h
  .exact CA.1 h
  .rw[VW ih hs]at h;cases h
theorem dZ (m mu:J3) (S U:I6) (hb:S.length+U.length<=524288) (hS:u6 S) (hSo:∀x∈S,OkT x) (hU:∀x∈U,OkT x) :
  ∃(R:List Tm) (m':Bool×Bool),pc Q W4 [sl m 4 (A4 S),sl mu 4 (A4 U)]=some (sl m' 4 (A4 R))/\u6 R/\(∀x∈R,OkT x)/\R.length<=1048576/\∀e,e∈R.map E8↔Kn S U e:=by
 suffices h:∃v,pc Q W4 [sl m 4 (A4 S),sl mu 4 (A4 U)]=some v/\∃q:List Tm×(Bool×Bool),v=sl q.2 4 (A4 q.1)/\u6 q.1/\(∀x∈q.1,OkT x)/\q.1.length<=1048576/\∀e,e∈q.1.map E8↔Kn S U e by
  obtain⟨v,h1,q,rfl,h2⟩:=h;exact⟨q.1,q.2,h1,h2⟩
 have hunk:br S U<=U.length:=List.length_filter_le _ _;have h0C:ClS S U S:=⟨hS,hSo,λe he=>.base e he,λe he=>he,by omega⟩;refine Qp DE λΨ hΨ fr hl h0 h1=>?_;simp[DE]at hl h0 h1;simp[DE];refine(B5 (Ψ:=λe C6 h'=>e=.exit 0/\∃(T:List Tm) (mT:Bool×Bool),A0 C6 0=sl mT 4 (A4 T)/\ClS S U T/\∀u∈U,O5 T u=true\/Hi T u=false) rfl _
  (λn C6 h'=>∃(T:List Tm) (mT:Bool×Bool) (c:Bool),A0 C6 0=sl mT 4 (A4 T)/\A0 C6 5=.bool c/\ClS S U T/\(c=true/\n=br T U+1\/c=false/\∀u∈U,O5 T u=true\/Hi T u=false)) ?_ (br S U+1) _
  ⟨S,m,true,by simp[h0],by simp[hl],h0C,.inl ⟨rfl,rfl⟩⟩).mono ?_
 .rintro J Φ hJ hΦ n E1 H1 K ⟨T,mT,c,k0,k5,hC,hc⟩;have A6:E1.length=29:=K.1.trans (by simp[hl]);have k1:=A9 K 1 (by simp[h1]:_=sl mu 4 (A4 U));clear K h0 h1;rcases hc with ⟨rfl,rfl⟩|⟨rfl,GF⟩
  .simp[BX,A6,k5,k1];refine B9.mono (gx mu S U T (by omega) hU hC _ _ ⟨mT,?_⟩ ?_ ?_ ?_ ?_ ?_) ?_<;>first|(simp[A6,k0];done)|skip
   rintro e V8 h2 ⟨K,rfl,T',mT',c,k0',k5',hC',hc'⟩;simp;rcases hc' with ⟨rfl,A7⟩|⟨rfl,rfl,GF⟩
   .exact⟨br T' U+1,by omega,hJ _ _ _ ⟨T',mT',true,k0',k5',hC',.inl ⟨rfl,rfl⟩⟩⟩
   .exact⟨0,by omega,hJ _ _ _ ⟨T',mT',false,k0',k5',hC',.inr ⟨rfl,GF⟩⟩⟩
  .simp[BX,A6,k5];exact hΦ _ _ _ ⟨rfl,T,mT,by simp[k0],hC,GF⟩
 .rintro e E1 Ei ⟨K,rfl,T,mT,k0,hC,GF⟩;have A6:E1.length=29:=K.1.trans (by simp[hl]);simp[A6,k0];exact hΨ _ ⟨(T,mT),rfl,hC.srt,hC.ok,by have:=hC.len;change T.length<=_;omega,λe=>⟨hC.kn e,gQ hC GF⟩⟩
theorem RC {S S' U U':I6} (hS:∀e,e∈S.map E8->e∈S'.map E8) (hU:∀e,e∈U.map E8->e∈U'.map E8) {e:Tm} (h:Kn S U e):Kn S' U' e:=by
 induction h with
 |base e h=>exact .base e (hS e h)
 |step T _ u hu hs ih =>
  obtain⟨u',hu',e⟩:=A0e.1 (hU _ (A0S hu));rw[←e];refine .step T ih u' hu' ?_;have e1:UZ u'=UZ u:=by
   obtain⟨q1,q2,q3,-⟩:=MB e;unfold UZ;rw[q1,q2,q3]
  have e2:HZ T u'=HZ T u:=by
   obtain⟨q1,q2,-,q4⟩:=MB e;unfold HZ LP;rw[q1,q2];congr 1;have:∀l l':List Tm,H2 l=H2 l'->l.all (O5 T)=l'.all (O5 T):=by
    intro l
    induction l with
    |nil=>intro l' h;cases l' with
     |nil=>rfl
     |cons a l'=>simp[H2]at h
    |cons a l ih=>intro l' h;cases l' with
     |nil=>simp[H2]at h
     |cons b l' =>
      simp only[H2,List.cons.injEq]at h;rw[A0b,A0b,Tg h.1,ih _ h.2]
   exact this _ _ q4
  have e3:MJ T u'=MJ T u:=by
   unfold MJ;congr 1;funext t;unfold Rb;rw[Te (a:=O8 t 0) rfl e,Te (a:=O8 t 1) rfl e]
  unfold Hi at hs ⊢;rw[e1,e2,e3];exact hs
def TT (k:List Tm) (t:Tm):Prop:=Kn k (alls (k++[t])) (E8 t)
open Classical in
noncomputable def rC (k:List Tm) (t:Tm) (n:Nat):AV:=if 60<k.length\/200<n then .tup [.bool false,.int .i64 3]else .tup [.bool (decide (TT k t)),.int .i64 0]
open Classical in
theorem YK (m:J3) (k:I6) (t:Tm) (hk:∀x∈k,GoodT x) (ht:GoodT t) (HH:k.length<=1048576) :
  ∃U:List Tm,pc Q P6 [sl m 4 (A4 k),B7 t]=some (rC k t U.length)/\(k.length<=60->P8 U (alls (k++[t]))):=by
 obtain⟨U,mu,hU,hU2⟩:=au m (true,true) k [t] hk (λx hx=>by rw[A0B.1 hx];exact ht) HH (A0Q _);rw[show A4 [t]=[B7 t] from rfl]at hU;refine⟨U,?_,λh=>(hU2 h).1⟩;unfold ml at hU;unfold rC;by_cases hc:60<k.length\/200<U.length
 .rw[if_pos hc]at hU ⊢;refine O2 U5 λfr hl h0 h1=>?_;simp[U5]at hl h0 h1;simp[U5,hl,h0,h1,hU,A5]
 .rw[if_neg hc]at hU ⊢;obtain⟨LA,-⟩:=hU2 (by omega);have Hr:∀x∈k++[t],OkT x:=λx hx=>by
   rcases A0O.1 hx with h|h
   .exact(hk x h).ok
   .rw[A0B.1 h];exact ht.ok
  have hUo:=OkT.set LA (OkT.alls Hr);obtain⟨S,ms,hS,hSset,hSsub,hSl⟩:=ap m k (λx hx=>by have:=(hk x hx).size;omega) HH;obtain⟨R,mr,hC,hRs,hRo,hRl,hRk⟩:=dZ ms mu S U (by omega) hSset.1 (λx hx=>(hk x (hSsub x hx)).ok) hUo;have hH:=Iz mr R t hRs (by omega) (λx hx=>by have:=(hRo x hx).size;omega) (by have:=ht.size;omega);have he:O5 R t=decide (TT k t):=by
   rw[A0J,CA,hRk,decide_eq_true_iff];exact⟨RC (λe=>(hSset.2 e).1) (λe=>(LA.2 e).1),RC (λe=>(hSset.2 e).2) (λe=>(LA.2 e).2)⟩
  rw[he]at hH;generalize decide (TT k t)=b at *
  refine O2 U5 λfr hl h0 h1=>?_;simp[U5]at hl h0 h1;simp[U5,hl,h0,h1,hU,hS,hC,hH,A5]
end Go.Abs.Q
namespace Go.Abs
def Ie (wr:Bool) (sz:Nat) (xs:List AV) (v:AV) (h:AH):Prop:=(∃b,v=sl (true,b) sz xs)\/(xs≠[]/\∃k,v=.sl k xs.length 0 xs.length/\h.fams[k]?=some ⟨xs,sz,wr⟩)
theorem RD (wr:Bool) (sz:Nat) (h:AH):Ie wr sz [] (.vs true 0 []) h:=.inl ⟨false,by simp[sl]⟩
theorem jn (wr:Bool) (sz:Nat) (xs:G1) (b:Bool) (h:AH):Ie wr sz xs (sl (true,b) sz xs) h:=.inl ⟨b,rfl⟩
theorem G2 {wr:Bool} {sz:Nat} {xs:G1} {v:AV} {h h':AH} (hg:Ie wr sz xs v h) (e:h'.fams=h.fams):Ie wr sz xs v h':=by
 rcases hg with hg|⟨h1,k,h2,h3⟩
 .exact .inl hg
 .exact .inr ⟨h1,k,h2,by rw[e];exact h3⟩
theorem KW {c:Ctx} {sz bytes:Nat} {xs ys:G1} {v x:AV} {h:AH} (hg:Ie c.mutApp sz xs v h) (hx:y8 h sz x=some ys) (hb:(xs.length+ys.length)*bytes<=H6/\xs.length+ys.length<=maxLen) :
  ∃v' F',N1 c h sz bytes v x=some (v',⟨h.boxes,F'⟩)/\Ie c.mutApp sz (xs++ys) v' ⟨h.boxes,F'⟩/\∀j,j<h.fams.length->(∀n o l,v≠.sl j n o l)->F'[j]?=h.fams[j]?:=by
 rcases hg with ⟨b,rfl⟩|⟨P1,k,rfl,hk⟩
 .simp only[sl,N1,hx];by_cases hy:ys.length=0
  .rw[if_pos hy];have:ys=[]:=List.eq_nil_of_length_eq_zero hy;subst this;exact⟨_,h.fams,rfl,.inl ⟨b,by simp[sl]⟩,λ_ _ _=>rfl⟩
  .rw[if_neg hy];have hc:((if (xs.isEmpty&&!b)=true then 0 else sz)=sz\/xs.length=0)/\(xs.length+ys.length)*bytes<=H6/\xs.length+ys.length<=maxLen:=by
    refine⟨?_,hb⟩;cases xs with
    |nil=>exact .inr rfl
    |cons a l=>exact .inl rfl
   rw[if_pos hc];refine⟨_,_,rfl,.inr ⟨by intro e;rw[A0P]at e;rw[e.2]at hy;exact hy rfl,h.fams.length,by rw[A0K],by simp⟩,λj hj _=>A0A hj⟩
 .simp only[N1,hx,hk];rw[if_pos ⟨trivial,trivial,by omega,hb.1,hb.2⟩];have HH:=(List.getElem?_eq_some_iff.1 hk).1;refine⟨_,_,rfl,.inr ⟨by intro e;rw[A0P]at e;exact P1 e.1,k,by rw[A0K],by simp[HH]⟩,λj hj hv=>?_⟩;have:k≠j:=λe=>hv _ _ _ (by rw[e]);exact List.getElem?_set_ne this
theorem XS {wr:Bool} {sz:Nat} {xs:G1} {v:AV} {h:AH} (hg:Ie wr sz xs v h):∃m:Bool×Bool,∀(B:List (List AV)) (am:Bool),(am||!wr)=true->JW ⟨B,h.fams⟩ am v=some (sl m sz xs)/\Dy ⟨B,h.fams⟩ am v=some (sl m sz xs):=by
 rcases hg with ⟨b,rfl⟩|⟨P1,k,rfl,hk⟩
 .exact⟨(true,b),λB am _=>⟨rfl,rfl⟩⟩
 .have he:xs.isEmpty=false:=by cases xs with
   |nil=>exact absurd rfl P1
   |cons a l=>rfl
  refine⟨(false,true),λB am ha=>?_⟩;have:Dy ⟨B,h.fams⟩ am (.sl k xs.length 0 xs.length)=some (sl (false,true) sz xs):=by
   simp only[Dy,hk];rw[if_pos ⟨trivial,by omega,ha⟩];simp[sl,he]
  exact⟨this,this⟩
theorem Lu {wr:Bool} {sz:Nat} {xs:G1} {v:AV} {h:AH} (hg:Ie wr sz xs v h):∃m:Bool×Bool,∀B:List (List AV),Cs ⟨B,h.fams⟩ v=some (sl m sz xs):=by
 obtain⟨m,hm⟩:=XS hg;refine⟨m,λB=>?_⟩;have:=(hm B true rfl).1;rcases hg with ⟨b,rfl⟩|⟨_,k,rfl,_⟩<;>exact this
theorem ZB {sz:Nat} {xs:G1} {v:AV} {h:AH} (hg:Ie false sz xs v h) (B:List (List AV)):Ef ⟨B,h.fams⟩ v=true:=by
 rcases hg with ⟨b,rfl⟩|⟨P1,k,rfl,hk⟩
 .rfl
 .show (match h.fams[k]? with|some f=>!f.wr|none=>false)=true
  rw[hk];rfl
theorem Pi {wr:Bool} {sz:Nat} {xs:G1} {v:AV} {h:AH} (hg:Ie wr sz xs v h):v.isTup=false/\v.cells=[v]/\EA [v]=false/\OP v=true:=by
 rcases hg with ⟨b,rfl⟩|⟨_,k,rfl,_⟩<;>exact⟨rfl,rfl,rfl,rfl⟩
theorem gA {wr:Bool} {sz:Nat} {xs:G1} {v:AV} {h:AH} (hg:Ie wr sz xs v h) (B:List (List AV)):y8 ⟨B,h.fams⟩ sz v=some xs:=by
 rcases hg with ⟨b,rfl⟩|⟨P1,k,rfl,hk⟩
 .exact T7 _ _ _ _
 .simp[y8,hk]
theorem RW {h h':AH} {v:AV} {r:Option (AV×AH)} (hr:r=some (v,h')) (hv:OP v=true) (hb:∃B,h'.boxes=h.boxes++B):Ve true h r=some (v,⟨h.boxes,h'.fams⟩):=by
 obtain⟨B,hB⟩:=hb;obtain⟨bx,F⟩:=h';simp only at hB;subst hB;rw[hr];exact vO h v B F hv
end Go.Abs
namespace Go.Abs.Q
open Go.Proofs
attribute [local simp] D9 E4 fin I8 G6 P7 M4 R4 R3
def Jk (l:List Tm) (t:Tm):List Tm:=if l.any (λu=>KZ t u)=true then l else l++[t]
theorem ZI (l:I6) (t:Tm):(Jk l t).length<=l.length+1/\l.length<=(Jk l t).length:=by
 unfold Jk;split
 .omega
 .rw[A0K];simp
theorem ZJ {l:I6} {t x:Tm} (h:x∈Jk l t):x∈l\/x=t:=by
 unfold Jk at h;split at h
 .exact .inl h
 .rcases A0O.1 h with h|h
  .exact .inl h
  .exact .inr (by simpa using h)
theorem eR (l:I6) (t:Tm):(l.any λu=>KZ t u)=O5 l t:=by
 unfold O5;congr 1;funext u;unfold KZ;rw[A0J,decide_eq_true_iff,decide_eq_true_iff,Bz,Bz];exact⟨Eq.symm,Eq.symm⟩
open Classical in
noncomputable def gJ (l:List Tm) (t:Tm):List Tm:=if t∈l then l else l++[t]
theorem nM (l:I6) (t:Tm):(Jk l t).map E8=gJ (l.map E8) (E8 t):=by
 unfold Jk gJ;rw[eR];by_cases h:O5 l t=true
 .rw[if_pos h,if_pos (CA.1 h)]
 .rw[if_neg h,if_neg (λk=>h (CA.2 k)),A0N];rfl
theorem ot (t u:Tm) (ht:t.size<=1099511627776) (hu:u.size<=1099511627776):pc Q Kk [B7 u,.pv (B7 t).cells]=some (.bool (KZ t u)):=by
 have hC:=m9 _ t u (A0Q _) ht hu;refine O2 OI λfr hl h0 h1=>?_;simp[OI]at hl h0 h1;simp[OI,hl,h0,h1,hC,KZ]
theorem mP (D7:I6) (v:AV) (h:AH) (hg:Ie false 4 (A4 D7) v h) (t:Tm) (hl:D7.length<=1048576) (hs:∀x∈D7,x.size<=1099511627776) (ht:t.size<=1099511627776) :
  ∃v' h',rc Q W0 [v,B7 t] h=some (v',h')/\Ie false 4 (A4 (Jk D7 t)) v' h'/\∃B,h'.boxes=h.boxes++B:=by
 obtain⟨m,hf⟩:=XS hg;have htm:=ZB hg;have hC:=Rg m D7 Kk [.pv (B7 t).cells] (λu=>KZ t u) rfl hl (λh x=>by simp) (λh=>rfl) rfl (λx hx=>ot t x ht (hs x hx));obtain⟨bx,F⟩:=h;have hF:=λB=>(hf B true rfl).1;simp only at hF htm;have e2:A4 (D7++[t])=A4 D7++[B7 t]:=o8 D7 t;have hap:∀B,∃v' F',N1 (E5 W0) ⟨B,F⟩ 4 56 v (sl (true,true) 4 [B7 t])=some (v',⟨B,F'⟩)/\Ie false 4 (A4 D7++[B7 t]) v' ⟨B,F'⟩:=λB=>by
  obtain⟨v',F',a1,a2,_⟩:=KW (c:=E5 W0) (bytes:=56) (x:=sl (true,true) 4 [B7 t]) (ys:=[B7 t]) (h:=⟨B,F⟩) (G2 hg rfl) (T7 _ _ _ _) (by simp only[H6,maxLen,D6,A0M,A0C];omega);exact⟨v',F',a1,a2⟩
 obtain⟨va,Fa,ha,hLa⟩:=hap (bx++[[.rbox (B7 t).cells]]);simp only[L0]at hC;unfold Jk;cases hb:D7.any (λu=>KZ t u)with
 |true =>
  rw[hb]at hC;simp only[if_true];refine Gh JO λfr hl h0 h1=>?_;simp[JO]at hl h0 h1;simp[JO,hl,h0,h1,BW,hF,htm,hC];exact G2 hg rfl
 |false =>
  rw[hb]at hC;simp only[A0T,if_false];rw[e2];simp only[L0]at ha hLa;refine Gh JO λfr hl h0 h1=>?_;simp[JO]at hl h0 h1;simp[JO,hl,h0,h1,BW,hF,htm,hC,A5,ha];exact hLa
theorem Rm (D7:I6) (v:AV) (h:AH) (hg:Ie false 4 (A4 D7) v h) (t:Tm) (hl:D7.length<=1048576) (hs:∀x∈D7,x.size<=1099511627776) (ht:t.size<=1099511627776) :
  ∃v' F',Ve true h (rc Q W0 [v,B7 t] h)=some (v',⟨h.boxes,F'⟩)/\Ie false 4 (A4 (Jk D7 t)) v' ⟨h.boxes,F'⟩:=by
 obtain⟨v',h',h1,h2,h3⟩:=mP D7 v h hg t hl hs ht;exact⟨v',h'.fams,RW h1 (Pi h2).2.2.2 h3,G2 h2 rfl⟩
end Go.Abs.Q
namespace Go.Abs.Q
open Go.Proofs
attribute [local simp] D9 E4 fin I8 G6 P7 M4 R4 R3
def GV (a:ByteArray):Tm:=.mk 2 a 1 (true,false) []
theorem qm (a:I3):AV.agg [.int .i64 2,.str a,.int .i64 1,sl (true,false) 4 []]=B7 (GV a):=by simp[GV,B7,A4]
def SL (nm:ByteArray) (m:Bool×Bool) (l:List Tm):Tm:=.mk 3 nm 0 m l
theorem kA (nm:I3) (m:J3) (l:I6):AV.agg [.int .i64 3,.str nm,.int .i64 0,sl m 4 (A4 l)]=B7 (SL nm m l):=rfl
theorem Uq (a:I3):pc Q Fm [.str a]=some (B7 (GV a)):=by
 rw[←qm];refine M2 OJ λfr hl h0=>?_;simp[OJ]at hl h0;simp[OJ,hl,h0,D2,E7];exact o7 _ rfl _ _
theorem Ur (nm:I3) (m:J3) (l:I6):pc Q AP [.str nm,sl m 4 (A4 l)]=some (B7 (SL nm m l)):=by
 rw[←kA];refine O2 Qw λfr hl h0 h1=>?_;simp[Qw]at hl h0 h1;simp[Qw,hl,h0,h1,D2,E7]
theorem Tn (a:I3) (s:Int):pc Q Dh [.str a,.int .i64 s]=some (B7 (.mk 2 a s (true,false) [])):=by
 have e:B7 (.mk 2 a s (true,false) [])=.agg [.int .i64 2,.str a,.int .i64 s,sl (true,false) 4 []]:=by simp[B7,A4]
 rw[e];refine O2 OD λfr hl h0 h1=>?_;simp[OD]at hl h0 h1;simp[OD,hl,h0,h1,D2,E7];exact o7 _ rfl _ _
theorem SZ (a:I3):pc Q Gc [.str a]=some (B7 (GV a)):=by
 have hA:=Tn a 1;change pc Q Dh _=some (B7 (GV a))at hA;refine M2 Mq λfr hl h0=>?_;simp[Mq]at hl h0;simp[Mq,hl,h0,hA]
def mn (l:List Tm) (t:Tm):List Tm:=if O5 l t=true then l else l++[t]
theorem mo (l:I6) (t:Tm):mn l t=Jk l t:=by
 unfold mn Jk;rw[eR]
theorem mL (D7:I6) (v:AV) (h:AH) (hg:Ie false 4 (A4 D7) v h) (t:Tm) (hl:D7.length<=1048576) (hs:∀x∈D7,x.size<=1099511627776) (ht:t.size<=1099511627776) :
  ∃v' h',rc Q s7 [v,B7 t] h=some (v',h')/\Ie false 4 (A4 (Jk D7 t)) v' h'/\∃B,h'.boxes=h.boxes++B:=by
 obtain⟨m,hf⟩:=XS hg;have htm:=ZB hg;have hC:=sA m D7 t (by omega) hs ht;obtain⟨bx,F⟩:=h;have hF:=λB=>(hf B true rfl).1;simp only at hF htm;have e2:A4 (D7++[t])=A4 D7++[B7 t]:=o8 D7 t;obtain⟨va,Fa,ha,hLa,-⟩:=KW (c:=E5 s7) (bytes:=56) (x:=sl (true,true) 4 [B7 t]) (ys:=[B7 t]) (h:=⟨bx++[(B7 t).cells],F⟩) (G2 hg rfl) (T7 _ _ _ _) (by simp only[H6,maxLen,D6,A0M,A0C];omega);rw[←mo];unfold mn;cases hb:O5 D7 t with
 |true =>
  rw[hb]at hC;simp only[if_true];refine Gh Fy λfr hl h0 h1=>?_;simp[Fy]at hl h0 h1;simp[Fy,hl,h0,h1,hF,htm,hC];exact G2 hg rfl
 |false =>
  rw[hb]at hC;simp only[A0T,if_false];rw[e2];simp only[L0]at ha hLa;refine Gh Fy λfr hl h0 h1=>?_;simp[Fy]at hl h0 h1;simp[Fy,hl,h0,h1,hF,htm,hC,A5,ha];exact hLa
theorem fb (D7:I6) (v:AV) (h:AH) (hg:Ie false 4 (A4 D7) v h) (t:Tm) (hl:D7.length<=1048576) (hs:∀x∈D7,x.size<=1099511627776) (ht:t.size<=1099511627776) :
  ∃v' F',Ve true h (rc Q s7 [v,B7 t] h)=some (v',⟨h.boxes,F'⟩)/\Ie false 4 (A4 (Jk D7 t)) v' ⟨h.boxes,F'⟩:=by
 obtain⟨v',h',h1,h2,h3⟩:=mL D7 v h hg t hl hs ht;exact⟨v',h'.fams,RW h1 (Pi h2).2.2.2 h3,G2 h2 rfl⟩
theorem TB (m:J3) (l:I6) (B8:l.length<=1048576) (IH:∀t∈l,∃(m':J3) (l':I6),pc Q S3 [sl t.cm 4 (A4 t.kids)]=some (sl m' 4 (A4 l'))/\H2 l'=H2 t.kids) (fr:Fr) (h:AH) (h3:A0 fr 3=.vs true 0 []) (hl:fr.length=24) (h7:A0 fr 7=sl m 4 (A4 l)) (h8:A0 fr 8=.int .i64 l.length) (h9:A0 fr 9=.int .i64 0) :
  B9 (lp (A3 (L5 Q) (E5 S3) EM) (fr,h)) λe C6 h'=>Kp EM.wr fr C6/\e=.exit 0/\∃(done:List Tm),Ie false 4 (A4 done) (A0 C6 3) h'/\H2 done=H2 l:=by
 refine B5 rfl fr (λn fr h'=>∃(i:Nat),i+n=l.length/\A0 fr 9=.int .i64 (i:Nat)/\(∃(v:AV) (done:List Tm),A0 fr 3=v/\Ie false 4 (A4 done) v h'/\H2 done=H2 (l.take i)/\done.length=i)) ?_ l.length h ⟨0,by omega,h9,_,[],h3,RD _ _ _,by simp[H2],rfl⟩;rintro J Φ hJ hΦ n E1 H1 K ⟨i,hi,k9,hr⟩;have A6:=K.1.trans hl;have k7:=A9 K 7 h7;have k8:=A9 K 8 h8;clear K;by_cases A7:i<l.length
 .have Q6:=D1 i (by omega);obtain⟨v,done,k3,hg,hd,DX⟩:=hr;obtain⟨bx,fams⟩:=H1;have hx:=N6 A7;obtain⟨m',l',hI,hI2⟩:=IH l[i] (A0E A7);generalize hs:l[i]=s at *
  have hc:E8 (.mk s.kind s.name s.sort m' l')=E8 s:=by
   obtain⟨k,nm,so,ms,ks⟩:=s;simp only[Tm.kind,Tm.name,Tm.sort,Tm.kids,E8]at hI2 ⊢;rw[hI2]
  have e2:H2 (done++[.mk s.kind s.name s.sort m' l'])=H2 (l.take (i+1)):=by
   rw[A0I A7,E3,A0N,←E3,hd,E3,E3,A0N,A0c,A0d,A0c,A0d,hc,hs]
  have ha:∀B,∃v' F',N1 (E5 S3) ⟨B,fams⟩ 4 56 v (sl (true,true) 4 [B7 (.mk s.kind s.name s.sort m' l')])=some (v',⟨B,F'⟩)/\Ie false 4 (A4 (done++[.mk s.kind s.name s.sort m' l'])) v' ⟨B,F'⟩:=λB=>by
   obtain⟨v',F',a1,a2,-⟩:=KW (c:=E5 S3) (bytes:=56) (x:=sl (true,true) 4 [B7 (.mk s.kind s.name s.sort m' l')]) (ys:=[B7 (.mk s.kind s.name s.sort m' l')]) (h:=⟨B,fams⟩) (G2 hg rfl) (T7 _ _ _ _) (by simp only[H6,maxLen,D6,A0M,A0C];omega);rw[o8];exact⟨v',F',a1,a2⟩
  obtain⟨v',F',ha1,ha2⟩:=ha (bx++[(B7 s).cells,[.int .i64 s.kind,.str s.name,.int .i64 s.sort,sl m' 4 (A4 l')]]);simp only[←wj,L0]at ha1 ha2;clear hs hd hc hg;simp[EM,A6,k7,k8,k9,A7,Q6,k3,hx,hI,A5,ha1];exact G8 hJ ⟨i+1,by omega,by simp[A6],_,_,rfl,by simp[A6];exact ha2,e2,by simp[DX]⟩
 .obtain⟨v,done,k3,hg,hd,DX⟩:=hr;rw[A0G (by omega)]at hd;simp[EM,A6,k8,k9,A7];exact hΦ _ _ _ ⟨rfl,done,by simp[k3];exact G2 hg rfl,hd⟩
theorem SX:∀(N:Nat) (m:J3) (l:I6),Tm.sizes l<=N->Tm.sizes l<=1048576->∃(m':J3) (l':I6),pc Q S3 [sl m 4 (A4 l)]=some (sl m' 4 (A4 l'))/\H2 l'=H2 l:=by
 intro N
 induction N with
 |zero =>
  intro m l h _;have hl0:l=[]:=by
   cases l with
   |nil=>rfl
   |cons a l=>have:=a.size_pos;simp only[Tm.sizes]at h;omega
  subst hl0
  suffices hq:∃v,pc Q S3 [sl m 4 (A4 [])]=some v/\∃q:(Bool×Bool)×List Tm,v=sl q.1 4 (A4 q.2)/\H2 q.2=H2 [] by
   obtain⟨v,h1,q,rfl,h2⟩:=hq;exact⟨q.1,q.2,h1,h2⟩
  refine HL Ed λΨ hΨ fr hl h0=>?_;simp[Ed]at hl h0;simp[Ed,hl,h0];refine B9.mono (TB m [] (by simp) (λt ht=>nomatch ht) _ _ ?_ ?_ ?_ ?_ ?_) ?_<;>first|(simp[hl];done)|skip
  rintro e E1 ⟨bx,F⟩ ⟨K,rfl,done,hg,hd⟩;have A6:E1.length=24:=K.1.trans (by simp[hl]);obtain⟨m',hf⟩:=Lu hg;simp only at hf;simp[A6,hf];exact hΨ _ ⟨(m',done),rfl,hd⟩
 |succ N IH =>
  intro m l h hb;have B8:=Tm.length_le l
  suffices hq:∃v,pc Q S3 [sl m 4 (A4 l)]=some v/\∃q:(Bool×Bool)×List Tm,v=sl q.1 4 (A4 q.2)/\H2 q.2=H2 l by
   obtain⟨v,h1,q,rfl,h2⟩:=hq;exact⟨q.1,q.2,h1,h2⟩
  refine HL Ed λΨ hΨ fr hl h0=>?_;simp[Ed]at hl h0;simp[Ed,hl,h0];refine B9.mono (TB m l (by omega) (λt ht=>?_) _ _ ?_ ?_ ?_ ?_ ?_) ?_<;>first|(simp[hl];done)|skip
  .have h1:=Tm.size_le ht;have h2:=t.kids_size;exact IH t.cm t.kids (by omega) (by omega)
  rintro e E1 ⟨bx,F⟩ ⟨K,rfl,done,hg,hd⟩;have A6:E1.length=24:=K.1.trans (by simp[hl]);obtain⟨m',hf⟩:=Lu hg;simp only at hf;simp[A6,hf];exact hΨ _ ⟨(m',done),rfl,hd⟩
end Go.Abs.Q
