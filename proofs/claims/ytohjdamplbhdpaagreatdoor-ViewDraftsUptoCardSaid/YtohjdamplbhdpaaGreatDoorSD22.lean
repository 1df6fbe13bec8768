/- A part of the proof. -/
import Derived.Test.YtohjdamplbhdpaaGreatDoorSD21
set_option linter.all false
open List renaming getElem_mem->oD,drop_eq_getElem_cons->xY,drop_eq_nil_of_le->xZ,map_cons->xa,map_nil->xb,length_map->xc,map_append->xe
open Nat renaming le_refl->xX
open Bool renaming and_eq_true->xd
namespace Go.Abs.Q
open Go.Proofs
attribute [local simp] D1 D4 fin I2 G0 K7 I3 N4 O5
abbrev Sy:=ByteArray×Int×Int×Int
@[simp] theorem nt (x:Sy):(HK x).cells=[.str x.1,.int .i64 x.2.1,.int .i64 x.2.2.1,.int .i64 x.2.2.2]:=rfl
@[simp] theorem nu (x:Sy):(HK x).isTup=false:=rfl
theorem XT (m:J0) (l:List Sy) (nm:H6) (C2:l.length<=1048576) (fr:Fr) (h:AH) (hh:h.boxes=[(HK zS).cells]) (hl:fr.length=18) (h0:A0 fr 0=.str nm) (h2:A0 fr 2=.ptr 0 0) (h5:A0 fr 5=sl m 4 (l.map HK)) (h6:A0 fr 6=.int .i64 l.length) (h7:A0 fr 7=.int .i64 0) :
  C8 (lp (A1 (Q8 Q) (G8 Cg) o9) (fr,h)) λe D3 h'=>Kp o9.wr fr D3/\(e=.exit 0/\(∃B,h'.boxes=(HK zS).cells::B)/\l.find? (λx=>decide (x.1=nm))=none\/e=.ret/\∃x B,h'.boxes=(HK x).cells::B/\l.find? (λx=>decide (x.1=nm))=some x):=by
 refine C3 rfl fr (λn fr h'=>∃(i:Nat),i+n=l.length/\A0 fr 7=.int .i64 (i:Nat)/\((∃B,h'.boxes=(HK zS).cells::B)/\(l.drop i).find? (λx=>decide (x.1=nm))=l.find? λx=>decide (x.1=nm))) ?_ l.length h ⟨0,by omega,h7,⟨[],hh⟩,rfl⟩;rintro J Φ hJ hΦ n H0 H1 K ⟨i,hi,k7,hr⟩;have B5:=K.1.trans hl;have k0:=A5 K 0 h0;have k2:=A5 K 2 h2;have k5:=A5 K 5 h5;have k6:=A5 K 6 h6;clear K;by_cases A7:i<l.length
 .have V9:=E6 i (by omega);obtain⟨⟨B,hB⟩,hr⟩:=hr;obtain⟨bx,F⟩:=H1;simp only at hB;subst hB;have hx:=H8 (f:=HK) (List.getElem?_eq_getElem A7);rw[xY A7,List.find?_cons]at hr;clear hh;generalize l[i]=s at *
  obtain⟨s1,s2,s3,s4⟩:=s;by_cases hc:s1=nm
  .subst hc;simp only[decide_true]at hr;simp only[HK]at hx;simp[o9,B5,k0,k2,k5,k6,k7,A7,hx,HK,zS];exact hΦ _ _ _ (.inr ⟨rfl,(s1,s2,s3,s4),_,rfl,hr.symm⟩)
  .simp only[hc,decide_false]at hr;simp only[HK]at hx;simp[o9,B5,k0,k5,k6,k7,A7,V9,hx,HK,zS,hc];exact O9 hJ ⟨i+1,by omega,by simp[B5],⟨_,rfl⟩,hr⟩
 .obtain⟨⟨B,hB⟩,hr⟩:=hr;rw[xZ (by omega)]at hr;simp[o9,B5,k6,k7,A7];exact hΦ _ _ _ (.inl ⟨rfl,⟨B,hB⟩,hr.symm⟩)
theorem UY (nm:H6):pc Q Cg [.str nm]=some (HK (LY nm)):=by
 obtain⟨m,hS⟩:=ZX;refine N0 HY λfr hl h0=>?_;simp[HY]at hl h0;simp[HY,hl,hS];refine C8.mono (XT m tM nm (by decide) _ _ ?_ ?_ ?_ ?_ ?_ ?_ ?_) ?_<;>first|(simp[hl,h0,HK,zS];done)|skip
 rintro e H0 ⟨bx,F⟩ ⟨K,⟨rfl,⟨B,hB⟩,hf⟩|⟨rfl,x,B,hB,hf⟩⟩
 .simp only at hB;subst hB;have M7:H0.length=18:=K.1.trans (by simp[hl]);have FH:A0 H0 2=.ptr 0 0:=A5 K 2 (by simp[hl]);clear K;simp[M7,FH,HK,zS,D0,E7];simp[LY,hf,zS]
 .simp only at hB;subst hB;have M7:H0.length=18:=K.1.trans (by simp[hl]);have FH:A0 H0 2=.ptr 0 0:=A5 K 2 (by simp[hl]);clear K;simp[FH,HK];simp[LY,hf]
def JE (nm:ByteArray):Int:=(LY nm).2.2.2
def Kd (nm:ByteArray) (n:Int):Bool:=decide ((LY nm).2.1<=n)&&decide (n<=(LY nm).2.2.1)
def JI (t:Tm):Bool:=decide (t.kind=3)||decide (t.sort≠1)
def WB (nm:ByteArray) (l:List Tm):Int :=
 if nm=bs [115,107]\/nm=bs [115,104,107]then (if l.any JI=true then 10 else 0)
 else if nm=bs [110,101,119]then (match l with | []=>0|a::_=>if a.kind=2 then 0 else 10)else 0
mutual
def RF:Tm->Int
 | .mk k nm _ _ l=>if k≠3 then 0 else if JE nm=0 then 10 else if Kd nm l.length=false then 6 else if WB nm l≠0 then WB nm l else LZ l
def LZ:List Tm->Int
 | []=>0
 |t::l=>if RF t≠0 then RF t else LZ l
end
theorem Ul (t:Tm) (l:I1):LZ (t::l)=if RF t≠0 then RF t else LZ l:=rfl
theorem kC (m:J0) (l:I1) (C2:l.length<=1099511627776) (fr:Fr) (h:AH) (hl:fr.length=74) (h38:A0 fr 38=sl m 4 (A4 l)) (h39:A0 fr 39=.int .i64 l.length) (h40:A0 fr 40=.int .i64 0) :
  C8 (lp (A1 (Q8 Q) (G8 i7) a8) (fr,h)) λe D3 h'=>Kp a8.wr fr D3/\(e=.exit 1/\(∃B,h'.boxes=h.boxes++B)/\l.any JI=false\/e=.ret/\A0 D3 2=.int .i64 10/\l.any JI=true):=by
 refine C3 rfl fr (λn fr h'=>∃(i:Nat),i+n=l.length/\A0 fr 40=.int .i64 (i:Nat)/\((∃B,h'.boxes=h.boxes++B)/\(l.drop i).any JI=l.any JI)) ?_ l.length h ⟨0,by omega,h40,⟨[],by simp⟩,rfl⟩;rintro J Φ hJ hΦ n H0 H1 K ⟨i,hi,k40,hr⟩;have B5:=K.1.trans hl;have k38:=A5 K 38 h38;have k39:=A5 K 39 h39;clear K;by_cases A7:i<l.length
 .have V9:=E6 i (by omega);obtain⟨⟨B,hB⟩,hr⟩:=hr;obtain⟨bx,F⟩:=H1;simp only at hB;have hx:=U2 A7;rw[xY A7,List.any_cons]at hr;generalize l[i]=s at *
  by_cases hc:JI s=true
  .rw[hc,Bool.true_or]at hr;by_cases hk:s.kind=3
   .simp[a8,B5,k38,k39,k40,A7,hx,hk];exact hΦ _ _ _ (.inr ⟨rfl,by simp[B5],hr.symm⟩)
   .have hs:s.sort≠1:=by simpa[JI,hk]using hc
    simp[a8,B5,k38,k39,k40,A7,hx,hk,hs];exact hΦ _ _ _ (.inr ⟨rfl,by simp[B5],hr.symm⟩)
  .simp only[JI,Bool.or_eq_true,decide_eq_true_eq,not_or,ne_eq,Decidable.not_not]at hc;have hn:JI s=false:=by simp[JI,hc]
   rw[hn,Bool.false_or]at hr;have hk:=hc.1;have hs:=hc.2;clear hc hn;simp[a8,B5,k38,k39,k40,A7,V9,hx,hk,hs];exact O9 hJ ⟨i+1,by omega,by simp[B5],⟨B++[[.int .i64 s.kind,.str s.name,.int .i64 1,sl s.cm 4 (A4 s.kids)]],by simp[hB]⟩,hr⟩
 .obtain⟨⟨B,hB⟩,hr⟩:=hr;rw[xZ (by omega)]at hr;simp[a8,B5,k39,k40,A7];exact hΦ _ _ _ (.inl ⟨rfl,⟨B,hB⟩,hr.symm⟩)
theorem XN (m:J0) (l:I1) (C2:l.length<=1099511627776) (IH:∀t∈l,pc Q i7 [B8 t]=some (.int .i64 (RF t))) (fr:Fr) (h:AH) (hl:fr.length=74) (h62:A0 fr 62=sl m 4 (A4 l)) (h63:A0 fr 63=.int .i64 l.length) (h64:A0 fr 64=.int .i64 0) :
  C8 (lp (A1 (Q8 Q) (G8 i7) AB) (fr,h)) λe D3 h'=>Kp AB.wr fr D3/\(e=.exit 3/\LZ l=0\/e=.ret/\A0 D3 2=.int .i64 (LZ l)):=by
 refine C3 rfl fr (λn fr h'=>∃(i:Nat),i+n=l.length/\A0 fr 64=.int .i64 (i:Nat)/\(LZ (l.drop i)=LZ l)) ?_ l.length h ⟨0,by omega,h64,rfl⟩;rintro J Φ hJ hΦ n H0 H1 K ⟨i,hi,k64,hr⟩;have B5:=K.1.trans hl;have k62:=A5 K 62 h62;have k63:=A5 K 63 h63;clear K;by_cases A7:i<l.length
 .have V9:=E6 i (by omega);have hx:=U2 A7;have hI:=IH l[i] (oD A7);rw[xY A7,Ul]at hr;obtain⟨bx,F⟩:=H1;generalize l[i]=s at *
  by_cases hc:RF s=0
  .rw[if_neg (by simp[hc])]at hr;rw[hc]at hI;simp[AB,B5,k62,k63,k64,A7,V9,hx,hI];exact O9 hJ ⟨i+1,by omega,by simp[B5],hr⟩
  .rw[if_pos hc]at hr;simp[AB,B5,k62,k63,k64,A7,hx,hI,hc];exact hΦ _ _ _ (.inr ⟨rfl,by simp[B5,hr]⟩)
 .rw[xZ (by omega)]at hr;simp[AB,B5,k63,k64,A7];exact hΦ _ _ _ (.inl ⟨rfl,hr.symm⟩)
theorem gY {n:Nat} (h:Kd (bs [110,101,119]) n=true):1<=n:=by
 have e:(LY (bs [110,101,119])).2.1=1:=by decide
 simp only[Kd,e,xd,decide_eq_true_eq]at h;omega
theorem ig (t:Tm) (h:t.kind≠3):RF t=0:=by
 obtain⟨k,nm,s,m,l⟩:=t;have h:k≠3:=h;rw[RF,if_pos h]
theorem bY {k:Int} {nm:H6} {s:Int} {m:J0} {l:I1} (h:k=3):RF (.mk k nm s m l)=if JE nm=0 then 10 else if Kd nm l.length=false then 6 else if WB nm l≠0 then WB nm l else LZ l:=by
 rw[RF,if_neg (by simp[h])]
theorem dZ:∀(n:Nat) (t:Tm),t.size<=n->t.size<=1099511627776->pc Q i7 [B8 t]=some (.int .i64 (RF t)):=by
 intro n
 induction n with
 |zero=>intro t h;have:=t.size_pos;omega
 |succ n ih =>
  intro t hn hb;obtain⟨k,nm,s,m,kids⟩:=t;have K3:Tm.size (.mk k nm s m kids)=1+Tm.sizes kids:=rfl;have C2:=Tm.length_le kids;have hS:=UY nm;have hlp0:=XN m kids (by omega) (λt ht=>ih t (by have:=Tm.size_le ht;omega) (by have:=Tm.size_le ht;omega));have hlp1:=kC m kids (by omega);clear ih;by_cases hk:k=3
  .subst hk;rw[bY rfl];by_cases hkd:JE nm=0
   .rw[if_pos hkd];simp only[JE]at hkd;generalize LY nm=q at *
    obtain⟨q1,q2,q3,q4⟩:=q;simp only[HK]at hS hkd;refine N0 F0 λfr hl h0=>?_;simp[F0,B8]at hl h0;simp[F0,hl,h0,hS,hkd]
   .rw[if_neg hkd];by_cases hf:Kd nm kids.length=false
    .rw[if_pos hf];simp only[JE]at hkd;simp only[Kd]at hf;generalize LY nm=q at *
     obtain⟨q1,q2,q3,q4⟩:=q;simp only[HK]at hS hkd hf;refine N0 F0 λfr hl h0=>?_;simp[F0,B8]at hl h0;by_cases h2:(kids.length:Int)<q2
     .simp[F0,hl,h0,hS,hkd,h2]
     .have h3:q3<(kids.length:Int):=by
       rw[Bool.and_eq_false_iff]at hf;rcases hf with hf|hf
       .simp only[decide_eq_false_iff_not]at hf;omega
       .simp only[decide_eq_false_iff_not]at hf;omega
      simp[F0,hl,h0,hS,hkd,h2,h3]
    .have hf':Kd nm kids.length=true:=by simpa using hf
     rw[if_neg hf];have hnf:=@gY kids.length;have BT:¬((kids.length:Int)<(LY nm).2.1)/\¬((LY nm).2.2.1<(kids.length:Int)):=by
      simp only[Kd,xd,decide_eq_true_eq]at hf';omega
     obtain⟨hf1,hf2⟩:=BT;have Ce:nm=bs [110,101,119]->1<=kids.length:=λe=>hnf (by rw[←e];exact hf');clear hf hf' hnf;simp only[JE]at hkd;generalize LY nm=q at *
     obtain⟨q1,q2,q3,q4⟩:=q;simp only[HK]at hS hkd hf1 hf2;by_cases hsk:nm=bs [115,107]\/nm=bs [115,104,107]
     .have hag:WB nm kids=if kids.any JI=true then 10 else 0:=by unfold WB;rw[if_pos hsk]
      rw[hag];clear Ce hag;generalize kids.any JI=b at hlp1 ⊢;have hmain:∀(nm':ByteArray),nm'=nm->(nm'=bs [115,107]\/nm'≠bs [115,107]/\nm'=bs [115,104,107])->pc Q i7 [B8 (.mk 3 nm s m kids)]=some (.int .i64 (if (if b=true then (10:Int)else 0)≠0 then if b=true then 10 else 0 else LZ kids)):=by
       intro nm' e hn2;subst e;refine N0 F0 λfr hl h0=>?_;simp[F0,B8]at hl h0;rcases hn2 with hn2|⟨hn1,hn2⟩
       .subst hn2;simp[F0,hl,h0,hS,hkd,hf1,hf2];refine C8.mono (hlp1 _ _ ?_ ?_ ?_ ?_) ?_<;>first|(simp[hl];done)|skip
        rintro e Cq ⟨bx,F⟩ ⟨K,⟨rfl,⟨B,hB⟩,ha⟩|⟨rfl,k2,ha⟩⟩
        .simp only at hB;subst hB;have JS:Cq.length=74:=K.1.trans (by simp[hl]);have k1:A0 Cq 1=.ptr 0 0:=A5 K 1 (by simp[hl]);clear K;simp[JS,k1,ha];refine C8.mono (hlp0 _ _ ?_ ?_ ?_ ?_) ?_<;>first|(simp[JS];done)|skip
         rintro e fr3 h3 ⟨K,⟨rfl,he⟩|⟨rfl,h2⟩⟩
         .have hl3:fr3.length=74:=K.1.trans (by simp[JS]);simp[hl3,he]
         .simp[h2]
        .simp[k2,ha]
       .subst hn2;simp[F0,hl,h0,hS,hkd,hf1,hf2,hn1];refine C8.mono (hlp1 _ _ ?_ ?_ ?_ ?_) ?_<;>first|(simp[hl];done)|skip
        rintro e Cq ⟨bx,F⟩ ⟨K,⟨rfl,⟨B,hB⟩,ha⟩|⟨rfl,k2,ha⟩⟩
        .simp only at hB;subst hB;have JS:Cq.length=74:=K.1.trans (by simp[hl]);have k1:A0 Cq 1=.ptr 0 0:=A5 K 1 (by simp[hl]);clear K;simp[JS,k1,ha];refine C8.mono (hlp0 _ _ ?_ ?_ ?_ ?_) ?_<;>first|(simp[JS];done)|skip
         rintro e fr3 h3 ⟨K,⟨rfl,he⟩|⟨rfl,h2⟩⟩
         .have hl3:fr3.length=74:=K.1.trans (by simp[JS]);simp[hl3,he]
         .simp[h2]
        .simp[k2,ha]
      refine hmain nm rfl ?_;by_cases h1:nm=bs [115,107]
      .exact .inl h1
      .exact .inr ⟨h1,hsk.resolve_left h1⟩
     .have hsk1:nm≠bs [115,107]:=λe=>hsk (.inl e);have hsk2:nm≠bs [115,104,107]:=λe=>hsk (.inr e);by_cases hn1:nm=bs [110,101,119]
      .have CF:=Ce hn1;subst hn1;cases kids with
       |nil=>simp at CF
       |cons a kids =>
        have hag:WB (bs [110,101,119]) (a::kids)=if a.kind=2 then 0 else 10:=by unfold WB;rw[if_neg hsk,if_pos rfl]
        rw[hag];have hx:Ir (A4 (a::kids)) 0=some (B8 a):=U2 (l:=a::kids) (i:=0) (by simp);generalize a::kids=kids' at *
        by_cases ha:a.kind=2
        .refine N0 F0 λfr hl h0=>?_;simp[F0,B8]at hl h0;simp[F0,hl,h0,hS,hkd,hf1,hf2,hsk1,hsk2,hx,ha];refine C8.mono (hlp0 _ _ ?_ ?_ ?_ ?_) ?_<;>first|(simp[hl];done)|skip
         rintro e fr3 h3 ⟨K,⟨rfl,he⟩|⟨rfl,h2⟩⟩
         .have hl3:fr3.length=74:=K.1.trans (by simp[hl]);simp[hl3,he]
         .simp[h2]
        .refine N0 F0 λfr hl h0=>?_;simp[F0,B8]at hl h0;simp[F0,hl,h0,hS,hkd,hf1,hf2,hsk1,hsk2,hx,ha]
      .have hag:WB nm kids=0:=by unfold WB;rw[if_neg hsk,if_neg hn1]
       rw[hag];refine N0 F0 λfr hl h0=>?_;simp[F0,B8]at hl h0;simp[F0,hl,h0,hS,hkd,hf1,hf2,hsk1,hsk2,hn1];refine C8.mono (hlp0 _ _ ?_ ?_ ?_ ?_) ?_<;>first|(simp[hl];done)|skip
       rintro e fr3 h3 ⟨K,⟨rfl,he⟩|⟨rfl,h2⟩⟩
       .have hl3:fr3.length=74:=K.1.trans (by simp[hl]);simp[hl3,he]
       .simp[h2]
  .rw[ig (.mk k nm s m kids) hk];refine N0 F0 λfr hl h0=>?_;simp[F0,B8]at hl h0;simp[F0,hl,h0,hk]
def vE (t:Tm):Int:=if S6 t≠0 then S6 t else RF t
theorem IQ (t:Tm) (hb:t.size<=1099511627776):pc Q DX [B8 t]=some (.int .i64 (vE t)):=by
 have h1:=Dw t hb;have h2:=dZ _ t (xX _) hb;unfold vE;by_cases hv:S6 t=0
 .rw[if_neg (by simp[hv])];rw[hv]at h1;refine N0 Bz λfr hl h0=>?_;simp[Bz]at hl h0;simp[Bz,hl,h0,h1,h2]
 .rw[if_pos hv];refine N0 Bz λfr hl h0=>?_;simp[Bz]at hl h0;simp[Bz,hl,h0,h1,hv]
def AD:List ByteArray:=[bs [112,97,105,114],bs [101,110,99],bs [97,101,110,99],bs [112,107],bs [115,105,103,110],bs [104,97,115,104],bs [115,107],bs [115,104,107]]
def ef (t:Tm):Prop:=∀x∈EH t,x.kind=3->x.name∈AD
theorem ef.kid {t x:Tm} (h:ef t) (hx:x∈t.kids):ef x:=λy hy=>h y (by
 rw[AY,I9];exact List.mem_cons_of_mem _ (List.mem_flatMap.2 ⟨x,hx,hy⟩))
theorem ef.name {t:Tm} (h:ef t) (hk:t.kind=3):t.name∈AD:=h t (by rw[AY];exact List.mem_cons_self) hk
theorem Ob {nm:H6} (h:nm∈AD):nm≠bs [102,115,116]/\nm≠bs [115,110,100]/\nm≠bs [100,101,99]/\nm≠bs [97,100,101,99]/\nm≠bs [111,112,101,110]/\nm≠bs [114,101,97,100]/\nm≠bs [120,111,114]/\nm≠bs [109,117,108]/\nm≠bs [105,110,118]/\nm≠bs [111,110,101]/\nm≠bs [101,120,112]/\nm≠bs [122,101,114,111]/\nm≠bs [110,101,119]/\JE nm≠3/\JE nm≠0:=by
 have:∀nm∈AD,nm≠bs [102,115,116]/\nm≠bs [115,110,100]/\nm≠bs [100,101,99]/\nm≠bs [97,100,101,99]/\nm≠bs [111,112,101,110]/\nm≠bs [114,101,97,100]/\nm≠bs [120,111,114]/\nm≠bs [109,117,108]/\nm≠bs [105,110,118]/\nm≠bs [111,110,101]/\nm≠bs [101,120,112]/\nm≠bs [122,101,114,111]/\nm≠bs [110,101,119]/\JE nm≠3/\JE nm≠0:=by decide
 exact this nm h
theorem XQ (m:J0) (l:I1) (nm:H6) (C0 C1:E5) (C2:l.length<=1048576) (IH:∀t∈l,∃t',pc Q X9 [B8 t]=some (.tup [B8 t',.int .i64 0])/\D2 t'=D2 t) (fr:Fr) (h:AH) (hh:h.boxes=[C0,C1,[.int .i64 3,.str nm,.int .i64 0,.vs true 0 []]]) (hl:fr.length=90) (h2:A0 fr 2=.ptr 1 0) (h4:A0 fr 4=.ptr 2 0) (h19:A0 fr 19=sl m 4 (A4 l)) (h20:A0 fr 20=.int .i64 l.length) (h21:A0 fr 21=.int .i64 0) :
  C8 (lp (A1 (Q8 Q) (G8 X9) BQ) (fr,h)) λe D3 h'=>Kp BQ.wr fr D3/\e=.exit 0/\∃(B:List (List AV)) (v:AV) (done:List Tm),h'.boxes=C0::C1::[.int .i64 3,.str nm,.int .i64 0,v]::B/\Mq 4 (A4 done) v h'/\H3 done=H3 l:=by
 refine C3 rfl fr (λn fr h'=>∃(i:Nat),i+n=l.length/\A0 fr 21=.int .i64 (i:Nat)/\(∃(B:List (List AV)) (v:AV) (done:List Tm),h'.boxes=C0::C1::[.int .i64 3,.str nm,.int .i64 0,v]::B/\Mq 4 (A4 done) v h'/\H3 done=H3 (l.take i)/\done.length=i)) ?_ l.length h ⟨0,by omega,h21,[],_,[],hh,OJ _ _,by simp[H3],rfl⟩;rintro J Φ hJ hΦ n H0 H1 K ⟨i,hi,k21,hr⟩;have B5:=K.1.trans hl;have k2:=A5 K 2 h2;have k4:=A5 K 4 h4;have k19:=A5 K 19 h19;have k20:=A5 K 20 h20;clear K;by_cases A7:i<l.length
 .have V9:=E6 i (by omega);obtain⟨B,v,done,hB,hg,hd,EF⟩:=hr;obtain⟨bx,F⟩:=H1;simp only at hB;subst hB;have hx:=U2 A7;obtain⟨t',hI,ht⟩:=IH l[i] (oD A7);have xV:(A4 done).length=done.length:=by rw[D7,xc]
  obtain⟨v',⟨bx',F'⟩,ha,DF,fk⟩:=Qj (c:=G8 X9) (bytes:=56) (x:=B8 t') (h:=⟨C0::C1::[.int .i64 3,.str nm,.int .i64 0,v]::(B++[(B8 l[i]).cells]++[(B8 t').cells]),F⟩) (FN hg rfl) rfl (true,true) (by omega) (by omega);have e2:H3 (done++[t'])=H3 (l.take (i+1)):=by
   rw[List.take_succ_eq_append_getElem A7,E4,xe,←E4,hd,E4,E4,xe,xa,xb,xa,xb,ht]
  have hg2:Mq 4 (A4 (done++[t'])) v' ⟨bx',F'⟩:=by rw[EA];exact DF
  clear ht hd hh;generalize l[i]=s at *
  simp only at fk;subst fk;simp only[H4,List.append_assoc,List.singleton_append]at ha;obtain⟨c1,c2,-⟩:=Dl DF;simp[BQ,B5,k4,k19,k20,k21,A7,V9,hx,hI,A3,ha,c1,c2];exact O9 hJ ⟨i+1,by omega,by simp[B5],_,v',done++[t'],rfl,FN hg2 rfl,e2,by simp[EF]⟩
 .obtain⟨B,v,done,hB,hg,hd,EF⟩:=hr;obtain⟨bx,F⟩:=H1;simp only at hB;subst hB;rw[List.take_of_length_le (by omega)]at hd;simp[BQ,B5,k20,k21,A7];exact hΦ _ _ _ ⟨rfl,B,v,done,rfl,hg,hd⟩
theorem ga {k:Int} {nm:H6} {s:Int} {n:Nat} (h:t6 k s nm n=0) (hk:k=3):s=0:=by
 subst hk;unfold t6 at h;by_cases hs:s=0
 .exact hs
 .rw[if_pos (.inr (.inl ⟨rfl,hs⟩))]at h;exact absurd h (by decide)
theorem dg:∀(n:Nat) (t:Tm),t.size<=n->t.size<=1048576->ef t->L0 t=0->∃t',pc Q X9 [B8 t]=some (.tup [B8 t',.int .i64 0])/\D2 t'=D2 t:=by
 intro n
 induction n with
 |zero=>intro t h;have:=t.size_pos;omega
 |succ n ih =>
  intro t hn hb hf fl
  suffices h:∃v,pc Q X9 [B8 t]=some v/\∃t',v=.tup [B8 t',.int .i64 0]/\D2 t'=D2 t by
   obtain⟨v,h1,t',rfl,h2⟩:=h;exact⟨t',h1,h2⟩
  obtain⟨k,nm,s,m,kids⟩:=t;have K3:Tm.size (.mk k nm s m kids)=1+Tm.sizes kids:=rfl;have C2:=Tm.length_le kids;obtain⟨hno1,hno2⟩:=CP fl;have Pc:=XQ m kids nm [.int .i64 k,.str nm,.int .i64 s,sl m 4 (A4 kids)] [.int .i64 0,.str (bs []),.int .i64 0,.vs true 0 []] (by omega) (λt ht=>ih t (by have:=Tm.size_le ht;omega) (by have:=Tm.size_le ht;omega) (hf.kid ht) (BJ hno2 t ht));clear ih;by_cases hk:k=3
  .obtain⟨n1,n2,n3,n4,n5,n6,n7,n8,n9,n10,n11,-⟩:=Ob (hf.name hk);simp only[Tm.name]at n1 n2 n3 n4 n5 n6 n7 n8 n9 n10 n11;have hs0:=ga hno1 hk;subst hk hs0;refine Ja Ay λΨ hΨ fr hl h0=>?_;simp[Ay,B8]at hl h0;simp[Ay,hl,h0,D0,E7];refine C8.mono (Pc _ _ ?_ ?_ ?_ ?_ ?_ ?_ ?_) ?_<;>first|(simp[hl];done)|skip
   rintro e H0 ⟨bx,F⟩ ⟨K,rfl,B,v,done,hB,hg,hd⟩;simp only at hB;subst hB;have M7:H0.length=90:=K.1.trans (by simp[hl]);have GB:A0 H0 1=.ptr 0 0:=A5 K 1 (by simp[hl]);have FH:A0 H0 2=.ptr 1 0:=A5 K 2 (by simp[hl]);have MC:A0 H0 4=.ptr 2 0:=A5 K 4 (by simp[hl]);clear K;obtain⟨mm,hz⟩:=WL hg;obtain⟨c1,c2,c3⟩:=Dl hg;simp[M7,GB,FH,MC,hz,n1,n2,n3,n4,n5,n6,n7,n8,n9,n10,n11];exact hΨ _ ⟨.mk 3 nm 0 mm done,rfl,by simp[D2,hd]⟩
  .refine Ja Ay λΨ hΨ fr hl h0=>?_;simp[Ay,B8]at hl h0;simp[Ay,hl,h0,hk];exact hΨ _ ⟨.mk k nm s m kids,rfl,rfl⟩
mutual
theorem XZ:∀t:Tm,L0 (D2 t)=L0 t
 | .mk k nm s m l=>by rw[D2,L0,L0,UN l,E4,xc]
theorem UN:∀l:List Tm,T5 (H3 l)=T5 l
 | []=>rfl
 |t::l=>by rw[H3,T5,T5,XZ t,UN l]
end
mutual
theorem fR:∀t:Tm,Ip (D2 t)=Ip t
 | .mk k nm s m l=>by rw[D2,Ip,Ip,aP l]
theorem aP:∀l:List Tm,Hb (H3 l)=Hb l
 | []=>rfl
 |t::l=>by rw[H3,Hb,Hb,fR t,aP l]
end
theorem Ss (t:Tm):S6 (D2 t)=S6 t:=by
 unfold S6;rw[XZ,Dn _ t (xX _),fR]
theorem eT {a b:Tm} (h:D2 a=D2 b):S6 a=S6 b:=by rw[←Ss a,h,Ss b]
theorem Sg {a b:Tm} (h:D2 a=D2 b):a.size=b.size:=by rw[←Dn _ a (xX _),h,Dn _ b (xX _)]
theorem Eb {t:Tm} (h:vE t=0):S6 t=0/\RF t=0:=by
 unfold vE at h;by_cases hv:S6 t=0
 .rw[if_neg (by simp[hv])]at h;exact⟨hv,h⟩
 .rw[if_pos hv]at h;exact absurd h hv
theorem Hk {t:Tm} (h:S6 t=0):L0 t=0/\t.size<=400:=by
 unfold S6 at h;by_cases hv:L0 t=0
 .rw[if_neg (by simp[hv])]at h;refine⟨hv,?_⟩;by_cases hs:400<t.size\/40<Ip t
  .rw[if_pos hs]at h;exact absurd h (by decide)
  .omega
 .rw[if_pos hv]at h;exact absurd h hv
theorem dW (t:Tm) (hf:ef t) (hv:vE t=0):∃t',pc Q HR [B8 t]=some (.tup [B8 t',.int .i64 0])/\D2 t'=D2 t:=by
 obtain⟨hv1,hv2⟩:=Eb hv;obtain⟨fl,hs⟩:=Hk hv1;obtain⟨t',hN,he⟩:=dg _ t (xX _) (by omega) hf fl;have h1:=IQ t (by omega);have h2:=Dw t' (by rw[Sg he];omega);rw[hv]at h1;rw[eT he,hv1]at h2;refine⟨t',?_,he⟩;refine N0 HW λfr hl h0=>?_;simp[HW]at hl h0;simp[HW,hl,h0,h1,hN,h2]
theorem dX (nm:H6) (h:nm∈AD):pc Q y8 [.str nm]=some (.bool true):=by
 have hS:=UY nm;obtain⟨-,-,-,-,-,-,-,-,-,-,-,-,-,hk,-⟩:=Ob h;unfold JE at hk;generalize LY nm=q at *
 obtain⟨q1,q2,q3,q4⟩:=q;simp only[HK]at hS hk;refine N0 Gi λfr hl h0=>?_;simp[Gi]at hl h0;simp[Gi,hl,h0,hS,hk]
theorem ZK (m:J0) (l:I1) (C2:l.length<=1048576) (IH:∀t∈l,pc Q AN [B8 t,.fn y8 []]=some (.bool true)) (fr:Fr) (h:AH) (hl:fr.length=29) (h1:A0 fr 1=.fn y8 []) (h18:A0 fr 18=sl m 4 (A4 l)) (h19:A0 fr 19=.int .i64 l.length) (h20:A0 fr 20=.int .i64 0) :
  C8 (lp (A1 (Q8 Q) (G8 AN) CB) (fr,h)) λe D3 h'=>Kp CB.wr fr D3/\e=.exit 0:=by
 refine C3 rfl fr (λn fr h'=>∃(i:Nat),i+n=l.length/\A0 fr 20=.int .i64 (i:Nat)/\True) ?_ l.length h ⟨0,by omega,h20,trivial⟩;rintro J Φ hJ hΦ n H0 H1 K ⟨i,hi,k20,hr⟩;have B5:=K.1.trans hl;have k1:=A5 K 1 h1;have k18:=A5 K 18 h18;have k19:=A5 K 19 h19;clear K;by_cases A7:i<l.length
 .have V9:=E6 i (by omega);have hx:=U2 A7;have hI:=IH l[i] (oD A7);obtain⟨bx,F⟩:=H1;generalize l[i]=s at *
  simp[CB,B5,k1,k18,k19,k20,A7,V9,hx,hI];exact O9 hJ ⟨i+1,by omega,by simp[B5],trivial⟩
 .simp[CB,B5,k19,k20,A7];exact hΦ _ _ _ rfl
theorem go:∀(n:Nat) (t:Tm),t.size<=n->t.size<=1048576->ef t->pc Q AN [B8 t,.fn y8 []]=some (.bool true):=by
 intro n
 induction n with
 |zero=>intro t h;have:=t.size_pos;omega
 |succ n ih =>
  intro t hn hb hf;have K3:=t.kids_size;have C2:=Tm.length_le t.kids;have Pc:=ZK t.cm t.kids (by omega) (λt' ht=>by have:=Tm.size_le ht;exact ih t' (by omega) (by omega) (hf.kid ht));clear ih;by_cases hk:t.kind=3
  .have hP:=dX t.name (hf.name hk);have hag:AV.agg [.int .i64 3,.str t.name,.int .i64 t.sort,sl t.cm 4 (A4 t.kids)]=B8 t:=by rw[←hk];exact Vx t
   refine R9 CA λfr hl h0 h1=>?_;simp[CA]at hl h0 h1;simp[CA,hl,h0,h1,hk,hP];refine C8.mono (Pc _ _ ?_ ?_ ?_ ?_ ?_) ?_<;>first|(simp[hl,h1];done)|skip
   rintro e H0 Jp ⟨K,rfl⟩;have B5:H0.length=29:=K.1.trans (by simp[hl]);simp[B5]
  .refine R9 CA λfr hl h0 h1=>?_;simp[CA]at hl h0 h1;simp[CA,hl,h0,hk];refine C8.mono (Pc _ _ ?_ ?_ ?_ ?_ ?_) ?_<;>first|(simp[hl,h1];done)|skip
   rintro e H0 Jp ⟨K,rfl⟩;have B5:H0.length=29:=K.1.trans (by simp[hl]);simp[B5]
theorem du (a b:Tm) (h:a.size<=1099511627776) (h':b.size<=1099511627776):pc Q JX [B8 a,B8 b]=some (.bool (HN a b)):=by
 have hC:=Z3 _ a b (xX _) h h';refine R9 Jo λfr hl h0 h1=>?_;simp[Jo]at hl h0 h1;simp[Jo,hl,h0,h1,hC,HN]
theorem mO {a b:Tm} (h:D2 a=D2 b):HN a b=true:=by
 unfold HN;rw[AC.2 h];rfl
theorem gj (t:Tm) (hf:ef t) (hv:vE t=0):pc Q IL [B8 t]=some (.bool true):=by
 obtain⟨fl,hs⟩:=Hk (Eb hv).1;obtain⟨t',hN,he⟩:=dW t hf hv;have hS:=du t' t (by rw[Sg he];omega) (by omega);rw[mO he]at hS;have hE:=go _ t (xX _) (by omega) hf;refine N0 Ii λfr hl h0=>?_;simp[Ii]at hl h0;simp[Ii,hl,h0,hN,hS,hE]
structure GoodT (t:Tm):Prop where
 free:ef t
 valid:vE t=0
 ground:rL t=true
 own:∀x∈EH t,x.kind=2->Nx x.name (bs [101,35])=false
theorem GoodT.size {t:Tm} (h:GoodT t):t.size<=400:=(Hk (Eb h.valid).1).2
theorem gu (t:Tm) (h:GoodT t):pc Q FV [B8 t]=some (.int .i64 0):=by
 have hs:=h.size;have h1:=IQ t (by omega);rw[h.valid]at h1;obtain⟨R,m',h2,ID⟩:=kP t (by omega);have h3:=gj t h.free h.valid;have hR:R.length=0:=(bo ID).2 h.ground;have hR':(A4 R).length=0:=by rw[D7,xc,hR]
 refine N0 Fo λfr hl h0=>?_;simp[Fo]at hl h0;simp[Fo,hl,h0,h1,h2,h3,hR']
theorem XR (m:J0) (l:I1) (C2:l.length<=1048576) (hg:∀t∈l,GoodT t) (fr:Fr) (h:AH) (hl:fr.length=18) (h6:A0 fr 6=sl m 4 (A4 l)) (h7:A0 fr 7=.int .i64 l.length) (h8:A0 fr 8=.int .i64 0) :
  C8 (lp (A1 (Q8 Q) (G8 CL) j0) (fr,h)) λe D3 h'=>Kp j0.wr fr D3/\e=.exit 0:=by
 refine C3 rfl fr (λn fr h'=>∃(i:Nat),i+n=l.length/\A0 fr 8=.int .i64 (i:Nat)/\True) ?_ l.length h ⟨0,by omega,h8,trivial⟩;rintro J Φ hJ hΦ n H0 H1 K ⟨i,hi,k8,hr⟩;have B5:=K.1.trans hl;have k6:=A5 K 6 h6;have k7:=A5 K 7 h7;clear K;by_cases A7:i<l.length
 .have V9:=E6 i (by omega);have hx:=U2 A7;have hI:=gu l[i] (hg _ (oD A7));obtain⟨bx,F⟩:=H1;generalize l[i]=s at *
  simp[j0,B5,k6,k7,k8,A7,V9,hx,hI];exact O9 hJ ⟨i+1,by omega,by simp[B5],trivial⟩
 .simp[j0,B5,k7,k8,A7];exact hΦ _ _ _ rfl
theorem dl (m:J0) (l:I1) (C2:l.length<=1048576) (hg:∀t∈l,GoodT t):pc Q CL [sl m 4 (A4 l)]=some (.int .i64 0):=by
 refine N0 Ev λfr hl h0=>?_;simp[Ev]at hl h0;simp[Ev,hl,h0];refine C8.mono (XR m l C2 hg _ _ ?_ ?_ ?_ ?_) ?_<;>first|(simp[hl];done)|skip
 rintro e H0 Jp ⟨K,rfl⟩;have B5:H0.length=18:=K.1.trans (by simp[hl]);simp[B5]
theorem Pm (t:Tm) (m:J0) (l:List ByteArray) (C2:l.length<=1048576):pc Q H7 [B8 t,GD m l]=some (.bool (decide (t.kind=3)&&l.any (BR t.name))):=by
 have hC:=MN m l t.name (by omega);simp only[GD]at hC ⊢;by_cases hk:t.kind=3
 .refine R9 Bp λfr hl h0 h1=>?_;simp[Bp]at hl h0 h1;simp[Bp,hl,h0,h1,hk,hC]
 .refine R9 Bp λfr hl h0 h1=>?_;simp[Bp]at hl h0 h1;simp[Bp,hl,h0,hk]
def GF (t:Tm) (l:List ByteArray):Bool:=decide (t.kind=3)&&l.any (BR t.name)
theorem OC {t:Tm} (h:t.kind=3->t.name∈AD) {l:List ByteArray} (hl:∀x∈l,∀y∈AD,y≠x):GF t l=false:=by
 unfold GF;by_cases hk:t.kind=3
 .have hn:=h hk;simp only[hk,decide_true,Bool.true_and];rw[Bool.eq_false_iff];intro ha;obtain⟨x,hx,he⟩:=List.any_eq_true.1 ha;rw[Dm]at he;exact hl x hx _ hn he
 .simp[hk]
def qG (U:List Tm):Prop:=∀x∈U,x.kind=3->x.name∈AD
theorem Xo (t:Tm) (h:t.kind=3->t.name∈AD):pc Q DI [B8 t]=some (.bool false):=by
 have hI:=Pm t (true,true) [bs [109,117,108],bs [105,110,118]] (by decide);have e:=OC h (l:=[bs [109,117,108],bs [105,110,118]]) (by decide);unfold GF at e;rw[e]at hI;simp only[GD,xa,xb]at hI;refine N0 Fn λfr hl h0=>?_;simp[Fn]at hl h0;simp[Fn,hl,h0,hI,A3]
theorem gt (t:Tm) (h:t.kind=3->t.name∈AD):pc Q H7 [B8 t,sl (true,true) 1 [.str (bs [101,120,112])]]=some (.bool false):=by
 have hI:=Pm t (true,true) [bs [101,120,112]] (by decide);have e:=OC h (l:=[bs [101,120,112]]) (by decide);unfold GF at e;rw[e]at hI;simpa only[GD,xa,xb]using hI
theorem Rs (m:J0) (U:I1) (C2:U.length<=1048576) (hU:qG U) (fr:Fr) (h:AH) (h3:A0 fr 3=.int .i64 0) (h4:A0 fr 4=.vs true 0 []) (hl:fr.length=59) (h11:A0 fr 11=sl m 4 (A4 U)) (h12:A0 fr 12=.int .i64 U.length) (h13:A0 fr 13=.int .i64 0) :
  C8 (lp (A1 (Q8 Q) (G8 DJ) t7) (fr,h)) λe D3 h'=>Kp t7.wr fr D3/\(e=.exit 0/\A0 D3 3=.int .i64 0/\A0 D3 4=.vs true 0 []):=by
 refine C3 rfl fr (λn fr h'=>∃(i:Nat),i+n=U.length/\A0 fr 13=.int .i64 (i:Nat)/\(A0 fr 3=.int .i64 0/\A0 fr 4=.vs true 0 [])) ?_ U.length h ⟨0,by omega,h13,h3,h4⟩;rintro J Φ hJ hΦ n H0 H1 K ⟨i,hi,k13,hr⟩;have B5:=K.1.trans hl;have k11:=A5 K 11 h11;have k12:=A5 K 12 h12;clear K;by_cases A7:i<U.length
 .have V9:=E6 i (by omega);obtain⟨k3,k4⟩:=hr;have hx:=U2 A7;have hf:=hU U[i] (oD A7);have hP:=Xo U[i] hf;have hE:=gt U[i] hf;obtain⟨bx,F⟩:=H1;generalize U[i]=s at *
  simp[t7,B5,k11,k12,k13,A7,V9,hx,hP,hE,A3];exact O9 hJ ⟨i+1,by omega,by simp[B5],by simp[k3],by simp[k4]⟩
 .obtain⟨k3,k4⟩:=hr;simp[t7,B5,k12,k13,A7];exact hΦ _ _ _ ⟨rfl,by simp[k3],by simp[k4]⟩
def mB (n:Nat):Int:=if 200<n then 3 else 0
theorem gx (m:J0) (U:I1) (C2:U.length<=1048576) (hU:qG U):pc Q DJ [sl m 4 (A4 U)]=some (.int .i64 (mB U.length)):=by
 unfold mB;by_cases hb:200<U.length
 .have hb':(200:Int)<U.length:=by omega
  rw[if_pos hb];refine N0 o7 λfr hl h0=>?_;simp[o7]at hl h0;simp[o7,hl,h0];refine C8.mono (Rs m U C2 hU _ _ ?_ ?_ ?_ ?_ ?_ ?_) ?_<;>first|(simp[hl];done)|skip
  rintro e H0 Jp ⟨K,rfl,k3,k4⟩;have M7:H0.length=59:=K.1.trans (by simp[hl]);have MB:A0 H0 0=sl m 4 (A4 U):=A5 K 0 (by simp[h0]);clear K;simp[M7,MB,hb']
 .have hb':¬(200:Int)<U.length:=by omega
  rw[if_neg hb];refine N0 o7 λfr hl h0=>?_;simp[o7]at hl h0;simp[o7,hl,h0];refine C8.mono (Rs m U C2 hU _ _ ?_ ?_ ?_ ?_ ?_ ?_) ?_<;>first|(simp[hl];done)|skip
  rintro e H0 Jp ⟨K,rfl,k3,k4⟩;have M7:H0.length=59:=K.1.trans (by simp[hl]);have MB:A0 H0 0=sl m 4 (A4 U):=A5 K 0 (by simp[h0]);clear K;simp[M7,MB,k3,k4,hb']
theorem dL {t:Tm} (h:t.kind=3->t.name∈AD) {nm:H6} (hn:∀y∈AD,y≠nm):(decide (t.kind=3)&&decide (t.name=nm))=false:=by
 by_cases hk:t.kind=3
 .have:t.name≠nm:=hn _ (h hk);simp[this]
 .simp[hk]
end Go.Abs.Q
