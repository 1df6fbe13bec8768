/- A part of the proof. -/
import Derived.Test.YtnnjamknplefbaaGreatDoorTN21
set_option linter.all false
open List renaming drop_eq_getElem_cons->zf0z,drop_eq_nil_of_le->zf1z,getElem?_eq_getElem->zf2z,getElem_mem->zf3z,find?_cons->zf4z,all_cons->zf9z,any_cons->zg0z
open Nat renaming le_refl->zf5z
open Bool renaming and_eq_true->zf6z,or_eq_true->zf7z,false_or->zf8z,true_or->zg1z
set_option linter.all false
namespace Go.Abs.Q
open Go.Proofs
attribute [local simp] E5 E6 fin J4 H8 Q3 S6
abbrev Sy:=ByteArray×Int×Int×Int
@[simp]theorem symA_cells(x:Sy):(Fh x).cells=[.str x.1,.int .i64 x.2.1,.int .i64 x.2.2.1,.int .i64 x.2.2.2]:=rfl
@[simp]theorem symA_isTup(x:Sy):(Fh x).isTup=false:=rfl
theorem A1h(x:Sy):AV.agg [.str x.1,.int .i64 x.2.1,.int .i64 x.2.2.1,.int .i64 x.2.2.2]=Fh x:=rfl
theorem lE(m:Gg)(l:List Sy)(nm:Al)(D6:l.length<=1048576)(fr:Fr)(h:AH)(hh:h.boxes=[(Fh zS).cells])(hl:fr.length=18)(h0:B2 fr 0=.str nm)(h2:B2 fr 2=.ptr 0 0)(h5:B2 fr 5=sl m 4 (l.map Fh))(h6:B2 fr 6=.int .i64 l.length)(h7:B2 fr 7=.int .i64 0) :
  D7 (lp (A8 (m6 Q) (B1 Fz) CK) (fr,h)) λe B8 h'=>Kp CK.wr fr B8/\(e=.exit 0/\(∃B,h'.boxes=(Fh zS).cells::B)/\l.find? (λx=>decide (x.1=nm))=none\/e=.ret/\∃x B,h'.boxes=(Fh x).cells::B/\l.find? (λx=>decide (x.1=nm))=some x):=by
 refine E9 rfl fr (λn fr h'=>∃(i:Nat),i+n=l.length/\B2 fr 7=.int .i64 (i:Nat)/\((∃B,h'.boxes=(Fh zS).cells::B)/\(l.drop i).find? (λx=>decide (x.1=nm))=l.find? λx=>decide (x.1=nm))) ?_ l.length h ⟨0,a_,h7,⟨[],hh⟩,rfl⟩;rintro J Φ hJ hΦ n CT H1 K ⟨i,hi,k7,hr⟩;have C6:=K.1.trans hl;have k0:=D4 K 0 h0;have k2:=D4 K 2 h2;have k5:=D4 K 5 h5;have k6:=D4 K 6 h6;clear K;by_cases C2:i<l.length
 .have L4:=J6 i a_;obtain⟨⟨B,hB⟩,hr⟩:=hr;obtain⟨bx,F⟩:=H1;simp only at hB;subst hB;have hx:=J5 (f:=Fh) (zf2z C2);rw[zf0z C2,zf4z]at hr;clear hh;generalize l[i]=s at *
  obtain⟨s1,s2,s3,s4⟩:=s;by_cases hc:s1=nm
  .subst hc;simp only[decide_true]at hr;simp only[Fh]at hx;simp[CK,C6,k0,k2,k5,k6,k7,C2,L4,hx,Fh,zS];exact hΦ _ _ _ (.inr ⟨rfl,(s1,s2,s3,s4),_,rfl,hr.symm⟩)
  .simp only[hc,decide_false]at hr;simp only[Fh]at hx;simp[CK,C6,k0,k2,k5,k6,k7,C2,L4,hx,Fh,zS,hc];exact V6 hJ ⟨i+1,a_,d_,⟨_,rfl⟩,hr⟩
 .obtain⟨⟨B,hB⟩,hr⟩:=hr;rw[zf1z a_]at hr;simp[CK,C6,k0,k2,k5,k6,k7,C2];exact hΦ _ _ _ (.inl ⟨rfl,⟨B,hB⟩,hr.symm⟩)
theorem eJ(nm:Al):pc Q Fz [.str nm]=some (Fh (RD nm)):=by
 obtain⟨m,hS⟩:=pw;refine J0 MP λfr hl h0=>?_;simp[MP]at hl h0;simp[MP,hl,h0,hS];refine D7.mono (lE m tab nm f9 _ _ ?_ ?_ ?_ ?_ ?_ ?_ ?_) ?_<;>first|(simp[hl,h0,Fh,zS];done)|skip
 rintro e CT ⟨bx,F⟩ ⟨K,⟨rfl,⟨B,hB⟩,hf⟩|⟨rfl,x,B,hB,hf⟩⟩
 .simp only at hB;subst hB;have A0F:CT.length=18:=K.1.trans c_;have A0K:B2 CT 2=.ptr 0 0:=D4 K 2 c_;clear K;simp[A0F,A0K,Fh,zS,B5,C0];simp[RD,hf,zS]
 .simp only at hB;subst hB;have A0F:CT.length=18:=K.1.trans c_;have A0K:B2 CT 2=.ptr 0 0:=D4 K 2 c_;clear K;simp[A0F,A0K,Fh];simp[RD,hf]
def Gw(nm:ByteArray):Int:=(RD nm).2.2.2
def PM(nm:ByteArray)(n:Int):Bool:=decide ((RD nm).2.1<=n)&&decide (n<=(RD nm).2.2.1)
def GD(t:Tm):Bool:=decide (t.kind=3)||decide (t.sort≠1)
def nI(nm:ByteArray)(l:List Tm):Int :=
 if nm=bs [115,107]\/nm=bs [115,104,107]then (if l.any GD=true then 10 else 0)
 else if nm=bs [110,101,119]then (match l with | []=>0|a::_=>if a.kind=2 then 0 else 10)else 0
mutual
def RE:Tm->Int
 | .mk k nm _ _ l=>if k≠3 then 0 else if Gw nm=0 then 10 else if PM nm l.length=false then 6 else if nI nm l≠0 then nI nm l else TQ l
def TQ:List Tm->Int
 | []=>0
 |t::l=>if RE t≠0 then RE t else TQ l
end
theorem Xg(t:Tm)(l:Be):TQ (t::l)=if RE t≠0 then RE t else TQ l:=rfl
theorem loop_ag(m:Gg)(l:Be)(D6:l.length<=1099511627776)(fr:Fr)(h:AH)(hl:fr.length=74)(h38:B2 fr 38=sl m 4 (C4 l))(h39:B2 fr 39=.int .i64 l.length)(h40:B2 fr 40=.int .i64 0) :
  D7 (lp (A8 (m6 Q) (B1 Bp) BO) (fr,h)) λe B8 h'=>Kp BO.wr fr B8/\(e=.exit 1/\(∃B,h'.boxes=h.boxes++B)/\l.any GD=false\/e=.ret/\B2 B8 2=.int .i64 10/\l.any GD=true):=by
 refine E9 rfl fr (λn fr h'=>∃(i:Nat),i+n=l.length/\B2 fr 40=.int .i64 (i:Nat)/\((∃B,h'.boxes=h.boxes++B)/\(l.drop i).any GD=l.any GD)) ?_ l.length h ⟨0,a_,h40,⟨[],e_⟩,rfl⟩;rintro J Φ hJ hΦ n CT H1 K ⟨i,hi,k40,hr⟩;have C6:=K.1.trans hl;have k38:=D4 K 38 h38;have k39:=D4 K 39 h39;clear K;by_cases C2:i<l.length
 .have L4:=J6 i a_;obtain⟨⟨B,hB⟩,hr⟩:=hr;obtain⟨bx,F⟩:=H1;simp only at hB;have hx:=Gk C2;rw[zf0z C2,zg0z]at hr;generalize l[i]=s at *
  by_cases hc:GD s=true
  .rw[hc,zg1z]at hr;by_cases hk:s.kind=3
   .simp[BO,C6,k38,k39,k40,C2,L4,hx,hk];exact hΦ _ _ _ (.inr ⟨rfl,d_,hr.symm⟩)
   .have hs:s.sort≠1:=by simpa[GD,hk]using hc
    simp[BO,C6,k38,k39,k40,C2,L4,hx,hk,hs];exact hΦ _ _ _ (.inr ⟨rfl,d_,hr.symm⟩)
  .simp only[GD,zf7z,decide_eq_true_eq,not_or,ne_eq,Decidable.not_not]at hc;have hn:GD s=false:=by simp[GD,hc]
   rw[hn,zf8z]at hr;have hk:=hc.1;have hs:=hc.2;clear hc hn;simp[BO,C6,k38,k39,k40,C2,L4,hx,hk,hs];exact V6 hJ ⟨i+1,a_,d_,⟨B++[[.int .i64 s.kind,.str s.name,.int .i64 1,sl s.cm 4 (C4 s.kids)]],by simp[hB]⟩,hr⟩
 .obtain⟨⟨B,hB⟩,hr⟩:=hr;rw[zf1z a_]at hr;simp[BO,C6,k38,k39,k40,C2];exact hΦ _ _ _ (.inl ⟨rfl,⟨B,hB⟩,hr.symm⟩)
theorem kh(m:Gg)(l:Be)(D6:l.length<=1099511627776)(IH:∀t∈l,pc Q Bp [I8 t]=some (.int .i64 (RE t)))(fr:Fr)(h:AH)(hl:fr.length=74)(h62:B2 fr 62=sl m 4 (C4 l))(h63:B2 fr 63=.int .i64 l.length)(h64:B2 fr 64=.int .i64 0) :
  D7 (lp (A8 (m6 Q) (B1 Bp) Cx) (fr,h)) λe B8 h'=>Kp Cx.wr fr B8/\(e=.exit 3/\TQ l=0\/e=.ret/\B2 B8 2=.int .i64 (TQ l)):=by
 refine E9 rfl fr (λn fr h'=>∃(i:Nat),i+n=l.length/\B2 fr 64=.int .i64 (i:Nat)/\(TQ (l.drop i)=TQ l)) ?_ l.length h ⟨0,a_,h64,rfl⟩;rintro J Φ hJ hΦ n CT H1 K ⟨i,hi,k64,hr⟩;have C6:=K.1.trans hl;have k62:=D4 K 62 h62;have k63:=D4 K 63 h63;clear K;by_cases C2:i<l.length
 .have L4:=J6 i a_;have hx:=Gk C2;have hI:=IH l[i] (zf3z C2);rw[zf0z C2,Xg]at hr;obtain⟨bx,F⟩:=H1;generalize l[i]=s at *
  by_cases hc:RE s=0
  .rw[if_neg (by simp[hc])]at hr;rw[hc]at hI;simp[Cx,C6,k62,k63,k64,C2,L4,hx,hI];exact V6 hJ ⟨i+1,a_,d_,hr⟩
  .rw[if_pos hc]at hr;simp[Cx,C6,k62,k63,k64,C2,L4,hx,hI,hc];exact hΦ _ _ _ (.inr ⟨rfl,by simp[C6,hr]⟩)
 .rw[zf1z a_]at hr;simp[Cx,C6,k62,k63,k64,C2];exact hΦ _ _ _ (.inl ⟨rfl,hr.symm⟩)
theorem lH{n:Nat}(h:PM (bs [110,101,119]) n=true):1<=n:=by
 have e:(RD (bs [110,101,119])).2.1=1:=by decide
 simp only[PM,e,zf6z,decide_eq_true_eq]at h;omega
theorem A1i(t:Tm)(h:t.kind≠3):RE t=0:=by
 obtain⟨k,nm,s,m,l⟩:=t;have h:k≠3:=h;rw[RE,if_pos h]
theorem uN{k:Int}{nm:Al}{s:Int}{m:Gg}{l:Be}(h:k=3):RE (.mk k nm s m l)=if Gw nm=0 then 10 else if PM nm l.length=false then 6 else if nI nm l≠0 then nI nm l else TQ l:=by
 rw[RE,if_neg (by simp[h])]
theorem wq:∀(n:Nat) (t:Tm),t.size<=n->t.size<=1099511627776->pc Q Bp [I8 t]=some (.int .i64 (RE t)):=by
 intro n
 induction n with
 |zero=>intro t h;have:=t.size_pos;omega
 |succ n ih =>
  intro t hn hb;obtain⟨k,nm,s,m,kids⟩:=t;have X9:Tm.size (.mk k nm s m kids)=1+Tm.sizes kids:=rfl;have D6:=Tm.length_le kids;have hS:=eJ nm;have hlp0:=kh m kids a_ (λt ht=>ih t (by have:=Tm.size_le ht;omega) (by have:=Tm.size_le ht;omega));have hlp1:=loop_ag m kids a_;clear ih;by_cases hk:k=3
  .subst hk;rw[uN rfl];by_cases hkd:Gw nm=0
   .rw[if_pos hkd];simp only[Gw]at hkd;generalize RD nm=q at *
    obtain⟨q1,q2,q3,q4⟩:=q;simp only[Fh]at hS hkd;refine J0 H6 λfr hl h0=>?_;simp[H6,I8]at hl h0;simp[H6,hl,h0,hS,hkd]
   .rw[if_neg hkd];by_cases hf:PM nm kids.length=false
    .rw[if_pos hf];simp only[Gw]at hkd;simp only[PM]at hf;generalize RD nm=q at *
     obtain⟨q1,q2,q3,q4⟩:=q;simp only[Fh]at hS hkd hf;refine J0 H6 λfr hl h0=>?_;simp[H6,I8]at hl h0;by_cases h2:(kids.length:Int)<q2
     .simp[H6,hl,h0,hS,hkd,h2]
     .have h3:q3<(kids.length:Int):=by
       rw[Bool.and_eq_false_iff]at hf;rcases hf with hf|hf
       .simp only[decide_eq_false_iff_not]at hf;omega
       .simp only[decide_eq_false_iff_not]at hf;omega
      simp[H6,hl,h0,hS,hkd,h2,h3]
    .have hf':PM nm kids.length=true:=by simpa using hf
     rw[if_neg hf];have hnf:=@lH kids.length;have P5:¬((kids.length:Int)<(RD nm).2.1)/\¬((RD nm).2.2.1<(kids.length:Int)):=by
      simp only[PM,zf6z,decide_eq_true_eq]at hf';omega
     obtain⟨hf1,hf2⟩:=P5;have CN:nm=bs [110,101,119]->1<=kids.length:=λe=>hnf (by rw[←e];exact hf');clear hf hf' hnf;simp only[Gw]at hkd;generalize RD nm=q at *
     obtain⟨q1,q2,q3,q4⟩:=q;simp only[Fh]at hS hkd hf1 hf2;by_cases hsk:nm=bs [115,107]\/nm=bs [115,104,107]
     .have hag:nI nm kids=if kids.any GD=true then 10 else 0:=by unfold nI;rw[if_pos hsk]
      rw[hag];clear CN hag;generalize kids.any GD=b at hlp1 ⊢;have hmain:∀(nm':ByteArray),nm'=nm->(nm'=bs [115,107]\/nm'≠bs [115,107]/\nm'=bs [115,104,107])->pc Q Bp [I8 (.mk 3 nm s m kids)]=some (.int .i64 (if (if b=true then (10:Int)else 0)≠0 then if b=true then 10 else 0 else TQ kids)):=by
       intro nm' e hn2;subst e;refine J0 H6 λfr hl h0=>?_;simp[H6,I8]at hl h0;rcases hn2 with hn2|⟨hn1,hn2⟩
       .subst hn2;simp[H6,hl,h0,hS,hkd,hf1,hf2];refine D7.mono (hlp1 _ _ ?_ ?_ ?_ ?_) ?_<;>first|(simp[hl];done)|skip
        rintro e Zr ⟨bx,F⟩ ⟨K,⟨rfl,⟨B,hB⟩,ha⟩|⟨rfl,k2,ha⟩⟩
        .simp only at hB;subst hB;have XI:Zr.length=74:=K.1.trans c_;have k1:B2 Zr 1=.ptr 0 0:=D4 K 1 c_;clear K;simp[XI,k1,ha];refine D7.mono (hlp0 _ _ ?_ ?_ ?_ ?_) ?_<;>first|(simp[XI];done)|skip
         rintro e fr3 h3 ⟨K,⟨rfl,he⟩|⟨rfl,h2⟩⟩
         .have hl3:fr3.length=74:=K.1.trans (by simp[XI]);simp[hl3,he]
         .simp[h2]
        .simp[k2,ha]
       .subst hn2;simp[H6,hl,h0,hS,hkd,hf1,hf2,hn1];refine D7.mono (hlp1 _ _ ?_ ?_ ?_ ?_) ?_<;>first|(simp[hl];done)|skip
        rintro e Zr ⟨bx,F⟩ ⟨K,⟨rfl,⟨B,hB⟩,ha⟩|⟨rfl,k2,ha⟩⟩
        .simp only at hB;subst hB;have XI:Zr.length=74:=K.1.trans c_;have k1:B2 Zr 1=.ptr 0 0:=D4 K 1 c_;clear K;simp[XI,k1,ha];refine D7.mono (hlp0 _ _ ?_ ?_ ?_ ?_) ?_<;>first|(simp[XI];done)|skip
         rintro e fr3 h3 ⟨K,⟨rfl,he⟩|⟨rfl,h2⟩⟩
         .have hl3:fr3.length=74:=K.1.trans (by simp[XI]);simp[hl3,he]
         .simp[h2]
        .simp[k2,ha]
      refine hmain nm rfl ?_;by_cases h1:nm=bs [115,107]
      .exact .inl h1
      .exact .inr ⟨h1,hsk.resolve_left h1⟩
     .have hsk1:nm≠bs [115,107]:=λe=>hsk (.inl e);have hsk2:nm≠bs [115,104,107]:=λe=>hsk (.inr e);by_cases hn1:nm=bs [110,101,119]
      .have Qc:=CN hn1;subst hn1;cases kids with
       |nil=>simp at Qc
       |cons a kids =>
        have hag:nI (bs [110,101,119]) (a::kids)=if a.kind=2 then 0 else 10:=by unfold nI;rw[if_neg hsk,if_pos rfl]
        rw[hag];have hx:KW (C4 (a::kids)) 0=some (I8 a):=Gk (l:=a::kids) (i:=0) e_;generalize a::kids=kids' at *
        by_cases ha:a.kind=2
        .refine J0 H6 λfr hl h0=>?_;simp[H6,I8]at hl h0;simp[H6,hl,h0,hS,hkd,hf1,hf2,hsk1,hsk2,hx,ha];refine D7.mono (hlp0 _ _ ?_ ?_ ?_ ?_) ?_<;>first|(simp[hl];done)|skip
         rintro e fr3 h3 ⟨K,⟨rfl,he⟩|⟨rfl,h2⟩⟩
         .have hl3:fr3.length=74:=K.1.trans c_;simp[hl3,he]
         .simp[h2]
        .refine J0 H6 λfr hl h0=>?_;simp[H6,I8]at hl h0;simp[H6,hl,h0,hS,hkd,hf1,hf2,hsk1,hsk2,hx,ha]
      .have hag:nI nm kids=0:=by unfold nI;rw[if_neg hsk,if_neg hn1]
       rw[hag];refine J0 H6 λfr hl h0=>?_;simp[H6,I8]at hl h0;simp[H6,hl,h0,hS,hkd,hf1,hf2,hsk1,hsk2,hn1];refine D7.mono (hlp0 _ _ ?_ ?_ ?_ ?_) ?_<;>first|(simp[hl];done)|skip
       rintro e fr3 h3 ⟨K,⟨rfl,he⟩|⟨rfl,h2⟩⟩
       .have hl3:fr3.length=74:=K.1.trans c_;simp[hl3,he]
       .simp[h2]
  .rw[A1i (.mk k nm s m kids) hk];refine J0 H6 λfr hl h0=>?_;simp[H6,I8]at hl h0;simp[H6,hl,h0,hk]
def vE(t:Tm):Int:=if EP t≠0 then EP t else RE t
theorem SU(t:Tm)(hb:t.size<=1099511627776):pc Q Hf [I8 t]=some (.int .i64 (vE t)):=by
 have h1:=WH t hb;have h2:=wq _ t (zf5z _) hb;unfold vE;by_cases hv:EP t=0
 .rw[if_neg (by simp[hv])];rw[hv]at h1;refine J0 FE λfr hl h0=>?_;simp[FE]at hl h0;simp[FE,hl,h0,h1,h2]
 .rw[if_pos hv];refine J0 FE λfr hl h0=>?_;simp[FE]at hl h0;simp[FE,hl,h0,h1,hv]
theorem Tx:pc Q Fv []=some (sl (true,true) 4 (tab.map Fh)):=by
 refine gu WQ rfl (by simp[JJ]) λfr hl ha=>?_;clear ha;simp[JJ]at hl ;simp[JJ,hl,B5,C0,A9];rfl
theorem wQ(m:Gg)(l:List Sy)(nm:Al)(D6:l.length<=1048576)(fr:Fr)(h:AH)(hl:fr.length=24)(h0:B2 fr 0=.str nm)(h3:B2 fr 3=sl m 4 (l.map Fh))(h4:B2 fr 4=.int .i64 0) :
  D7 (lp (A8 (m6 Q) (B1 KC) Ew) (fr,h)) λe B8 h'=>Kp Ew.wr fr B8/\(e=.exit 0/\l.find? (λx=>decide (x.1=nm))=none\/e=.ret/\∃x:Sy,B2 B8 2=.int .i64 x.2.2.2/\l.find? (λx=>decide (x.1=nm))=some x):=by
 refine E9 rfl fr (λn fr h'=>∃(i:Nat),i+n=l.length/\B2 fr 4=.int .i64 (i:Nat)/\(l.drop i).find? (λx=>decide (x.1=nm))=l.find? λx=>decide (x.1=nm)) ?_ l.length h ⟨0,a_,h4,rfl⟩;rintro J Φ hJ hΦ n CT H1 K ⟨i,hi,k4,hr⟩;have C6:=K.1.trans hl;have k0:=D4 K 0 h0;have k3:=D4 K 3 h3;clear K;by_cases C2:i<l.length
 .have L4:=J6 i a_;have hx:=J5 (f:=Fh) (zf2z C2);rw[zf0z C2,zf4z]at hr;generalize l[i]=s at *
  obtain⟨s1,s2,s3,s4⟩:=s;simp only[Fh]at hx;by_cases hc:s1=nm
  .subst hc;simp only[decide_true]at hr;simp[Ew,C6,k0,k3,k4,C2,L4,hx,Fh];exact hΦ _ _ _ (.inr ⟨rfl,(s1,s2,s3,s4),d_,hr.symm⟩)
  .simp only[hc,decide_false]at hr;simp[Ew,C6,k0,k3,k4,C2,L4,hx,Fh,hc];exact V6 hJ ⟨i+1,a_,d_,hr⟩
 .rw[zf1z a_]at hr;simp[Ew,C6,k0,k3,k4,C2];exact hΦ _ _ _ (.inl ⟨rfl,hr.symm⟩)
theorem tP(nm:Al):pc Q KC [.str nm]=some (.int .i64 (Gw nm)):=by
 have hS:=Tx;refine J0 RK λfr hl h0=>?_;simp[RK]at hl h0;simp[RK,hl,h0,hS];refine D7.mono (wQ (true,true) tab nm f9 _ _ ?_ ?_ ?_ ?_) ?_<;>first|(simp[hl,h0];done)|skip
 rintro e CT h1 ⟨K,⟨rfl,hf⟩|⟨rfl,x,k2,hf⟩⟩
 .have C6:CT.length=24:=K.1.trans c_;simp[C6,Gw,RD,hf,zS]
 .simp[k2,Gw,RD,hf]
theorem wR(m m':Gg)(l:List Sy)(nm:Al)(x0 x2:AV)(kids:Be)(D6:l.length<=1048576)(fr:Fr)(h:AH)(hh:h=⟨[[x0,.str nm,x2,sl m' 4 (C4 kids)]],[]⟩)(hl:fr.length=40)(h1:B2 fr 1=.ptr 0 0)(h3:B2 fr 3=sl m 4 (l.map Fh))(h4:B2 fr 4=.int .i64 0) :
  D7 (lp (A8 (m6 Q) (B1 KD) DJ) (fr,h)) λe B8 h'=>Kp DJ.wr fr B8/\(e=.exit 0/\l.find? (λx=>decide (x.1=nm))=none\/e=.ret/\∃x:Sy,B2 B8 2=.bool (decide (x.2.1<=(kids.length:Int))&&decide ((kids.length:Int)<=x.2.2.1))/\l.find? (λx=>decide (x.1=nm))=some x):=by
 refine E9 rfl fr (λn fr h'=>∃(i:Nat),i+n=l.length/\B2 fr 4=.int .i64 (i:Nat)/\(h'=⟨[[x0,.str nm,x2,sl m' 4 (C4 kids)]],[]⟩/\(l.drop i).find? (λx=>decide (x.1=nm))=l.find? λx=>decide (x.1=nm))) ?_ l.length h ⟨0,a_,h4,hh,rfl⟩;rintro J Φ hJ hΦ n CT H1 K ⟨i,hi,k4,hr⟩;have C6:=K.1.trans hl;have k1:=D4 K 1 h1;have k3:=D4 K 3 h3;clear K;by_cases C2:i<l.length
 .have L4:=J6 i a_;obtain⟨rfl,hr⟩:=hr;have hx:=J5 (f:=Fh) (zf2z C2);rw[zf0z C2,zf4z]at hr;clear hh;generalize l[i]=s at *
  obtain⟨s1,s2,s3,s4⟩:=s;simp only[Fh]at hx;by_cases hc:s1=nm
  .subst hc;simp only[decide_true]at hr;by_cases hd:s2<=(kids.length:Int)
   .simp[DJ,C6,k1,k3,k4,C2,L4,hx,Fh,hd];exact hΦ _ _ _ (.inr ⟨rfl,(s1,s2,s3,s4),by simp[C6,hd],hr.symm⟩)
   .simp[DJ,C6,k1,k3,k4,C2,L4,hx,Fh,hd];exact hΦ _ _ _ (.inr ⟨rfl,(s1,s2,s3,s4),by simp[C6,hd],hr.symm⟩)
  .simp only[hc,decide_false]at hr;simp[DJ,C6,k1,k3,k4,C2,L4,hx,Fh,hc];exact V6 hJ ⟨i+1,a_,d_,rfl,hr⟩
 .obtain⟨rfl,hr⟩:=hr;rw[zf1z a_]at hr;simp[DJ,C6,k1,k3,k4,C2];exact hΦ _ _ _ (.inl ⟨rfl,hr.symm⟩)
theorem pc_fits(t:Tm)(hk:Gw t.name≠0):pc Q KD [I8 t]=some (.bool (PM t.name t.kids.length)):=by
 have hS:=Tx;refine J0 RL λfr hl h0=>?_;simp[RL]at hl h0;simp[RL,hl,h0,hS];refine D7.mono (wR (true,true) t.cm tab t.name (.int .i64 t.kind) (.int .i64 t.sort) t.kids f9 _ _ ?_ ?_ ?_ ?_ ?_) ?_<;>first|(simp[hl];done)|skip
 rintro e CT h1 ⟨K,⟨rfl,hf⟩|⟨rfl,x,k2,hf⟩⟩
 .exact absurd (by simp[Gw,RD,hf,zS]) hk
 .simp[k2,PM,RD,hf]
theorem ke(m:Gg)(l:Be)(x0 x1 x2:AV)(D6:l.length<=1099511627776)(fr:Fr)(h:AH)(hh:h=⟨[[x0,x1,x2,sl m 4 (C4 l)]],[]⟩)(hl:fr.length=36)(h1:B2 fr 1=.ptr 0 0)(h3:B2 fr 3=.int .i64 0) :
  D7 (lp (A8 (m6 Q) (B1 Hc) BM) (fr,h)) λe B8 h'=>Kp BM.wr fr B8/\(e=.exit 0/\l.any GD=false\/e=.ret/\B2 B8 2=.bool false/\l.any GD=true):=by
 refine E9 rfl fr (λn fr h'=>∃(i:Nat),i+n=l.length/\B2 fr 3=.int .i64 (i:Nat)/\(h'=⟨[[x0,x1,x2,sl m 4 (C4 l)]],[]⟩/\(l.drop i).any GD=l.any GD)) ?_ l.length h ⟨0,a_,h3,hh,rfl⟩;rintro J Φ hJ hΦ n CT H1 K ⟨i,hi,k3,hr⟩;have C6:=K.1.trans hl;have k1:=D4 K 1 h1;clear K;by_cases C2:i<l.length
 .have L4:=J6 i a_;obtain⟨rfl,hr⟩:=hr;have hx:=Gk C2;rw[zf0z C2,zg0z]at hr;clear hh;generalize l[i]=s at *
  by_cases hc:GD s=true
  .rw[hc,zg1z]at hr;by_cases hk:s.kind=3
   .simp[BM,C6,k1,k3,C2,L4,hx,hk];exact hΦ _ _ _ (.inr ⟨rfl,d_,hr.symm⟩)
   .have hs:s.sort≠1:=by simpa[GD,hk]using hc
    simp[BM,C6,k1,k3,C2,L4,hx,hk,hs];exact hΦ _ _ _ (.inr ⟨rfl,d_,hr.symm⟩)
  .simp only[GD,zf7z,decide_eq_true_eq,not_or,ne_eq,Decidable.not_not]at hc;have hn:GD s=false:=by simp[GD,hc]
   rw[hn,zf8z]at hr;have hk:=hc.1;have hs:=hc.2;clear hc hn;simp[BM,C6,k1,k3,C2,L4,hx,hk,hs];exact V6 hJ ⟨i+1,a_,d_,rfl,hr⟩
 .obtain⟨rfl,hr⟩:=hr;rw[zf1z a_]at hr;simp[BM,C6,k1,k3,C2];exact hΦ _ _ _ (.inl ⟨rfl,hr.symm⟩)
def agB(nm:ByteArray)(l:List Tm):Bool:=if nm=bs [110,101,119]then (match l with | []=>true|a::_=>decide (a.kind=2))else !(l.any GD)
theorem wm(t:Tm)(hb:t.size<=1099511627776)(hn:t.name=bs [110,101,119]->1<=t.kids.length):pc Q Hc [I8 t]=some (.bool (agB t.name t.kids)):=by
 have X9:=t.kids_size;have D6:=Tm.length_le t.kids;by_cases CN:t.name=bs [110,101,119]
 .have hk:=hn CN;have hx:KW (C4 t.kids) 0=some (I8 t.kids[0]):=Gk (l:=t.kids) (i:=0) a_;have e:agB t.name t.kids=decide (t.kids[0].kind=2):=by
   unfold agB;rw[if_pos CN];clear hx X9 D6 hb hn;obtain⟨k,nm,s,m,l⟩:=t;cases l with
   |nil=>simp[Tm.kids]at hk
   |cons a l=>rfl
  rw[e];refine J0 Ey λfr hl h0=>?_;simp[Ey]at hl h0;simp[Ey,hl,h0,CN,hx]
 .have e:agB t.name t.kids=!(t.kids.any GD):=by unfold agB;rw[if_neg CN]
  rw[e];have Eg:=ke t.cm t.kids (.int .i64 t.kind) (.str t.name) (.int .i64 t.sort) a_;generalize t.kids.any GD=b at Eg ⊢;refine J0 Ey λfr hl h0=>?_;simp[Ey]at hl h0;simp[Ey,hl,h0,CN];refine D7.mono (Eg _ _ ?_ ?_ ?_ ?_) ?_<;>first|(simp[hl];done)|skip
  rintro e CT h1 ⟨K,⟨rfl,ha⟩|⟨rfl,k2,ha⟩⟩
  .have C6:CT.length=36:=K.1.trans c_;simp[C6,ha]
  .simp[k2,ha]
theorem aF(nm:Al):Gw nm=2↔nm=bs [115,107]\/nm=bs [115,104,107]\/nm=bs [110,101,119]:=by
 constructor
 .intro h;have hm:∀x∈tab,x.2.2.2=2->x.1=bs [115,107]\/x.1=bs [115,104,107]\/x.1=bs [110,101,119]:=by decide
  unfold Gw RD at h;cases hf:tab.find? (λx=>decide (x.1=nm))with
  |none=>rw[hf]at h;exact absurd h f9
  |some x =>
   rw[hf]at h;have h1:=List.find?_some hf;simp only[decide_eq_true_eq]at h1;rw[←h1];exact hm x (List.mem_of_find?_eq_some hf) h
 .rintro(rfl|rfl|rfl)<;>decide
theorem agE_eq(nm:Al)(l:Be):nI nm l=if Gw nm=2/\agB nm l=false then 10 else 0:=by
 have hd1:(bs [115,107])≠bs [110,101,119]:=by decide
 have hd2:(bs [115,104,107])≠bs [110,101,119]:=by decide
 unfold nI agB;by_cases h1:nm=bs [115,107]\/nm=bs [115,104,107]
 .have hk:Gw nm=2:=(aF nm).2 (by rcases h1 with h|h;exact .inl h;exact .inr (.inl h))
  have hn:nm≠bs [110,101,119]:=by
   rcases h1 with rfl|rfl
   .exact hd1
   .exact hd2
  rw[if_pos h1,if_neg hn];cases l.any GD<;>simp[hk]
 .rw[if_neg h1];by_cases hn:nm=bs [110,101,119]
  .have hk:Gw nm=2:=(aF nm).2 (.inr (.inr hn));rw[if_pos hn,if_pos hn];cases l with
   |nil=>simp
   |cons a l=>by_cases ha:a.kind=2<;>simp[hk,ha]
  .rw[if_neg hn,if_neg];rintro⟨h,-⟩;rcases (aF nm).1 h with h|h|h
   .exact h1 (.inl h)
   .exact h1 (.inr h)
   .exact hn h
theorem gW(m:Gg)(l:Be)(x0 x1 x2:AV)(D6:l.length<=1099511627776)(IH:∀t∈l,pc Q GR [I8 t]=some (.int .i64 (RE t)))(fr:Fr)(h:AH)(hh:h=⟨[[x0,x1,x2,sl m 4 (C4 l)]],[]⟩)(hl:fr.length=40)(h1:B2 fr 1=.ptr 0 0)(h4:B2 fr 4=.int .i64 0) :
  D7 (lp (A8 (m6 Q) (B1 GR) Dh) (fr,h)) λe B8 h'=>Kp Dh.wr fr B8/\(e=.exit 0/\TQ l=0\/e=.ret/\B2 B8 2=.int .i64 (TQ l)):=by
 refine E9 rfl fr (λn fr h'=>∃(i:Nat),i+n=l.length/\B2 fr 4=.int .i64 (i:Nat)/\(h'=⟨[[x0,x1,x2,sl m 4 (C4 l)]],[]⟩/\TQ (l.drop i)=TQ l)) ?_ l.length h ⟨0,a_,h4,hh,rfl⟩;rintro J Φ hJ hΦ n CT H1 K ⟨i,hi,k4,hr⟩;have C6:=K.1.trans hl;have k1:=D4 K 1 h1;clear K;by_cases C2:i<l.length
 .have L4:=J6 i a_;obtain⟨rfl,hr⟩:=hr;have hx:=Gk C2;have hI:=IH l[i] (zf3z C2);rw[zf0z C2,Xg]at hr;clear hh;generalize l[i]=s at *
  by_cases hc:RE s=0
  .rw[if_neg (by simp[hc])]at hr;rw[hc]at hI;simp[Dh,C6,k1,k4,C2,L4,hx,hI];exact V6 hJ ⟨i+1,a_,d_,e_,hr⟩
  .rw[if_pos hc]at hr;simp[Dh,C6,k1,k4,C2,L4,hx,hI,hc];exact hΦ _ _ _ (.inr ⟨rfl,by simp[C6,hr]⟩)
 .obtain⟨rfl,hr⟩:=hr;rw[zf1z a_]at hr;simp[Dh,C6,k1,k4,C2];exact hΦ _ _ _ (.inl ⟨rfl,hr.symm⟩)
theorem qL:∀(n:Nat) (t:Tm),t.size<=n->t.size<=1099511627776->pc Q GR [I8 t]=some (.int .i64 (RE t)):=by
 intro n
 induction n with
 |zero=>intro t h;have:=t.size_pos;omega
 |succ n ih =>
  intro t hn hb;have X9:=t.kids_size;have D6:=Tm.length_le t.kids;have Eg:=gW t.cm t.kids (.int .i64 t.kind) (.str t.name) (.int .i64 t.sort) a_ (λt' ht=>by have:=Tm.size_le ht;exact ih t' a_ a_);clear ih;have hK:=tP t.name;have hF:=pc_fits t;have hA:=wm t hb;have hfn:t.name=bs [110,101,119]->PM t.name t.kids.length=true->1<=t.kids.length:=λe h=>lH (by rw[←e];exact h);have e:RE t=if t.kind≠3 then 0 else if Gw t.name=0 then 10 else if PM t.name t.kids.length=false then 6 else if nI t.name t.kids≠0 then nI t.name t.kids else TQ t.kids:=by
   obtain⟨k,nm,s,m,l⟩:=t;rw[RE];rfl
  rw[e,agE_eq];clear e;by_cases hk:t.kind=3
  .rw[if_neg (by simp[hk])];have hag:AV.agg [.int .i64 3,.str t.name,.int .i64 t.sort,sl t.cm 4 (C4 t.kids)]=I8 t:=by rw[←hk];exact G9 t
   by_cases hkd:Gw t.name=0
   .rw[if_pos hkd];rw[hkd]at hK;refine J0 M0 λfr hl h0=>?_;simp[M0]at hl h0;simp[M0,hl,h0,hk,hK]
   .rw[if_neg hkd];have hF:=hF hkd;by_cases hf:PM t.name t.kids.length=false
    .rw[if_pos hf];rw[hf]at hF;refine J0 M0 λfr hl h0=>?_;simp[M0]at hl h0;simp[M0,hl,h0,hk,hag,hK,hkd,hF]
    .rw[if_neg hf];have hf':PM t.name t.kids.length=true:=by simpa using hf
     rw[hf']at hF;have hA:=hA (λe=>hfn e hf');by_cases hp:Gw t.name=2
     .by_cases ha:agB t.name t.kids=false
      .rw[if_pos (by simp[hp,ha]),if_pos ⟨hp,ha⟩];rw[ha]at hA;rw[hp]at hK;refine J0 M0 λfr hl h0=>?_;simp[M0]at hl h0;simp[M0,hl,h0,hk,hag,hK,hF,hA]
      .rw[if_neg (by simp[ha])];have ha':agB t.name t.kids=true:=by simpa using ha
       rw[ha']at hA;rw[hp]at hK;refine J0 M0 λfr hl h0=>?_;simp[M0]at hl h0;simp[M0,hl,h0,hk,hag,hK,hF,hA];refine D7.mono (Eg _ _ ?_ ?_ ?_ ?_) ?_<;>first|(simp[hl,hk];done)|skip
       rintro e CT h1 ⟨K,⟨rfl,he⟩|⟨rfl,k2⟩⟩
       .have C6:CT.length=40:=K.1.trans c_;simp[C6,he]
       .simp[k2]
     .rw[if_neg (by simp[hp])];refine J0 M0 λfr hl h0=>?_;simp[M0]at hl h0;simp[M0,hl,h0,hk,hag,hK,hkd,hp,hF];refine D7.mono (Eg _ _ ?_ ?_ ?_ ?_) ?_<;>first|(simp[hl,hk];done)|skip
      rintro e CT h1 ⟨K,⟨rfl,he⟩|⟨rfl,k2⟩⟩
      .have C6:CT.length=40:=K.1.trans c_;simp[C6,he]
      .simp[k2]
  .rw[if_pos hk];refine J0 M0 λfr hl h0=>?_;simp[M0]at hl h0;simp[M0,hl,h0,hk]
theorem Oz(t:Tm)(hb:t.size<=1099511627776):pc Q Iv [I8 t]=some (.int .i64 (vE t)):=by
 have h1:=RY t hb;have h2:=qL _ t (zf5z _) hb;unfold vE;by_cases hv:EP t=0
 .rw[if_neg (by simp[hv])];rw[hv]at h1;refine J0 GZ λfr hl h0=>?_;simp[GZ]at hl h0;simp[GZ,hl,h0,h1,h2]
 .rw[if_pos hv];refine J0 GZ λfr hl h0=>?_;simp[GZ]at hl h0;simp[GZ,hl,h0,h1,hv]
theorem eK(a b:Tm)(h:a.size<=1099511627776)(h':b.size<=1099511627776):pc Q Iy [I8 a,I8 b]=some (.bool (Rr a b)):=by
 have hC:=aW _ a b (zf5z _) h h';refine j5 Ph λfr hl h0 h1=>?_;simp[Ph]at hl h0 h1;simp[Ph,hl,h0,h1,hC,Rr]
theorem WI(t:Tm)(nm:Al):pc Q Ov [I8 t,.str nm]=some (.bool (decide (t.kind=3/\t.name=nm))):=by
 obtain⟨k,n,s,m,l⟩:=t;refine j5 Lr λfr hl h0 h1=>?_;simp[Lr,I8]at hl h0 h1;by_cases e1:k=3
 .by_cases e2:n=nm
  .simp[Lr,hl,h0,h1,e1,e2,Tm.kind,Tm.name]
  .simp[Lr,hl,h0,h1,e1,e2,Tm.kind,Tm.name]
 .simp[Lr,hl,h0,h1,e1,Tm.kind,Tm.name]
theorem Je(k:Int):pc Q GB [.int .i64 k]=some (Hn (Q9 k)):=by
 refine J0 MR λfr hl h0=>?_;simp[MR]at hl h0;simp[MR,hl,h0,B5,C0,smpV1]
mutual
def vx(q:ByteArray->Bool):Tm->Bool
 | .mk k nm _ _ l=>(decide (k≠3)||q nm)&&zl q l
def zl(q:ByteArray->Bool):List Tm->Bool
 | []=>true
 |t::l=>vx q t&&zl q l
end
theorem zk(q:ByteArray->Bool)(t:Tm):vx q t=((decide (t.kind≠3)||q t.name)&&zl q t.kids):=by cases t;rfl
theorem kA(q:ByteArray->Bool)(l:Be):zl q l=l.all (vx q):=by
 induction l with
 |nil=>rfl
 |cons a l ih=>simp[zl,ih]
def Fs(nm:ByteArray):Bool:=decide (nm≠bs [120,111,114]/\nm≠bs [122,101,114,111]/\nm≠bs [101,120,112]/\nm≠bs [109,117,108]/\nm≠bs [105,110,118]/\nm≠bs [111,110,101]/\Gw nm≠3)
theorem A0w(nm:Al):pc Q Fy [.str nm]=some (.bool (Fs nm)):=by
 have hS:=eJ nm;have hk:(RD nm).2.2.2=Gw nm:=rfl;have hc:=A1h (RD nm);by_cases c1:nm=bs [120,111,114]
 .have d:decide (nm=bs [120,111,114])=true:=decide_eq_true c1;have hf:Fs nm=false:=by unfold Fs;rw[decide_eq_false_iff_not];intro hh;exact hh.1 c1
  rw[hf];clear c1;refine J0 H7 λfr hl h0=>?_;simp[H7]at hl h0;simp[H7,hl,h0,d]
 by_cases c2:nm=bs [122,101,114,111]
 .have d:decide (nm=bs [122,101,114,111])=true:=decide_eq_true c2;have hf:Fs nm=false:=by unfold Fs;rw[decide_eq_false_iff_not];intro hh;exact hh.2.1 c2
  rw[hf];clear c2;refine J0 H7 λfr hl h0=>?_;simp[H7]at hl h0;simp[H7,hl,h0,d,c1]
 by_cases c3:nm=bs [101,120,112]
 .have d:decide (nm=bs [101,120,112])=true:=decide_eq_true c3;have hf:Fs nm=false:=by unfold Fs;rw[decide_eq_false_iff_not];intro hh;exact hh.2.2.1 c3
  rw[hf];clear c3;refine J0 H7 λfr hl h0=>?_;simp[H7]at hl h0;simp[H7,hl,h0,d,c1,c2]
 by_cases c4:nm=bs [109,117,108]
 .have d:decide (nm=bs [109,117,108])=true:=decide_eq_true c4;have hf:Fs nm=false:=by unfold Fs;rw[decide_eq_false_iff_not];intro hh;exact hh.2.2.2.1 c4
  rw[hf];clear c4;refine J0 H7 λfr hl h0=>?_;simp[H7]at hl h0;simp[H7,hl,h0,d,c1,c2,c3]
 by_cases c5:nm=bs [105,110,118]
 .have d:decide (nm=bs [105,110,118])=true:=decide_eq_true c5;have hf:Fs nm=false:=by unfold Fs;rw[decide_eq_false_iff_not];intro hh;exact hh.2.2.2.2.1 c5
  rw[hf];clear c5;refine J0 H7 λfr hl h0=>?_;simp[H7]at hl h0;simp[H7,hl,h0,d,c1,c2,c3,c4]
 by_cases c6:nm=bs [111,110,101]
 .have d:decide (nm=bs [111,110,101])=true:=decide_eq_true c6;have hf:Fs nm=false:=by unfold Fs;rw[decide_eq_false_iff_not];intro hh;exact hh.2.2.2.2.2.1 c6
  rw[hf];clear c6;refine J0 H7 λfr hl h0=>?_;simp[H7]at hl h0;simp[H7,hl,h0,d,c1,c2,c3,c4,c5]
 have hf:Fs nm=decide (Gw nm≠3):=by unfold Fs;simp[c1,c2,c3,c4,c5,c6]
 rw[hf];simp only[Fh]at hS;refine J0 H7 λfr hl h0=>?_;simp[H7]at hl h0;simp[H7,hl,h0,c1,c2,c3,c4,c5,c6,hS,hk]
theorem ow(m:Gg)(g:FuncId)(q:ByteArray->Bool)(l:Be)(D6:l.length<=1048576)(IH:∀t∈l,pc Q Ab [I8 t,.fn g []]=some (.bool (vx q t)))(fr:Fr)(h:AH)(hl:fr.length=29)(h1:B2 fr 1=.fn g [])(h18:B2 fr 18=sl m 4 (C4 l))(h19:B2 fr 19=.int .i64 l.length)(h20:B2 fr 20=.int .i64 0) :
  D7 (lp (A8 (m6 Q) (B1 Ab) Cy) (fr,h)) λe B8 h'=>Kp Cy.wr fr B8/\(e=.exit 0/\l.all (vx q)=true\/e=.ret/\B2 B8 4=.bool false/\l.all (vx q)=false):=by
 refine E9 rfl fr (λn fr h'=>∃(i:Nat),i+n=l.length/\B2 fr 20=.int .i64 (i:Nat)/\((l.drop i).all (vx q)=l.all (vx q))) ?_ l.length h ⟨0,a_,h20,rfl⟩;rintro J Φ hJ hΦ n CT H1 K ⟨i,hi,k20,hr⟩;have C6:=K.1.trans hl;have k1:=D4 K 1 h1;have k18:=D4 K 18 h18;have k19:=D4 K 19 h19;clear K;by_cases C2:i<l.length
 .have L4:=J6 i a_;have hx:=Gk C2;have hI:=IH l[i] (zf3z C2);obtain⟨bx,F⟩:=H1;rw[zf0z C2,zf9z]at hr;generalize l[i]=s at *
  cases hb:vx q s with
  |true =>
   rw[hb]at hI hr;simp[Cy,C6,k1,k18,k19,k20,C2,L4,hx,hI];exact V6 hJ ⟨i+1,a_,d_,h_⟩
  |false =>
   rw[hb]at hI hr;simp[Cy,C6,k1,k18,k19,k20,C2,L4,hx,hI];exact hΦ _ _ _ (.inr ⟨rfl,d_,f_⟩)
 .rw[zf1z a_]at hr;simp[Cy,C6,k1,k18,k19,k20,C2];exact hΦ _ _ _ (.inl ⟨rfl,hr.symm⟩)
theorem A01(g:FuncId)(q:ByteArray->Bool)(hg:A0 g=false)(hq:∀nm,pc Q g [.str nm]=some (.bool (q nm))):∀(n:Nat) (t:Tm),t.size<=n->t.size<=1048576->pc Q Ab [I8 t,.fn g []]=some (.bool (vx q t)):=by
 intro n
 induction n with
 |zero=>intro t h;have:=t.size_pos;omega
 |succ n ih =>
  intro t hn hb;have X9:=t.kids_size;have D6:=Tm.length_le t.kids;have Eg:=ow t.cm g q t.kids a_ (λt' ht=>by have:=Tm.size_le ht;exact ih t' a_ a_);clear ih;have hQ:=hq t.name;have Jj:(B1 Ab).raw g=false:=by
   have:((B1 Ab).raw g)=A0 g:=by rfl
   rw[this,hg]
  rw[zk,kA];have fin1:∀b:Bool,(∀fr h,D7 (krg (some ((fr:Fr),(h:AH)))) λ_ _ _=>True):=λ_ _ _=>trivial;by_cases hk:t.kind=3
  .have hag:AV.agg [.int .i64 3,.str t.name,.int .i64 t.sort,sl t.cm 4 (C4 t.kids)]=I8 t:=by rw[←hk];exact G9 t
   cases hb2:q t.name with
   |true =>
    rw[hb2]at hQ;refine j5 Ag λfr hl h0 h1=>?_;simp[Ag]at hl h0 h1;simp[Ag,hl,h0,h1,hk,hag,hQ,Jj];refine D7.mono (Eg _ _ ?_ ?_ ?_ ?_ ?_) ?_<;>first|(simp[hl,h1];done)|skip
    rintro e B8 h' ⟨K,⟨rfl,he⟩|⟨rfl,h4,he⟩⟩
    .have hl':B8.length=29:=K.1.trans c_;simp[hl',he]
    .simp[h4,he]
   |false =>
    rw[hb2]at hQ;refine j5 Ag λfr hl h0 h1=>?_;simp[Ag]at hl h0 h1;simp[Ag,hl,h0,h1,hk,hag,hQ,Jj]
  .refine j5 Ag λfr hl h0 h1=>?_;simp[Ag]at hl h0 h1;simp[Ag,hl,h0,h1,hk];refine D7.mono (Eg _ _ ?_ ?_ ?_ ?_ ?_) ?_<;>first|(simp[hl,h1];done)|skip
   rintro e B8 h' ⟨K,⟨rfl,he⟩|⟨rfl,h4,he⟩⟩
   .have hl':B8.length=29:=K.1.trans c_;simp[hl',he,hk]
   .simp[h4,he]
def Im(t:Tm):Bool:=decide (vE t=0)&&vx Fs t
theorem pc_Free(t:Tm)(hb:t.size<=1048576):pc Q LK [I8 t]=some (.bool (Im t)):=by
 have hV:=SU t a_;have hE:=A01 Fy Fs rfl A0w _ t (zf5z _) hb;unfold Im;by_cases c:vE t=0
 .rw[c]at hV;refine J0 Ge λfr hl h0=>?_;simp[Ge]at hl h0;simp[Ge,hl,h0,hV,c,hE]
 .refine J0 Ge λfr hl h0=>?_;simp[Ge]at hl h0;simp[Ge,hl,h0,hV,c]
theorem eL(t:Tm)(hb:t.size<=1048576):pc Q Dc [I8 t]=some (.bool (!Im t)):=by
 have hF:=pc_Free t hb;refine J0 MS λfr hl h0=>?_;simp[MS]at hl h0;simp[MS,hl,h0,hF]
theorem uO(t:Tm):∃cs,I8 t=.agg cs/\cs.length=4/\cs.all AV.flat=true:=by
 obtain⟨k,nm,s,m,l⟩:=t;exact⟨_,rfl,rfl,rfl⟩
theorem sd(t:Fa):∃cs,Dp t=.agg cs/\cs.length=3/\cs.all AV.flat=true:=⟨_,rfl,rfl,rfl⟩
theorem A1m(t:Tyd):∃cs,r8 t=.agg cs/\cs.length=6/\cs.all AV.flat=true:=⟨_,rfl,rfl,rfl⟩
def Ii(f g:Fa):Bool:=decide (f.kind=g.kind)&&decide (f.goal=g.goal)&&BD Rr f.terms g.terms
theorem lr(f g:Fa)(hf:Tm.sizes f.terms<=1099511627776)(hg:Tm.sizes g.terms<=1099511627776):pc Q HF [Dp f,Dp g]=some (.bool (Ii f g)):=by
 have hE:=A0z I8 [pI 0,.str (bs []),pI 0,.vs true 0 []] rfl Rr Y3 Iy OO rfl rfl rfl f.fm g.fm f.terms g.terms (by have:=Tm.length_le f.terms;omega) uO (λa ha b hb=>eK a b (by have:=Tm.size_le ha;omega) (by have:=Tm.size_le hb;omega));rw[←b5,←b5]at hE;unfold Ii;refine j5 EE λfr hl h0 h1=>?_;simp[EE]at hl h0 h1;by_cases c1:f.kind=g.kind
 .by_cases c2:f.goal=g.goal
  .simp[EE,hl,h0,h1,c1,c2,hE]
  .simp[EE,hl,h0,h1,c1,c2]
 .simp[EE,hl,h0,h1,c1]
def ig(f:Fa):Bool:=decide (f.kind=2)&&!decide (f.goal<0)&&!decide (7<f.goal)&&!decide (8<(f.terms.length:Int))&&!(f.terms.any λt=>!Im t)
theorem xH(f:Fa)(hf:Tm.sizes f.terms<=1048576):pc Q Ct [Dp f]=some (.bool (!ig f)):=by
 have hC:=λh=>rc_ctG (λt=>!Im t) f.terms L6 K5 Dc [] (sl f.fm 4 (f.terms.map I8)) ME rfl rfl rfl h
  (rc_ixG I8 4 (λt=>!Im t) K5 Dc [] rfl f.fm f.terms (by have:=Tm.length_le f.terms;omega) (λa ha=>eL a (by have:=Tm.size_le ha;omega)) OP rfl uO rfl h)
 simp only[←b5]at hC;generalize hA:(f.terms.any λt=>!Im t)=A at hC;unfold ig;rw[hA];generalize hN:(f.terms.length:Int)=N;refine J0 BQ λfr hl h0=>?_;simp[BQ]at hl h0;by_cases c1:f.kind=2
 .by_cases c2:f.goal<0
  .simp[BQ,hl,h0,c1,c2]
  .by_cases c3:7<f.goal
   .simp[BQ,hl,h0,c1,c2,c3]
   .by_cases c4:8<N
    .simp[BQ,hl,h0,c1,c2,c3,hN,c4]
    .simp[BQ,hl,h0,c1,c2,c3,hN,c4,hC]
 .simp[BQ,hl,h0,c1]
structure Tyg where
 tm:Bool×Bool
 tys:List Tyd
 em:Bool×Bool
 effs:List Fa
def EO(g:Tyg):AV:=.agg [sl g.tm 6 (g.tys.map r8),sl g.em 3 (g.effs.map Dp)]
@[simp]theorem GX(g:Tyg):(EO g).cells=[sl g.tm 6 (g.tys.map r8),sl g.em 3 (g.effs.map Dp)]:=rfl
@[simp]theorem ZJ(g:Tyg):AV.agg [sl g.tm 6 (g.tys.map r8),sl g.em 3 (g.effs.map Dp)]=EO g:=rfl
@[simp]theorem tyg_isTup(p:Tyg):(EO p).isTup=false:=p_ rfl
@[simp]theorem tyg_frz(h:AH)(am:Bool)(p:Tyg):frz h am (EO p)=some (EO p):=DB h am rfl
@[simp]theorem tyg_tame(h:AH)(p:Tyg):tame h (EO p)=true:=p_ rfl
structure TygFin (g:Tyg):Prop where
 tl:g.tys.length<=1000000
 el:g.effs.length<=1000000
 ty:∀x∈g.tys,x.t.size<=1048576/\V7 x.u
 ef:∀f∈g.effs,Tm.sizes f.terms<=1048576
def Ns(x:Tyd):Bool:=Im x.t&&decide (KT x.u=0)
def Wd(g:Tyg):Bool:=!decide (80<(g.tys.length:Int))&&!decide (60<(g.effs.length:Int))&&g.tys.all Ns&&g.effs.all ig
theorem gX(m:Gg)(l:List Tyd)(D6:l.length<=1000000)(hf:∀x∈l,x.t.size<=1048576/\V7 x.u)(B0:b9)(fr:Fr)(h:AH)(hB0:h.boxes[0]?=some B0)(hl:fr.length=36)(h16:B2 fr 16=sl m 6 (l.map r8))(h17:B2 fr 17=.int .i64 l.length)(h1:B2 fr 1=.ptr 0 0)(h18:B2 fr 18=.int .i64 0) :
  D7 (lp (A8 (m6 Q) (B1 Hi) BP) (fr,h)) λe B8 h'=>Kp BP.wr fr B8/\h'.boxes[0]?=some B0/\(e=.exit 0/\l.all Ns=true\/e=.ret/\B2 B8 2=.bool false/\l.all Ns=false):=by
 refine E9 rfl fr (λn fr h'=>∃(i:Nat),i+n=l.length/\B2 fr 18=.int .i64 (i:Nat)/\(h'.boxes[0]?=some B0/\(l.drop i).all Ns=l.all Ns)) ?_ l.length h ⟨0,a_,h18,⟨hB0,rfl⟩⟩;rintro J Φ hJ hΦ n CT H1 K ⟨i,hi,k18,hr⟩;have C6:=K.1.trans hl;have k16:=D4 K 16 h16;have k17:=D4 K 17 h17;have k1:=D4 K 1 h1;clear K;by_cases C2:i<l.length
 .have L4:=J6 i a_;obtain⟨hb,hr⟩:=hr;obtain⟨bx,F⟩:=H1;simp only at hb;have hb':=λX:List (List AV)=>show (bx++X)[0]?=some B0 from by rw[List.getElem?_append_left (List.getElem?_eq_some_iff.1 hb).1];exact hb
  have hx:=J5 (f:=r8) (zf2z C2);obtain⟨f1,f2⟩:=hf l[i] (zf3z C2);rw[zf0z C2,zf9z]at hr;generalize l[i]=x at *
  have hF:=eL x.t f1;have hV:=XR x.u f2;have htc:=G9 x.t;have huc:=Ax x.u;simp only[r8]at hx;have hd:∀A:List AV,List.take 2 (List.drop 4 ([.int .i64 x.t.kind,.str x.t.name,.int .i64 x.t.sort,sl x.t.cm 4 (C4 x.t.kids),.int .i64 x.u.kind,sl x.u.m 4 (x.u.ps.map Bc)]))=[.int .i64 x.u.kind,sl x.u.m 4 (x.u.ps.map Bc)]:=λ_=>rfl;cases c1:Im x.t with
  |false =>
   have hv:Ns x=false:=by simp[Ns,c1]
   rw[hv]at hr;rw[c1]at hF;simp[BP,C6,k16,k17,k1,k18,C2,L4,hx,hF,htc];exact hΦ _ _ _ ⟨hb' _,.inr ⟨rfl,d_,f_⟩⟩
  |true =>
   rw[c1]at hF;by_cases c2:KT x.u=0
   .have hv:Ns x=true:=by simp[Ns,c1,c2]
    rw[hv]at hr;rw[c2]at hV;simp[BP,C6,k16,k17,k1,k18,C2,L4,hx,hF,htc,huc,hV];exact V6 hJ ⟨i+1,a_,d_,hb' _,h_⟩
   .have hv:Ns x=false:=by simp[Ns,c1,c2]
    rw[hv]at hr;simp[BP,C6,k16,k17,k1,k18,C2,L4,hx,hF,htc,huc,hV,c2];exact hΦ _ _ _ ⟨hb' _,.inr ⟨rfl,d_,f_⟩⟩
 .obtain⟨hb,hr⟩:=hr;rw[zf1z a_]at hr;simp[BP,C6,k16,k17,k1,k18,C2];exact hΦ _ _ _ ⟨hb,.inl ⟨rfl,hr.symm⟩⟩
theorem any_not{α:Type}(p:α->Bool)(l:List α):(l.any λx=>!p x)=!l.all p:=by
 induction l with
 |nil=>rfl
 |cons a l ih=>simp[ih]
theorem qM(g:Tyg)(F:TygFin g):pc Q Hi [EO g]=some (.bool (Wd g)):=by
 have hC:=pz (λf=>!ig f) g.effs Z3 L8 Ct [] (sl g.em 3 (g.effs.map Dp)) (λh=>by simp) MD rfl rfl rfl
  (aZ Dp 3 (λf=>!ig f) L8 Ct [] rfl g.em g.effs (by have:=F.el;omega) (λa ha=>xH a (F.ef a ha)) IQ rfl sd rfl)
 rw[any_not]at hC;have Eg:=gX g.tm g.tys F.tl F.ty [sl g.tm 6 (g.tys.map r8),sl g.em 3 (g.effs.map Dp)];unfold Wd;generalize hM:(g.tys.length:Int)=M;generalize hN:(g.effs.length:Int)=N;rw[hM]at Eg;refine J0 Hp λfr hl h0=>?_;simp[Hp]at hl h0;by_cases c1:80<M
 .simp[Hp,hl,h0,hM,c1]
 .by_cases c2:60<N
  .simp[Hp,hl,h0,hM,c1,hN,c2]
  .simp[Hp,hl,h0,hM,c1,hN,c2];refine D7.mono (Eg _ _ ?_ ?_ ?_ ?_ ?_ ?_) ?_<;>first|(simp[hl,h0,hM];done)|skip
   rintro e B8 h' ⟨K,hb,⟨rfl,he⟩|⟨rfl,h4,he⟩⟩
   .have hl':B8.length=36:=K.1.trans c_;have k1:B2 B8 1=.ptr 0 0:=D4 K 1 oP;simp[hl',he,k1,hb,hC]
   .simp[h4,he]
end Go.Abs.Q
