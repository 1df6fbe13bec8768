/- A part of the proof. -/
import Derived.Test.YtnnjamknplefbaaGreatDoorTS27
set_option linter.all false
open List renaming drop_eq_getElem_cons->zf0z,drop_eq_nil_of_le->zf1z,getElem?_eq_getElem->zf2z,getElem_mem->zf3z,all_cons->zf6z
open Nat renaming le_refl->zf4z
open Bool renaming and_eq_true->zf5z
set_option linter.all false
namespace Go.Abs.Q
open Go.Proofs
attribute [local simp] J0 J5 fin M6 M0 Y2 b8
abbrev Sy:=ByteArray×Int×Int×Int
@[simp]theorem symA_cells(x:Sy):(GV x).cells=[.str x.1,.int .i64 x.2.1,.int .i64 x.2.2.1,.int .i64 x.2.2.2]:=rfl
@[simp]theorem symA_isTup(x:Sy):(GV x).isTup=false:=rfl
theorem tC(x:Sy):AV.agg [.str x.1,.int .i64 x.2.1,.int .i64 x.2.2.1,.int .i64 x.2.2.2]=GV x:=rfl
theorem aa(m:HH)(l:List Sy)(nm:AD)(J3:l.length<=1048576)(fr:Fr)(h:AH)(hh:h.boxes=[(GV zS).cells])(hl:fr.length=18)(h0:C7 fr 0=.str nm)(h2:C7 fr 2=.ptr 0 0)(h5:C7 fr 5=sl m 4 (l.map GV))(h6:C7 fr 6=.int .i64 l.length)(h7:C7 fr 7=.int .i64 0) :
  L9 (lp (A8 (Ax Q) (C2 Bc) Ad) (fr,h)) λe G6 h'=>Kp Ad.wr fr G6/\(e=.exit 0/\(∃B,h'.boxes=(GV zS).cells::B)/\l.find? (λx=>decide (x.1=nm))=none\/e=.ret/\∃x B,h'.boxes=(GV x).cells::B/\l.find? (λx=>decide (x.1=nm))=some x):=by
 refine W6 rfl fr (λn fr h'=>∃(i:Nat),i+n=l.length/\C7 fr 7=.int .i64 (i:Nat)/\((∃B,h'.boxes=(GV zS).cells::B)/\(l.drop i).find? (λx=>decide (x.1=nm))=l.find? λx=>decide (x.1=nm))) ?_ l.length h ⟨0,by omega,h7,⟨[],hh⟩,rfl⟩;rintro J Φ hJ hΦ n Kr H1 K ⟨i,hi,k7,hr⟩;have L1:=K.1.trans hl;have k0:=S6 K 0 h0;have k2:=S6 K 2 h2;have k5:=S6 K 5 h5;have k6:=S6 K 6 h6;clear K;by_cases G9:i<l.length
 .have AT:=AQ i (by omega);obtain⟨⟨B,hB⟩,hr⟩:=hr;obtain⟨bx,F⟩:=H1;simp only at hB;subst hB;have hx:=l9 (f:=GV) (zf2z G9);rw[zf0z G9,List.find?_cons]at hr;clear hh;generalize l[i]=s at *
  obtain⟨s1,s2,s3,s4⟩:=s;by_cases hc:s1=nm
  .subst hc;simp only[decide_true]at hr;simp only[GV]at hx;simp[Ad,L1,k0,k2,k5,k6,k7,G9,AT,hx,GV,zS];exact hΦ _ _ _ (.inr ⟨rfl,(s1,s2,s3,s4),_,rfl,hr.symm⟩)
  .simp only[hc,decide_false]at hr;simp only[GV]at hx;simp[Ad,L1,k0,k2,k5,k6,k7,G9,AT,hx,GV,zS,hc];exact EF hJ ⟨i+1,by omega,by simp[L1],⟨_,rfl⟩,hr⟩
 .obtain⟨⟨B,hB⟩,hr⟩:=hr;rw[zf1z (by omega)]at hr;simp[Ad,L1,k0,k2,k5,k6,k7,G9];exact hΦ _ _ _ (.inl ⟨rfl,⟨B,hB⟩,hr.symm⟩)
theorem Vg(nm:AD):pc Q Bc [.str nm]=some (GV (Oj nm)):=by
 obtain⟨m,hS⟩:=eW;refine m6 Ha λfr hl h0=>?_;simp[Ha]at hl h0;simp[Ha,hl,h0,hS];refine L9.mono (aa m tab nm (by decide) _ _ ?_ ?_ ?_ ?_ ?_ ?_ ?_) ?_<;>first|(simp[hl,h0,GV,zS];done)|skip
 rintro e Kr ⟨bx,F⟩ ⟨K,⟨rfl,⟨B,hB⟩,hf⟩|⟨rfl,x,B,hB,hf⟩⟩
 .simp only at hB;subst hB;have qe:Kr.length=18:=K.1.trans (by simp[hl]);have qj:C7 Kr 2=.ptr 0 0:=S6 K 2 (by simp[hl]);clear K;simp[qe,qj,GV,zS,B6,C9];simp[Oj,hf,zS]
 .simp only at hB;subst hB;have qe:Kr.length=18:=K.1.trans (by simp[hl]);have qj:C7 Kr 2=.ptr 0 0:=S6 K 2 (by simp[hl]);clear K;simp[qe,qj,GV];simp[Oj,hf]
def OF(nm:ByteArray):Int:=(Oj nm).2.2.2
def Mv(nm:ByteArray)(n:Int):Bool:=decide ((Oj nm).2.1<=n)&&decide (n<=(Oj nm).2.2.1)
def Ks(t:Tm):Bool:=decide (t.kind=3)||decide (t.sort≠1)
def nY(nm:ByteArray)(l:List Tm):Int :=
 if nm=bs [115,107]\/nm=bs [115,104,107]then (if l.any Ks=true then 10 else 0)
 else if nm=bs [110,101,119]then (match l with | []=>0|a::_=>if a.kind=2 then 0 else 10)else 0
mutual
def Ov:Tm->Int
 | .mk k nm _ _ l=>if k≠3 then 0 else if OF nm=0 then 10 else if Mv nm l.length=false then 6 else if nY nm l≠0 then nY nm l else TT l
def TT:List Tm->Int
 | []=>0
 |t::l=>if Ov t≠0 then Ov t else TT l
end
theorem WU(t:Tm)(l:CI):TT (t::l)=if Ov t≠0 then Ov t else TT l:=rfl
theorem wh(m:HH)(l:CI)(J3:l.length<=1099511627776)(fr:Fr)(h:AH)(hl:fr.length=74)(h38:C7 fr 38=sl m 4 (G8 l))(h39:C7 fr 39=.int .i64 l.length)(h40:C7 fr 40=.int .i64 0) :
  L9 (lp (A8 (Ax Q) (C2 l7) w7) (fr,h)) λe G6 h'=>Kp w7.wr fr G6/\(e=.exit 1/\(∃B,h'.boxes=h.boxes++B)/\l.any Ks=false\/e=.ret/\C7 G6 2=.int .i64 10/\l.any Ks=true):=by
 refine W6 rfl fr (λn fr h'=>∃(i:Nat),i+n=l.length/\C7 fr 40=.int .i64 (i:Nat)/\((∃B,h'.boxes=h.boxes++B)/\(l.drop i).any Ks=l.any Ks)) ?_ l.length h ⟨0,by omega,h40,⟨[],by simp⟩,rfl⟩;rintro J Φ hJ hΦ n Kr H1 K ⟨i,hi,k40,hr⟩;have L1:=K.1.trans hl;have k38:=S6 K 38 h38;have k39:=S6 K 39 h39;clear K;by_cases G9:i<l.length
 .have AT:=AQ i (by omega);obtain⟨⟨B,hB⟩,hr⟩:=hr;obtain⟨bx,F⟩:=H1;simp only at hB;have hx:=Sf G9;rw[zf0z G9,List.any_cons]at hr;generalize l[i]=s at *
  by_cases hc:Ks s=true
  .rw[hc,Bool.true_or]at hr;by_cases hk:s.kind=3
   .simp[w7,L1,k38,k39,k40,G9,AT,hx,hk];exact hΦ _ _ _ (.inr ⟨rfl,by simp[L1],hr.symm⟩)
   .have hs:s.sort≠1:=by simpa[Ks,hk]using hc
    simp[w7,L1,k38,k39,k40,G9,AT,hx,hk,hs];exact hΦ _ _ _ (.inr ⟨rfl,by simp[L1],hr.symm⟩)
  .simp only[Ks,Bool.or_eq_true,decide_eq_true_eq,not_or,ne_eq,Decidable.not_not]at hc;have hn:Ks s=false:=by simp[Ks,hc]
   rw[hn,Bool.false_or]at hr;have hk:=hc.1;have hs:=hc.2;clear hc hn;simp[w7,L1,k38,k39,k40,G9,AT,hx,hk,hs];exact EF hJ ⟨i+1,by omega,by simp[L1],⟨B++[[.int .i64 s.kind,.str s.name,.int .i64 1,sl s.cm 4 (G8 s.kids)]],by simp[hB]⟩,hr⟩
 .obtain⟨⟨B,hB⟩,hr⟩:=hr;rw[zf1z (by omega)]at hr;simp[w7,L1,k38,k39,k40,G9];exact hΦ _ _ _ (.inl ⟨rfl,⟨B,hB⟩,hr.symm⟩)
theorem aU(m:HH)(l:CI)(J3:l.length<=1099511627776)(IH:∀t∈l,pc Q l7 [U6 t]=some (.int .i64 (Ov t)))(fr:Fr)(h:AH)(hl:fr.length=74)(h62:C7 fr 62=sl m 4 (G8 l))(h63:C7 fr 63=.int .i64 l.length)(h64:C7 fr 64=.int .i64 0) :
  L9 (lp (A8 (Ax Q) (C2 l7) BG) (fr,h)) λe G6 h'=>Kp BG.wr fr G6/\(e=.exit 3/\TT l=0\/e=.ret/\C7 G6 2=.int .i64 (TT l)):=by
 refine W6 rfl fr (λn fr h'=>∃(i:Nat),i+n=l.length/\C7 fr 64=.int .i64 (i:Nat)/\(TT (l.drop i)=TT l)) ?_ l.length h ⟨0,by omega,h64,rfl⟩;rintro J Φ hJ hΦ n Kr H1 K ⟨i,hi,k64,hr⟩;have L1:=K.1.trans hl;have k62:=S6 K 62 h62;have k63:=S6 K 63 h63;clear K;by_cases G9:i<l.length
 .have AT:=AQ i (by omega);have hx:=Sf G9;have hI:=IH l[i] (zf3z G9);rw[zf0z G9,WU]at hr;obtain⟨bx,F⟩:=H1;generalize l[i]=s at *
  by_cases hc:Ov s=0
  .rw[if_neg (by simp[hc])]at hr;rw[hc]at hI;simp[BG,L1,k62,k63,k64,G9,AT,hx,hI];exact EF hJ ⟨i+1,by omega,by simp[L1],hr⟩
  .rw[if_pos hc]at hr;simp[BG,L1,k62,k63,k64,G9,AT,hx,hI,hc];exact hΦ _ _ _ (.inr ⟨rfl,by simp[L1,hr]⟩)
 .rw[zf1z (by omega)]at hr;simp[BG,L1,k62,k63,k64,G9];exact hΦ _ _ _ (.inl ⟨rfl,hr.symm⟩)
theorem qy{n:Nat}(h:Mv (bs [110,101,119]) n=true):1<=n:=by
 have e:(Oj (bs [110,101,119])).2.1=1:=by decide
 simp only[Mv,e,zf5z,decide_eq_true_eq]at h;omega
theorem tD(t:Tm)(h:t.kind≠3):Ov t=0:=by
 obtain⟨k,nm,s,m,l⟩:=t;have h:k≠3:=h;rw[Ov,if_pos h]
theorem jO{k:Int}{nm:AD}{s:Int}{m:HH}{l:CI}(h:k=3):Ov (.mk k nm s m l)=if OF nm=0 then 10 else if Mv nm l.length=false then 6 else if nY nm l≠0 then nY nm l else TT l:=by
 rw[Ov,if_neg (by simp[h])]
theorem lU:∀(n:Nat) (t:Tm),t.size<=n->t.size<=1099511627776->pc Q l7 [U6 t]=some (.int .i64 (Ov t)):=by
 intro n
 induction n with
 |zero=>intro t h;have:=t.size_pos;omega
 |succ n ih =>
  intro t hn hb;obtain⟨k,nm,s,m,kids⟩:=t;have Y3:Tm.size (.mk k nm s m kids)=1+Tm.sizes kids:=rfl;have J3:=Tm.length_le kids;have hS:=Vg nm;have hlp0:=aU m kids (by omega) (λt ht=>ih t (by have:=Tm.size_le ht;omega) (by have:=Tm.size_le ht;omega));have hlp1:=wh m kids (by omega);clear ih;by_cases hk:k=3
  .subst hk;rw[jO rfl];by_cases hkd:OF nm=0
   .rw[if_pos hkd];simp only[OF]at hkd;generalize Oj nm=q at *
    obtain⟨q1,q2,q3,q4⟩:=q;simp only[GV]at hS hkd;refine m6 J6 λfr hl h0=>?_;simp[J6,U6]at hl h0;simp[J6,hl,h0,hS,hkd]
   .rw[if_neg hkd];by_cases hf:Mv nm kids.length=false
    .rw[if_pos hf];simp only[OF]at hkd;simp only[Mv]at hf;generalize Oj nm=q at *
     obtain⟨q1,q2,q3,q4⟩:=q;simp only[GV]at hS hkd hf;refine m6 J6 λfr hl h0=>?_;simp[J6,U6]at hl h0;by_cases h2:(kids.length:Int)<q2
     .simp[J6,hl,h0,hS,hkd,h2]
     .have h3:q3<(kids.length:Int):=by
       rw[Bool.and_eq_false_iff]at hf;rcases hf with hf|hf
       .simp only[decide_eq_false_iff_not]at hf;omega
       .simp only[decide_eq_false_iff_not]at hf;omega
      simp[J6,hl,h0,hS,hkd,h2,h3]
    .have hf':Mv nm kids.length=true:=by simpa using hf
     rw[if_neg hf];have hnf:=@qy kids.length;have V6:¬((kids.length:Int)<(Oj nm).2.1)/\¬((Oj nm).2.2.1<(kids.length:Int)):=by
      simp only[Mv,zf5z,decide_eq_true_eq]at hf';omega
     obtain⟨hf1,hf2⟩:=V6;have BZ:nm=bs [110,101,119]->1<=kids.length:=λe=>hnf (by rw[←e];exact hf');clear hf hf' hnf;simp only[OF]at hkd;generalize Oj nm=q at *
     obtain⟨q1,q2,q3,q4⟩:=q;simp only[GV]at hS hkd hf1 hf2;by_cases hsk:nm=bs [115,107]\/nm=bs [115,104,107]
     .have hag:nY nm kids=if kids.any Ks=true then 10 else 0:=by unfold nY;rw[if_pos hsk]
      rw[hag];clear BZ hag;generalize kids.any Ks=b at hlp1 ⊢;have hmain:∀(nm':ByteArray),nm'=nm->(nm'=bs [115,107]\/nm'≠bs [115,107]/\nm'=bs [115,104,107])->pc Q l7 [U6 (.mk 3 nm s m kids)]=some (.int .i64 (if (if b=true then (10:Int)else 0)≠0 then if b=true then 10 else 0 else TT kids)):=by
       intro nm' e hn2;subst e;refine m6 J6 λfr hl h0=>?_;simp[J6,U6]at hl h0;rcases hn2 with hn2|⟨hn1,hn2⟩
       .subst hn2;simp[J6,hl,h0,hS,hkd,hf1,hf2];refine L9.mono (hlp1 _ _ ?_ ?_ ?_ ?_) ?_<;>first|(simp[hl];done)|skip
        rintro e dp ⟨bx,F⟩ ⟨K,⟨rfl,⟨B,hB⟩,ha⟩|⟨rfl,k2,ha⟩⟩
        .simp only at hB;subst hB;have dy:dp.length=74:=K.1.trans (by simp[hl]);have k1:C7 dp 1=.ptr 0 0:=S6 K 1 (by simp[hl]);clear K;simp[dy,k1,ha];refine L9.mono (hlp0 _ _ ?_ ?_ ?_ ?_) ?_<;>first|(simp[dy];done)|skip
         rintro e fr3 h3 ⟨K,⟨rfl,he⟩|⟨rfl,h2⟩⟩
         .have hl3:fr3.length=74:=K.1.trans (by simp[dy]);simp[hl3,he]
         .simp[h2]
        .simp[k2,ha]
       .subst hn2;simp[J6,hl,h0,hS,hkd,hf1,hf2,hn1];refine L9.mono (hlp1 _ _ ?_ ?_ ?_ ?_) ?_<;>first|(simp[hl];done)|skip
        rintro e dp ⟨bx,F⟩ ⟨K,⟨rfl,⟨B,hB⟩,ha⟩|⟨rfl,k2,ha⟩⟩
        .simp only at hB;subst hB;have dy:dp.length=74:=K.1.trans (by simp[hl]);have k1:C7 dp 1=.ptr 0 0:=S6 K 1 (by simp[hl]);clear K;simp[dy,k1,ha];refine L9.mono (hlp0 _ _ ?_ ?_ ?_ ?_) ?_<;>first|(simp[dy];done)|skip
         rintro e fr3 h3 ⟨K,⟨rfl,he⟩|⟨rfl,h2⟩⟩
         .have hl3:fr3.length=74:=K.1.trans (by simp[dy]);simp[hl3,he]
         .simp[h2]
        .simp[k2,ha]
      refine hmain nm rfl ?_;by_cases h1:nm=bs [115,107]
      .exact .inl h1
      .exact .inr ⟨h1,hsk.resolve_left h1⟩
     .have hsk1:nm≠bs [115,107]:=λe=>hsk (.inl e);have hsk2:nm≠bs [115,104,107]:=λe=>hsk (.inr e);by_cases hn1:nm=bs [110,101,119]
      .have wW:=BZ hn1;subst hn1;cases kids with
       |nil=>simp at wW
       |cons a kids =>
        have hag:nY (bs [110,101,119]) (a::kids)=if a.kind=2 then 0 else 10:=by unfold nY;rw[if_neg hsk,if_pos rfl]
        rw[hag];have hx:MB (G8 (a::kids)) 0=some (U6 a):=Sf (l:=a::kids) (i:=0) (by simp);generalize a::kids=kids' at *
        by_cases ha:a.kind=2
        .refine m6 J6 λfr hl h0=>?_;simp[J6,U6]at hl h0;simp[J6,hl,h0,hS,hkd,hf1,hf2,hsk1,hsk2,hx,ha];refine L9.mono (hlp0 _ _ ?_ ?_ ?_ ?_) ?_<;>first|(simp[hl];done)|skip
         rintro e fr3 h3 ⟨K,⟨rfl,he⟩|⟨rfl,h2⟩⟩
         .have hl3:fr3.length=74:=K.1.trans (by simp[hl]);simp[hl3,he]
         .simp[h2]
        .refine m6 J6 λfr hl h0=>?_;simp[J6,U6]at hl h0;simp[J6,hl,h0,hS,hkd,hf1,hf2,hsk1,hsk2,hx,ha]
      .have hag:nY nm kids=0:=by unfold nY;rw[if_neg hsk,if_neg hn1]
       rw[hag];refine m6 J6 λfr hl h0=>?_;simp[J6,U6]at hl h0;simp[J6,hl,h0,hS,hkd,hf1,hf2,hsk1,hsk2,hn1];refine L9.mono (hlp0 _ _ ?_ ?_ ?_ ?_) ?_<;>first|(simp[hl];done)|skip
       rintro e fr3 h3 ⟨K,⟨rfl,he⟩|⟨rfl,h2⟩⟩
       .have hl3:fr3.length=74:=K.1.trans (by simp[hl]);simp[hl3,he]
       .simp[h2]
  .rw[tD (.mk k nm s m kids) hk];refine m6 J6 λfr hl h0=>?_;simp[J6,U6]at hl h0;simp[J6,hl,h0,hk]
def vE(t:Tm):Int:=if EL t≠0 then EL t else Ov t
theorem LU(t:Tm)(hb:t.size<=1099511627776):pc Q EC [U6 t]=some (.int .i64 (vE t)):=by
 have h1:=OV t hb;have h2:=lU _ t (zf4z _) hb;unfold vE;by_cases hv:EL t=0
 .rw[if_neg (by simp[hv])];rw[hv]at h1;refine m6 Cd λfr hl h0=>?_;simp[Cd]at hl h0;simp[Cd,hl,h0,h1,h2]
 .rw[if_pos hv];refine m6 Cd λfr hl h0=>?_;simp[Cd]at hl h0;simp[Cd,hl,h0,h1,hv]
theorem Vh(a b:Tm)(h:a.size<=1099511627776)(h':b.size<=1099511627776):pc Q DV [U6 a,U6 b]=some (.bool (VD a b)):=by
 have hC:=So _ a b (zf4z _) h h';refine Es Jk λfr hl h0 h1=>?_;simp[Jk]at hl h0 h1;simp[Jk,hl,h0,h1,hC,VD]
theorem OW(t:Tm)(nm:AD):pc Q Cj [U6 t,.str nm]=some (.bool (decide (t.kind=3/\t.name=nm))):=by
 obtain⟨k,n,s,m,l⟩:=t;refine Es HF λfr hl h0 h1=>?_;simp[HF,U6]at hl h0 h1;by_cases e1:k=3
 .by_cases e2:n=nm
  .simp[HF,hl,h0,h1,e1,e2,Tm.kind,Tm.name]
  .simp[HF,hl,h0,h1,e1,e2,Tm.kind,Tm.name]
 .simp[HF,hl,h0,h1,e1,Tm.kind,Tm.name]
theorem FU(k:Int):pc Q U0 [.int .i64 k]=some (HG (w6 k)):=by
 refine m6 Hc λfr hl h0=>?_;simp[Hc]at hl h0;simp[Hc,hl,h0,B6,C9,zx]
mutual
def qO(q:ByteArray->Bool):Tm->Bool
 | .mk k nm _ _ l=>(decide (k≠3)||q nm)&&qP q l
def qP(q:ByteArray->Bool):List Tm->Bool
 | []=>true
 |t::l=>qO q t&&qP q l
end
theorem evT_eq(q:ByteArray->Bool)(t:Tm):qO q t=((decide (t.kind≠3)||q t.name)&&qP q t.kids):=by cases t;rfl
theorem qQ(q:ByteArray->Bool)(l:CI):qP q l=l.all (qO q):=by
 induction l with
 |nil=>rfl
 |cons a l ih=>simp[qP,ih]
def Gt(nm:ByteArray):Bool:=decide (nm≠bs [120,111,114]/\nm≠bs [122,101,114,111]/\nm≠bs [101,120,112]/\nm≠bs [109,117,108]/\nm≠bs [105,110,118]/\nm≠bs [111,110,101]/\OF nm≠3)
theorem rM(nm:AD):pc Q DL [.str nm]=some (.bool (Gt nm)):=by
 have hS:=Vg nm;have hk:(Oj nm).2.2.2=OF nm:=rfl;have hc:=tC (Oj nm);by_cases c1:nm=bs [120,111,114]
 .have d:decide (nm=bs [120,111,114])=true:=decide_eq_true c1;have hf:Gt nm=false:=by unfold Gt;rw[decide_eq_false_iff_not];intro hh;exact hh.1 c1
  rw[hf];clear c1;refine m6 J7 λfr hl h0=>?_;simp[J7]at hl h0;simp[J7,hl,h0,d]
 by_cases c2:nm=bs [122,101,114,111]
 .have d:decide (nm=bs [122,101,114,111])=true:=decide_eq_true c2;have hf:Gt nm=false:=by unfold Gt;rw[decide_eq_false_iff_not];intro hh;exact hh.2.1 c2
  rw[hf];clear c2;refine m6 J7 λfr hl h0=>?_;simp[J7]at hl h0;simp[J7,hl,h0,d,c1]
 by_cases c3:nm=bs [101,120,112]
 .have d:decide (nm=bs [101,120,112])=true:=decide_eq_true c3;have hf:Gt nm=false:=by unfold Gt;rw[decide_eq_false_iff_not];intro hh;exact hh.2.2.1 c3
  rw[hf];clear c3;refine m6 J7 λfr hl h0=>?_;simp[J7]at hl h0;simp[J7,hl,h0,d,c1,c2]
 by_cases c4:nm=bs [109,117,108]
 .have d:decide (nm=bs [109,117,108])=true:=decide_eq_true c4;have hf:Gt nm=false:=by unfold Gt;rw[decide_eq_false_iff_not];intro hh;exact hh.2.2.2.1 c4
  rw[hf];clear c4;refine m6 J7 λfr hl h0=>?_;simp[J7]at hl h0;simp[J7,hl,h0,d,c1,c2,c3]
 by_cases c5:nm=bs [105,110,118]
 .have d:decide (nm=bs [105,110,118])=true:=decide_eq_true c5;have hf:Gt nm=false:=by unfold Gt;rw[decide_eq_false_iff_not];intro hh;exact hh.2.2.2.2.1 c5
  rw[hf];clear c5;refine m6 J7 λfr hl h0=>?_;simp[J7]at hl h0;simp[J7,hl,h0,d,c1,c2,c3,c4]
 by_cases c6:nm=bs [111,110,101]
 .have d:decide (nm=bs [111,110,101])=true:=decide_eq_true c6;have hf:Gt nm=false:=by unfold Gt;rw[decide_eq_false_iff_not];intro hh;exact hh.2.2.2.2.2.1 c6
  rw[hf];clear c6;refine m6 J7 λfr hl h0=>?_;simp[J7]at hl h0;simp[J7,hl,h0,d,c1,c2,c3,c4,c5]
 have hf:Gt nm=decide (OF nm≠3):=by unfold Gt;simp[c1,c2,c3,c4,c5,c6]
 rw[hf];simp only[GV]at hS;refine m6 J7 λfr hl h0=>?_;simp[J7]at hl h0;simp[J7,hl,h0,c1,c2,c3,c4,c5,c6,hS,hk]
theorem eH(m:HH)(g:FuncId)(q:ByteArray->Bool)(l:CI)(J3:l.length<=1048576)(IH:∀t∈l,pc Q Z7 [U6 t,.fn g []]=some (.bool (qO q t)))(fr:Fr)(h:AH)(hl:fr.length=29)(h1:C7 fr 1=.fn g [])(h18:C7 fr 18=sl m 4 (G8 l))(h19:C7 fr 19=.int .i64 l.length)(h20:C7 fr 20=.int .i64 0) :
  L9 (lp (A8 (Ax Q) (C2 Z7) BH) (fr,h)) λe G6 h'=>Kp BH.wr fr G6/\(e=.exit 0/\l.all (qO q)=true\/e=.ret/\C7 G6 4=.bool false/\l.all (qO q)=false):=by
 refine W6 rfl fr (λn fr h'=>∃(i:Nat),i+n=l.length/\C7 fr 20=.int .i64 (i:Nat)/\((l.drop i).all (qO q)=l.all (qO q))) ?_ l.length h ⟨0,by omega,h20,rfl⟩;rintro J Φ hJ hΦ n Kr H1 K ⟨i,hi,k20,hr⟩;have L1:=K.1.trans hl;have k1:=S6 K 1 h1;have k18:=S6 K 18 h18;have k19:=S6 K 19 h19;clear K;by_cases G9:i<l.length
 .have AT:=AQ i (by omega);have hx:=Sf G9;have hI:=IH l[i] (zf3z G9);obtain⟨bx,F⟩:=H1;rw[zf0z G9,zf6z]at hr;generalize l[i]=s at *
  cases hb:qO q s with
  |true =>
   rw[hb]at hI hr;simp[BH,L1,k1,k18,k19,k20,G9,AT,hx,hI];exact EF hJ ⟨i+1,by omega,by simp[L1],by simpa using hr⟩
  |false =>
   rw[hb]at hI hr;simp[BH,L1,k1,k18,k19,k20,G9,AT,hx,hI];exact hΦ _ _ _ (.inr ⟨rfl,by simp[L1],by simpa using hr.symm⟩)
 .rw[zf1z (by omega)]at hr;simp[BH,L1,k1,k18,k19,k20,G9];exact hΦ _ _ _ (.inl ⟨rfl,hr.symm⟩)
theorem rQ(g:FuncId)(q:ByteArray->Bool)(hg:B3 g=false)(hq:∀nm,pc Q g [.str nm]=some (.bool (q nm))):∀(n:Nat) (t:Tm),t.size<=n->t.size<=1048576->pc Q Z7 [U6 t,.fn g []]=some (.bool (qO q t)):=by
 intro n
 induction n with
 |zero=>intro t h;have:=t.size_pos;omega
 |succ n ih =>
  intro t hn hb;have Y3:=t.kids_size;have J3:=Tm.length_le t.kids;have mw:=eH t.cm g q t.kids (by omega) (λt' ht=>by have:=Tm.size_le ht;exact ih t' (by omega) (by omega));clear ih;have hQ:=hq t.name;have Kw:(C2 Z7).raw g=false:=by
   have:((C2 Z7).raw g)=B3 g:=by rfl
   rw[this,hg]
  rw[evT_eq,qQ];have fin1:∀b:Bool,(∀fr h,L9 (krg (some ((fr:Fr),(h:AH)))) λ_ _ _=>True):=λ_ _ _=>trivial;by_cases hk:t.kind=3
  .have hag:AV.agg [.int .i64 3,.str t.name,.int .i64 t.sort,sl t.cm 4 (G8 t.kids)]=U6 t:=by rw[←hk];exact Lh t
   cases hb2:q t.name with
   |true =>
    rw[hb2]at hQ;refine Es m9 λfr hl h0 h1=>?_;simp[m9]at hl h0 h1;simp[m9,hl,h0,h1,hk,hag,hQ,Kw];refine L9.mono (mw _ _ ?_ ?_ ?_ ?_ ?_) ?_<;>first|(simp[hl,h1];done)|skip
    rintro e G6 h' ⟨K,⟨rfl,he⟩|⟨rfl,h4,he⟩⟩
    .have hl':G6.length=29:=K.1.trans (by simp[hl]);simp[hl',he]
    .simp[h4,he]
   |false =>
    rw[hb2]at hQ;refine Es m9 λfr hl h0 h1=>?_;simp[m9]at hl h0 h1;simp[m9,hl,h0,h1,hk,hag,hQ,Kw]
  .refine Es m9 λfr hl h0 h1=>?_;simp[m9]at hl h0 h1;simp[m9,hl,h0,h1,hk];refine L9.mono (mw _ _ ?_ ?_ ?_ ?_ ?_) ?_<;>first|(simp[hl,h1];done)|skip
   rintro e G6 h' ⟨K,⟨rfl,he⟩|⟨rfl,h4,he⟩⟩
   .have hl':G6.length=29:=K.1.trans (by simp[hl]);simp[hl',he,hk]
   .simp[h4,he]
def Js(t:Tm):Bool:=decide (vE t=0)&&qO Gt t
theorem wv(t:Tm)(hb:t.size<=1048576):pc Q Gg [U6 t]=some (.bool (Js t)):=by
 have hV:=LU t (by omega);have hE:=rQ DL Gt rfl rM _ t (zf4z _) hb;unfold Js;by_cases c:vE t=0
 .rw[c]at hV;refine m6 DY λfr hl h0=>?_;simp[DY]at hl h0;simp[DY,hl,h0,hV,c,hE]
 .refine m6 DY λfr hl h0=>?_;simp[DY]at hl h0;simp[DY,hl,h0,hV,c]
theorem Vi(t:Tm)(hb:t.size<=1048576):pc Q Ag [U6 t]=some (.bool (!Js t)):=by
 have hF:=wv t hb;refine m6 Hd λfr hl h0=>?_;simp[Hd]at hl h0;simp[Hd,hl,h0,hF]
theorem jP(t:Tm):∃cs,U6 t=.agg cs/\cs.length=4/\cs.all AV.flat=true:=by
 obtain⟨k,nm,s,m,l⟩:=t;exact⟨_,rfl,rfl,rfl⟩
theorem iC(t:Fa):∃cs,Cl t=.agg cs/\cs.length=3/\cs.all AV.flat=true:=⟨_,rfl,rfl,rfl⟩
theorem tJ(t:Tyd):∃cs,p9 t=.agg cs/\cs.length=6/\cs.all AV.flat=true:=⟨_,rfl,rfl,rfl⟩
def JU(f g:Fa):Bool:=decide (f.kind=g.kind)&&decide (f.goal=g.goal)&&BY VD f.terms g.terms
theorem bC(f g:Fa)(hf:Tm.sizes f.terms<=1099511627776)(hg:Tm.sizes g.terms<=1099511627776):pc Q Dm [Cl f,Cl g]=some (.bool (JU f g)):=by
 have hE:=rO U6 [pI 0,.str (bs []),pI 0,.vs true 0 []] rfl VD W2 DV Iv rfl rfl rfl f.fm g.fm f.terms g.terms (by have:=Tm.length_le f.terms;omega) jP (λa ha b hb=>Vh a b (by have:=Tm.size_le ha;omega) (by have:=Tm.size_le hb;omega));rw[←m8,←m8]at hE;unfold JU;refine Es Bx λfr hl h0 h1=>?_;simp[Bx]at hl h0 h1;by_cases c1:f.kind=g.kind
 .by_cases c2:f.goal=g.goal
  .simp[Bx,hl,h0,h1,c1,c2,hE]
  .simp[Bx,hl,h0,h1,c1,c2]
 .simp[Bx,hl,h0,h1,c1]
def vFa(f:Fa):Bool:=decide (f.kind=2)&&!decide (f.goal<0)&&!decide (7<f.goal)&&!decide (8<(f.terms.length:Int))&&!(f.terms.any λt=>!Js t)
theorem lc(f:Fa)(hf:Tm.sizes f.terms<=1048576):pc Q BE [Cl f]=some (.bool (!vFa f)):=by
 have hC:=λh=>rc_ctG (λt=>!Js t) f.terms M4 L4 Ag [] (sl f.fm 4 (f.terms.map U6)) HS rfl rfl rfl h
  (rc_ixG U6 4 (λt=>!Js t) L4 Ag [] rfl f.fm f.terms (by have:=Tm.length_le f.terms;omega) (λa ha=>Vi a (by have:=Tm.size_le ha;omega)) Iw rfl jP rfl h)
 simp only[←m8]at hC;generalize hA:(f.terms.any λt=>!Js t)=A at hC;unfold vFa;rw[hA];generalize hN:(f.terms.length:Int)=N;refine m6 w9 λfr hl h0=>?_;simp[w9]at hl h0;by_cases c1:f.kind=2
 .by_cases c2:f.goal<0
  .simp[w9,hl,h0,c1,c2]
  .by_cases c3:7<f.goal
   .simp[w9,hl,h0,c1,c2,c3]
   .by_cases c4:8<N
    .simp[w9,hl,h0,c1,c2,c3,hN,c4]
    .simp[w9,hl,h0,c1,c2,c3,hN,c4,hC]
 .simp[w9,hl,h0,c1]
structure Tyg where
 tm:Bool×Bool
 tys:List Tyd
 em:Bool×Bool
 effs:List Fa
def Li(g:Tyg):AV:=.agg [sl g.tm 6 (g.tys.map p9),sl g.em 3 (g.effs.map Cl)]
@[simp]theorem tyg_cells(g:Tyg):(Li g).cells=[sl g.tm 6 (g.tys.map p9),sl g.em 3 (g.effs.map Cl)]:=rfl
@[simp]theorem tyg_agg(g:Tyg):AV.agg [sl g.tm 6 (g.tys.map p9),sl g.em 3 (g.effs.map Cl)]=Li g:=rfl
@[simp]theorem tyg_isTup(p:Tyg):(Li p).isTup=false:=_root_.id rfl
@[simp]theorem tyg_frz(h:AH)(am:Bool)(p:Tyg):frz h am (Li p)=some (Li p):=DH h am rfl
@[simp]theorem tyg_tame(h:AH)(p:Tyg):tame h (Li p)=true:=_root_.id rfl
structure TygFin (g:Tyg):Prop where
 tl:g.tys.length<=1000000
 el:g.effs.length<=1000000
 ty:∀x∈g.tys,x.t.size<=1048576/\Fb x.u
 ef:∀f∈g.effs,Tm.sizes f.terms<=1048576
def Pv(x:Tyd):Bool:=Js x.t&&decide (Qu x.u=0)
def Pw(g:Tyg):Bool:=!decide (80<(g.tys.length:Int))&&!decide (60<(g.effs.length:Int))&&g.tys.all Pv&&g.effs.all vFa
theorem Xa(m:HH)(l:List Tyd)(J3:l.length<=1000000)(hf:∀x∈l,x.t.size<=1048576/\Fb x.u)(B0:I7)(fr:Fr)(h:AH)(hB0:h.boxes[0]?=some B0)(hl:fr.length=36)(h16:C7 fr 16=sl m 6 (l.map p9))(h17:C7 fr 17=.int .i64 l.length)(h1:C7 fr 1=.ptr 0 0)(h18:C7 fr 18=.int .i64 0) :
  L9 (lp (A8 (Ax Q) (C2 ED) w8) (fr,h)) λe G6 h'=>Kp w8.wr fr G6/\h'.boxes[0]?=some B0/\(e=.exit 0/\l.all Pv=true\/e=.ret/\C7 G6 2=.bool false/\l.all Pv=false):=by
 refine W6 rfl fr (λn fr h'=>∃(i:Nat),i+n=l.length/\C7 fr 18=.int .i64 (i:Nat)/\(h'.boxes[0]?=some B0/\(l.drop i).all Pv=l.all Pv)) ?_ l.length h ⟨0,by omega,h18,⟨hB0,rfl⟩⟩;rintro J Φ hJ hΦ n Kr H1 K ⟨i,hi,k18,hr⟩;have L1:=K.1.trans hl;have k16:=S6 K 16 h16;have k17:=S6 K 17 h17;have k1:=S6 K 1 h1;clear K;by_cases G9:i<l.length
 .have AT:=AQ i (by omega);obtain⟨hb,hr⟩:=hr;obtain⟨bx,F⟩:=H1;simp only at hb;have hb':=λX:List (List AV)=>show (bx++X)[0]?=some B0 from by rw[List.getElem?_append_left (List.getElem?_eq_some_iff.1 hb).1];exact hb
  have hx:=l9 (f:=p9) (zf2z G9);obtain⟨f1,f2⟩:=hf l[i] (zf3z G9);rw[zf0z G9,zf6z]at hr;generalize l[i]=x at *
  have hF:=Vi x.t f1;have hV:=Pj x.u f2;have htc:=Lh x.t;have huc:=tI x.u;simp only[p9]at hx;have hd:∀A:List AV,List.take 2 (List.drop 4 ([.int .i64 x.t.kind,.str x.t.name,.int .i64 x.t.sort,sl x.t.cm 4 (G8 x.t.kids),.int .i64 x.u.kind,sl x.u.m 4 (x.u.ps.map Dp)]))=[.int .i64 x.u.kind,sl x.u.m 4 (x.u.ps.map Dp)]:=λ_=>rfl;cases c1:Js x.t with
  |false =>
   have hv:Pv x=false:=by simp[Pv,c1]
   rw[hv]at hr;rw[c1]at hF;simp[w8,L1,k16,k17,k1,k18,G9,AT,hx,hF,htc];exact hΦ _ _ _ ⟨hb' _,.inr ⟨rfl,by simp[L1],by simpa using hr.symm⟩⟩
  |true =>
   rw[c1]at hF;by_cases c2:Qu x.u=0
   .have hv:Pv x=true:=by simp[Pv,c1,c2]
    rw[hv]at hr;rw[c2]at hV;simp[w8,L1,k16,k17,k1,k18,G9,AT,hx,hF,htc,huc,hV];exact EF hJ ⟨i+1,by omega,by simp[L1],hb' _,by simpa using hr⟩
   .have hv:Pv x=false:=by simp[Pv,c1,c2]
    rw[hv]at hr;simp[w8,L1,k16,k17,k1,k18,G9,AT,hx,hF,htc,huc,hV,c2];exact hΦ _ _ _ ⟨hb' _,.inr ⟨rfl,by simp[L1],by simpa using hr.symm⟩⟩
 .obtain⟨hb,hr⟩:=hr;rw[zf1z (by omega)]at hr;simp[w8,L1,k16,k17,k1,k18,G9];exact hΦ _ _ _ ⟨hb,.inl ⟨rfl,hr.symm⟩⟩
theorem vg{α:Type}(p:α->Bool)(l:List α):(l.any λx=>!p x)=!l.all p:=by
 induction l with
 |nil=>rfl
 |cons a l ih=>simp[ih]
theorem eh(g:Tyg)(F:TygFin g):pc Q ED [Li g]=some (.bool (Pw g)):=by
 have hC:=eX (λf=>!vFa f) g.effs X0 M7 BE [] (sl g.em 3 (g.effs.map Cl)) (λh=>by simp) HR rfl rfl rfl
  (Sq Cl 3 (λf=>!vFa f) M7 BE [] rfl g.em g.effs (by have:=F.el;omega) (λa ha=>lc a (F.ef a ha)) Eb rfl iC rfl)
 rw[vg]at hC;have mw:=Xa g.tm g.tys F.tl F.ty [sl g.tm 6 (g.tys.map p9),sl g.em 3 (g.effs.map Cl)];unfold Pw;generalize hM:(g.tys.length:Int)=M;generalize hN:(g.effs.length:Int)=N;rw[hM]at mw;refine m6 EN λfr hl h0=>?_;simp[EN]at hl h0;by_cases c1:80<M
 .simp[EN,hl,h0,hM,c1]
 .by_cases c2:60<N
  .simp[EN,hl,h0,hM,c1,hN,c2]
  .simp[EN,hl,h0,hM,c1,hN,c2];refine L9.mono (mw _ _ ?_ ?_ ?_ ?_ ?_ ?_) ?_<;>first|(simp[hl,h0,hM];done)|skip
   rintro e G6 h' ⟨K,hb,⟨rfl,he⟩|⟨rfl,h4,he⟩⟩
   .have hl':G6.length=36:=K.1.trans (by simp[hl]);have k1:C7 G6 1=.ptr 0 0:=S6 K 1 (by simp[hl,h0]);simp[hl',he,k1,hb,hC]
   .simp[h4,he]
end Go.Abs.Q
