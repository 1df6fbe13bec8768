/- A part of the proof. -/
import Derived.Test.YtohjdamplbhdpaaGreatDoorSD13
import Derived.Lib.Strings
set_option linter.all false
open List renaming drop_eq_getElem_cons->oD,drop_eq_nil_of_le->xX,getElem?_eq_getElem->xY,getElem_mem->xb,length_cons->xc,length_set->xd,all_cons->xe,take_of_length_le->xh,drop_zero->xi,length->xq
open Option renaming bind_some->xZ,getD_none->xl,getD_some->xm
open Nat renaming le_refl->xa
open Bool renaming eq_iff_iff->xf,or_eq_true->xg,and_eq_true->xk,or_false->xo,or_true->xp
open Int renaming toNat_natCast->xj
open ByteArray renaming size->xn
namespace Go.Abs.Q
attribute [local simp] D1 D4 fin I2 G0
theorem SP:∀(n:Nat) (t:Tm),t.size<=n->t.size<=1099511627776->pc Q FY [B8 t]=some (.int .i64 t.size):=by
 intro n
 induction n with
 |zero=>intro t h;have:=t.size_pos;omega
 |succ n ih =>
  intro t hn hb;obtain⟨k,nm,s,m,kids⟩:=t;have K3:Tm.size (.mk k nm s m kids)=1+Tm.sizes kids:=rfl;refine N0 PK λfr hl h0=>?_;simp[PK,B8]at hl h0 ⊢;simp[h0];refine(TZ (Ψ:=λe fr h=>e=.exit 0/\A0 fr 3=.int .i64 (1+Tm.sizes kids:Nat)/\fr.length=21) kids
   (λdone fr h=>fr.length=21/\A0 fr 1=.ptr 0 0/\h=⟨[[.int .i64 k,.str nm,.int .i64 s,sl m 4 (A4 kids)]],[]⟩/\A0 fr 3=.int .i64 (1+Tm.sizes done:Nat)/\A0 fr 4=.int .i64 done.length) ?_ ?_ _ _ ?_).mono ?_
  .rintro fr h ⟨hl,h1,rfl,h3,h4⟩;simp[Ic,D7, *]
  .rintro done t rest he fr h ⟨hl,h1,rfl,h3,h4⟩;have hget:Ir (A4 kids) done.length=some (B8 t):=IN (by rw[←he];simp);have A7:done.length<kids.length:=by rw[←he];simp
   have hts:t.size<=Tm.sizes kids:=Tm.size_le (by rw[←he];simp);have hT:=ih t (by omega) (by omega);have C2:=Tm.length_le kids;have vY:Tm.sizes done+(t.size+Tm.sizes rest)=Tm.sizes kids:=by rw[←he,Tm.sizes_append];rfl
   have hw1:IntKind.i64.wrap (1+(Tm.sizes done:Int)+(t.size:Int))=1+(Tm.sizes (done++[t]):Int):=by
    rw[Tm.sizes_append,M5 (by omega) (by omega)];simp only[Tm.sizes];omega
   have hw2:IntKind.i64.wrap ((done.length:Int)+1)=((done++[t]).length:Nat):=by
    rw[M5 (by omega) (by omega)];simp
   obtain⟨tk,tn,ts,tm,tl⟩:=t;simp only[B8]at hT hget;simp[Ic, *]
  .simp[*,Tm.sizes]
  .rintro e fr h ⟨rfl,h3,hl⟩;simp[*]
theorem NI (a b:H6):pc Q Ff [.str a,.str b]=some (.int .i64 (Q6 a b)):=by
 refine R9 JN λfr hl h0 h1=>?_;simp[JN]at hl h0 h1 ⊢;simp[*,nO]
def nz (a b:Int):Int:=if a=0 then b else a
mutual
def G9:Tm->Tm->Int
 | .mk k n s _ l,.mk k' n' s' _ l'=>nz (ET (1+Tm.sizes l:Nat) (1+Tm.sizes l':Nat)) (nz (ET k k') (nz (Q6 n n') (nz (ET s s') (nz (ET l.length l'.length) (FE l l')))))
def FE:List Tm->List Tm->Int
 |t::l,t'::l'=>nz (G9 t t') (FE l l')
 |_,_=>0
end
theorem Oa {a b:Nat} (h:ET (a:Int) (b:Int)=0):a=b:=by
 unfold ET at h;split at h
 .omega
 .split at h<;>omega
theorem Mt (l:I1):FE [] l=0:=by cases l<;>rfl
theorem Z3:∀(n:Nat) (t t':Tm),t.size<=n->t.size<=1099511627776->t'.size<=1099511627776->pc Q A8 [B8 t,B8 t']=some (.int .i64 (G9 t t')):=by
 intro n
 induction n with
 |zero=>intro t t' h;have:=t.size_pos;omega
 |succ n ih =>
  intro t t' hn hb hb';have hS:=Vd _ t (xa _) hb;have hS':=Vd _ t' (xa _) hb';obtain⟨k,nm,s,m,l⟩:=t;obtain⟨k',nm',s',m',l'⟩:=t';have K3:Tm.size (.mk k nm s m l)=1+Tm.sizes l:=rfl;have hsz':Tm.size (.mk k' nm' s' m' l')=1+Tm.sizes l':=rfl;have C2:=Tm.length_le l;simp only[B8,K3,hsz']at hS hS';have loop:∀(fr:Fr) (c:Int),fr.length=65->A0 fr 2=.ptr 0 0->A0 fr 3=.ptr 1 0->A0 fr 5=.int .i64 c->A0 fr 6=.int .i64 0->(c=0->l.length=l'.length) ->
    C8 (lp (A1 (Q8 Q) (G8 A8) Bx) (fr,⟨[[.int .i64 k,.str nm,.int .i64 s,sl m 4 (A4 l)],[.int .i64 k',.str nm',.int .i64 s',sl m' 4 (A4 l')]],[]⟩))
     λe D3 _=>e=.exit 0/\D3.length=65/\A0 D3 5=.int .i64 (nz c (FE l l')):=by
   intro fr c hl h2 h3 h5 h6 hc;refine Qi (λn fr h=>∃i c',i+n=l.length/\fr.length=65/\A0 fr 2=.ptr 0 0/\A0 fr 3=.ptr 1 0/\A0 fr 5=.int .i64 c'/\A0 fr 6=.int .i64 (i:Nat)/\(c'=0->l.length=l'.length) /\
    nz c' (FE (l.drop i) (l'.drop i))=nz c (FE l l')/\h=⟨[[.int .i64 k,.str nm,.int .i64 s,sl m 4 (A4 l)],[.int .i64 k',.str nm',.int .i64 s',sl m' 4 (A4 l')]],[]⟩) ?_ l.length fr _ ⟨0,c,by omega,hl,h2,h3,h5,h6,hc,rfl,rfl⟩
   rintro n fr h ⟨i,c',hi,hl,h2,h3,h5,h6,hc',hr,rfl⟩;by_cases hc0:c'=0
   .subst hc0;have Pb:=hc' rfl;by_cases A7:i<l.length
    .have hx:Ir (A4 l) i=some (B8 l[i]):=IN (by simp[A7]);have hx':Ir (A4 l') i=some (B8 (l'[i]'(by omega))):=IN (by simp[show i<l'.length by omega]);have s1:=Tm.size_le (xb A7);have s2:=Tm.size_le (xb (show i<l'.length by omega));have hT:=ih l[i] (l'[i]'(by omega)) (by omega) (by omega) (by omega);have hw:=E6 i (by omega);rw[oD A7,oD (show i<l'.length by omega)]at hr;simp only[FE,nz,if_true]at hr;generalize l[i]=t at *
     generalize l'[i]'(by omega)=t' at *
     obtain⟨tk,tn,ts,tm,tl⟩:=t;obtain⟨tk',tn',ts',tm',tl'⟩:=t';simp only[B8]at hT hx hx';clear ih hS hS' hc K3 hsz';simp[Bx,hl,h2,h3,h5,h6,A7,hx,hx',hT,hw];exact⟨n-1,by omega,i+1,by omega,by simp,λ_=>Pb,hr⟩
    .have h0:l.length<=i:=by omega
     rw[xX h0,Mt]at hr;clear ih hS hS' hc K3 hsz' Pb hc';simp[Bx,hl,h2,h3,h5,h6,A7];exact hr
   .clear ih hS hS' hc K3 hsz';simp[Bx, *];simpa[nz,hc0]using hr
  refine WD Pq rfl (by simp[Ig]) λfr hl ha=>?_;have h0:=ha 0;have h1:=ha 1;clear ha ih;simp[Ig,B8]at hl h0 h1 ⊢;by_cases e0:ET (1+(Tm.sizes l:Int)) (1+(Tm.sizes l':Int))=0
  .by_cases e1:ET k k'=0
   .by_cases e2:Q6 nm nm'=0
    .by_cases e3:ET s s'=0
     .by_cases e4:ET (l.length:Int) (l'.length:Int)=0
      .simp[e0,e1,e2,e3,e4,h0,h1,hl,hS,hS',NH,NI];refine(loop _ (0) (by simp[hl]) (by simp[hl]) (by simp[hl]) (by simp[hl]) (by simp[hl]) ?_).mono ?_
       .intro hc;exact Oa e4
       .rintro e fr h ⟨rfl,hl,h5⟩;simp[hl,h5,G9,nz,e0,e1,e2,e3,e4]
      .simp[e0,e1,e2,e3,h0,h1,hl,hS,hS',NH,NI];refine(loop _ (ET (l.length:Int) (l'.length:Int)) (by simp[hl]) (by simp[hl]) (by simp[hl]) (by simp[hl]) (by simp[hl]) ?_).mono ?_
       .intro hc;exact absurd hc e4
       .rintro e fr h ⟨rfl,hl,h5⟩;simp[hl,h5,G9,nz,e0,e1,e2,e3,e4]
     .simp[e0,e1,e2,e3,h0,h1,hl,hS,hS',NH,NI];refine(loop _ (ET s s') (by simp[hl]) (by simp[hl]) (by simp[hl]) (by simp[hl]) (by simp[hl]) ?_).mono ?_
      .intro hc;exact absurd hc e3
      .rintro e fr h ⟨rfl,hl,h5⟩;simp[hl,h5,G9,nz,e0,e1,e2,e3]
    .simp[e0,e1,e2,h0,h1,hl,hS,hS',NH,NI];refine(loop _ (Q6 nm nm') (by simp[hl]) (by simp[hl]) (by simp[hl]) (by simp[hl]) (by simp[hl]) ?_).mono ?_
     .intro hc;exact absurd hc e2
     .rintro e fr h ⟨rfl,hl,h5⟩;simp[hl,h5,G9,nz,e0,e1,e2]
   .simp[e0,e1,h0,h1,hl,hS,hS',NH];refine(loop _ (ET k k') (by simp[hl]) (by simp[hl]) (by simp[hl]) (by simp[hl]) (by simp[hl]) ?_).mono ?_
    .intro hc;exact absurd hc e1
    .rintro e fr h ⟨rfl,hl,h5⟩;simp[hl,h5,G9,nz,e0,e1]
  .simp[e0,h0,h1,hl,hS,hS',NH];refine(loop _ (ET (1+(Tm.sizes l:Int)) (1+(Tm.sizes l':Int))) (by simp[hl]) (by simp[hl]) (by simp[hl]) (by simp[hl]) (by simp[hl]) ?_).mono ?_
   .intro hc;exact absurd hc e0
   .rintro e fr h ⟨rfl,hl,h5⟩;simp[hl,h5,G9,nz,e0]
theorem TS:∀(n:Nat) (t t':Tm),t.size<=n->t.size<=1099511627776->t'.size<=1099511627776->pc Q Ao [B8 t,B8 t']=some (.int .i64 (G9 t t')):=by
 intro n
 induction n with
 |zero=>intro t t' h;have:=t.size_pos;omega
 |succ n ih =>
  intro t t' hn hb hb';have hS:=SP _ t (xa _) hb;have hS':=SP _ t' (xa _) hb';obtain⟨k,nm,s,m,l⟩:=t;obtain⟨k',nm',s',m',l'⟩:=t';have K3:Tm.size (.mk k nm s m l)=1+Tm.sizes l:=rfl;have hsz':Tm.size (.mk k' nm' s' m' l')=1+Tm.sizes l':=rfl;have C2:=Tm.length_le l;simp only[B8,K3,hsz']at hS hS';have loop:∀(fr:Fr),fr.length=76->A0 fr 2=.ptr 0 0->A0 fr 3=.ptr 1 0->A0 fr 9=.int .i64 0->l.length=l'.length ->
    C8 (lp (A1 (Q8 Q) (G8 Ao) BM) (fr,⟨[[.int .i64 k,.str nm,.int .i64 s,sl m 4 (A4 l)],[.int .i64 k',.str nm',.int .i64 s',sl m' 4 (A4 l')]],[]⟩))
     λe D3 _=>D3.length=76/\(e=.exit 0/\FE l l'=0\/e=.ret/\A0 D3 4=.int .i64 (FE l l')):=by
   intro fr hl h2 h3 h9 Pb;refine Qi (λn fr h=>∃i,i+n=l.length/\fr.length=76/\A0 fr 2=.ptr 0 0/\A0 fr 3=.ptr 1 0/\A0 fr 9=.int .i64 (i:Nat) /\
    FE (l.drop i) (l'.drop i)=FE l l'/\h=⟨[[.int .i64 k,.str nm,.int .i64 s,sl m 4 (A4 l)],[.int .i64 k',.str nm',.int .i64 s',sl m' 4 (A4 l')]],[]⟩) ?_ l.length fr _ ⟨0,by omega,hl,h2,h3,h9,rfl,rfl⟩
   rintro n fr h ⟨i,hi,hl,h2,h3,h9,hr,rfl⟩;by_cases A7:i<l.length
   .have hx:Ir (A4 l) i=some (B8 l[i]):=IN (by simp[A7]);have hx':Ir (A4 l') i=some (B8 (l'[i]'(by omega))):=IN (by simp[show i<l'.length by omega]);have s1:=Tm.size_le (xb A7);have s2:=Tm.size_le (xb (show i<l'.length by omega));have hT:=ih l[i] (l'[i]'(by omega)) (by omega) (by omega) (by omega);have hw:=E6 i (by omega);rw[oD A7,oD (show i<l'.length by omega)]at hr;simp only[FE,nz]at hr;generalize l[i]=t at *
    generalize l'[i]'(by omega)=t' at *
    obtain⟨tk,tn,ts,tm,tl⟩:=t;obtain⟨tk',tn',ts',tm',tl'⟩:=t';simp only[B8]at hT hx hx';by_cases hc:G9 (Tm.mk tk tn ts tm tl) (Tm.mk tk' tn' ts' tm' tl')=0
    .rw[if_pos hc]at hr;simp[BM,hl,h2,h3,h9,A7,hx,hx',hT,hw,hc];exact⟨n-1,by omega,i+1,by omega,by simp,hr⟩
    .rw[if_neg hc]at hr;simp[BM,hl,h2,h3,h9,A7,hx,hx',hT,hc];exact hr
   .have h0:l.length<=i:=by omega
    rw[xX h0,Mt]at hr;simp[BM,hl,h2,h3,h9,A7];exact hr.symm
  refine WD PA rfl (by simp[HU]) λfr hl ha=>?_;have h0:=ha 0;have h1:=ha 1;clear ha ih;simp[HU,B8]at hl h0 h1 ⊢;by_cases e0:ET (1+(Tm.sizes l:Int)) (1+(Tm.sizes l':Int))=0
  .by_cases e1:ET k k'=0
   .by_cases e2:Op.bytesLess nm.toList nm'.toList=true
    .simp[e0,e1,e2,h0,h1,hl,hS,hS',GW];simp[G9,nz,e0,e1,e2,Q6]
    .by_cases e3:nm.toList=nm'.toList
     .have e2':=e2;rw[e3]at e2';by_cases e5:ET s s'=0
      .by_cases e4:ET (l.length:Int) (l'.length:Int)=0
       .simp[e0,e1,e2',e3,e5,e4,h0,h1,hl,hS,hS',GW];refine(loop _ (by simp[hl]) (by simp[hl]) (by simp[hl]) (by simp[hl]) (Oa e4)).mono ?_;rintro e fr h ⟨hl,⟨rfl,hz⟩|⟨rfl,h5⟩⟩
        .simp[hl,G9,nz,e0,e1,e2',e3,e5,e4,Q6,hz]
        .simp[h5,G9,nz,e0,e1,e2',e3,e5,e4,Q6]
       .simp[e0,e1,e2',e3,e5,e4,h0,h1,hl,hS,hS',GW];simp[G9,nz,e0,e1,e2',e3,e5,e4,Q6]
      .simp[e0,e1,e2',e3,e5,h0,h1,hl,hS,hS',GW];simp[G9,nz,e0,e1,e2',e3,e5,Q6]
     .simp[e0,e1,e2,e3,h0,h1,hl,hS,hS',GW];simp[G9,nz,e0,e1,e2,e3,Q6]
   .simp[e0,e1,h0,h1,hl,hS,hS',GW];simp[G9,nz,e0,e1]
  .simp[e0,h0,h1,hl,hS,hS',GW];simp[G9,nz,e0]
def HN (t t':Tm):Bool:=decide (G9 t t'=0)
theorem kN (t t':Tm) (h:t.size<=1099511627776) (h':t'.size<=1099511627776):pc Q Hm [B8 t,B8 t']=some (.bool (HN t t')):=by
 have hC:=TS _ t t' (xa _) h h';refine WD SU rfl (by simp[LG]) λfr hl ha=>?_;have h0:=ha 0;have h1:=ha 1;clear ha h h';obtain⟨tk,tn,ts,tm,tl⟩:=t;obtain⟨tk',tn',ts',tm',tl'⟩:=t';simp only[B8]at hC;simp[LG,B8]at hl h0 h1 ⊢;simp[h0,h1,hl,hC,HN]
mutual
def oT:Tm->Int->Int
 | .mk _ n _ _ l,most=>if most<=0\/(40:Int)<n.size then -1 else fI l (most-1)
def fI:List Tm->Int->Int
 | [],most=>most
 |t::l,most=>if oT t most<0 then -1 else fI l (oT t most)
end
mutual
theorem mF:∀(t:Tm) (m:Int),oT t m<=m\/oT t m=-1
 | .mk _ n _ _ l,m=>by
  simp only[oT];split
  .exact .inr rfl
  .rcases aK l (m-1)with h|h
   .exact .inl (by omega)
   .exact .inr h
theorem aK:∀(l:I1) (m:Int),fI l m<=m\/fI l m=-1
 | [],m=>.inl (Int.le_refl _)
 |t::l,m=>by
  simp only[fI];split
  .exact .inr rfl
  .rename_i hb;rcases mF t m with h|h
   .rcases aK l (oT t m)with h' | h'
    .exact .inl (by omega)
    .exact .inr h'
   .omega
end
theorem bS (h:AH) (m:J0) (sz:Nat) (K3:0<sz) (xs:E5) (lo hi:Option Int):TX h sz (sl m sz xs) (some lo) (some hi) (some none) =
  if 0<=lo.getD 0/\lo.getD 0<=hi.getD xs.length/\hi.getD xs.length<=xs.length then
   some (sl (m.1&&decide (hi.getD xs.length=xs.length),m.2||!xs.isEmpty) sz ((xs.drop (lo.getD 0).toNat).take (hi.getD xs.length-lo.getD 0).toNat),h)else none:=by
 have hz:(if (xs.isEmpty&&!m.2)=true then 0 else sz)=sz\/xs.length=0:=by
  cases xs with
  |nil=>exact .inr rfl
  |cons x xs=>exact .inl rfl
 simp only[TX,sl,Jd];rw[if_pos ⟨K3,hz⟩];by_cases hc:0<=lo.getD 0/\lo.getD 0<=hi.getD xs.length/\hi.getD xs.length<=xs.length
 .rw[if_pos hc,if_pos hc];have e:((if (xs.isEmpty&&!m.2)=true then 0 else sz):Nat)=(if (((xs.drop (lo.getD 0).toNat).take (hi.getD xs.length-lo.getD 0).toNat).isEmpty&&!(m.2||!xs.isEmpty))=true then 0 else sz):=by
   cases xs with
   |nil=>simp
   |cons x xs=>simp
  rw[e]
 .rw[if_neg hc,if_neg hc]
theorem iR (h:AH) (m:J0) (sz:Nat) (K3:0<sz) (xs:E5) (k:Nat) (hk:k<=xs.length) :
  TX h sz (sl m sz xs) (some (some (k:Int))) (some none) (some none)=some (sl (m.1,m.2||!xs.isEmpty) sz (xs.drop k),h):=by
 rw[bS _ _ _ K3];have e:((xs.length:Int)-(k:Int)).toNat=xs.length-k:=by omega
 simp only[xm,xl,decide_true,Bool.and_true,xj,e];rw[if_pos ⟨by omega,by omega,by omega⟩,xh (by simp)]
theorem iS (h:AH) (m:J0) (sz:Nat) (K3:0<sz) (xs:E5) (k:Nat) (hk:k<=xs.length) :
  TX h sz (sl m sz xs) (some none) (some (some (k:Int))) (some none)=some (sl (m.1&&decide (k=xs.length),m.2||!xs.isEmpty) sz (xs.take k),h):=by
 rw[bS _ _ _ K3];have e:decide ((k:Int)=(xs.length:Int))=decide (k=xs.length):=by
  rw[xf];simp only[decide_eq_true_eq];omega
 simp only[xm,xl,Int.sub_zero,xj,e,Int.toNat_zero,xi];rw[if_pos ⟨by omega,by omega,by omega⟩]
def R7 {α:Type} (p:α->Bool):Nat->List α->Int
 |_,[]=>-1
 |i,a::r=>if p a=true then (i:Int)else R7 p (i+1) r
def idx {α:Type} (p:α->Bool) (l:List α):Int:=R7 p 0 l
theorem CH {α:Type} (p:α->Bool):∀(l:List α) (i:Nat),(0<=R7 p i l)↔l.any p=true
 | [],i=>by simp[R7]
 |a::l,i=>by
  simp only[R7,List.any_cons,xg];by_cases h:p a=true
  .simp[h]
  .rw[if_neg h,CH p l (i+1)];simp[h]
theorem J7 {p:Prop} [Decidable p] (h:p):decide p=true:=by simp[h]
theorem E3 {p:Prop} [Decidable p] (h:¬p):decide p=false:=by simp[h]
def Rp (c:Nat):Bool:=decide (97<=c/\c<=122)||decide (65<=c/\c<=90)
def Yw (c:Nat):Bool:=decide (48<=c/\c<=57)
def Fi (c:Nat):Bool:=Rp c||Yw c||decide (c=95)||decide (c=35)
theorem Zi (c:Nat):c<35\/c=35\/(36<=c/\c<=47)\/(48<=c/\c<=57)\/(58<=c/\c<=64)\/(65<=c/\c<=90)\/(91<=c/\c<=94)\/c=95\/c=96\/(97<=c/\c<=122)\/123<=c:=by omega
theorem bD (c:Nat):pc Q JG [.int .u8 c]=some (.bool (Fi c)):=by
 refine N0 Mh λfr hl h0=>?_;simp[Mh]at hl h0;rcases Zi c with h|h|h|h|h|h|h|h|h|h|h<;>simp(disch:=omega) only[Fi,Rp,Yw,J7,E3,xp,xo]<;>simp(disch:=first|omega|(simp only[xd];omega)) [Mh,h0,J7,E3]
abbrev FD (s:ByteArray):List UInt8:=s.data.toList
theorem Qn (s:H6) (j:Nat):s[j]?=(FD s)[j]?:=by
 obtain⟨⟨l⟩⟩:=s;by_cases h:j<l.length
 .have h1:j<xn ⟨⟨l⟩⟩:=h;rw[getElem?_pos (⟨⟨l⟩⟩:ByteArray) j h1];simp only[FD];rw[xY h];rfl
 .have h1:¬j<xn ⟨⟨l⟩⟩:=h;rw[getElem?_neg (⟨⟨l⟩⟩:ByteArray) j h1];simp only[FD];rw[List.getElem?_eq_none (by omega)]
theorem Ms (s:H6):(FD s).length=s.size:=by
 obtain⟨⟨l⟩⟩:=s;rfl
def BI (s:ByteArray):Bool:=match FD s with | []=>false|c::r=>decide (s.size<=24)&&Rp c.toNat&&(c::r).all λc=>Fi c.toNat
def Lz (s:ByteArray):Bool:=(FD s).contains 35
theorem XP (s:H6) (hs:s.size<=24) (fr:Fr) (h:AH) (hl:fr.length=48) (h0:A0 fr 0=.str s) (h38:A0 fr 38=.int .i64 s.size) (h39:A0 fr 39=.int .i64 0) :
  C8 (lp (A1 (Q8 Q) (G8 EX) Aw) (fr,h)) λe D3 h'=>Kp Aw.wr fr D3/\(e=.exit 0/\((FD s).all λc=>Fi c.toNat)=true\/e=.ret/\A0 D3 2=.bool false/\((FD s).all λc=>Fi c.toNat)=false):=by
 refine C3 rfl fr (λn fr h=>∃i:Nat,i+n=s.size/\A0 fr 39=.int .i64 (i:Nat)/\(((FD s).drop i).all λc=>Fi c.toNat)=((FD s).all λc=>Fi c.toNat)) ?_ s.size h ⟨0,by omega,h39,rfl⟩;rintro J Φ hJ hΦ n H0 Jp K ⟨i,hi,k39,hr⟩;have B5:=K.1.trans hl;have k0:=A5 K 0 h0;have k38:=A5 K 38 h38;have C2:=Ms s;by_cases A7:i<s.size
 .have Qc:i<(FD s).length:=by omega
  have hx:s[i]?=some (FD s)[i]:=by rw[Qn,xY Qc]
  have hw:=E6 i (by omega);rw[oD Qc,xe]at hr;generalize (FD s)[i]=c at *
  have hP:=bD c.toNat;have Sz:s[i]'A7=c:=by rw[getElem?_pos s i A7]at hx;exact Option.some.inj hx
  cases hc:Fi c.toNat with
  |true =>
   rw[hc]at hP hr;simp[Aw,B5,k0,k38,k39,A7,Sz,hw,hP];exact O9 hJ ⟨i+1,by omega,by simp[B5],by simpa using hr⟩
  |false =>
   rw[hc]at hP hr;simp[Aw,B5,k0,k38,k39,A7,Sz,hP];exact hΦ _ _ _ (.inr ⟨rfl,by simp[B5],by simpa using hr.symm⟩)
 .rw[xX (by omega)]at hr;simp[Aw,B5,k38,k39,A7];exact hΦ _ _ _ (.inl ⟨rfl,by simpa using hr.symm⟩)
theorem aM {s:H6} (h:FD s=[]):s=bs []:=by
 obtain⟨⟨l⟩⟩:=s;simp[FD]at h;subst h;rfl
theorem df (s:H6):pc Q EX [.str s]=some (.bool (BI s)):=by
 have C2:=Ms s;refine N0 d8 λfr hl h0=>?_;simp[d8]at hl h0;cases hb:FD s with
 |nil =>
  have e:=aM hb;subst e;simp[d8,hl,h0,BI,hb]
 |cons c r =>
  rw[hb]at C2;simp only[xc]at C2;have M8:¬(s.toList=(bs []).toList):=by
   rw[Lib.toList_data,Lib.toList_data,show s.data.toList=c::r from hb];intro e;cases e
  have N7:0<s.size:=by omega
  have hx:s[0]?=some c:=by rw[Qn,hb];rfl
  have Sz:s[0]'N7=c:=by rw[getElem?_pos s 0 N7]at hx;exact Option.some.inj hx
  by_cases h24:24<s.size
  .have h24':(24:Int)<(s.size:Int):=by omega
   have h24n:¬s.size<=24:=by omega
   simp[d8,hl,h0,M8,h24',BI,hb,h24n]
  .have h24':¬(24:Int)<(s.size:Int):=by omega
   have h24n:s.size<=24:=by omega
   have hP:=bD c.toNat;cases hL:Rp c.toNat with
   |false =>
    have hv:BI s=false:=by simp[BI,hb,hL]
    rw[hv];cases hp:Fi c.toNat with
    |false =>
     rw[hp]at hP;simp[d8,hl,h0,M8,h24',N7,Sz,hP]
    |true =>
     rw[hp]at hP;have hcc:(48<=c.toNat/\c.toNat<=57)\/c.toNat=95\/c.toNat=35:=by
      simp only[Fi,hL,Yw,Bool.false_or,xg,decide_eq_true_eq]at hp;omega
     generalize hzv:c.toNat=z at *
     rcases hcc with hz|hz|hz<;>simp(disch:=first|omega|(simp only[xd];omega)) [d8,h0,M8,h24',Sz,hzv,hP,J7,E3]
   |true =>
    have hp:Fi c.toNat=true:=by simp[Fi,hL]
    rw[hp]at hP;have hcc:(97<=c.toNat/\c.toNat<=122)\/(65<=c.toNat/\c.toNat<=90):=by
     simp only[Rp,xg,decide_eq_true_eq]at hL;exact hL
    have hv:BI s=(FD s).all λc=>Fi c.toNat:=by simp[BI,hb,hL,h24n]
    rw[hv];have key:∀b,((FD s).all λc=>Fi c.toNat)=b->C8 (A1 (Q8 Q) (G8 EX) d8.body (fr,⟨[],[]⟩)) (iu d8.results (.bool b)):=by
     intro b hbv;generalize hzv:c.toNat=z at *
     have q1:¬(z:Int)=95:=by omega
     have q2:¬(z:Int)=35:=by omega
     have q3:¬((z:Int)<=57):=by omega
     have q4:(48:Int)<=(z:Int):=by omega
     simp[d8,hl,h0,M8,h24',N7,Sz,hzv,hP,q1,q2,q3,q4];refine(XP s h24n _ _ (by simp[hl]) (by simp[h0]) (by simp[hl]) (by simp[hl])).mono ?_;rintro e D3 h' ⟨K,⟨rfl,he⟩|⟨rfl,h2,he⟩⟩
     .have hl':D3.length=48:=K.1.trans (by simp[hl]);rw[hbv]at he;simp[hl',he]
     .rw[hbv]at he;simp[h2,he]
    exact key _ rfl
def GD (m:Bool×Bool) (l:List ByteArray):AV:=sl m 1 (l.map AV.str)
def BR (x a:ByteArray):Bool:=decide (x.toList=a.toList)
theorem Ol (m:J0) (l:List ByteArray) (x:H6) (C2:l.length<=1099511627776) (fr:Fr) (h:AH) (hl:fr.length=19)
  (h0:A0 fr 0=sl m 1 (l.map AV.str)) (h1:A0 fr 1=.str x) (h7:A0 fr 7=.int .i64 l.length) (h8:A0 fr 8=.int .i64 0) :
  C8 (lp (A1 (Q8 Q) (G8 Y5) P2) (fr,h)) λe D3 h'=>Kp P2.wr fr D3/\(e=.exit 0/\idx (BR x) l=-1\/e=.ret/\A0 D3 4=.int .i64 (idx (BR x) l)):=by
 refine C3 rfl fr (λn fr h=>∃i,i+n=l.length/\A0 fr 8=.int .i64 (i:Nat)/\R7 (BR x) i (l.drop i)=idx (BR x) l) ?_ l.length h ⟨0,by omega,h8,rfl⟩;rintro J Φ hJ hΦ n H0 Jp K ⟨i,hi,k8,hr⟩;have B5:=K.1.trans hl;have k0:=A5 K 0 h0;have k1:=A5 K 1 h1;have k7:=A5 K 7 h7;by_cases A7:i<l.length
 .have hx:=H8 (f:=AV.str) (xY A7);have hw:=E6 i (by omega);rw[oD A7]at hr;simp only[R7,BR,decide_eq_true_eq]at hr;generalize l[i]=a at *
  by_cases hc:x.toList=a.toList
  .rw[if_pos hc]at hr;simp[P2,B5,k0,k1,k7,k8,A7,hx,hc];exact hΦ _ _ _ (.inr ⟨rfl,by simp[B5];exact hr⟩)
  .rw[if_neg hc]at hr;simp[P2,B5,k0,k1,k7,k8,A7,hx,hw,hc];exact O9 hJ ⟨i+1,by omega,by simp[B5],hr⟩
 .rw[xX (by omega)]at hr;simp[P2,B5,k7,k8,A7];exact hΦ _ _ _ (.inl ⟨rfl,hr.symm⟩)
theorem QP (m:J0) (l:List ByteArray) (x:H6) (C2:l.length<=1099511627776):pc Q Y5 [GD m l,.str x]=some (.int .i64 (idx (BR x) l)):=by
 refine R9 DC λfr hl h0 h1=>?_;simp[DC,GD]at hl h0 h1;simp[DC,hl,h0];refine(Ol m l x C2 _ _ (by simp[hl]) (by simp[h0]) (by simp[h1]) (by simp[hl]) (by simp[hl])).mono ?_;rintro e D3 h' ⟨K,⟨rfl,he⟩|⟨rfl,h4⟩⟩
 .have hl':D3.length=19:=K.1.trans (by simp[hl]);simp[hl',he]
 .simp[h4]
theorem MN (m:J0) (l:List ByteArray) (x:H6) (C2:l.length<=1099511627776):pc Q H2 [GD m l,.str x]=some (.bool (l.any (BR x))):=by
 have hI:=QP m l x C2;have he:decide (0<=idx (BR x) l)=l.any (BR x):=by
  rw[xf,decide_eq_true_iff,idx,CH]
 refine R9 BZ λfr hl h0 h1=>?_;simp[BZ,GD]at hl h0 h1 hI;simp[BZ,hl,h0,h1,hI];exact he
end Go.Abs.Q
namespace Go.Abs.Q
open Go.Proofs
attribute [local simp] D1 D4 fin I2 G0
theorem Ov (c:Nat):pc Q FW [.int .u8 c]=some (.bool (Rp c)):=by
 refine N0 Ib λfr hl h0=>?_;simp[Ib]at hl h0;rcases Zi c with h|h|h|h|h|h|h|h|h|h|h<;>simp(disch:=omega) only[Rp,J7,E3,xp,xo]<;>simp(disch:=first|omega|(simp only[xd];omega)) [Ib,h0,J7,E3]
theorem Xk (c:Nat):pc Q JU [.int .u8 c]=some (.bool (Yw c)):=by
 refine N0 Ji λfr hl h0=>?_;simp[Ji]at hl h0;rcases Zi c with h|h|h|h|h|h|h|h|h|h|h<;>simp(disch:=omega) only[Yw,J7,E3]<;>simp(disch:=first|omega|(simp only[xd];omega)) [Ji,h0,J7,E3]
@[simp] theorem tH (h:AH) (s:H6) (lo hi:Option Int):TX h 0 (.str s) (some lo) (some hi) (some none) =
  if 0<=lo.getD 0/\lo.getD 0<=hi.getD s.size/\hi.getD s.size<=s.size then some (.str (s.extract (lo.getD 0).toNat (hi.getD s.size).toNat),h)else none:=by
 simp only[TX,Jd];by_cases hc:0<=lo.getD 0/\lo.getD 0<=hi.getD s.size/\hi.getD s.size<=s.size
 .rw[if_pos hc,if_pos ⟨trivial,trivial,hc⟩]
 .rw[if_neg hc,if_neg (λk=>hc ⟨k.2.2.1,k.2.2.2.1,k.2.2.2.2⟩)]
theorem Wa {a b:H6} (h:a.size+b.size<=4611686018427387904):D5 .add (.str a) (.str b)=some (.str (a++b)):=by
 simp only[D5];rw[if_neg];have:IntKind.i64.max=9223372036854775807:=rfl;rw[this];omega
theorem mH (l:List UInt8):FD ⟨⟨l⟩⟩=l:=rfl
theorem mG {a b:H6} (h:FD a=FD b):a=b:=by
 obtain⟨⟨a⟩⟩:=a;obtain⟨⟨b⟩⟩:=b;simp only[mH]at h;rw[h]
theorem aL (s:H6) (i j:Nat):FD (s.extract i j)=((FD s).take j).drop i:=by
 simp[FD,List.drop_take]
theorem NL (s:H6):s.toList=FD s:=Lib.toList_data s
theorem N4 (a b:H6):a.toList=b.toList↔a=b:=by
 rw[NL,NL];exact⟨mG,λh=>by rw[h]⟩
theorem Dm (a b:H6):BR a b=true↔a=b:=by
 unfold BR;rw[decide_eq_true_iff,N4]
theorem O5 (a b:H6):decide (a.toList=b.toList)=decide (a=b):=by
 rw[xf,decide_eq_true_iff,decide_eq_true_iff,N4]
def Nx (a b:ByteArray):Bool:=decide (b.size<=a.size)&&decide ((FD a).take b.size=FD b)
theorem NY (a b:H6):pc Q m7 [.str a,.str b]=some (.bool (Nx a b)):=by
 refine R9 o8 λfr hl h0 h1=>?_;simp[o8]at hl h0 h1;by_cases h:b.size<=a.size
 .have e:decide ((a.extract 0 b.size).toList=b.toList)=decide ((FD a).take b.size=FD b):=by
   rw[NL,NL,aL,xi]
  have hi:(b.size:Int)<=(a.size:Int):=by omega
  simp[o8,hl,h0,h1,h,hi,O8,e,Nx]
 .have hi:¬(b.size:Int)<=(a.size:Int):=by omega
  simp[o8,hl,h0,h1,h,hi,Nx]
theorem Vc (a b:H6):pc Q EK [.str a,.str b]=some (.bool (Nx a b)):=by
 have hL:=NY a b;refine R9 EP λfr hl h0 h1=>?_;simp[EP]at hl h0 h1;simp[EP,hl,h0,h1,hL]
def Sq (l:List UInt8):Bool:=decide (l.take 2=[35,35])
theorem kZ (s:H6) (i:Nat) (hi:i<=s.size):Nx (s.extract i s.size) (bs [35,35])=Sq ((FD s).drop i):=by
 have e:FD (s.extract i s.size)=(FD s).drop i:=by rw[aL,xh (by rw[Ms];exact xa _)]
 have z:(bs [35,35]).size=2:=rfl;have y:FD (bs [35,35])=[35,35]:=rfl;unfold Nx Sq;rw[e,z,y];by_cases h:((FD s).drop i).take 2=[35,35]
 .have:=congrArg xq h;simp only[List.length_take,xc,List.length_nil]at this;have hs:2<=(s.extract i s.size).size:=by rw[←Ms,e];omega
  rw[J7 hs,J7 h,Bool.true_and]
 .simp[h]
def Qt:List UInt8->Nat
 | []=>0
 |c::r=>if Fi c.toNat=true/\Sq (c::r)=false then Qt r+1 else 0
def Wf:List UInt8->Bool
 | []=>false
 |c::r=>Sq (c::r)||Wf r
theorem aq:∀l:List UInt8,(Qt l=l.length)↔(l.all (λc=>Fi c.toNat)=true/\Wf l=false)
 | []=>by simp[Qt,Wf]
 |c::r=>by
  have ih:=aq r;have Pb:Qt r<=r.length:=by
   clear ih
   induction r with
   |nil=>simp[Qt]
   |cons d r ih =>
    simp only[Qt];split
    .simp;omega
    .simp
  simp only[Qt,Wf,xe,xk,Bool.or_eq_false_iff,xc];by_cases h:Fi c.toNat=true/\Sq (c::r)=false
  .rw[if_pos h];constructor
   .intro k;obtain⟨a,b⟩:=ih.1 (by omega);exact⟨⟨h.1,a⟩,h.2,b⟩
   .rintro⟨⟨_,a⟩,_,b⟩;have:=ih.2 ⟨a,b⟩;omega
  .rw[if_neg h];constructor
   .intro k;omega
   .rintro⟨⟨a,_⟩,b,_⟩;exact absurd ⟨a,b⟩ h
theorem Qe (s:H6) (hs:s.size<=1099511627776) (fr:Fr) (h:AH) (hl:fr.length=39) (h0:A0 fr 0=.str s) (h3:A0 fr 3=.int .i64 1) (h1:1<=s.size) :
  C8 (lp (A1 (Q8 Q) (G8 CM) G1) (fr,h)) λe D3 h'=>Kp G1.wr fr D3/\e=.exit 0/\A0 D3 3=.int .i64 (1+Qt ((FD s).drop 1):Nat):=by
 refine C3 rfl fr (λn fr h=>∃i:Nat,i+n=s.size/\A0 fr 3=.int .i64 (i:Nat)/\i+Qt ((FD s).drop i)=1+Qt ((FD s).drop 1)) ?_ (s.size-1) h ⟨1,by omega,h3,rfl⟩;rintro J Φ hJ hΦ n H0 Jp K ⟨i,hi,k3,hr⟩;have B5:=K.1.trans hl;have k0:=A5 K 0 h0;have C2:=Ms s;by_cases A7:i<s.size
 .have Qc:i<(FD s).length:=by omega
  have hx:s[i]?=some (FD s)[i]:=by rw[Qn,xY Qc]
  have hw:=E6 i (by omega);have hP:=Vc (s.extract i s.size) (bs [35,35]);rw[kZ s i (by omega)]at hP;rw[oD Qc]at hr hP;generalize (FD s)[i]=c at *
  have hL:=Ov c.toNat;have hD:=Xk c.toNat;have Sz:s[i]'A7=c:=by rw[getElem?_pos s i A7]at hx;exact Option.some.inj hx
  have Pb:(i:Int)<=(s.size:Int):=by omega
  have stop:¬(Fi c.toNat=true/\Sq (c::(FD s).drop (i+1))=false)->i=1+Qt ((FD s).drop 1):=λhp=>by
   simp only[Qt]at hr;rw[if_neg hp]at hr;exact hr
  have fwd:(Fi c.toNat=true/\Sq (c::(FD s).drop (i+1))=false)->i+1+Qt ((FD s).drop (i+1))=1+Qt ((FD s).drop 1):=λhp=>by
   simp only[Qt]at hr;rw[if_pos hp]at hr;omega
  clear hr;generalize hz:c.toNat=z at *
  have done:∀b:Bool,Fi z=true->b=Sq (c::(FD s).drop (i+1))->True:=λ_ _ _=>trivial;clear done;cases hT:Sq (c::(FD s).drop (i+1))with
  |true =>
   rw[hT]at hP;have st:=stop (by simp[hT]);cases hLv:Rp z with
   |true =>
    rw[hLv]at hL;simp[G1,B5,k0,k3,A7,Sz,hz,hL,hP,O8,Pb];exact hΦ _ _ _ ⟨rfl,by rw[←st];simp[k3]⟩
   |false =>
    rw[hLv]at hL;cases hDv:Yw z with
    |true =>
     rw[hDv]at hD;simp[G1,B5,k0,k3,A7,Sz,hz,hL,hD,hP,O8,Pb];exact hΦ _ _ _ ⟨rfl,by rw[←st];simp[k3]⟩
    |false =>
     rw[hDv]at hD;by_cases h95:(z:Int)=95
     .simp[G1,B5,k0,k3,A7,Sz,hz,hL,hD,hP,O8,Pb,J7 h95];exact hΦ _ _ _ ⟨rfl,by rw[←st];simp[k3]⟩
     .by_cases h35:(z:Int)=35
      .simp[G1,B5,k0,k3,A7,Sz,hz,hL,hD,hP,O8,Pb,E3 h95,J7 h35];exact hΦ _ _ _ ⟨rfl,by rw[←st];simp[k3]⟩
      .simp[G1,B5,k0,k3,A7,Sz,hz,hL,hD,E3 h95,E3 h35];exact hΦ _ _ _ ⟨rfl,by rw[←st];simp[k3]⟩
  |false =>
   rw[hT]at hP;cases hLv:Rp z with
   |true =>
    rw[hLv]at hL;simp[G1,B5,k0,k3,A7,Sz,hz,hw,hL,hP,O8,Pb];exact O9 hJ ⟨i+1,by omega,by simp[B5],fwd ⟨by simp[Fi,hLv],hT⟩⟩
   |false =>
    rw[hLv]at hL;cases hDv:Yw z with
    |true =>
     rw[hDv]at hD;simp[G1,B5,k0,k3,A7,Sz,hz,hw,hL,hD,hP,O8,Pb];exact O9 hJ ⟨i+1,by omega,by simp[B5],fwd ⟨by simp[Fi,hDv],hT⟩⟩
    |false =>
     rw[hDv]at hD;by_cases h95:(z:Int)=95
     .simp[G1,B5,k0,k3,A7,Sz,hz,hw,hL,hD,hP,O8,Pb,J7 h95];exact O9 hJ ⟨i+1,by omega,by simp[B5],fwd ⟨by simp[Fi,show z=95 by omega],hT⟩⟩
     .by_cases h35:(z:Int)=35
      .simp[G1,B5,k0,k3,A7,Sz,hz,hw,hL,hD,hP,O8,Pb,E3 h95,J7 h35];exact O9 hJ ⟨i+1,by omega,by simp[B5],fwd ⟨by simp[Fi,show z=35 by omega],hT⟩⟩
      .have st:=stop (by
        intro k;have:=k.1;simp[Fi,hLv,hDv]at this;omega)
       simp[G1,B5,k0,k3,A7,Sz,hz,hL,hD,E3 h95,E3 h35];exact hΦ _ _ _ ⟨rfl,by rw[←st];simp[k3]⟩
 .rw[xX (by omega)]at hr;have hr':i=1+Qt ((FD s).drop 1):=by simpa[Qt]using hr
  simp[G1,B5,k0,k3,A7];exact hΦ _ _ _ ⟨rfl,by rw[←hr'];simp[k3]⟩
theorem TR (s:H6) (hs:s.size<=1099511627776) (h1:1<=s.size):pc Q CM [.str s]=some (.int .i64 (1+Qt ((FD s).drop 1):Nat)):=by
 refine N0 Ew λfr hl h0=>?_;simp[Ew]at hl h0;generalize hk:(1+Qt ((FD s).drop 1):Nat)=k;simp[Ew];refine(Qe s hs _ _ (by simp[hl]) (by simp[h0]) (by simp[hl]) h1).mono ?_;rintro e D3 h' ⟨K,rfl,he⟩;have hl':D3.length=39:=K.1.trans (by simp[hl]);rw[hk]at he;simp[hl',he]
def Y2 (s:ByteArray):Bool:=BI s&&!Wf (FD s)
theorem Ht (s:H6) (hs:s.size<=1099511627776):pc Q Bk [.str s]=some (.bool (Y2 s)):=by
 have C2:=Ms s;refine N0 AR λfr hl h0=>?_;simp[AR]at hl h0;cases hb:FD s with
 |nil =>
  have e:=aM hb;subst e;have hv:Y2 (bs [])=false:=rfl;rw[hv];simp[AR,hl,h0]
 |cons c r =>
  have hlen':=C2;rw[hb]at hlen';simp only[xc]at hlen';have M8:¬s.toList=(bs []).toList:=by
   rw[NL,hb];simp[NL,FD,bs]
  have N7:0<s.size:=by omega
  have hx:s[0]?=some c:=by rw[Qn,hb];rfl
  have Sz:s[0]'N7=c:=by rw[getElem?_pos s 0 N7]at hx;exact Option.some.inj hx
  have hL:=Ov c.toNat;have hN:=TR s hs (by omega);rw[hb,List.drop_succ_cons,xi]at hN;have Fy:=aq r;cases hLv:Rp c.toNat with
  |false =>
   rw[hLv]at hL;have hv:Y2 s=false:=by simp[Y2,BI,hb,hLv]
   rw[hv];simp[AR,hl,h0,E3 M8,N7,Sz,hL]
  |true =>
   rw[hLv]at hL;have ht:Sq (c::r)=false:=by
    unfold Sq;apply E3;intro k;cases r with
    |nil=>simp at k
    |cons d r =>
     simp at k;rw[k.1]at hLv;exact absurd hLv (by decide)
   have hp:Fi c.toNat=true:=by simp[Fi,hLv]
   by_cases hk:Qt r=r.length
   .have CE:((1+Qt r:Nat):Int)=(s.size:Int):=by omega
    have ha:=Fy.1 hk;have hv:Y2 s=decide (s.size<=24):=by
     have e1:=ha.1;simp only[Y2,BI,hb,hLv,xe,hp,e1,Wf,ht,ha.2];simp
    rw[hv];generalize ((1+Qt r:Nat):Int)=q at *
    by_cases h24:s.size<=24
    .have h24':(s.size:Int)<=24:=by omega
     simp[AR,hl,h0,E3 M8,N7,Sz,hL,hN,J7 CE,J7 h24',J7 h24]
    .have h24':¬(s.size:Int)<=24:=by omega
     simp[AR,hl,h0,E3 M8,N7,Sz,hL,hN,J7 CE,E3 h24',E3 h24]
   .have CE:¬((1+Qt r:Nat):Int)=(s.size:Int):=by omega
    have hv:Y2 s=false:=by
     rw[Fy]at hk;simp only[Y2,BI,hb,hLv,xe,hp,Wf,ht];cases h1:(r.all λc=>Fi c.toNat)with
     |false=>simp
     |true =>
      cases h2:Wf r with
      |true=>simp
      |false=>exact absurd ⟨h1,h2⟩ hk
    rw[hv];generalize ((1+Qt r:Nat):Int)=q at *
    simp[AR,hl,h0,E3 M8,N7,Sz,hL,hN,E3 CE]
def Mq (sz:Nat) (G2:List AV) (v:AV) (h:AH):Prop:=(G2=[]/\v=.vs true 0 [])\/(G2≠[]/\∃k,v=.sl k G2.length 0 G2.length/\h.fams[k]?=some ⟨G2,sz,false⟩)
theorem OJ (sz:Nat) (h:AH):Mq sz [] (.vs true 0 []) h:=.inl ⟨rfl,rfl⟩
theorem FN {sz:Nat} {G2:E5} {v:AV} {h h':AH} (hg:Mq sz G2 v h) (e:h'.fams=h.fams):Mq sz G2 v h':=by
 rcases hg with hg|⟨h1,k,h2,h3⟩
 .exact .inl hg
 .exact .inr ⟨h1,k,h2,by rw[e];exact h3⟩
theorem aA {c:Ctx} {sz bytes:Nat} {G2 ys:E5} {v x:AV} {h:AH} (hg:Mq sz G2 v h) (hm:c.mutApp=false) (hx:elems h sz x=some ys)
  (hb:(G2.length+ys.length)*bytes<=G5/\G2.length+ys.length<=maxLen):∃v' h',L5 c h sz bytes v x=some (v',h')/\Mq sz (G2++ys) v' h'/\h'.boxes=h.boxes:=by
 rcases hg with ⟨rfl,rfl⟩|⟨M8,k,rfl,hk⟩
 .rw[aJ,hx,xZ];by_cases hy:ys.length=0
  .rw[if_pos hy];have:ys=[]:=List.eq_nil_of_length_eq_zero hy;subst this;exact⟨_,_,rfl,.inl ⟨rfl,rfl⟩,rfl⟩
  .rw[if_neg hy,if_pos (by simpa using hb),hm];refine⟨_,_,rfl,.inr ⟨λe=>hy (by simpa using congrArg xq e),_,rfl,?_⟩,rfl⟩;simp
 .rw[RN,hx,xZ,hk,xZ];rw[if_pos ⟨rfl,rfl,by omega,hb⟩];have CE:k<h.fams.length:=by
   rw[List.getElem?_eq_some_iff]at hk;exact hk.1
  refine⟨_,_,rfl,.inr ⟨by simp[M8],k,by simp,?_⟩,rfl⟩;simp[CE]
theorem Qj {c:Ctx} {sz bytes:Nat} {G2:E5} {v x:AV} {h:AH} (hg:Mq sz G2 v h) (hm:c.mutApp=false) (m:J0)
  (hb:(G2.length+1)*bytes<=140737488355328) (hb':G2.length<=1099511627776):∃v' h',L5 c h sz bytes v (sl m sz [x])=some (v',h')/\Mq sz (G2++[x]) v' h'/\h'.boxes=h.boxes :=
 aA hg hm (O4 h m sz [x]) (by simp only[G5,maxLen,List.length_singleton];omega)
theorem jD {sz:Nat} {G2:E5} {v:AV} {h:AH} (hg:Mq sz G2 v h):∃m,frz h true v=some (sl m sz G2):=by
 rcases hg with ⟨rfl,rfl⟩|⟨M8,k,rfl,hk⟩
 .exact⟨(true,false),by rw[jl];exact congrArg some (Db _ rfl _ _)⟩
 .refine⟨(false,true),?_⟩;rw[Rd,Do,hk,xZ,if_pos ⟨rfl,by omega,rfl⟩];simp
theorem Yp {sz:Nat} {G2:E5} {v:AV} {h:AH} (hg:Mq sz G2 v h):∃m,Bj h v=some (sl m sz G2):=by
 rcases hg with ⟨rfl,rfl⟩|⟨M8,k,rfl,hk⟩
 .exact⟨(true,false),by rw[Fk sz];rfl⟩
 .refine⟨(false,true),?_⟩;rw[show Bj h (.sl k G2.length 0 G2.length)=y5 h true (.sl k G2.length 0 G2.length) from rfl];rw[Do,hk,xZ,if_pos ⟨rfl,by omega,rfl⟩];simp
structure Tk where
 kind:Int
 text:ByteArray
 num:Int
 str:ByteArray
 line:Int
def sY (l:List UInt8):Prop:=l.all (λc=>Fi c.toNat)=true
def vC (s:ByteArray):Prop:=sY (FD s)/\s.size<=24/\∃c r,FD s=c::r/\Rp c.toNat=true
theorem dM {s:H6} (h:BI s=true):vC s:=by
 unfold BI at h;cases hb:FD s with
 |nil=>rw[hb]at h;cases h
 |cons c r =>
  rw[hb]at h;simp only[xk,decide_eq_true_eq]at h;exact⟨by unfold sY;rw[hb];exact h.2,h.1.1,c,r,hb,h.1.2⟩
end Go.Abs.Q
