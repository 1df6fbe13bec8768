/- A part of the proof. -/
import Derived.Test.YtohjdamplbhdpaaGreatDoorSK11
import Derived.Lib.Strings
set_option linter.all false
open List renaming drop_eq_getElem_cons->A0A,drop_eq_nil_of_le->A0B,getElem_mem->A0C,getElem?_eq_getElem->A0D,length_set->A0F,length_cons->A0J,all_cons->A0P
open Nat renaming le_refl->A0E
open Bool renaming or_eq_true->A0G,eq_iff_iff->A0M,or_false->A0O,or_true->A0Q
open Int renaming cast_ofNat_Int->A0H,toNat_natCast->A0I
open Option renaming getD_none->A0K,getD_some->A0L
open ByteArray renaming size->A0N
namespace Go.Abs.Q
attribute [local simp] D9 E4 fin I8 G6
theorem Nu:∀(n:Nat) (t:Tm),t.size<=n->t.size<=1099511627776->pc Q Di [B7 t]=some (.int .i64 t.size):=by
 intro n
 induction n with
 |zero=>intro t h;have:=t.size_pos;omega
 |succ n ih =>
  intro t hn hb;obtain⟨k,nm,s,m,kids⟩:=t;have I9:Tm.size (.mk k nm s m kids)=1+Tm.sizes kids:=rfl;refine M2 Rv λfr hl h0=>?_;simp[Rv,B7]at hl h0 ⊢;simp[h0];refine(WB (Ψ:=λe fr h=>e=.exit 0/\A0 fr 3=.int .i64 (1+Tm.sizes kids:Nat)/\fr.length=21) kids
   (λdone fr h=>fr.length=21/\A0 fr 1=.ptr 0 0/\h=⟨[[.int .i64 k,.str nm,.int .i64 s,sl m 4 (A4 kids)]],[]⟩/\A0 fr 3=.int .i64 (1+Tm.sizes done:Nat)/\A0 fr 4=.int .i64 done.length) ?_ ?_ _ _ ?_).mono ?_
  .rintro fr h ⟨hl,h1,rfl,h3,h4⟩;simp[LX,D6, *]
  .rintro done t rest he fr h ⟨hl,h1,rfl,h3,h4⟩;have hget:Jb (A4 kids) done.length=some (B7 t):=FM (by rw[←he];simp);have A7:done.length<kids.length:=by rw[←he];simp
   have hts:t.size<=Tm.sizes kids:=Tm.size_le (by rw[←he];simp);have hT:=ih t (by omega) (by omega);have B8:=Tm.length_le kids;have yX:Tm.sizes done+(t.size+Tm.sizes rest)=Tm.sizes kids:=by rw[←he,Tm.sizes_append];rfl
   have hw1:IntKind.i64.wrap (1+(Tm.sizes done:Int)+(t.size:Int))=1+(Tm.sizes (done++[t]):Int):=by
    rw[Tm.sizes_append,U4 (by omega) (by omega)];simp only[Tm.sizes];omega
   have hw2:IntKind.i64.wrap ((done.length:Int)+1)=((done++[t]).length:Nat):=by
    rw[U4 (by omega) (by omega)];simp
   obtain⟨tk,tn,ts,tm,tl⟩:=t;simp only[B7]at hT hget;simp[LX, *]
  .simp[*,Tm.sizes]
  .rintro e fr h ⟨rfl,h3,hl⟩;simp[*]
theorem Pz (a b:I3):pc Q IG [.str a,.str b]=some (.int .i64 (T4 a b)):=by
 refine O2 MR λfr hl h0 h1=>?_;simp[MR]at hl h0 h1 ⊢;simp[*,sD]
def nz (a b:Int):Int:=if a=0 then b else a
mutual
def H7:Tm->Tm->Int
 | .mk k n s _ l,.mk k' n' s' _ l'=>nz (GX (1+Tm.sizes l:Nat) (1+Tm.sizes l':Nat)) (nz (GX k k') (nz (T4 n n') (nz (GX s s') (nz (GX l.length l'.length) (HY l l')))))
def HY:List Tm->List Tm->Int
 |t::l,t'::l'=>nz (H7 t t') (HY l l')
 |_,_=>0
end
theorem RL {a b:Nat} (h:GX (a:Int) (b:Int)=0):a=b:=by
 unfold GX at h;split at h
 .omega
 .split at h<;>omega
theorem Pk (l:I6):HY [] l=0:=by cases l<;>rfl
theorem m9:∀(n:Nat) (t t':Tm),t.size<=n->t.size<=1099511627776->t'.size<=1099511627776->pc Q C2 [B7 t,B7 t']=some (.int .i64 (H7 t t')):=by
 intro n
 induction n with
 |zero=>intro t t' h;have:=t.size_pos;omega
 |succ n ih =>
  intro t t' hn hb hb';have hS:=YN _ t (A0E _) hb;have hS':=YN _ t' (A0E _) hb';obtain⟨k,nm,s,m,l⟩:=t;obtain⟨k',nm',s',m',l'⟩:=t';have I9:Tm.size (.mk k nm s m l)=1+Tm.sizes l:=rfl;have hsz':Tm.size (.mk k' nm' s' m' l')=1+Tm.sizes l':=rfl;have B8:=Tm.length_le l;simp only[B7,I9,hsz']at hS hS';have loop:∀(fr:Fr) (c:Int),fr.length=65->A0 fr 2=.ptr 0 0->A0 fr 3=.ptr 1 0->A0 fr 5=.int .i64 c->A0 fr 6=.int .i64 0->(c=0->l.length=l'.length) ->
    B9 (lp (A3 (L5 Q) (E5 C2) DP) (fr,⟨[[.int .i64 k,.str nm,.int .i64 s,sl m 4 (A4 l)],[.int .i64 k',.str nm',.int .i64 s',sl m' 4 (A4 l')]],[]⟩))
     λe C6 _=>e=.exit 0/\C6.length=65/\A0 C6 5=.int .i64 (nz c (HY l l')):=by
   intro fr c hl h2 h3 h5 h6 hc;refine NT (λn fr h=>∃i c',i+n=l.length/\fr.length=65/\A0 fr 2=.ptr 0 0/\A0 fr 3=.ptr 1 0/\A0 fr 5=.int .i64 c'/\A0 fr 6=.int .i64 (i:Nat)/\(c'=0->l.length=l'.length) /\
    nz c' (HY (l.drop i) (l'.drop i))=nz c (HY l l')/\h=⟨[[.int .i64 k,.str nm,.int .i64 s,sl m 4 (A4 l)],[.int .i64 k',.str nm',.int .i64 s',sl m' 4 (A4 l')]],[]⟩) ?_ l.length fr _ ⟨0,c,by omega,hl,h2,h3,h5,h6,hc,rfl,rfl⟩
   rintro n fr h ⟨i,c',hi,hl,h2,h3,h5,h6,hc',hr,rfl⟩;by_cases hc0:c'=0
   .subst hc0;have NF:=hc' rfl;by_cases A7:i<l.length
    .have hx:Jb (A4 l) i=some (B7 l[i]):=FM (by simp[A7]);have hx':Jb (A4 l') i=some (B7 (l'[i]'(by omega))):=FM (by simp[show i<l'.length by omega]);have s1:=Tm.size_le (A0C A7);have s2:=Tm.size_le (A0C (show i<l'.length by omega));have hT:=ih l[i] (l'[i]'(by omega)) (by omega) (by omega) (by omega);have hw:=D1 i (by omega);rw[A0A A7,A0A (show i<l'.length by omega)]at hr;simp only[HY,nz,if_true]at hr;generalize l[i]=t at *
     generalize l'[i]'(by omega)=t' at *
     obtain⟨tk,tn,ts,tm,tl⟩:=t;obtain⟨tk',tn',ts',tm',tl'⟩:=t';simp only[B7]at hT hx hx';clear ih hS hS' hc I9 hsz';simp[DP,hl,h2,h3,h5,h6,A7,hx,hx',hT,hw];exact⟨n-1,by omega,i+1,by omega,by simp,λ_=>NF,hr⟩
    .have h0:l.length<=i:=by omega
     rw[A0B h0,Pk]at hr;clear ih hS hS' hc I9 hsz' NF hc';simp[DP,hl,h2,h3,h5,h6,A7];exact hr
   .clear ih hS hS' hc I9 hsz';simp[DP, *];simpa[nz,hc0]using hr
  refine fQ Sd rfl (by simp[Lg]) λfr hl ha=>?_;have h0:=ha 0;have h1:=ha 1;clear ha ih;simp[Lg,B7]at hl h0 h1 ⊢;by_cases e0:GX (1+(Tm.sizes l:Int)) (1+(Tm.sizes l':Int))=0
  .by_cases e1:GX k k'=0
   .by_cases e2:T4 nm nm'=0
    .by_cases e3:GX s s'=0
     .by_cases e4:GX (l.length:Int) (l'.length:Int)=0
      .simp[e0,e1,e2,e3,e4,h0,h1,hl,hS,hS',Py,Pz];refine(loop _ (0) (by simp[hl]) (by simp[hl]) (by simp[hl]) (by simp[hl]) (by simp[hl]) ?_).mono ?_
       .intro hc;exact RL e4
       .rintro e fr h ⟨rfl,hl,h5⟩;simp[hl,h5,H7,nz,e0,e1,e2,e3,e4]
      .simp[e0,e1,e2,e3,h0,h1,hl,hS,hS',Py,Pz];refine(loop _ (GX (l.length:Int) (l'.length:Int)) (by simp[hl]) (by simp[hl]) (by simp[hl]) (by simp[hl]) (by simp[hl]) ?_).mono ?_
       .intro hc;exact absurd hc e4
       .rintro e fr h ⟨rfl,hl,h5⟩;simp[hl,h5,H7,nz,e0,e1,e2,e3,e4]
     .simp[e0,e1,e2,e3,h0,h1,hl,hS,hS',Py,Pz];refine(loop _ (GX s s') (by simp[hl]) (by simp[hl]) (by simp[hl]) (by simp[hl]) (by simp[hl]) ?_).mono ?_
      .intro hc;exact absurd hc e3
      .rintro e fr h ⟨rfl,hl,h5⟩;simp[hl,h5,H7,nz,e0,e1,e2,e3]
    .simp[e0,e1,e2,h0,h1,hl,hS,hS',Py,Pz];refine(loop _ (T4 nm nm') (by simp[hl]) (by simp[hl]) (by simp[hl]) (by simp[hl]) (by simp[hl]) ?_).mono ?_
     .intro hc;exact absurd hc e2
     .rintro e fr h ⟨rfl,hl,h5⟩;simp[hl,h5,H7,nz,e0,e1,e2]
   .simp[e0,e1,h0,h1,hl,hS,hS',Py];refine(loop _ (GX k k') (by simp[hl]) (by simp[hl]) (by simp[hl]) (by simp[hl]) (by simp[hl]) ?_).mono ?_
    .intro hc;exact absurd hc e1
    .rintro e fr h ⟨rfl,hl,h5⟩;simp[hl,h5,H7,nz,e0,e1]
  .simp[e0,h0,h1,hl,hS,hS',Py];refine(loop _ (GX (1+(Tm.sizes l:Int)) (1+(Tm.sizes l':Int))) (by simp[hl]) (by simp[hl]) (by simp[hl]) (by simp[hl]) (by simp[hl]) ?_).mono ?_
   .intro hc;exact absurd hc e0
   .rintro e fr h ⟨rfl,hl,h5⟩;simp[hl,h5,H7,nz,e0]
theorem Vu:∀(n:Nat) (t t':Tm),t.size<=n->t.size<=1099511627776->t'.size<=1099511627776->pc Q Bc [B7 t,B7 t']=some (.int .i64 (H7 t t')):=by
 intro n
 induction n with
 |zero=>intro t t' h;have:=t.size_pos;omega
 |succ n ih =>
  intro t t' hn hb hb';have hS:=Nu _ t (A0E _) hb;have hS':=Nu _ t' (A0E _) hb';obtain⟨k,nm,s,m,l⟩:=t;obtain⟨k',nm',s',m',l'⟩:=t';have I9:Tm.size (.mk k nm s m l)=1+Tm.sizes l:=rfl;have hsz':Tm.size (.mk k' nm' s' m' l')=1+Tm.sizes l':=rfl;have B8:=Tm.length_le l;simp only[B7,I9,hsz']at hS hS';have loop:∀(fr:Fr),fr.length=76->A0 fr 2=.ptr 0 0->A0 fr 3=.ptr 1 0->A0 fr 9=.int .i64 0->l.length=l'.length ->
    B9 (lp (A3 (L5 Q) (E5 Bc) CL) (fr,⟨[[.int .i64 k,.str nm,.int .i64 s,sl m 4 (A4 l)],[.int .i64 k',.str nm',.int .i64 s',sl m' 4 (A4 l')]],[]⟩))
     λe C6 _=>C6.length=76/\(e=.exit 0/\HY l l'=0\/e=.ret/\A0 C6 4=.int .i64 (HY l l')):=by
   intro fr hl h2 h3 h9 NF;refine NT (λn fr h=>∃i,i+n=l.length/\fr.length=76/\A0 fr 2=.ptr 0 0/\A0 fr 3=.ptr 1 0/\A0 fr 9=.int .i64 (i:Nat) /\
    HY (l.drop i) (l'.drop i)=HY l l'/\h=⟨[[.int .i64 k,.str nm,.int .i64 s,sl m 4 (A4 l)],[.int .i64 k',.str nm',.int .i64 s',sl m' 4 (A4 l')]],[]⟩) ?_ l.length fr _ ⟨0,by omega,hl,h2,h3,h9,rfl,rfl⟩
   rintro n fr h ⟨i,hi,hl,h2,h3,h9,hr,rfl⟩;by_cases A7:i<l.length
   .have hx:Jb (A4 l) i=some (B7 l[i]):=FM (by simp[A7]);have hx':Jb (A4 l') i=some (B7 (l'[i]'(by omega))):=FM (by simp[show i<l'.length by omega]);have s1:=Tm.size_le (A0C A7);have s2:=Tm.size_le (A0C (show i<l'.length by omega));have hT:=ih l[i] (l'[i]'(by omega)) (by omega) (by omega) (by omega);have hw:=D1 i (by omega);rw[A0A A7,A0A (show i<l'.length by omega)]at hr;simp only[HY,nz]at hr;generalize l[i]=t at *
    generalize l'[i]'(by omega)=t' at *
    obtain⟨tk,tn,ts,tm,tl⟩:=t;obtain⟨tk',tn',ts',tm',tl'⟩:=t';simp only[B7]at hT hx hx';by_cases hc:H7 (Tm.mk tk tn ts tm tl) (Tm.mk tk' tn' ts' tm' tl')=0
    .rw[if_pos hc]at hr;simp[CL,hl,h2,h3,h9,A7,hx,hx',hT,hw,hc];exact⟨n-1,by omega,i+1,by omega,by simp,hr⟩
    .rw[if_neg hc]at hr;simp[CL,hl,h2,h3,h9,A7,hx,hx',hT,hc];exact hr
   .have h0:l.length<=i:=by omega
    rw[A0B h0,Pk]at hr;simp[CL,hl,h2,h3,h9,A7];exact hr.symm
  refine fQ Ro rfl (by simp[KL]) λfr hl ha=>?_;have h0:=ha 0;have h1:=ha 1;clear ha ih;simp[KL,B7]at hl h0 h1 ⊢;by_cases e0:GX (1+(Tm.sizes l:Int)) (1+(Tm.sizes l':Int))=0
  .by_cases e1:GX k k'=0
   .by_cases e2:Op.bytesLess nm.toList nm'.toList=true
    .simp[e0,e1,e2,h0,h1,hl,hS,hS',Iy];simp[H7,nz,e0,e1,e2,T4]
    .by_cases e3:nm.toList=nm'.toList
     .have e2':=e2;rw[e3]at e2';by_cases e5:GX s s'=0
      .by_cases e4:GX (l.length:Int) (l'.length:Int)=0
       .simp[e0,e1,e2',e3,e5,e4,h0,h1,hl,hS,hS',Iy];refine(loop _ (by simp[hl]) (by simp[hl]) (by simp[hl]) (by simp[hl]) (RL e4)).mono ?_;rintro e fr h ⟨hl,⟨rfl,hz⟩|⟨rfl,h5⟩⟩
        .simp[hl,H7,nz,e0,e1,e2',e3,e5,e4,T4,hz]
        .simp[h5,H7,nz,e0,e1,e2',e3,e5,e4,T4]
       .simp[e0,e1,e2',e3,e5,e4,h0,h1,hl,hS,hS',Iy];simp[H7,nz,e0,e1,e2',e3,e5,e4,T4]
      .simp[e0,e1,e2',e3,e5,h0,h1,hl,hS,hS',Iy];simp[H7,nz,e0,e1,e2',e3,e5,T4]
     .simp[e0,e1,e2,e3,h0,h1,hl,hS,hS',Iy];simp[H7,nz,e0,e1,e2,e3,T4]
   .simp[e0,e1,h0,h1,hl,hS,hS',Iy];simp[H7,nz,e0,e1]
  .simp[e0,h0,h1,hl,hS,hS',Iy];simp[H7,nz,e0]
def KZ (t t':Tm):Bool:=decide (H7 t t'=0)
def Qd:List Tm->List Tm->Bool
 | [],[]=>true
 |t::l,t'::l'=>KZ t t'&&Qd l l'
 |_,_=>false
theorem ZZ:∀{l l':I6},Qd l l'=true->l.length=l'.length
 | [],[],_=>rfl
 | [],_::_,h=>by simp[Qd]at h
 |_::_,[],h=>by simp[Qd]at h
 |_::_,_::_,h=>by simp[Qd]at h;simp[ZZ h.2]
theorem YM (t t':Tm) (h:t.size<=1099511627776) (h':t'.size<=1099511627776):pc Q Fj [B7 t,B7 t']=some (.bool (KZ t t')):=by
 have hC:=Vu _ t t' (A0E _) h h';refine fQ VF rfl (by simp[OE]) λfr hl ha=>?_;have h0:=ha 0;have h1:=ha 1;clear ha h h';obtain⟨tk,tn,ts,tm,tl⟩:=t;obtain⟨tk',tn',ts',tm',tl'⟩:=t';simp only[B7]at hC;simp[OE,B7]at hl h0 h1 ⊢;simp[h0,h1,hl,hC,KZ]
theorem lc (m m':J3) (l l':I6) (h:Tm.sizes l<=1099511627776) (h':Tm.sizes l'<=1099511627776) :
  pc Q MV [sl m 4 (A4 l),sl m' 4 (A4 l')]=some (.bool (Qd l l')):=by
 refine O2 QU λfr hl h0 h1=>?_;simp[QU]at hl h0 h1 ⊢;have B8:=Tm.length_le l;by_cases NF:l.length=l'.length
 .have hle':(l.length:Int)=(l'.length:Int):=by omega
  simp[h0,h1,hl,NF];refine(NT (Ψ:=λe fr h=>fr.length=27/\(e=.exit 0/\Qd l l'=true\/e=.ret/\A0 fr 4=.bool false/\Qd l l'=false))
   (λn fr h=>∃i,i+n=l.length/\fr.length=27/\A0 fr 0=sl m 4 (A4 l)/\A0 fr 1=sl m' 4 (A4 l')/\A0 fr 5=.int .i64 (i:Nat)/\Qd (l.drop i) (l'.drop i)=Qd l l') ?_ l.length _ _ ?_).mono ?_
  .rintro n fr h ⟨i,hi,hl,h0,h1,h5,hr⟩;by_cases A7:i<l.length
   .have hx:Jb (A4 l) i=some (B7 l[i]):=FM (by simp[A7]);have hx':Jb (A4 l') i=some (B7 (l'[i]'(by omega))):=FM (by simp[show i<l'.length by omega]);have s1:=Tm.size_le (A0C A7);have s2:=Tm.size_le (A0C (show i<l'.length by omega));have hT:=YM l[i] (l'[i]'(by omega)) (by omega) (by omega);have hw:=D1 i (by omega);rw[A0A A7,A0A (show i<l'.length by omega)]at hr;simp only[Qd]at hr;generalize l[i]=t at *
    generalize l'[i]'(by omega)=t' at *
    obtain⟨tk,tn,ts,tm,tl⟩:=t;obtain⟨tk',tn',ts',tm',tl'⟩:=t';simp only[B7]at hT hx hx';cases hc:KZ (Tm.mk tk tn ts tm tl) (Tm.mk tk' tn' ts' tm' tl')with
    |true =>
     rw[hc]at hT hr;simp[HE,hl,h0,h1,h5,A7,hx,hx',hT,hw];exact⟨n-1,by omega,i+1,by omega,by simp,by simpa using hr⟩
    |false =>
     rw[hc]at hT hr;simp[HE,hl,h0,h1,h5,A7,hx,hx',hT];simpa using hr.symm
   .have e0:l.length<=i:=by omega
    rw[A0B e0,A0B (by omega)]at hr;simp[HE,hl,h0,h5,A7];exact hr.symm
  .exact⟨0,by omega,by simp[hl],by simp[h0],by simp[h1],by simp[hl],rfl⟩
  .rintro e fr h ⟨hl,⟨rfl,he⟩|⟨rfl,h6,he⟩⟩
   .simp[hl,he]
   .simp[h6,he]
 .have hle':¬(l.length:Int)=(l'.length:Int):=by omega
  have hf:Qd l l'=false:=by
   cases hq:Qd l l' with
   |false=>rfl
   |true=>exact absurd (ZZ hq) NF
  simp[h0,h1,hl,hle',hf]
mutual
def cM:Tm->Int->Int
 | .mk _ n _ _ l,most=>if most<=0\/(40:Int)<n.size then -1 else UD l (most-1)
def UD:List Tm->Int->Int
 | [],most=>most
 |t::l,most=>if cM t most<0 then -1 else UD l (cM t most)
end
mutual
theorem cN:∀(t:Tm) (m:Int),cM t m<=m\/cM t m=-1
 | .mk _ n _ _ l,m=>by
  simp only[cM];split
  .exact .inr rfl
  .rcases eS l (m-1)with h|h
   .exact .inl (by omega)
   .exact .inr h
theorem eS:∀(l:I6) (m:Int),UD l m<=m\/UD l m=-1
 | [],m=>.inl (Int.le_refl _)
 |t::l,m=>by
  simp only[UD];split
  .exact .inr rfl
  .rename_i hb;rcases cN t m with h|h
   .rcases eS l (cM t m)with h' | h'
    .exact .inl (by omega)
    .exact .inr h'
   .omega
end
theorem ib:∀(n:Nat) (t:Tm) (most:Int),t.size<=n->t.size<=1099511627776->most<=9223372036854775807->pc Q Hx [B7 t,.int .i64 most]=some (.int .i64 (cM t most)):=by
 intro n
 induction n with
 |zero=>intro t _ h;have:=t.size_pos;omega
 |succ n ih =>
  intro t most hn hb hm;obtain⟨k,nm,s,m,kids⟩:=t;have I9:Tm.size (.mk k nm s m kids)=1+Tm.sizes kids:=rfl;have B8:=Tm.length_le kids;refine O2 FS λfr hl h0 h1=>?_;simp[FS,B7]at hl h0 h1;by_cases h2:most<=0
  .simp[FS,hl,h0,h1,h2,cM]
  by_cases h3:(40:Int)<nm.size
  .simp[FS,hl,h0,h1,h2,h3,cM]
  have hw0:IntKind.i64.wrap (most-1)=most-1:=U4 (by omega) (by omega);simp[FS,hl,h0,h1,h2,h3,hw0];refine(NT (Ψ:=λe fr h=>fr.length=33/\(e=.exit 0/\A0 fr 1=.int .i64 (UD kids (most-1))\/e=.ret/\A0 fr 4=.int .i64 (-1)/\UD kids (most-1)=-1))
   (λn fr h=>∃i cur,i+n=kids.length/\fr.length=33/\cur<=9223372036854775807/\A0 fr 1=.int .i64 cur/\A0 fr 2=.ptr 0 0/\A0 fr 5=.int .i64 (i:Nat)/\UD (kids.drop i) cur=UD kids (most-1) /\
    h=⟨[[.int .i64 k,.str nm,.int .i64 s,sl m 4 (A4 kids)]],[]⟩) ?_ kids.length _ _ ?_).mono ?_
  .rintro n fr h ⟨i,cur,hi,hl,hcur,h1,h2,h5,hr,rfl⟩;by_cases A7:i<kids.length
   .have hx:Jb (A4 kids) i=some (B7 kids[i]):=FM (by simp[A7]);have s1:=Tm.size_le (A0C A7);have hT:=ih kids[i] cur (by omega) (by omega) hcur;have NF:=cN kids[i] cur;have hw:=D1 i (by omega);rw[A0A A7]at hr;simp only[UD]at hr;generalize kids[i]=t at *
    obtain⟨tk,tn,ts,tm,tl⟩:=t;simp only[B7]at hT hx;by_cases hc:cM (Tm.mk tk tn ts tm tl) cur<0
    .rw[if_pos hc]at hr;simp[Fv,hl,h1,h2,h5,A7,hx,hT,hc];exact hr.symm
    .rw[if_neg hc]at hr;simp[Fv,hl,h1,h2,h5,A7,hx,hT,hw,hc];refine⟨n-1,by omega,i+1,by omega,_,?_,rfl,by simp,hr⟩;omega
   .have h0:kids.length<=i:=by omega
    rw[A0B h0]at hr;simp only[UD]at hr;simp[Fv,hl,h1,h2,h5,A7];exact hr
  .exact⟨0,most-1,by omega,by simp[hl],by omega,by simp[hl],by simp[hl],by simp[hl],rfl,rfl⟩
  .rintro e fr h ⟨hl,⟨rfl,h1⟩|⟨rfl,h4,he⟩⟩
   .simp[hl,h1,cM,h2,h3]
   .simp[h4,he,cM,h2,h3]
def Zc:List Tm->Int->Bool
 | [],_=>true
 |t::l,most=>if cM t most<0 then false else Zc l (cM t most)
def nt (l:List Tm) (n most:Int):Bool:=if n<l.length then false else Zc l most
theorem rz (m:J3) (l:I6) (q most:Int) (h:Tm.sizes l<=1099511627776) (hm:most<=9223372036854775807):pc Q Ju [sl m 4 (A4 l),.int .i64 q,.int .i64 most]=some (.bool (nt l q most)):=by
 have B8:=Tm.length_le l;refine Gg MP λfr hl h0 h1 h2=>?_;simp[MP]at hl h0 h1 h2;by_cases hq:q<l.length
 .simp[MP,hl,h0,h1,hq,nt]
 simp[MP,hl,h0,h1,hq];refine(NT (Ψ:=λe fr h=>fr.length=26/\(e=.exit 0/\Zc l most=true\/e=.ret/\A0 fr 6=.bool false/\Zc l most=false))
  (λn fr h=>∃i cur,i+n=l.length/\fr.length=26/\cur<=9223372036854775807/\A0 fr 0=sl m 4 (A4 l)/\A0 fr 2=.int .i64 cur/\A0 fr 7=.int .i64 (i:Nat)/\Zc (l.drop i) cur=Zc l most) ?_ l.length _ _ ?_).mono ?_
 .rintro n fr h ⟨i,cur,hi,hl,hcur,h0,h2,h7,hr⟩;by_cases A7:i<l.length
  .have hx:Jb (A4 l) i=some (B7 l[i]):=FM (by simp[A7]);have s1:=Tm.size_le (A0C A7);have hT:=ib _ l[i] cur (A0E _) (by omega) hcur;have NF:=cN l[i] cur;have hw:=D1 i (by omega);rw[A0A A7]at hr;simp only[Zc]at hr;generalize l[i]=t at *
   obtain⟨tk,tn,ts,tm,tl⟩:=t;simp only[B7]at hT hx;by_cases hc:cM (Tm.mk tk tn ts tm tl) cur<0
   .rw[if_pos hc]at hr;simp[Jh,hl,h0,h2,h7,A7,hx,hT,hc];exact hr.symm
   .rw[if_neg hc]at hr;simp[Jh,hl,h0,h2,h7,A7,hx,hT,hw,hc];refine⟨n-1,by omega,i+1,by omega,_,?_,rfl,by simp,hr⟩;omega
  .have e0:l.length<=i:=by omega
   rw[A0B e0]at hr;simp only[Zc]at hr;simp[Jh,hl,h0,h7,A7];exact hr.symm
 .exact⟨0,most,by omega,by simp[hl],by omega,by simp[h0],by simp[h2],by simp[hl],rfl⟩
 .rintro e fr h ⟨hl,⟨rfl,he⟩|⟨rfl,h4,he⟩⟩
  .simp[hl,he,nt,hq]
  .simp[h4,he,nt,hq]
theorem fi (h:AH) (m:J3) (sz:Nat) (I9:0<sz) (xs:G1) (lo hi:Option Int):Vz h sz (sl m sz xs) (some lo) (some hi) (some none) =
  if 0<=lo.getD 0/\lo.getD 0<=hi.getD xs.length/\hi.getD xs.length<=xs.length then
   some (sl (m.1&&decide (hi.getD xs.length=xs.length),m.2||!xs.isEmpty) sz ((xs.drop (lo.getD 0).toNat).take (hi.getD xs.length-lo.getD 0).toNat),h)else none:=by
 have hz:(if (xs.isEmpty&&!m.2)=true then 0 else sz)=sz\/xs.length=0:=by
  cases xs with
  |nil=>exact .inr rfl
  |cons x xs=>exact .inl rfl
 simp only[Vz,sl,Mf];rw[if_pos ⟨I9,hz⟩];by_cases hc:0<=lo.getD 0/\lo.getD 0<=hi.getD xs.length/\hi.getD xs.length<=xs.length
 .rw[if_pos hc,if_pos hc];have e:((if (xs.isEmpty&&!m.2)=true then 0 else sz):Nat)=(if (((xs.drop (lo.getD 0).toNat).take (hi.getD xs.length-lo.getD 0).toNat).isEmpty&&!(m.2||!xs.isEmpty))=true then 0 else sz):=by
   cases xs with
   |nil=>simp
   |cons x xs=>simp
  rw[e]
 .rw[if_neg hc,if_neg hc]
theorem wU (h:AH) (m:J3) (sz:Nat) (I9:0<sz) (xs:G1) (k:Nat) (hk:k<=xs.length) :
  Vz h sz (sl m sz xs) (some (some (k:Int))) (some none) (some none)=some (sl (m.1,m.2||!xs.isEmpty) sz (xs.drop k),h):=by
 rw[fi _ _ _ I9];have e:((xs.length:Int)-(k:Int)).toNat=xs.length-k:=by omega
 simp only[A0L,A0K,decide_true,Bool.and_true,A0I,e];rw[if_pos ⟨by omega,by omega,by omega⟩,List.take_of_length_le (by simp)]
theorem bY (h:AH) (m:J3) (sz:Nat) (I9:0<sz) (xs:G1) (k:Nat) (hk:k<=xs.length) :
  Vz h sz (sl m sz xs) (some none) (some (some (k:Int))) (some none)=some (sl (m.1&&decide (k=xs.length),m.2||!xs.isEmpty) sz (xs.take k),h):=by
 rw[fi _ _ _ I9];have e:decide ((k:Int)=(xs.length:Int))=decide (k=xs.length):=by
  rw[A0M];simp only[decide_eq_true_eq];omega
 simp only[A0L,A0K,Int.sub_zero,A0I,e,Int.toNat_zero,List.drop_zero];rw[if_pos ⟨by omega,by omega,by omega⟩]
def R1 {α:Type} (p:α->Bool):Nat->List α->Int
 |_,[]=>-1
 |i,a::r=>if p a=true then (i:Int)else R1 p (i+1) r
def idx {α:Type} (p:α->Bool) (l:List α):Int:=R1 p 0 l
theorem CX {α:Type} (p:α->Bool):∀(l:List α) (i:Nat),(0<=R1 p i l)↔l.any p=true
 | [],i=>by simp[R1]
 |a::l,i=>by
  simp only[R1,List.any_cons,A0G];by_cases h:p a=true
  .simp[h]
  .rw[if_neg h,CX p l (i+1)];simp[h]
theorem B6 {p:Prop} [Decidable p] (h:p):decide p=true:=by simp[h]
theorem A2 {p:Prop} [Decidable p] (h:¬p):decide p=false:=by simp[h]
def Hj (c:Nat):Bool:=decide (97<=c/\c<=122)||decide (65<=c/\c<=90)
def Lo (c:Nat):Bool:=decide (48<=c/\c<=57)
def X7 (c:Nat):Bool:=Hj c||Lo c||decide (c=95)||decide (c=35)
theorem VC (c:Nat):c<35\/c=35\/(36<=c/\c<=47)\/(48<=c/\c<=57)\/(58<=c/\c<=64)\/(65<=c/\c<=90)\/(91<=c/\c<=94)\/c=95\/c=96\/(97<=c/\c<=122)\/123<=c:=by omega
theorem fW (c:Nat):pc Q MG [.int .u8 c]=some (.bool (X7 c)):=by
 refine M2 PZ λfr hl h0=>?_;simp[PZ]at hl h0;rcases VC c with h|h|h|h|h|h|h|h|h|h|h<;>simp(disch:=omega) only[X7,Hj,Lo,B6,A2,A0Q,A0O]<;>simp(disch:=first|omega|(simp only[A0F];omega)) [PZ,h0,B6,A2]
theorem Wp (c:Nat):pc Q Hy [.int .u8 c]=some (.bool (Hj c)):=by
 refine M2 LY λfr hl h0=>?_;simp[LY]at hl h0;rcases VC c with h|h|h|h|h|h|h|h|h|h|h<;>simp(disch:=omega) only[Hj,B6,A2,A0Q,A0O]<;>simp(disch:=first|omega|(simp only[A0F];omega)) [LY,h0,B6,A2]
theorem lj (c:Nat):pc Q MX [.int .u8 c]=some (.bool (Lo c)):=by
 refine M2 Ml λfr hl h0=>?_;simp[Ml]at hl h0;rcases VC c with h|h|h|h|h|h|h|h|h|h|h<;>simp(disch:=omega) only[Lo,B6,A2]<;>simp(disch:=first|omega|(simp only[A0F];omega)) [Ml,h0,B6,A2]
abbrev L6 (s:ByteArray):List UInt8:=s.data.toList
theorem Eh (s:I3) (j:Nat):s[j]?=(L6 s)[j]?:=by
 obtain⟨⟨l⟩⟩:=s;by_cases h:j<l.length
 .have h1:j<A0N ⟨⟨l⟩⟩:=h;rw[getElem?_pos (⟨⟨l⟩⟩:ByteArray) j h1];simp only[L6];rw[A0D h];rfl
 .have h1:¬j<A0N ⟨⟨l⟩⟩:=h;rw[getElem?_neg (⟨⟨l⟩⟩:ByteArray) j h1];simp only[L6];rw[List.getElem?_eq_none (by omega)]
theorem K5 (s:I3):(L6 s).length=s.size:=by
 obtain⟨⟨l⟩⟩:=s;rfl
def W8 (s:ByteArray):Bool:=match L6 s with | []=>false|c::r=>decide (s.size<=24)&&Hj c.toNat&&(c::r).all λc=>X7 c.toNat
def OM (s:ByteArray):Bool:=(L6 s).contains 35
theorem Zz (s:I3) (hs:s.size<=24) (fr:Fr) (h:AH) (hl:fr.length=48) (h0:A0 fr 0=.str s) (h38:A0 fr 38=.int .i64 s.size) (h39:A0 fr 39=.int .i64 0) :
  B9 (lp (A3 (L5 Q) (E5 Gd) Bw) (fr,h)) λe C6 h'=>Kp Bw.wr fr C6/\(e=.exit 0/\((L6 s).all λc=>X7 c.toNat)=true\/e=.ret/\A0 C6 2=.bool false/\((L6 s).all λc=>X7 c.toNat)=false):=by
 refine B5 rfl fr (λn fr h=>∃i:Nat,i+n=s.size/\A0 fr 39=.int .i64 (i:Nat)/\(((L6 s).drop i).all λc=>X7 c.toNat)=((L6 s).all λc=>X7 c.toNat)) ?_ s.size h ⟨0,by omega,h39,rfl⟩;rintro J Φ hJ hΦ n E1 Ei K ⟨i,hi,k39,hr⟩;have A6:=K.1.trans hl;have k0:=A9 K 0 h0;have k38:=A9 K 38 h38;have B8:=K5 s;by_cases A7:i<s.size
 .have i7:i<(L6 s).length:=by omega
  have hx:s[i]?=some (L6 s)[i]:=by rw[Eh,A0D i7]
  have hw:=D1 i (by omega);rw[A0A i7,A0P]at hr;generalize (L6 s)[i]=c at *
  have hP:=fW c.toNat;have Fd:s[i]'A7=c:=by rw[getElem?_pos s i A7]at hx;exact Option.some.inj hx
  cases hc:X7 c.toNat with
  |true =>
   rw[hc]at hP hr;simp[Bw,A6,k0,k38,k39,A7,Fd,hw,hP];exact G8 hJ ⟨i+1,by omega,by simp[A6],by simpa using hr⟩
  |false =>
   rw[hc]at hP hr;simp[Bw,A6,k0,k38,k39,A7,Fd,hP];exact hΦ _ _ _ (.inr ⟨rfl,by simp[A6],by simpa using hr.symm⟩)
 .rw[A0B (by omega)]at hr;simp[Bw,A6,k38,k39,A7];exact hΦ _ _ _ (.inl ⟨rfl,by simpa using hr.symm⟩)
theorem Xc {s:I3} (h:L6 s=[]):s=bs []:=by
 obtain⟨⟨l⟩⟩:=s;simp[L6]at h;subst h;rfl
theorem ij (s:I3):pc Q Gd [.str s]=some (.bool (W8 s)):=by
 have B8:=K5 s;refine M2 u5 λfr hl h0=>?_;simp[u5]at hl h0;cases hb:L6 s with
 |nil =>
  have e:=Xc hb;subst e;simp[u5,hl,h0,W8,hb]
 |cons c r =>
  rw[hb]at B8;simp only[A0J]at B8;have P1:¬(s.toList=(bs []).toList):=by
   rw[Lib.toList_data,Lib.toList_data,show s.data.toList=c::r from hb];intro e;cases e
  have K1:0<s.size:=by omega
  have hx:s[0]?=some c:=by rw[Eh,hb];rfl
  have Fd:s[0]'K1=c:=by rw[getElem?_pos s 0 K1]at hx;exact Option.some.inj hx
  by_cases h24:24<s.size
  .have h24':(24:Int)<(s.size:Int):=by omega
   have h24n:¬s.size<=24:=by omega
   simp[u5,hl,h0,P1,h24',W8,hb,h24n]
  .have h24':¬(24:Int)<(s.size:Int):=by omega
   have h24n:s.size<=24:=by omega
   have hP:=fW c.toNat;cases hL:Hj c.toNat with
   |false =>
    have hv:W8 s=false:=by simp[W8,hb,hL]
    rw[hv];cases hp:X7 c.toNat with
    |false =>
     rw[hp]at hP;simp[u5,hl,h0,P1,h24',K1,Fd,hP]
    |true =>
     rw[hp]at hP;have hcc:(48<=c.toNat/\c.toNat<=57)\/c.toNat=95\/c.toNat=35:=by
      simp only[X7,hL,Lo,Bool.false_or,A0G,decide_eq_true_eq]at hp;omega
     generalize hzv:c.toNat=z at *
     rcases hcc with hz|hz|hz<;>simp(disch:=first|omega|(simp only[A0F];omega)) [u5,h0,P1,h24',Fd,hzv,hP,B6,A2]
   |true =>
    have hp:X7 c.toNat=true:=by simp[X7,hL]
    rw[hp]at hP;have hcc:(97<=c.toNat/\c.toNat<=122)\/(65<=c.toNat/\c.toNat<=90):=by
     simp only[Hj,A0G,decide_eq_true_eq]at hL;exact hL
    have hv:W8 s=(L6 s).all λc=>X7 c.toNat:=by simp[W8,hb,hL,h24n]
    rw[hv];have key:∀b,((L6 s).all λc=>X7 c.toNat)=b->B9 (A3 (L5 Q) (E5 Gd) u5.body (fr,⟨[],[]⟩)) (eN u5.results (.bool b)):=by
     intro b hbv;generalize hzv:c.toNat=z at *
     have q1:¬(z:Int)=95:=by omega
     have q2:¬(z:Int)=35:=by omega
     have q3:¬((z:Int)<=57):=by omega
     have q4:(48:Int)<=(z:Int):=by omega
     simp[u5,hl,h0,P1,h24',K1,Fd,hzv,hP,q1,q2,q3,q4];refine(Zz s h24n _ _ (by simp[hl]) (by simp[h0]) (by simp[hl]) (by simp[hl])).mono ?_;rintro e C6 h' ⟨K,⟨rfl,he⟩|⟨rfl,h2,he⟩⟩
     .have hl':C6.length=48:=K.1.trans (by simp[hl]);rw[hbv]at he;simp[hl',he]
     .rw[hbv]at he;simp[h2,he]
    exact key _ rfl
theorem Ye (s:I3) (hs:s.size<=24) (fr:Fr) (h:AH) (hl:fr.length=48) (h0:A0 fr 0=.str s) (h3:A0 fr 3=.int .i64 0) :
  B9 (lp (A3 (L5 Q) (E5 Cu) S9) (fr,h)) λe C6 h'=>Kp S9.wr fr C6/\(e=.exit 0/\((L6 s).all λc=>X7 c.toNat)=true\/e=.ret/\A0 C6 2=.bool false/\((L6 s).all λc=>X7 c.toNat)=false):=by
 refine B5 rfl fr (λn fr h=>∃i:Nat,i+n=s.size/\A0 fr 3=.int .i64 (i:Nat)/\(((L6 s).drop i).all λc=>X7 c.toNat)=((L6 s).all λc=>X7 c.toNat)) ?_ s.size h ⟨0,by omega,h3,rfl⟩;rintro J Φ hJ hΦ n E1 Ei K ⟨i,hi,k3,hr⟩;have A6:=K.1.trans hl;have k0:=A9 K 0 h0;have B8:=K5 s;by_cases A7:i<s.size
 .have i7:i<(L6 s).length:=by omega
  have hx:s[i]?=some (L6 s)[i]:=by rw[Eh,A0D i7]
  have hw:=D1 i (by omega);rw[A0A i7,A0P]at hr;generalize (L6 s)[i]=c at *
  have hL:=Wp c.toNat;have hD:=lj c.toNat;have Fd:s[i]'A7=c:=by rw[getElem?_pos s i A7]at hx;exact Option.some.inj hx
  have fwd:X7 c.toNat=true->(((L6 s).drop (i+1)).all λc=>X7 c.toNat)=((L6 s).all λc=>X7 c.toNat):=λhp=>by rw[hp]at hr;simpa using hr
  have bad:X7 c.toNat=false->((L6 s).all λc=>X7 c.toNat)=false:=λhp=>by rw[hp]at hr;simpa using hr.symm
  clear hr;generalize hz:c.toNat=z at *
  cases hLv:Hj z with
  |true =>
   rw[hLv]at hL;simp[S9,A6,k0,k3,A7,Fd,hz,hw,hL];exact G8 hJ ⟨i+1,by omega,by simp[A6],fwd (by simp[X7,hLv])⟩
  |false =>
   rw[hLv]at hL;cases hDv:Lo z with
   |true =>
    rw[hDv]at hD;simp[S9,A6,k0,k3,A7,Fd,hz,hw,hL,hD];exact G8 hJ ⟨i+1,by omega,by simp[A6],fwd (by simp[X7,hDv])⟩
   |false =>
    rw[hDv]at hD;by_cases h95:z=95
    .subst h95;simp only[A0H]at hL hD;simp[S9,A6,k0,k3,A7,Fd,hz,hw,hL,hD];exact G8 hJ ⟨i+1,by omega,by simp[A6],fwd (by simp[X7])⟩
    .have h95':¬(z:Int)=95:=by omega
     by_cases h35:z=35
     .subst h35;simp only[A0H]at hL hD;simp[S9,A6,k0,k3,A7,Fd,hz,hw,hL,hD];exact G8 hJ ⟨i+1,by omega,by simp[A6],fwd (by simp[X7])⟩
     .have h35':¬(z:Int)=35:=by omega
      simp[S9,A6,k0,k3,A7,Fd,hz,hL,hD,h95',h35'];exact hΦ _ _ _ (.inr ⟨rfl,by simp[A6],bad (by simp[X7,hLv,hDv,h95,h35])⟩)
 .rw[A0B (by omega)]at hr;simp[S9,A6,k0,k3,A7];exact hΦ _ _ _ (.inl ⟨rfl,by simpa using hr.symm⟩)
theorem Wl (s:I3):pc Q Cu [.str s]=some (.bool (W8 s)):=by
 have B8:=K5 s;refine M2 x6 λfr hl h0=>?_;simp[x6]at hl h0;cases hb:L6 s with
 |nil =>
  have e:=Xc hb;subst e;simp[x6,hl,h0,W8,hb,show (bs []).size=0 from rfl]
 |cons c r =>
  rw[hb]at B8;simp only[A0J]at B8;have P1:¬(s.size:Int)=0:=by omega
  have hne':¬s.size=0:=by omega
  have K1:0<s.size:=by omega
  have hx:s[0]?=some c:=by rw[Eh,hb];rfl
  have Fd:s[0]'K1=c:=by rw[getElem?_pos s 0 K1]at hx;exact Option.some.inj hx
  by_cases h24:24<s.size
  .have h24':(24:Int)<(s.size:Int):=by omega
   have h24n:¬s.size<=24:=by omega
   simp[x6,hl,h0,hne',h24',W8,hb,h24n]
  .have h24':¬(24:Int)<(s.size:Int):=by omega
   have h24n:s.size<=24:=by omega
   have hL:=Wp c.toNat;cases hLv:Hj c.toNat with
   |false =>
    rw[hLv]at hL;have hv:W8 s=false:=by simp[W8,hb,hLv]
    rw[hv];simp[x6,hl,h0,hne',h24',K1,Fd,hL]
   |true =>
    rw[hLv]at hL;have hv:W8 s=(L6 s).all λc=>X7 c.toNat:=by simp[W8,hb,hLv,h24n]
    rw[hv];have key:∀b,((L6 s).all λc=>X7 c.toNat)=b->B9 (A3 (L5 Q) (E5 Cu) x6.body (fr,⟨[],[]⟩)) (eN x6.results (.bool b)):=by
     intro b hbv;simp[x6,hl,h0,hne',h24',K1,Fd,hL];refine(Ye s h24n _ _ (by simp[hl]) (by simp[h0]) (by simp[hl])).mono ?_;rintro e C6 h' ⟨K,⟨rfl,he⟩|⟨rfl,h2,he⟩⟩
     .have hl':C6.length=48:=K.1.trans (by simp[hl]);rw[hbv]at he;simp[hl',he]
     .rw[hbv]at he;simp[h2,he]
    exact key _ rfl
def CK (m:Bool×Bool) (l:List ByteArray):AV:=sl m 1 (l.map AV.str)
def U3 (x a:ByteArray):Bool:=decide (x.toList=a.toList)
theorem RX (m:J3) (l:List ByteArray) (x:I3) (B8:l.length<=1099511627776) (fr:Fr) (h:AH) (hl:fr.length=19)
  (h0:A0 fr 0=sl m 1 (l.map AV.str)) (h1:A0 fr 1=.str x) (h7:A0 fr 7=.int .i64 l.length) (h8:A0 fr 8=.int .i64 0) :
  B9 (lp (A3 (L5 Q) (E5 i9) Q9) (fr,h)) λe C6 h'=>Kp Q9.wr fr C6/\(e=.exit 0/\idx (U3 x) l=-1\/e=.ret/\A0 C6 4=.int .i64 (idx (U3 x) l)):=by
 refine B5 rfl fr (λn fr h=>∃i,i+n=l.length/\A0 fr 8=.int .i64 (i:Nat)/\R1 (U3 x) i (l.drop i)=idx (U3 x) l) ?_ l.length h ⟨0,by omega,h8,rfl⟩;rintro J Φ hJ hΦ n E1 Ei K ⟨i,hi,k8,hr⟩;have A6:=K.1.trans hl;have k0:=A9 K 0 h0;have k1:=A9 K 1 h1;have k7:=A9 K 7 h7;by_cases A7:i<l.length
 .have hx:=G0 (f:=AV.str) (A0D A7);have hw:=D1 i (by omega);rw[A0A A7]at hr;simp only[R1,U3,decide_eq_true_eq]at hr;generalize l[i]=a at *
  by_cases hc:x.toList=a.toList
  .rw[if_pos hc]at hr;simp[Q9,A6,k0,k1,k7,k8,A7,hx,hc];exact hΦ _ _ _ (.inr ⟨rfl,by simp[A6];exact hr⟩)
  .rw[if_neg hc]at hr;simp[Q9,A6,k0,k1,k7,k8,A7,hx,hw,hc];exact G8 hJ ⟨i+1,by omega,by simp[A6],hr⟩
 .rw[A0B (by omega)]at hr;simp[Q9,A6,k7,k8,A7];exact hΦ _ _ _ (.inl ⟨rfl,hr.symm⟩)
theorem TD (m:J3) (l:List ByteArray) (x:I3) (B8:l.length<=1099511627776):pc Q i9 [CK m l,.str x]=some (.int .i64 (idx (U3 x) l)):=by
 refine O2 Eg λfr hl h0 h1=>?_;simp[Eg,CK]at hl h0 h1;simp[Eg,hl,h0];refine(RX m l x B8 _ _ (by simp[hl]) (by simp[h0]) (by simp[h1]) (by simp[hl]) (by simp[hl])).mono ?_;rintro e C6 h' ⟨K,⟨rfl,he⟩|⟨rfl,h4⟩⟩
 .have hl':C6.length=19:=K.1.trans (by simp[hl]);simp[hl',he]
 .simp[h4]
theorem PI (m:J3) (l:List ByteArray) (x:I3) (B8:l.length<=1099511627776):pc Q H8 [CK m l,.str x]=some (.bool (l.any (U3 x))):=by
 have hI:=TD m l x B8;have he:decide (0<=idx (U3 x) l)=l.any (U3 x):=by
  rw[A0M,decide_eq_true_iff,idx,CX]
 refine O2 Ce λfr hl h0 h1=>?_;simp[Ce,CK]at hl h0 h1 hI;simp[Ce,hl,h0,h1,hI];exact he
end Go.Abs.Q
