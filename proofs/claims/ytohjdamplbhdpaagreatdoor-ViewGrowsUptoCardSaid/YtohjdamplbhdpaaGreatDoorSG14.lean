/- A part of the proof. -/
import Derived.Test.YtohjdamplbhdpaaGreatDoorSG13
import Derived.Lib.Strings
set_option linter.all false
open List renaming drop_eq_getElem_cons->xk,drop_eq_nil_of_le->xl,getElem?_eq_getElem->xm,getElem_mem->xn,length_cons->xp,length_set->xq,all_cons->xr,take_of_length_le->xw,drop_zero->xy
open Nat renaming le_refl->xo
open Bool renaming eq_iff_iff->xt,or_eq_true->xu,or_false->yD,or_true->yE
open Int renaming toNat_natCast->xz
open Option renaming getD_none->yA,getD_some->yB
open ByteArray renaming size->yC
namespace Go.Abs.Q
attribute [local simp] D0 D1 fin I1 E7
theorem SY:∀(n:Nat) (t:Tm),t.size<=n->t.size<=1099511627776->pc Q Fk [B8 t]=some (.int .i64 t.size):=by
 intro n
 induction n with
 |zero=>intro t h;have:=t.size_pos;omega
 |succ n ih =>
  intro t hn hb;obtain⟨k,nm,s,m,kids⟩:=t;have K4:Tm.size (.mk k nm s m kids)=1+Tm.sizes kids:=rfl;refine N4 PT λfr hl h0=>?_;simp[PT,B8]at hl h0 ⊢;simp[h0];refine(Tg (Ψ:=λe fr h=>e=.exit 0/\A0 fr 3=.int .i64 (1+Tm.sizes kids:Nat)/\fr.length=21) kids
   (λdone fr h=>fr.length=21/\A0 fr 1=.ptr 0 0/\h=⟨[[.int .i64 k,.str nm,.int .i64 s,sl m 4 (A3 kids)]],[]⟩/\A0 fr 3=.int .i64 (1+Tm.sizes done:Nat)/\A0 fr 4=.int .i64 done.length) ?_ ?_ _ _ ?_).mono ?_
  .rintro fr h ⟨hl,h1,rfl,h3,h4⟩;simp[Im,D7, *]
  .rintro done t rest he fr h ⟨hl,h1,rfl,h3,h4⟩;have hget:IU (A3 kids) done.length=some (B8 t):=Fq (by rw[←he];simp);have A6:done.length<kids.length:=by rw[←he];simp
   have hts:t.size<=Tm.sizes kids:=Tm.size_le (by rw[←he];simp);have hT:=ih t (by omega) (by omega);have C2:=Tm.length_le kids;have vy:Tm.sizes done+(t.size+Tm.sizes rest)=Tm.sizes kids:=by rw[←he,Tm.sizes_append];rfl
   have hw1:IntKind.i64.wrap (1+(Tm.sizes done:Int)+(t.size:Int))=1+(Tm.sizes (done++[t]):Int):=by
    rw[Tm.sizes_append,M3 (by omega) (by omega)];simp only[Tm.sizes];omega
   have hw2:IntKind.i64.wrap ((done.length:Int)+1)=((done++[t]).length:Nat):=by
    rw[M3 (by omega) (by omega)];simp
   obtain⟨tk,tn,ts,tm,tl⟩:=t;simp only[B8]at hT hget;simp[Im, *]
  .simp[*,Tm.sizes]
  .rintro e fr h ⟨rfl,h3,hl⟩;simp[*]
theorem NR (a b:H7):pc Q Fo [.str a,.str b]=some (.int .i64 (Q9 a b)):=by
 refine Q6 JW λfr hl h0 h1=>?_;simp[JW]at hl h0 h1 ⊢;simp[*,nZ]
def nz (a b:Int):Int:=if a=0 then b else a
mutual
def H0:Tm->Tm->Int
 | .mk k n s _ l,.mk k' n' s' _ l'=>nz (EU (1+Tm.sizes l:Nat) (1+Tm.sizes l':Nat)) (nz (EU k k') (nz (Q9 n n') (nz (EU s s') (nz (EU l.length l'.length) (FJ l l')))))
def FJ:List Tm->List Tm->Int
 |t::l,t'::l'=>nz (H0 t t') (FJ l l')
 |_,_=>0
end
theorem Oj {a b:Nat} (h:EU (a:Int) (b:Int)=0):a=b:=by
 unfold EU at h;split at h
 .omega
 .split at h<;>omega
theorem NE (l:I2):FJ [] l=0:=by cases l<;>rfl
theorem Z4:∀(n:Nat) (t t':Tm),t.size<=n->t.size<=1099511627776->t'.size<=1099511627776->pc Q A8 [B8 t,B8 t']=some (.int .i64 (H0 t t')):=by
 intro n
 induction n with
 |zero=>intro t t' h;have:=t.size_pos;omega
 |succ n ih =>
  intro t t' hn hb hb';have hS:=Vk _ t (xo _) hb;have hS':=Vk _ t' (xo _) hb';obtain⟨k,nm,s,m,l⟩:=t;obtain⟨k',nm',s',m',l'⟩:=t';have K4:Tm.size (.mk k nm s m l)=1+Tm.sizes l:=rfl;have hsz':Tm.size (.mk k' nm' s' m' l')=1+Tm.sizes l':=rfl;have C2:=Tm.length_le l;simp only[B8,K4,hsz']at hS hS';have loop:∀(fr:Fr) (c:Int),fr.length=65->A0 fr 2=.ptr 0 0->A0 fr 3=.ptr 1 0->A0 fr 5=.int .i64 c->A0 fr 6=.int .i64 0->(c=0->l.length=l'.length) ->
    C8 (lp (A1 (Q8 Q) (G7 A8) CA) (fr,⟨[[.int .i64 k,.str nm,.int .i64 s,sl m 4 (A3 l)],[.int .i64 k',.str nm',.int .i64 s',sl m' 4 (A3 l')]],[]⟩))
     λe D4 _=>e=.exit 0/\D4.length=65/\A0 D4 5=.int .i64 (nz c (FJ l l')):=by
   intro fr c hl h2 h3 h5 h6 hc;refine OT (λn fr h=>∃i c',i+n=l.length/\fr.length=65/\A0 fr 2=.ptr 0 0/\A0 fr 3=.ptr 1 0/\A0 fr 5=.int .i64 c'/\A0 fr 6=.int .i64 (i:Nat)/\(c'=0->l.length=l'.length) /\
    nz c' (FJ (l.drop i) (l'.drop i))=nz c (FJ l l')/\h=⟨[[.int .i64 k,.str nm,.int .i64 s,sl m 4 (A3 l)],[.int .i64 k',.str nm',.int .i64 s',sl m' 4 (A3 l')]],[]⟩) ?_ l.length fr _ ⟨0,c,by omega,hl,h2,h3,h5,h6,hc,rfl,rfl⟩
   rintro n fr h ⟨i,c',hi,hl,h2,h3,h5,h6,hc',hr,rfl⟩;by_cases hc0:c'=0
   .subst hc0;have Nh:=hc' rfl;by_cases A6:i<l.length
    .have hx:IU (A3 l) i=some (B8 l[i]):=Fq (by simp[A6]);have hx':IU (A3 l') i=some (B8 (l'[i]'(by omega))):=Fq (by simp[show i<l'.length by omega]);have s1:=Tm.size_le (xn A6);have s2:=Tm.size_le (xn (show i<l'.length by omega));have hT:=ih l[i] (l'[i]'(by omega)) (by omega) (by omega) (by omega);have hw:=E5 i (by omega);rw[xk A6,xk (show i<l'.length by omega)]at hr;simp only[FJ,nz,if_true]at hr;generalize l[i]=t at *
     generalize l'[i]'(by omega)=t' at *
     obtain⟨tk,tn,ts,tm,tl⟩:=t;obtain⟨tk',tn',ts',tm',tl'⟩:=t';simp only[B8]at hT hx hx';clear ih hS hS' hc K4 hsz';simp[CA,hl,h2,h3,h5,h6,A6,hx,hx',hT,hw];exact⟨n-1,by omega,i+1,by omega,by simp,λ_=>Nh,hr⟩
    .have h0:l.length<=i:=by omega
     rw[xl h0,NE]at hr;clear ih hS hS' hc K4 hsz' Nh hc';simp[CA,hl,h2,h3,h5,h6,A6];exact hr
   .clear ih hS hS' hc K4 hsz';simp[CA, *];simpa[nz,hc0]using hr
  refine WM QD rfl (by simp[Ip]) λfr hl ha=>?_;have h0:=ha 0;have h1:=ha 1;clear ha ih;simp[Ip,B8]at hl h0 h1 ⊢;by_cases e0:EU (1+(Tm.sizes l:Int)) (1+(Tm.sizes l':Int))=0
  .by_cases e1:EU k k'=0
   .by_cases e2:Q9 nm nm'=0
    .by_cases e3:EU s s'=0
     .by_cases e4:EU (l.length:Int) (l'.length:Int)=0
      .simp[e0,e1,e2,e3,e4,h0,h1,hl,hS,hS',NQ,NR];refine(loop _ (0) (by simp[hl]) (by simp[hl]) (by simp[hl]) (by simp[hl]) (by simp[hl]) ?_).mono ?_
       .intro hc;exact Oj e4
       .rintro e fr h ⟨rfl,hl,h5⟩;simp[hl,h5,H0,nz,e0,e1,e2,e3,e4]
      .simp[e0,e1,e2,e3,h0,h1,hl,hS,hS',NQ,NR];refine(loop _ (EU (l.length:Int) (l'.length:Int)) (by simp[hl]) (by simp[hl]) (by simp[hl]) (by simp[hl]) (by simp[hl]) ?_).mono ?_
       .intro hc;exact absurd hc e4
       .rintro e fr h ⟨rfl,hl,h5⟩;simp[hl,h5,H0,nz,e0,e1,e2,e3,e4]
     .simp[e0,e1,e2,e3,h0,h1,hl,hS,hS',NQ,NR];refine(loop _ (EU s s') (by simp[hl]) (by simp[hl]) (by simp[hl]) (by simp[hl]) (by simp[hl]) ?_).mono ?_
      .intro hc;exact absurd hc e3
      .rintro e fr h ⟨rfl,hl,h5⟩;simp[hl,h5,H0,nz,e0,e1,e2,e3]
    .simp[e0,e1,e2,h0,h1,hl,hS,hS',NQ,NR];refine(loop _ (Q9 nm nm') (by simp[hl]) (by simp[hl]) (by simp[hl]) (by simp[hl]) (by simp[hl]) ?_).mono ?_
     .intro hc;exact absurd hc e2
     .rintro e fr h ⟨rfl,hl,h5⟩;simp[hl,h5,H0,nz,e0,e1,e2]
   .simp[e0,e1,h0,h1,hl,hS,hS',NQ];refine(loop _ (EU k k') (by simp[hl]) (by simp[hl]) (by simp[hl]) (by simp[hl]) (by simp[hl]) ?_).mono ?_
    .intro hc;exact absurd hc e1
    .rintro e fr h ⟨rfl,hl,h5⟩;simp[hl,h5,H0,nz,e0,e1]
  .simp[e0,h0,h1,hl,hS,hS',NQ];refine(loop _ (EU (1+(Tm.sizes l:Int)) (1+(Tm.sizes l':Int))) (by simp[hl]) (by simp[hl]) (by simp[hl]) (by simp[hl]) (by simp[hl]) ?_).mono ?_
   .intro hc;exact absurd hc e0
   .rintro e fr h ⟨rfl,hl,h5⟩;simp[hl,h5,H0,nz,e0]
theorem TZ:∀(n:Nat) (t t':Tm),t.size<=n->t.size<=1099511627776->t'.size<=1099511627776->pc Q Ar [B8 t,B8 t']=some (.int .i64 (H0 t t')):=by
 intro n
 induction n with
 |zero=>intro t t' h;have:=t.size_pos;omega
 |succ n ih =>
  intro t t' hn hb hb';have hS:=SY _ t (xo _) hb;have hS':=SY _ t' (xo _) hb';obtain⟨k,nm,s,m,l⟩:=t;obtain⟨k',nm',s',m',l'⟩:=t';have K4:Tm.size (.mk k nm s m l)=1+Tm.sizes l:=rfl;have hsz':Tm.size (.mk k' nm' s' m' l')=1+Tm.sizes l':=rfl;have C2:=Tm.length_le l;simp only[B8,K4,hsz']at hS hS';have loop:∀(fr:Fr),fr.length=76->A0 fr 2=.ptr 0 0->A0 fr 3=.ptr 1 0->A0 fr 9=.int .i64 0->l.length=l'.length ->
    C8 (lp (A1 (Q8 Q) (G7 Ar) BN) (fr,⟨[[.int .i64 k,.str nm,.int .i64 s,sl m 4 (A3 l)],[.int .i64 k',.str nm',.int .i64 s',sl m' 4 (A3 l')]],[]⟩))
     λe D4 _=>D4.length=76/\(e=.exit 0/\FJ l l'=0\/e=.ret/\A0 D4 4=.int .i64 (FJ l l')):=by
   intro fr hl h2 h3 h9 Nh;refine OT (λn fr h=>∃i,i+n=l.length/\fr.length=76/\A0 fr 2=.ptr 0 0/\A0 fr 3=.ptr 1 0/\A0 fr 9=.int .i64 (i:Nat) /\
    FJ (l.drop i) (l'.drop i)=FJ l l'/\h=⟨[[.int .i64 k,.str nm,.int .i64 s,sl m 4 (A3 l)],[.int .i64 k',.str nm',.int .i64 s',sl m' 4 (A3 l')]],[]⟩) ?_ l.length fr _ ⟨0,by omega,hl,h2,h3,h9,rfl,rfl⟩
   rintro n fr h ⟨i,hi,hl,h2,h3,h9,hr,rfl⟩;by_cases A6:i<l.length
   .have hx:IU (A3 l) i=some (B8 l[i]):=Fq (by simp[A6]);have hx':IU (A3 l') i=some (B8 (l'[i]'(by omega))):=Fq (by simp[show i<l'.length by omega]);have s1:=Tm.size_le (xn A6);have s2:=Tm.size_le (xn (show i<l'.length by omega));have hT:=ih l[i] (l'[i]'(by omega)) (by omega) (by omega) (by omega);have hw:=E5 i (by omega);rw[xk A6,xk (show i<l'.length by omega)]at hr;simp only[FJ,nz]at hr;generalize l[i]=t at *
    generalize l'[i]'(by omega)=t' at *
    obtain⟨tk,tn,ts,tm,tl⟩:=t;obtain⟨tk',tn',ts',tm',tl'⟩:=t';simp only[B8]at hT hx hx';by_cases hc:H0 (Tm.mk tk tn ts tm tl) (Tm.mk tk' tn' ts' tm' tl')=0
    .rw[if_pos hc]at hr;simp[BN,hl,h2,h3,h9,A6,hx,hx',hT,hw,hc];exact⟨n-1,by omega,i+1,by omega,by simp,hr⟩
    .rw[if_neg hc]at hr;simp[BN,hl,h2,h3,h9,A6,hx,hx',hT,hc];exact hr
   .have h0:l.length<=i:=by omega
    rw[xl h0,NE]at hr;simp[BN,hl,h2,h3,h9,A6];exact hr.symm
  refine WM PL rfl (by simp[HZ]) λfr hl ha=>?_;have h0:=ha 0;have h1:=ha 1;clear ha ih;simp[HZ,B8]at hl h0 h1 ⊢;by_cases e0:EU (1+(Tm.sizes l:Int)) (1+(Tm.sizes l':Int))=0
  .by_cases e1:EU k k'=0
   .by_cases e2:Op.bytesLess nm.toList nm'.toList=true
    .simp[e0,e1,e2,h0,h1,hl,hS,hS',Gd];simp[H0,nz,e0,e1,e2,Q9]
    .by_cases e3:nm.toList=nm'.toList
     .have e2':=e2;rw[e3]at e2';by_cases e5:EU s s'=0
      .by_cases e4:EU (l.length:Int) (l'.length:Int)=0
       .simp[e0,e1,e2',e3,e5,e4,h0,h1,hl,hS,hS',Gd];refine(loop _ (by simp[hl]) (by simp[hl]) (by simp[hl]) (by simp[hl]) (Oj e4)).mono ?_;rintro e fr h ⟨hl,⟨rfl,hz⟩|⟨rfl,h5⟩⟩
        .simp[hl,H0,nz,e0,e1,e2',e3,e5,e4,Q9,hz]
        .simp[h5,H0,nz,e0,e1,e2',e3,e5,e4,Q9]
       .simp[e0,e1,e2',e3,e5,e4,h0,h1,hl,hS,hS',Gd];simp[H0,nz,e0,e1,e2',e3,e5,e4,Q9]
      .simp[e0,e1,e2',e3,e5,h0,h1,hl,hS,hS',Gd];simp[H0,nz,e0,e1,e2',e3,e5,Q9]
     .simp[e0,e1,e2,e3,h0,h1,hl,hS,hS',Gd];simp[H0,nz,e0,e1,e2,e3,Q9]
   .simp[e0,e1,h0,h1,hl,hS,hS',Gd];simp[H0,nz,e0,e1]
  .simp[e0,h0,h1,hl,hS,hS',Gd];simp[H0,nz,e0]
def GW (t t':Tm):Bool:=decide (H0 t t'=0)
def Nx:List Tm->List Tm->Bool
 | [],[]=>true
 |t::l,t'::l'=>GW t t'&&Nx l l'
 |_,_=>false
theorem Wx:∀{l l':I2},Nx l l'=true->l.length=l'.length
 | [],[],_=>rfl
 | [],_::_,h=>by simp[Nx]at h
 |_::_,[],h=>by simp[Nx]at h
 |_::_,_::_,h=>by simp[Nx]at h;simp[Wx h.2]
theorem bV (t t':Tm) (h:t.size<=1099511627776) (h':t'.size<=1099511627776):pc Q Fj [B8 t,B8 t']=some (.bool (GW t t')):=by
 have hC:=TZ _ t t' (xo _) h h';refine WM Sb rfl (by simp[LV]) λfr hl ha=>?_;have h0:=ha 0;have h1:=ha 1;clear ha h h';obtain⟨tk,tn,ts,tm,tl⟩:=t;obtain⟨tk',tn',ts',tm',tl'⟩:=t';simp only[B8]at hC;simp[LV,B8]at hl h0 h1 ⊢;simp[h0,h1,hl,hC,GW]
theorem iF (m m':I8) (l l':I2) (h:Tm.sizes l<=1099511627776) (h':Tm.sizes l'<=1099511627776) :
  pc Q Jf [sl m 4 (A3 l),sl m' 4 (A3 l')]=some (.bool (Nx l l')):=by
 refine Q6 No λfr hl h0 h1=>?_;simp[No]at hl h0 h1 ⊢;have C2:=Tm.length_le l;by_cases Nh:l.length=l'.length
 .have hle':(l.length:Int)=(l'.length:Int):=by omega
  simp[h0,h1,hl,Nh];refine(OT (Ψ:=λe fr h=>fr.length=27/\(e=.exit 0/\Nx l l'=true\/e=.ret/\A0 fr 4=.bool false/\Nx l l'=false))
   (λn fr h=>∃i,i+n=l.length/\fr.length=27/\A0 fr 0=sl m 4 (A3 l)/\A0 fr 1=sl m' 4 (A3 l')/\A0 fr 5=.int .i64 (i:Nat)/\Nx (l.drop i) (l'.drop i)=Nx l l') ?_ l.length _ _ ?_).mono ?_
  .rintro n fr h ⟨i,hi,hl,h0,h1,h5,hr⟩;by_cases A6:i<l.length
   .have hx:IU (A3 l) i=some (B8 l[i]):=Fq (by simp[A6]);have hx':IU (A3 l') i=some (B8 (l'[i]'(by omega))):=Fq (by simp[show i<l'.length by omega]);have s1:=Tm.size_le (xn A6);have s2:=Tm.size_le (xn (show i<l'.length by omega));have hT:=bV l[i] (l'[i]'(by omega)) (by omega) (by omega);have hw:=E5 i (by omega);rw[xk A6,xk (show i<l'.length by omega)]at hr;simp only[Nx]at hr;generalize l[i]=t at *
    generalize l'[i]'(by omega)=t' at *
    obtain⟨tk,tn,ts,tm,tl⟩:=t;obtain⟨tk',tn',ts',tm',tl'⟩:=t';simp only[B8]at hT hx hx';cases hc:GW (Tm.mk tk tn ts tm tl) (Tm.mk tk' tn' ts' tm' tl')with
    |true =>
     rw[hc]at hT hr;simp[En,hl,h0,h1,h5,A6,hx,hx',hT,hw];exact⟨n-1,by omega,i+1,by omega,by simp,by simpa using hr⟩
    |false =>
     rw[hc]at hT hr;simp[En,hl,h0,h1,h5,A6,hx,hx',hT];simpa using hr.symm
   .have e0:l.length<=i:=by omega
    rw[xl e0,xl (by omega)]at hr;simp[En,hl,h0,h5,A6];exact hr.symm
  .exact⟨0,by omega,by simp[hl],by simp[h0],by simp[h1],by simp[hl],rfl⟩
  .rintro e fr h ⟨hl,⟨rfl,he⟩|⟨rfl,h6,he⟩⟩
   .simp[hl,he]
   .simp[h6,he]
 .have hle':¬(l.length:Int)=(l'.length:Int):=by omega
  have hf:Nx l l'=false:=by
   cases hq:Nx l l' with
   |false=>rfl
   |true=>exact absurd (Wx hq) Nh
  simp[h0,h1,hl,hle',hf]
mutual
def oq:Tm->Int->Int
 | .mk _ n _ _ l,most=>if most<=0\/(40:Int)<n.size then -1 else fc l (most-1)
def fc:List Tm->Int->Int
 | [],most=>most
 |t::l,most=>if oq t most<0 then -1 else fc l (oq t most)
end
mutual
theorem mS:∀(t:Tm) (m:Int),oq t m<=m\/oq t m=-1
 | .mk _ n _ _ l,m=>by
  simp only[oq];split
  .exact .inr rfl
  .rcases aY l (m-1)with h|h
   .exact .inl (by omega)
   .exact .inr h
theorem aY:∀(l:I2) (m:Int),fc l m<=m\/fc l m=-1
 | [],m=>.inl (Int.le_refl _)
 |t::l,m=>by
  simp only[fc];split
  .exact .inr rfl
  .rename_i hb;rcases mS t m with h|h
   .rcases aY l (oq t m)with h' | h'
    .exact .inl (by omega)
    .exact .inr h'
   .omega
end
theorem bn (h:AH) (m:I8) (sz:Nat) (K4:0<sz) (xs:E6) (lo hi:Option Int):Te h sz (sl m sz xs) (some lo) (some hi) (some none) =
  if 0<=lo.getD 0/\lo.getD 0<=hi.getD xs.length/\hi.getD xs.length<=xs.length then
   some (sl (m.1&&decide (hi.getD xs.length=xs.length),m.2||!xs.isEmpty) sz ((xs.drop (lo.getD 0).toNat).take (hi.getD xs.length-lo.getD 0).toNat),h)else none:=by
 have hz:(if (xs.isEmpty&&!m.2)=true then 0 else sz)=sz\/xs.length=0:=by
  cases xs with
  |nil=>exact .inr rfl
  |cons x xs=>exact .inl rfl
 simp only[Te,sl,Jn];rw[if_pos ⟨K4,hz⟩];by_cases hc:0<=lo.getD 0/\lo.getD 0<=hi.getD xs.length/\hi.getD xs.length<=xs.length
 .rw[if_pos hc,if_pos hc];have e:((if (xs.isEmpty&&!m.2)=true then 0 else sz):Nat)=(if (((xs.drop (lo.getD 0).toNat).take (hi.getD xs.length-lo.getD 0).toNat).isEmpty&&!(m.2||!xs.isEmpty))=true then 0 else sz):=by
   cases xs with
   |nil=>simp
   |cons x xs=>simp
  rw[e]
 .rw[if_neg hc,if_neg hc]
theorem iq (h:AH) (m:I8) (sz:Nat) (K4:0<sz) (xs:E6) (k:Nat) (hk:k<=xs.length) :
  Te h sz (sl m sz xs) (some (some (k:Int))) (some none) (some none)=some (sl (m.1,m.2||!xs.isEmpty) sz (xs.drop k),h):=by
 rw[bn _ _ _ K4];have e:((xs.length:Int)-(k:Int)).toNat=xs.length-k:=by omega
 simp only[yB,yA,decide_true,Bool.and_true,xz,e];rw[if_pos ⟨by omega,by omega,by omega⟩,xw (by simp)]
theorem YY (h:AH) (m:I8) (sz:Nat) (K4:0<sz) (xs:E6) (k:Nat) (hk:k<=xs.length) :
  Te h sz (sl m sz xs) (some none) (some (some (k:Int))) (some none)=some (sl (m.1&&decide (k=xs.length),m.2||!xs.isEmpty) sz (xs.take k),h):=by
 rw[bn _ _ _ K4];have e:decide ((k:Int)=(xs.length:Int))=decide (k=xs.length):=by
  rw[xt];simp only[decide_eq_true_eq];omega
 simp only[yB,yA,Int.sub_zero,xz,e,Int.toNat_zero,xy];rw[if_pos ⟨by omega,by omega,by omega⟩]
def R8 {α:Type} (p:α->Bool):Nat->List α->Int
 |_,[]=>-1
 |i,a::r=>if p a=true then (i:Int)else R8 p (i+1) r
def idx {α:Type} (p:α->Bool) (l:List α):Int:=R8 p 0 l
theorem CL {α:Type} (p:α->Bool):∀(l:List α) (i:Nat),(0<=R8 p i l)↔l.any p=true
 | [],i=>by simp[R8]
 |a::l,i=>by
  simp only[R8,List.any_cons,xu];by_cases h:p a=true
  .simp[h]
  .rw[if_neg h,CL p l (i+1)];simp[h]
theorem J8 {p:Prop} [Decidable p] (h:p):decide p=true:=by simp[h]
theorem E3 {p:Prop} [Decidable p] (h:¬p):decide p=false:=by simp[h]
def Rz (c:Nat):Bool:=decide (97<=c/\c<=122)||decide (65<=c/\c<=90)
def ZI (c:Nat):Bool:=decide (48<=c/\c<=57)
def Fu (c:Nat):Bool:=Rz c||ZI c||decide (c=95)||decide (c=35)
theorem Zv (c:Nat):c<35\/c=35\/(36<=c/\c<=47)\/(48<=c/\c<=57)\/(58<=c/\c<=64)\/(65<=c/\c<=90)\/(91<=c/\c<=94)\/c=95\/c=96\/(97<=c/\c<=122)\/123<=c:=by omega
theorem bY (c:Nat):pc Q JQ [.int .u8 c]=some (.bool (Fu c)):=by
 refine N4 Mt λfr hl h0=>?_;simp[Mt]at hl h0;rcases Zv c with h|h|h|h|h|h|h|h|h|h|h<;>simp(disch:=omega) only[Fu,Rz,ZI,J8,E3,yE,yD]<;>simp(disch:=first|omega|(simp only[xq];omega)) [Mt,h0,J8,E3]
abbrev FI (s:ByteArray):List UInt8:=s.data.toList
theorem Qz (s:H7) (j:Nat):s[j]?=(FI s)[j]?:=by
 obtain⟨⟨l⟩⟩:=s;by_cases h:j<l.length
 .have h1:j<yC ⟨⟨l⟩⟩:=h;rw[getElem?_pos (⟨⟨l⟩⟩:ByteArray) j h1];simp only[FI];rw[xm h];rfl
 .have h1:¬j<yC ⟨⟨l⟩⟩:=h;rw[getElem?_neg (⟨⟨l⟩⟩:ByteArray) j h1];simp only[FI];rw[List.getElem?_eq_none (by omega)]
theorem ND (s:H7):(FI s).length=s.size:=by
 obtain⟨⟨l⟩⟩:=s;rfl
def BK (s:ByteArray):Bool:=match FI s with | []=>false|c::r=>decide (s.size<=24)&&Rz c.toNat&&(c::r).all λc=>Fu c.toNat
def MQ (s:ByteArray):Bool:=(FI s).contains 35
theorem XX (s:H7) (hs:s.size<=24) (fr:Fr) (h:AH) (hl:fr.length=48) (h0:A0 fr 0=.str s) (h38:A0 fr 38=.int .i64 s.size) (h39:A0 fr 39=.int .i64 0) :
  C8 (lp (A1 (Q8 Q) (G7 EZ) Az) (fr,h)) λe D4 h'=>Kp Az.wr fr D4/\(e=.exit 0/\((FI s).all λc=>Fu c.toNat)=true\/e=.ret/\A0 D4 2=.bool false/\((FI s).all λc=>Fu c.toNat)=false):=by
 refine C3 rfl fr (λn fr h=>∃i:Nat,i+n=s.size/\A0 fr 39=.int .i64 (i:Nat)/\(((FI s).drop i).all λc=>Fu c.toNat)=((FI s).all λc=>Fu c.toNat)) ?_ s.size h ⟨0,by omega,h39,rfl⟩;rintro J Φ hJ hΦ n G9 Jb K ⟨i,hi,k39,hr⟩;have B4:=K.1.trans hl;have k0:=A5 K 0 h0;have k38:=A5 K 38 h38;have C2:=ND s;by_cases A6:i<s.size
 .have Qp:i<(FI s).length:=by omega
  have hx:s[i]?=some (FI s)[i]:=by rw[Qz,xm Qp]
  have hw:=E5 i (by omega);rw[xk Qp,xr]at hr;generalize (FI s)[i]=c at *
  have hP:=bY c.toNat;have TG:s[i]'A6=c:=by rw[getElem?_pos s i A6]at hx;exact Option.some.inj hx
  cases hc:Fu c.toNat with
  |true =>
   rw[hc]at hP hr;simp[Az,B4,k0,k38,k39,A6,TG,hw,hP];exact O4 hJ ⟨i+1,by omega,by simp[B4],by simpa using hr⟩
  |false =>
   rw[hc]at hP hr;simp[Az,B4,k0,k38,k39,A6,TG,hP];exact hΦ _ _ _ (.inr ⟨rfl,by simp[B4],by simpa using hr.symm⟩)
 .rw[xl (by omega)]at hr;simp[Az,B4,k38,k39,A6];exact hΦ _ _ _ (.inl ⟨rfl,by simpa using hr.symm⟩)
theorem aa {s:H7} (h:FI s=[]):s=bs []:=by
 obtain⟨⟨l⟩⟩:=s;simp[FI]at h;subst h;rfl
theorem eC (s:H7):pc Q EZ [.str s]=some (.bool (BK s)):=by
 have C2:=ND s;refine N4 d8 λfr hl h0=>?_;simp[d8]at hl h0;cases hb:FI s with
 |nil =>
  have e:=aa hb;subst e;simp[d8,hl,h0,BK,hb]
 |cons c r =>
  rw[hb]at C2;simp only[xp]at C2;have M5:¬(s.toList=(bs []).toList):=by
   rw[Lib.toList_data,Lib.toList_data,show s.data.toList=c::r from hb];intro e;cases e
  have N7:0<s.size:=by omega
  have hx:s[0]?=some c:=by rw[Qz,hb];rfl
  have TG:s[0]'N7=c:=by rw[getElem?_pos s 0 N7]at hx;exact Option.some.inj hx
  by_cases h24:24<s.size
  .have h24':(24:Int)<(s.size:Int):=by omega
   have h24n:¬s.size<=24:=by omega
   simp[d8,hl,h0,M5,h24',BK,hb,h24n]
  .have h24':¬(24:Int)<(s.size:Int):=by omega
   have h24n:s.size<=24:=by omega
   have hP:=bY c.toNat;cases hL:Rz c.toNat with
   |false =>
    have hv:BK s=false:=by simp[BK,hb,hL]
    rw[hv];cases hp:Fu c.toNat with
    |false =>
     rw[hp]at hP;simp[d8,hl,h0,M5,h24',N7,TG,hP]
    |true =>
     rw[hp]at hP;have hcc:(48<=c.toNat/\c.toNat<=57)\/c.toNat=95\/c.toNat=35:=by
      simp only[Fu,hL,ZI,Bool.false_or,xu,decide_eq_true_eq]at hp;omega
     generalize hzv:c.toNat=z at *
     rcases hcc with hz|hz|hz<;>simp(disch:=first|omega|(simp only[xq];omega)) [d8,h0,M5,h24',TG,hzv,hP,J8,E3]
   |true =>
    have hp:Fu c.toNat=true:=by simp[Fu,hL]
    rw[hp]at hP;have hcc:(97<=c.toNat/\c.toNat<=122)\/(65<=c.toNat/\c.toNat<=90):=by
     simp only[Rz,xu,decide_eq_true_eq]at hL;exact hL
    have hv:BK s=(FI s).all λc=>Fu c.toNat:=by simp[BK,hb,hL,h24n]
    rw[hv];have key:∀b,((FI s).all λc=>Fu c.toNat)=b->C8 (A1 (Q8 Q) (G7 EZ) d8.body (fr,⟨[],[]⟩)) (jP d8.results (.bool b)):=by
     intro b hbv;generalize hzv:c.toNat=z at *
     have q1:¬(z:Int)=95:=by omega
     have q2:¬(z:Int)=35:=by omega
     have q3:¬((z:Int)<=57):=by omega
     have q4:(48:Int)<=(z:Int):=by omega
     simp[d8,hl,h0,M5,h24',N7,TG,hzv,hP,q1,q2,q3,q4];refine(XX s h24n _ _ (by simp[hl]) (by simp[h0]) (by simp[hl]) (by simp[hl])).mono ?_;rintro e D4 h' ⟨K,⟨rfl,he⟩|⟨rfl,h2,he⟩⟩
     .have hl':D4.length=48:=K.1.trans (by simp[hl]);rw[hbv]at he;simp[hl',he]
     .rw[hbv]at he;simp[h2,he]
    exact key _ rfl
def GP (m:Bool×Bool) (l:List ByteArray):AV:=sl m 1 (l.map AV.str)
def BS (x a:ByteArray):Bool:=decide (x.toList=a.toList)
theorem Oz (m:I8) (l:List ByteArray) (x:H7) (C2:l.length<=1099511627776) (fr:Fr) (h:AH) (hl:fr.length=19)
  (h0:A0 fr 0=sl m 1 (l.map AV.str)) (h1:A0 fr 1=.str x) (h7:A0 fr 7=.int .i64 l.length) (h8:A0 fr 8=.int .i64 0) :
  C8 (lp (A1 (Q8 Q) (G7 Y6) P1) (fr,h)) λe D4 h'=>Kp P1.wr fr D4/\(e=.exit 0/\idx (BS x) l=-1\/e=.ret/\A0 D4 4=.int .i64 (idx (BS x) l)):=by
 refine C3 rfl fr (λn fr h=>∃i,i+n=l.length/\A0 fr 8=.int .i64 (i:Nat)/\R8 (BS x) i (l.drop i)=idx (BS x) l) ?_ l.length h ⟨0,by omega,h8,rfl⟩;rintro J Φ hJ hΦ n G9 Jb K ⟨i,hi,k8,hr⟩;have B4:=K.1.trans hl;have k0:=A5 K 0 h0;have k1:=A5 K 1 h1;have k7:=A5 K 7 h7;by_cases A6:i<l.length
 .have hx:=H8 (f:=AV.str) (xm A6);have hw:=E5 i (by omega);rw[xk A6]at hr;simp only[R8,BS,decide_eq_true_eq]at hr;generalize l[i]=a at *
  by_cases hc:x.toList=a.toList
  .rw[if_pos hc]at hr;simp[P1,B4,k0,k1,k7,k8,A6,hx,hc];exact hΦ _ _ _ (.inr ⟨rfl,by simp[B4];exact hr⟩)
  .rw[if_neg hc]at hr;simp[P1,B4,k0,k1,k7,k8,A6,hx,hw,hc];exact O4 hJ ⟨i+1,by omega,by simp[B4],hr⟩
 .rw[xl (by omega)]at hr;simp[P1,B4,k7,k8,A6];exact hΦ _ _ _ (.inl ⟨rfl,hr.symm⟩)
theorem Qd (m:I8) (l:List ByteArray) (x:H7) (C2:l.length<=1099511627776):pc Q Y6 [GP m l,.str x]=some (.int .i64 (idx (BS x) l)):=by
 refine Q6 DE λfr hl h0 h1=>?_;simp[DE,GP]at hl h0 h1;simp[DE,hl,h0];refine(Oz m l x C2 _ _ (by simp[hl]) (by simp[h0]) (by simp[h1]) (by simp[hl]) (by simp[hl])).mono ?_;rintro e D4 h' ⟨K,⟨rfl,he⟩|⟨rfl,h4⟩⟩
 .have hl':D4.length=19:=K.1.trans (by simp[hl]);simp[hl',he]
 .simp[h4]
theorem Mc (m:I8) (l:List ByteArray) (x:H7) (C2:l.length<=1099511627776):pc Q H2 [GP m l,.str x]=some (.bool (l.any (BS x))):=by
 have hI:=Qd m l x C2;have he:decide (0<=idx (BS x) l)=l.any (BS x):=by
  rw[xt,decide_eq_true_iff,idx,CL]
 refine Q6 Bb λfr hl h0 h1=>?_;simp[Bb,GP]at hl h0 h1 hI;simp[Bb,hl,h0,h1,hI];exact he
end Go.Abs.Q
namespace Go.Abs.Q
open Go.Proofs
attribute [local simp] D0 D1 fin I1 E7
theorem PH (c:Nat):pc Q Fh [.int .u8 c]=some (.bool (Rz c)):=by
 refine N4 Il λfr hl h0=>?_;simp[Il]at hl h0;rcases Zv c with h|h|h|h|h|h|h|h|h|h|h<;>simp(disch:=omega) only[Rz,J8,E3,yE,yD]<;>simp(disch:=first|omega|(simp only[xq];omega)) [Il,h0,J8,E3]
theorem Xt (c:Nat):pc Q Je [.int .u8 c]=some (.bool (ZI c)):=by
 refine N4 Js λfr hl h0=>?_;simp[Js]at hl h0;rcases Zv c with h|h|h|h|h|h|h|h|h|h|h<;>simp(disch:=omega) only[ZI,J8,E3]<;>simp(disch:=first|omega|(simp only[xq];omega)) [Js,h0,J8,E3]
@[simp] theorem tV (h:AH) (s:H7) (lo hi:Option Int):Te h 0 (.str s) (some lo) (some hi) (some none) =
  if 0<=lo.getD 0/\lo.getD 0<=hi.getD s.size/\hi.getD s.size<=s.size then some (.str (s.extract (lo.getD 0).toNat (hi.getD s.size).toNat),h)else none:=by
 simp only[Te,Jn];by_cases hc:0<=lo.getD 0/\lo.getD 0<=hi.getD s.size/\hi.getD s.size<=s.size
 .rw[if_pos hc,if_pos ⟨trivial,trivial,hc⟩]
 .rw[if_neg hc,if_neg (λk=>hc ⟨k.2.2.1,k.2.2.2.1,k.2.2.2.2⟩)]
theorem Wh {a b:H7} (h:a.size+b.size<=4611686018427387904):D6 .add (.str a) (.str b)=some (.str (a++b)):=by
 simp only[D6];rw[if_neg];have:IntKind.i64.max=9223372036854775807:=rfl;rw[this];omega
theorem mV (l:List UInt8):FI ⟨⟨l⟩⟩=l:=rfl
theorem mU {a b:H7} (h:FI a=FI b):a=b:=by
 obtain⟨⟨a⟩⟩:=a;obtain⟨⟨b⟩⟩:=b;simp only[mV]at h;rw[h]
theorem aZ (s:H7) (i j:Nat):FI (s.extract i j)=((FI s).take j).drop i:=by
 simp[FI,List.drop_take]
theorem NU (s:H7):s.toList=FI s:=Lib.toList_data s
theorem N6 (a b:H7):a.toList=b.toList↔a=b:=by
 rw[NU,NU];exact⟨mU,λh=>by rw[h]⟩
theorem Ek (a b:H7):BS a b=true↔a=b:=by
 unfold BS;rw[decide_eq_true_iff,N6]
theorem P4 (a b:H7):decide (a.toList=b.toList)=decide (a=b):=by
 rw[xt,decide_eq_true_iff,decide_eq_true_iff,N6]
def OH (a b:ByteArray):Bool:=decide (b.size<=a.size)&&decide ((FI a).take b.size=FI b)
theorem Nj (a b:H7):pc Q m6 [.str a,.str b]=some (.bool (OH a b)):=by
 refine Q6 o8 λfr hl h0 h1=>?_;simp[o8]at hl h0 h1;by_cases h:b.size<=a.size
 .have e:decide ((a.extract 0 b.size).toList=b.toList)=decide ((FI a).take b.size=FI b):=by
   rw[NU,NU,aZ,xy]
  have hi:(b.size:Int)<=(a.size:Int):=by omega
  simp[o8,hl,h0,h1,h,hi,O8,e,OH]
 .have hi:¬(b.size:Int)<=(a.size:Int):=by omega
  simp[o8,hl,h0,h1,h,hi,OH]
theorem Vj (a b:H7):pc Q EK [.str a,.str b]=some (.bool (OH a b)):=by
 have hL:=Nj a b;refine Q6 EP λfr hl h0 h1=>?_;simp[EP]at hl h0 h1;simp[EP,hl,h0,h1,hL]
def TC (l:List UInt8):Bool:=decide (l.take 2=[35,35])
theorem lB (s:H7) (i:Nat) (hi:i<=s.size):OH (s.extract i s.size) (bs [35,35])=TC ((FI s).drop i):=by
 have e:FI (s.extract i s.size)=(FI s).drop i:=by rw[aZ,xw (by rw[ND];exact xo _)]
 have z:(bs [35,35]).size=2:=rfl;have y:FI (bs [35,35])=[35,35]:=rfl;unfold OH TC;rw[e,z,y];by_cases h:((FI s).drop i).take 2=[35,35]
 .have:=congrArg List.length h;simp only[List.length_take,xp,List.length_nil]at this;have hs:2<=(s.extract i s.size).size:=by rw[←ND,e];omega
  rw[J8 hs,J8 h,Bool.true_and]
 .simp[h]
def RF:List UInt8->Nat
 | []=>0
 |c::r=>if Fu c.toNat=true/\TC (c::r)=false then RF r+1 else 0
def Wm:List UInt8->Bool
 | []=>false
 |c::r=>TC (c::r)||Wm r
theorem bJ:∀l:List UInt8,(RF l=l.length)↔(l.all (λc=>Fu c.toNat)=true/\Wm l=false)
 | []=>by simp[RF,Wm]
 |c::r=>by
  have ih:=bJ r;have Nh:RF r<=r.length:=by
   clear ih
   induction r with
   |nil=>simp[RF]
   |cons d r ih =>
    simp only[RF];split
    .simp;omega
    .simp
  simp only[RF,Wm,xr,Bool.and_eq_true,Bool.or_eq_false_iff,xp];by_cases h:Fu c.toNat=true/\TC (c::r)=false
  .rw[if_pos h];constructor
   .intro k;obtain⟨a,b⟩:=ih.1 (by omega);exact⟨⟨h.1,a⟩,h.2,b⟩
   .rintro⟨⟨_,a⟩,_,b⟩;have:=ih.2 ⟨a,b⟩;omega
  .rw[if_neg h];constructor
   .intro k;omega
   .rintro⟨⟨a,_⟩,b,_⟩;exact absurd ⟨a,b⟩ h
theorem Qr (s:H7) (hs:s.size<=1099511627776) (fr:Fr) (h:AH) (hl:fr.length=39) (h0:A0 fr 0=.str s) (h3:A0 fr 3=.int .i64 1) (h1:1<=s.size) :
  C8 (lp (A1 (Q8 Q) (G7 CP) G2) (fr,h)) λe D4 h'=>Kp G2.wr fr D4/\e=.exit 0/\A0 D4 3=.int .i64 (1+RF ((FI s).drop 1):Nat):=by
 refine C3 rfl fr (λn fr h=>∃i:Nat,i+n=s.size/\A0 fr 3=.int .i64 (i:Nat)/\i+RF ((FI s).drop i)=1+RF ((FI s).drop 1)) ?_ (s.size-1) h ⟨1,by omega,h3,rfl⟩;rintro J Φ hJ hΦ n G9 Jb K ⟨i,hi,k3,hr⟩;have B4:=K.1.trans hl;have k0:=A5 K 0 h0;have C2:=ND s;by_cases A6:i<s.size
 .have Qp:i<(FI s).length:=by omega
  have hx:s[i]?=some (FI s)[i]:=by rw[Qz,xm Qp]
  have hw:=E5 i (by omega);have hP:=Vj (s.extract i s.size) (bs [35,35]);rw[lB s i (by omega)]at hP;rw[xk Qp]at hr hP;generalize (FI s)[i]=c at *
  have hL:=PH c.toNat;have hD:=Xt c.toNat;have TG:s[i]'A6=c:=by rw[getElem?_pos s i A6]at hx;exact Option.some.inj hx
  have Nh:(i:Int)<=(s.size:Int):=by omega
  have stop:¬(Fu c.toNat=true/\TC (c::(FI s).drop (i+1))=false)->i=1+RF ((FI s).drop 1):=λhp=>by
   simp only[RF]at hr;rw[if_neg hp]at hr;exact hr
  have fwd:(Fu c.toNat=true/\TC (c::(FI s).drop (i+1))=false)->i+1+RF ((FI s).drop (i+1))=1+RF ((FI s).drop 1):=λhp=>by
   simp only[RF]at hr;rw[if_pos hp]at hr;omega
  clear hr;generalize hz:c.toNat=z at *
  have done:∀b:Bool,Fu z=true->b=TC (c::(FI s).drop (i+1))->True:=λ_ _ _=>trivial;clear done;cases hT:TC (c::(FI s).drop (i+1))with
  |true =>
   rw[hT]at hP;have st:=stop (by simp[hT]);cases hLv:Rz z with
   |true =>
    rw[hLv]at hL;simp[G2,B4,k0,k3,A6,TG,hz,hL,hP,O8,Nh];exact hΦ _ _ _ ⟨rfl,by rw[←st];simp[k3]⟩
   |false =>
    rw[hLv]at hL;cases hDv:ZI z with
    |true =>
     rw[hDv]at hD;simp[G2,B4,k0,k3,A6,TG,hz,hL,hD,hP,O8,Nh];exact hΦ _ _ _ ⟨rfl,by rw[←st];simp[k3]⟩
    |false =>
     rw[hDv]at hD;by_cases h95:(z:Int)=95
     .simp[G2,B4,k0,k3,A6,TG,hz,hL,hD,hP,O8,Nh,J8 h95];exact hΦ _ _ _ ⟨rfl,by rw[←st];simp[k3]⟩
     .by_cases h35:(z:Int)=35
      .simp[G2,B4,k0,k3,A6,TG,hz,hL,hD,hP,O8,Nh,E3 h95,J8 h35];exact hΦ _ _ _ ⟨rfl,by rw[←st];simp[k3]⟩
      .simp[G2,B4,k0,k3,A6,TG,hz,hL,hD,E3 h95,E3 h35];exact hΦ _ _ _ ⟨rfl,by rw[←st];simp[k3]⟩
  |false =>
   rw[hT]at hP;cases hLv:Rz z with
   |true =>
    rw[hLv]at hL;simp[G2,B4,k0,k3,A6,TG,hz,hw,hL,hP,O8,Nh];exact O4 hJ ⟨i+1,by omega,by simp[B4],fwd ⟨by simp[Fu,hLv],hT⟩⟩
   |false =>
    rw[hLv]at hL;cases hDv:ZI z with
    |true =>
     rw[hDv]at hD;simp[G2,B4,k0,k3,A6,TG,hz,hw,hL,hD,hP,O8,Nh];exact O4 hJ ⟨i+1,by omega,by simp[B4],fwd ⟨by simp[Fu,hDv],hT⟩⟩
    |false =>
     rw[hDv]at hD;by_cases h95:(z:Int)=95
     .simp[G2,B4,k0,k3,A6,TG,hz,hw,hL,hD,hP,O8,Nh,J8 h95];exact O4 hJ ⟨i+1,by omega,by simp[B4],fwd ⟨by simp[Fu,show z=95 by omega],hT⟩⟩
     .by_cases h35:(z:Int)=35
      .simp[G2,B4,k0,k3,A6,TG,hz,hw,hL,hD,hP,O8,Nh,E3 h95,J8 h35];exact O4 hJ ⟨i+1,by omega,by simp[B4],fwd ⟨by simp[Fu,show z=35 by omega],hT⟩⟩
      .have st:=stop (by
        intro k;have:=k.1;simp[Fu,hLv,hDv]at this;omega)
       simp[G2,B4,k0,k3,A6,TG,hz,hL,hD,E3 h95,E3 h35];exact hΦ _ _ _ ⟨rfl,by rw[←st];simp[k3]⟩
 .rw[xl (by omega)]at hr;have hr':i=1+RF ((FI s).drop 1):=by simpa[RF]using hr
  simp[G2,B4,k0,k3,A6];exact hΦ _ _ _ ⟨rfl,by rw[←hr'];simp[k3]⟩
theorem TY (s:H7) (hs:s.size<=1099511627776) (h1:1<=s.size):pc Q CP [.str s]=some (.int .i64 (1+RF ((FI s).drop 1):Nat)):=by
 refine N4 FD λfr hl h0=>?_;simp[FD]at hl h0;generalize hk:(1+RF ((FI s).drop 1):Nat)=k;simp[FD];refine(Qr s hs _ _ (by simp[hl]) (by simp[h0]) (by simp[hl]) h1).mono ?_;rintro e D4 h' ⟨K,rfl,he⟩;have hl':D4.length=39:=K.1.trans (by simp[hl]);rw[hk]at he;simp[hl',he]
def Y3 (s:ByteArray):Bool:=BK s&&!Wm (FI s)
theorem Hx (s:H7) (hs:s.size<=1099511627776):pc Q Bo [.str s]=some (.bool (Y3 s)):=by
 have C2:=ND s;refine N4 AW λfr hl h0=>?_;simp[AW]at hl h0;cases hb:FI s with
 |nil =>
  have e:=aa hb;subst e;have hv:Y3 (bs [])=false:=rfl;rw[hv];simp[AW,hl,h0]
 |cons c r =>
  have hlen':=C2;rw[hb]at hlen';simp only[xp]at hlen';have M5:¬s.toList=(bs []).toList:=by
   rw[NU,hb];simp[NU,FI,bs]
  have N7:0<s.size:=by omega
  have hx:s[0]?=some c:=by rw[Qz,hb];rfl
  have TG:s[0]'N7=c:=by rw[getElem?_pos s 0 N7]at hx;exact Option.some.inj hx
  have hL:=PH c.toNat;have hN:=TY s hs (by omega);rw[hb,List.drop_succ_cons,xy]at hN;have GK:=bJ r;cases hLv:Rz c.toNat with
  |false =>
   rw[hLv]at hL;have hv:Y3 s=false:=by simp[Y3,BK,hb,hLv]
   rw[hv];simp[AW,hl,h0,E3 M5,N7,TG,hL]
  |true =>
   rw[hLv]at hL;have ht:TC (c::r)=false:=by
    unfold TC;apply E3;intro k;cases r with
    |nil=>simp at k
    |cons d r =>
     simp at k;rw[k.1]at hLv;exact absurd hLv (by decide)
   have hp:Fu c.toNat=true:=by simp[Fu,hLv]
   by_cases hk:RF r=r.length
   .have CH:((1+RF r:Nat):Int)=(s.size:Int):=by omega
    have ha:=GK.1 hk;have hv:Y3 s=decide (s.size<=24):=by
     have e1:=ha.1;simp only[Y3,BK,hb,hLv,xr,hp,e1,Wm,ht,ha.2];simp
    rw[hv];generalize ((1+RF r:Nat):Int)=q at *
    by_cases h24:s.size<=24
    .have h24':(s.size:Int)<=24:=by omega
     simp[AW,hl,h0,E3 M5,N7,TG,hL,hN,J8 CH,J8 h24',J8 h24]
    .have h24':¬(s.size:Int)<=24:=by omega
     simp[AW,hl,h0,E3 M5,N7,TG,hL,hN,J8 CH,E3 h24',E3 h24]
   .have CH:¬((1+RF r:Nat):Int)=(s.size:Int):=by omega
    have hv:Y3 s=false:=by
     rw[GK]at hk;simp only[Y3,BK,hb,hLv,xr,hp,Wm,ht];cases h1:(r.all λc=>Fu c.toNat)with
     |false=>simp
     |true =>
      cases h2:Wm r with
      |true=>simp
      |false=>exact absurd ⟨h1,h2⟩ hk
    rw[hv];generalize ((1+RF r:Nat):Int)=q at *
    simp[AW,hl,h0,E3 M5,N7,TG,hL,hN,E3 CH]
end Go.Abs.Q
