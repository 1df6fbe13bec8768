/- A part of the proof. -/
import Derived.Test.YtnnjamknplefbaaGreatDoorTS25
import Derived.Test.YtnnjamknplefbaaGreatDoorTS28
set_option linter.all false
open List renaming getElem?_append_left->zf0z,getElem?_eq_getElem->zf1z,getElem?_set_self->zf2z,length_singleton->zf4z,getElem?_set_ne->zf6z,length_append->zf7z,length_map->zg1z
open Option renaming bind_some->zf3z,map_map->zf5z,bind_none->zg0z
open Nat renaming add_sub_cancel->zf8z
open Bool renaming and_eq_true->zf9z
set_option linter.all false
namespace Go.Abs.Q
open Go.Proofs
attribute [local simp] J0 J5 fin M6 M0 Y2 b8
theorem mZ{l:CI}(h:TT l=0):∀x∈l,Ov x=0:=by
 induction l with
 |nil=>intro x hx;cases hx
 |cons a l ih =>
  rw[WU]at h;intro x hx;by_cases ha:Ov a=0
  .rw[if_neg (by simpa using ha)]at h;rcases List.mem_cons.1 hx with rfl|hx
   .exact ha
   .exact ih h x hx
  .rw[if_pos ha]at h;exact absurd h ha
theorem NK{t:Tm}(h:Ov t=0)(hk:t.kind=3):Mv t.name t.kids.length=true/\nY t.name t.kids=0/\∀x∈t.kids,Ov x=0:=by
 obtain⟨k,nm,s,m,l⟩:=t;rw[jO (show k=3 from hk)]at h;split at h
 .cases h
 .split at h
  .cases h
  .rename_i h2;split at h
   .rename_i h3;exact absurd h h3
   .rename_i h3;refine⟨?_,by simpa[Tm.name,Tm.kids]using h3,mZ h⟩;show Mv nm (l.length:Int)=true;cases hq:Mv nm (l.length:Int)with
    |true=>rfl
    |false=>exact absurd hq h2
theorem TW{l:CI}{nm:AD}(hn:nm=bs [112,97,105,114]\/nm=bs [101,110,99]\/nm=bs [97,101,110,99]\/nm=bs [115,105,103,110]\/nm=bs [115,104,107])(h:Mv nm l.length=true):∃a b,l=[a,b]:=by
 have:l.length=2:=by
  rcases hn with rfl|rfl|rfl|rfl|rfl
  all_goals
   simp only[Mv,zf9z,decide_eq_true_eq]at h;have h1:=h.1;have h2:=h.2;revert h1 h2;show (2:Int)<=_->_<=(2:Int)->_;intro h1 h2;omega
 match l,this with
 | [a,b],_=>exact⟨a,b,rfl⟩
theorem Xf{l:CI}{nm:AD}(hn:nm=bs [112,107]\/nm=bs [104,97,115,104]\/nm=bs [115,107])(h:Mv nm l.length=true):∃a,l=[a]:=by
 have:l.length=1:=by
  rcases hn with rfl|rfl|rfl
  all_goals
   simp only[Mv,zf9z,decide_eq_true_eq]at h;have h1:=h.1;have h2:=h.2;revert h1 h2;show (1:Int)<=_->_<=(1:Int)->_;intro h1 h2;omega
 match l,this with
 | [a],_=>exact⟨a,rfl⟩
def Mx(t:Tm)(nm:ByteArray):Bool:=decide (t.kind=3/\t.name=nm)
theorem Gd{t:Tm}{nm:AD}:Mx t nm=true↔t.kind=3/\t.name=nm:=by simp[Mx]
theorem ME{t:Tm}(h:Ov t=0)(hp:Mx t (bs [112,97,105,114])=true):∃a b,t.kids=[a,b]/\Ov a=0/\Ov b=0:=by
 obtain⟨hk,hn⟩:=Gd.1 hp;obtain⟨h1,_,h2⟩:=NK h hk;obtain⟨a,b,e⟩:=TW (.inl hn) h1;exact⟨a,b,e,h2 a (by rw[e];simp),h2 b (by rw[e];simp)⟩
def Kk(q:Tm):Option ByteArray :=
 if Mx q (bs [112,97,105,114])=true then (match q.kids with|a::_=>if a.kind=2/\a.sort=5 then some a.name else none | []=>none)else none
def fN(o:Option ByteArray):AV:=match o with|some s=>.tup [.str s,.bool true]|none=>.tup [.str (bs []),.bool false]
theorem pc_tag(q:Tm)(hq:Ov q=0):pc Q Hx [U6 q]=some (fN (Kk q)):=by
 have hI:=OW q (bs [112,97,105,114]);have hd:decide (q.kind=3/\q.name=bs [112,97,105,114])=Mx q (bs [112,97,105,114]):=rfl;rw[hd]at hI;unfold Kk;cases hp:Mx q (bs [112,97,105,114])with
 |false =>
  rw[hp]at hI;rw[if_neg (by simp)];unfold fN;refine m6 b9 λfr hl h0=>?_;simp[b9]at hl h0;simp[b9,hl,h0,hI]
 |true =>
  rw[hp]at hI;obtain⟨a,b,e,-,-⟩:=ME hq hp;have hn:MB (G8 q.kids) 0=some (U6 a):=by rw[e];rfl
  rw[if_pos rfl,e];simp only;have hac:=EK a;by_cases c1:a.kind=2
  .by_cases c2:a.sort=5
   .rw[if_pos ⟨c1,c2⟩];unfold fN;refine m6 b9 λfr hl h0=>?_;simp[b9]at hl h0;simp[b9,hl,h0,hI,hn,hac,c1,c2]
   .rw[if_neg (by intro h;exact c2 h.2)];unfold fN;refine m6 b9 λfr hl h0=>?_;simp[b9]at hl h0;simp[b9,hl,h0,hI,hn,hac,c1,c2]
  .rw[if_neg (by intro h;exact c1 h.1)];unfold fN;refine m6 b9 λfr hl h0=>?_;simp[b9]at hl h0;simp[b9,hl,h0,hI,hn,hac,c1]
theorem XT{α:Type}(p:α->Bool)(l:List α):(idx p l=-1/\l.find? p=none)\/∃(i:Nat) (a:α),idx p l=(i:Int)/\l[i]?=some a/\l.find? p=some a:=by
 have key:∀(l:List α) (k:Nat),(CL p k l=-1/\l.find? p=none)\/∃(i:Nat) (a:α),CL p k l=((k+i:Nat):Int)/\l[i]?=some a/\l.find? p=some a:=by
  intro l
  induction l with
  |nil=>exact λk=>.inl ⟨rfl,rfl⟩
  |cons a l ih =>
   intro k;by_cases ha:p a=true
   .exact .inr ⟨0,a,by simp[CL,ha],rfl,by simp[ha]⟩
   .have ha':p a=false:=by simpa using ha
    rcases ih (k+1)with ⟨h1,h2⟩|⟨i,b,h1,h2,h3⟩
    .exact .inl ⟨by simp[CL,ha',h1],by simp[ha',h2]⟩
    .exact .inr ⟨i+1,b,by simp only[CL,ha'];rw[if_neg (by simp),h1];congr 1;omega,by simpa using h2,by simp[ha',h3]⟩
 rcases key l 0 with h|⟨i,a,h1,h2,h3⟩
 .exact .inl h
 .exact .inr ⟨i,a,by simpa[idx]using h1,h2,h3⟩
def VJ(t:Typ)(nm:ByteArray):Option Pyl:=t.ps.find? λp=>decide (p.tag=nm)
def zPy:Pyl:=⟨bs [],(true,false),[],0,(true,false),[]⟩
def Zz(o:Option Pyl):AV:=match o with|some p=>.tup [Dp p,.bool true]|none=>.tup [Dp zPy,.bool false]
theorem rU(p:Pyl)(nm:AD):pc Q DM [Dp p,.pv [.str nm]]=some (.bool (decide (p.tag=nm))):=by
 refine Es Hb λfr hl h0 h1=>?_;simp[Hb]at hl h0 h1;simp[Hb,hl,h0,h1,h1]
theorem ww(t:Typ)(nm:AD)(hl:t.ps.length<=1000000):pc Q DU [HG t,.str nm]=some (Zz (VJ t nm)):=by
 have hI:=Sq Dp 4 (λp=>decide (p.tag=nm)) S2 DM [.pv [.str nm]] rfl t.m t.ps (by omega) (λa _=>rU a nm) HW rfl ic rfl;have hz:AV.agg [.str (bs []),sl (true,false) 1 [],.int .i64 0,sl (true,false) 1 []]=Dp zPy:=rfl;rcases XT (λp:Pyl=>decide (p.tag=nm)) t.ps with ⟨h1,h2⟩|⟨i,a,h1,h2,h3⟩
 .have hf:VJ t nm=none:=h2;rw[hf];rw[h1]at hI;clear h1;unfold Zz;refine Es DZ λfr hl h0 h1=>?_;simp[DZ]at hl h0 h1;simp[DZ,hl,h0,h1,hI,p8,B6,C9,hz,show ∀s,(AV.str s).flat=true from λ_=>rfl]
 .have hf:VJ t nm=some a:=h3;rw[hf];rw[h1]at hI;clear h1;have hx:=l9 (f:=Dp) h2;unfold Zz;refine Es DZ λfr hl h0 h1=>?_;simp[DZ]at hl h0 h1;simp[DZ,hl,h0,h1,hI,p8,B6,C9,hx,show ∀s,(AV.str s).flat=true from λ_=>rfl]
def Mq:Nat->Tm->Option (List Tm)
 |0,t=>some [t]
 |k+1,t=>if Mx t (bs [112,97,105,114])=true then (match t.kids with | [a,b]=>(Mq k b).map (a::·)|_=>none)else none
def dvV(m:Bool×Bool)(o:Option (List Tm)):AV:=match o with|some l=>.tup [sl m 4 (G8 l),.bool true]|none=>.tup [.vs true 0 [],.bool false]
theorem aV(n:Nat)(hn:n<=1000000)(t:Tm)(ht:Ov t=0)(fr:Fr)(h:AH)(hh:h.boxes=[(U6 t).cells])(hl:fr.length=30)(h2:C7 fr 2=.ptr 0 0)(h8:C7 fr 8=.int .i64 ((n:Nat):Int))(h9:C7 fr 9=.int .i64 0)(h6:C7 fr 6=.vs true 0 []) :
  L9 (lp (A8 (Ax Q) (C2 b6) n5) (fr,h)) λe G6 h'=>Kp n5.wr fr G6 /\
   (e=.exit 0/\(∃j6 u,h'.boxes=[(U6 u).cells]/\j6.length<=n/\Oz 4 (G8 j6) (C7 G6 6) h'/\Mq n t=some (j6++[u]))\/e=.ret/\C7 G6 4=.vs true 0 []/\C7 G6 5=.bool false/\Mq n t=none):=by
 refine W6 rfl fr (λk G6 h'=>∃(i:Nat) (j6:List Tm) (u:Tm),i+k=n/\C7 G6 9=.int .i64 (i:Nat)/\h'.boxes=[(U6 u).cells]/\Ov u=0/\j6.length=i/\Oz 4 (G8 j6) (C7 G6 6) h'/\Mq n t=(Mq k u).map (j6++·)) ?_ n h ⟨0,[],t,by omega,h9,hh,ht,rfl,by rw[h6];exact Qy 4 h,by simp⟩;rintro J Φ hJ hΦ k Kr H1 K ⟨i,j6,u,hi,k9,hb,hu,ha,hg,hd⟩;have L1:=K.1.trans hl;have k2:=S6 K 2 h2;have k8:=S6 K 8 h8;clear K;by_cases G9:i<n
 .have Hr:(i:Int)<(n:Int):=by omega
  have AT:=AQ i (by omega);have hI:=OW u (bs [112,97,105,114]);have hdd:decide (u.kind=3/\u.name=bs [112,97,105,114])=Mx u (bs [112,97,105,114]):=rfl;rw[hdd]at hI;obtain⟨k,rfl⟩:∃k',k=k'+1:=⟨k-1,by omega⟩;obtain⟨bx,fams⟩:=H1;simp only at hb;subst hb;cases hp:Mx u (bs [112,97,105,114])with
  |false =>
   rw[hp]at hI;have hd':Mq n t=none:=by rw[hd];simp[Mq,hp]
   simp[n5,L1,k2,k8,k9,G9,Hr,hI];exact hΦ _ _ _ (.inr ⟨rfl,by simp[L1],by simp[L1],hd'⟩)
  |true =>
   rw[hp]at hI;obtain⟨a,b,e,ea,eb⟩:=ME hu hp;have n0:MB (G8 u.kids) 0=some (U6 a):=by rw[e];rfl
   have n1:MB (G8 u.kids) 1=some (U6 b):=by rw[e];rfl
   have hd':Mq n t=(Mq k b).map ((j6++[a])++·):=by
    rw[hd];simp only[Mq,hp,if_true,e,zf5z];congr 1;funext x;simp
   obtain⟨v',⟨B',F'⟩,hap,Kw,hB'⟩:=Ni (c:=C2 b6) (bytes:=56) (x:=U6 a) hg rfl (true,true) (by rw[AP];omega) (by rw[AP];omega);simp only at hB';subst hB';obtain⟨c1,c2,c3⟩:=GC hg;have hmv:G8 j6++[U6 a]=G8 (j6++[a]):=by rw[m8,m8];simp
   rw[hmv]at Kw;generalize hv0:C7 Kr 6=v0 at *
   rw[EK]at hap;simp[n5,L1,k2,k8,k9,G9,Hr,hI,n0,n1,AT,B2,hap,hv0];exact⟨k,by omega,hJ _ _ _ ⟨i+1,j6++[a],b,by omega,by simp[L1],by rw[EK],eb,by simp[ha],by simp[L1];exact RZ Kw rfl,hd'⟩⟩
 .obtain rfl:i=n:=by omega
  obtain rfl:k=0:=by omega
  simp[n5,L1,k8,k9];exact hΦ _ _ _ (.inl ⟨rfl,j6,u,hb,by omega,by simpa using hg,by rw[hd];rfl⟩)
theorem lV(t:Tm)(ht:Ov t=0)(n:Nat)(hn:n<=1000000):∃m,pc Q b6 [U6 t,.int .i64 (n:Nat)]=some (dvV m (Mq (n-1) t)):=by
 suffices hq:∃r,pc Q b6 [U6 t,.int .i64 (n:Nat)]=some r/\∃m:Bool×Bool,r=dvV m (Mq (n-1) t) by
  obtain⟨r,h,m,rfl⟩:=hq;exact⟨m,h⟩
 have hw:IntKind.i64.wrap ((n:Int)-1)=(n:Int)-1:=EX (by omega) (by omega);have tail:∀(j6:List Tm) (u:Tm) (v:AV) (F:List Fam),j6.length<=1000000->Oz 4 (G8 j6) v ⟨[(U6 u).cells],F⟩->∃v' F',R7 (C2 b6) ⟨[(U6 u).cells],F⟩ 4 56 v (sl (true,true) 4 [U6 u])=some (v',⟨[(U6 u).cells],F'⟩)/\∃m,frz ⟨[(U6 u).cells],F'⟩ true v'=some (sl m 4 (G8 (j6++[u]))):=by
  intro j6 u v F ha hg;obtain⟨v',⟨B',F'⟩,hap,Kw,hB'⟩:=Ni (c:=C2 b6) (bytes:=56) (x:=U6 u) hg rfl (true,true) (by rw[AP];omega) (by rw[AP];omega);simp only at hB';subst hB';have hmv:G8 j6++[U6 u]=G8 (j6++[u]):=by rw[m8,m8];simp
  rw[hmv]at Kw;obtain⟨m,hm⟩:=gM Kw;rw[EK]at hm ⊢;exact⟨v',F',by rw[EK]at hap;exact hap,m,hm⟩
 refine rg FB λΨ hΨ fr hl h0 h1=>?_;simp[FB]at hl h0 h1;have hac:=EK t;cases n with
 |zero =>
  simp only[Int.natCast_zero,Int.zero_sub]at hw h1;have hw0:IntKind.i64.wrap (-1)=-1:=hw;simp[FB,hl,h0,h1,hw0,B2,P7,maxLen];refine BJ ?_;simp[n5,hl,h0,B2,P7,maxLen]
  trace_state
  exact hΨ _ ⟨(false,true),rfl⟩
 |succ n =>
  have hn1:((n+1:Nat):Int)-1=(n:Int):=by omega
  rw[hn1]at hw;simp[FB,hl,h0,h1,hw];refine L9.mono (aV n (by omega) t ht _ _ ?_ ?_ ?_ ?_ ?_ ?_) ?_<;>first|(simp[hl,h0,h1,hw];done)|skip
  rintro e G6 h' ⟨K,⟨rfl,j6,u,hb,ha,hg,hd⟩|⟨rfl,h4,h5,hd⟩⟩
  .have hl':G6.length=30:=K.1.trans (by simp[hl]);have k2:C7 G6 2=.ptr 0 0:=S6 K 2 (by simp[hl,h0]);obtain⟨bx,fams⟩:=h';simp only at hb;subst hb;obtain⟨v',F',t1,m,t2⟩:=tail j6 u _ _ (by omega) hg;rw[EK]at t1 t2;generalize hv0:C7 G6 6=v0 at *
   rw[zf8z,hd]at hΨ;simp[hl',k2,hv0,B2,t1,t2];exact hΨ _ ⟨m,rfl⟩
  .rw[zf8z,hd]at hΨ;simp[h4,h5];exact hΨ _ ⟨(true,true),rfl⟩
def Ny(u:Typ)(q:Tm):Option (Pyl×List Tm) :=
 (Kk q).bind λnm=>(VJ u nm).bind λp=>match q.kids with | [_,b]=>(Mq (p.parts.length-1) b).map λl=>(p,l)|_=>none
def nP(o:Option (Pyl×List Tm))(r:AV):Prop :=
 match o with
 |some (p,l)=>∃m,r=.tup [Dp p,sl m 4 (G8 l),.bool true]
 |none=>∃x m,r=.tup [Dp x,sl m 4 [],.bool false]
theorem lZ(u:Typ)(q:Tm)(hu:Fb u)(hq:Ov q=0):∃r,pc Q Gh [HG u,U6 q]=some r/\nP (Ny u q) r:=by
 have hT:=pc_tag q hq;have hz:AV.agg [.str (bs []),sl (true,false) 1 [],.int .i64 0,sl (true,false) 1 []]=Dp zPy:=rfl;have hz0:AV.agg [.str (bs []),.vs true 0 [],.int .i64 0,.vs true 0 []]=Dp zPy:=rfl;unfold Ny;cases hc:Kk q with
 |none =>
  rw[hc]at hT;unfold fN at hT;simp only[zg0z,nP];refine rg X5 λΨ hΨ fr hl h0 h1=>?_;simp[X5]at hl h0 h1;simp[X5,hl,h0,h1,hT,B6,C9,hz];exact hΨ _ ⟨_,(true,false),rfl⟩
 |some nm =>
  rw[hc]at hT;unfold fN at hT;simp only[zf3z];have hp:Mx q (bs [112,97,105,114])=true:=by
   unfold Kk at hc;split at hc
   .assumption
   .cases hc
  obtain⟨a,b,e,ea,eb⟩:=ME hq hp;rw[e];simp only;have hF:=ww u nm hu.1;cases hf:VJ u nm with
  |none =>
   rw[hf]at hF;unfold Zz at hF;simp only[zg0z,nP];refine rg X5 λΨ hΨ fr hl h0 h1=>?_;simp[X5]at hl h0 h1;simp[X5,hl,h0,h1,hT,hF,B6,C9,hz];exact hΨ _ ⟨_,(true,false),rfl⟩
  |some p =>
   rw[hf]at hF;unfold Zz at hF;simp only[zf3z];have hpm:p∈u.ps:=List.mem_of_find?_eq_some hf;obtain⟨m,hD⟩:=lV b eb p.parts.length (hu.2 p hpm).2.1;have n1:MB (G8 q.kids) 1=some (U6 b):=by rw[e];rfl
   cases hd:Mq (p.parts.length-1) b with
   |none =>
    rw[hd]at hD;unfold dvV at hD;simp only[Option.map_none,nP];refine rg X5 λΨ hΨ fr hl h0 h1=>?_;simp[X5]at hl h0 h1;simp[X5,hl,h0,h1,hT,hF,hD,n1];exact hΨ _ ⟨_,(true,false),rfl⟩
   |some l =>
    rw[hd]at hD;unfold dvV at hD;simp only[Option.map_some,nP];refine rg X5 λΨ hΨ fr hl h0 h1=>?_;simp[X5]at hl h0 h1;simp[X5,hl,h0,h1,hT,hF,hD,n1];exact hΨ _ ⟨_,rfl⟩
def KD(key:Tm):List Tm:=if Mx key (bs [115,104,107])=true then key.kids else if Mx key (bs [115,107])=true then (match key.kids with|a::_=>[a,a] | []=>[])else []
def FX(own l:List Tm):List Int->Option (List Tm)
 | []=>some []
 |d::r=>if (d<2/\own=[])\/(l.length:Int)<=d-2 then none else
  match (if d<2 then own[d.toNat]? else l[(d-2).toNat]?)with
  |some t=>(FX own l r).map (t::·)
  |none=>none
theorem Zm(own l:CI):∀{ds:List Int} {ts:CI},FX own l ds=some ts->ts.length=ds.length
 | [],ts,h=>by cases h;rfl
 |d::r,ts,h=>by
  unfold FX at h;split at h
  .cases h
  .split at h
   .rw[Option.map_eq_some_iff]at h;obtain⟨ts',h',rfl⟩:=h;simp[Zm own l h']
   .cases h
def de(p:Pyl)(l:List Tm)(key:Tm):Option (List Tm):=FX (KD key) l p.data
theorem qo(md:HH)(l:List Int)(J3:l.length<=1000000)(hl0:∀d∈l,0<=d/\d<=1000000)(mo mp:HH)(own ps:CI)(ho:own=[]\/own.length=2)(hps:ps.length<=1000000)(b0 b1 b2:I7)(hb2:b2=[.int .i64 0,.int .i64 0,.vs true 0 []])(k0 g0:AV)(hk0:k0.cells=[k0]/\Bo ⟨[],[]⟩ true k0=some k0)(fr:Fr)(h:AH)(hB:h.boxes=[b0,b1,b2,[k0,g0,.vs true 0 []]])(hl:fr.length=79)(h1:C7 fr 1=sl mp 4 (G8 ps))(h6:C7 fr 6=.ptr 2 0)(h8:C7 fr 8=sl mo 4 (G8 own))(h9:C7 fr 9=.ptr 3 0)(h33:C7 fr 33=sl md 1 (l.map (AV.int .i64)))(h34:C7 fr 34=.int .i64 l.length)(h35:C7 fr 35=.int .i64 0) :
  L9 (lp (A8 (Ax Q) (C2 Z3) U7) (fr,h)) λe G6 h'=>Kp U7.wr fr G6/\(e=.exit 1/\(∃j6 v,h'.boxes=[b0,b1,b2,[k0,g0,v]]/\Oz 4 (G8 j6) v h'/\FX own ps l=some j6)\/e=.ret/\(∃b3,h'.boxes=[b0,b1,b2,b3])/\C7 G6 7=.bool false/\FX own ps l=none):=by
 refine W6 rfl fr (λn fr h'=>∃(i:Nat),i+n=l.length/\C7 fr 35=.int .i64 (i:Nat)/\(∃j6 v,h'.boxes=[b0,b1,b2,[k0,g0,v]]/\Oz 4 (G8 j6) v h'/\j6.length=i/\FX own ps l=(FX own ps (l.drop i)).map (j6++·))) ?_ l.length h ⟨0,by omega,h35,⟨[],_,hB,Qy 4 _,rfl,by simp⟩⟩;rintro J Φ hJ hΦ n Kr H1 K ⟨i,hi,k35,hr⟩;have L1:=K.1.trans hl;have k1:=S6 K 1 h1;have k6:=S6 K 6 h6;have k8:=S6 K 8 h8;have k9:=S6 K 9 h9;have k33:=S6 K 33 h33;have k34:=S6 K 34 h34;clear K;by_cases G9:i<l.length
 .have AT:=AQ i (by omega);obtain⟨j6,v,hb,hg,ha,hr⟩:=hr;obtain⟨bx,fams⟩:=H1;simp only at hb;subst hb;have hx:=l9 (f:=AV.int .i64) (zf1z G9);have hd0:=hl0 l[i] (List.getElem_mem G9);rw[List.drop_eq_getElem_cons G9]at hr;generalize l[i]=d at *
  subst hb2;have hwd:IntKind.i64.wrap (d-2)=d-2:=EX (by omega) (by omega);have app:∀t:Tm,∃v' F',R7 (C2 Z3) ⟨[b0,b1,[.int .i64 0,.int .i64 0,.vs true 0 []],[k0,g0,v]],fams⟩ 4 56 v (sl (true,true) 4 [U6 t])=some (v',⟨[b0,b1,[.int .i64 0,.int .i64 0,.vs true 0 []],[k0,g0,v]],F'⟩)/\v'.isTup=false/\v'.cells=[v']/\∀B,Oz 4 (G8 (j6++[t])) v' ⟨B,F'⟩:=by
   intro t;obtain⟨v',⟨B',F'⟩,hap,Kw,hB'⟩:=Ni (c:=C2 Z3) (bytes:=56) (x:=U6 t) hg rfl (true,true) (by rw[AP];omega) (by rw[AP];omega);simp only at hB';subst hB';have hmv:G8 j6++[U6 t]=G8 (j6++[t]):=by rw[m8,m8];simp
   rw[hmv]at Kw;obtain⟨q1,q2,q3⟩:=GC Kw;exact⟨v',F',hap,q1,q2,λB=>RZ Kw rfl⟩
  obtain⟨g1,g2,g3⟩:=GC hg;have hk0c:=hk0.1;by_cases c1:d<2
  .by_cases c2:own=[]
   .have he:FX own ps l=none:=by rw[hr];simp[FX,c1,c2]
    subst c2;simp[U7,L1,k1,k6,k8,k9,k33,k34,k35,G9,AT,hx,c1,B6,C9];exact hΦ _ _ _ (.inr ⟨rfl,⟨_,rfl⟩,by simp[L1],he⟩)
   .have hol:own.length=2:=ho.resolve_left c2;have c3:¬(ps.length:Int)<=d-2:=by omega
    have hdn:d.toNat<own.length:=by omega
    obtain⟨o,hoo⟩:∃o,own[d.toNat]?=some o:=⟨_,zf1z hdn⟩;have hn:=Gy hoo;have he:FX own ps l=(FX own ps (l.drop (i+1))).map ((j6++[o])++·):=by
     rw[hr];simp only[FX,c2,c3,and_false,or_self,if_false,if_pos c1,hoo,zf5z];congr 1;funext x;simp
    obtain⟨v',F',hap,q1,q2,Kw⟩:=app o;have hz:(AV.vs true 0 []:AV).cells=[.vs true 0 []]:=rfl;simp[U7,L1,k1,k6,k8,k9,k33,k34,k35,G9,AT,hx,c1,hol,c3,hwd,hd0.1,hn,B2,g1,g2,g3,hap,q1,q2];exact EF hJ ⟨i+1,by omega,by simp[L1],j6++[o],v',rfl,Kw _,by simp[ha],he⟩
  .by_cases c3:(ps.length:Int)<=d-2
   .have he:FX own ps l=none:=by rw[hr];simp[FX,c3]
    simp[U7,L1,k1,k6,k8,k9,k33,k34,k35,G9,AT,hx,c1,c3,hwd,B6,C9];exact hΦ _ _ _ (.inr ⟨rfl,⟨_,rfl⟩,by simp[L1],he⟩)
   .have hdn:(d-2).toNat<ps.length:=by omega
    obtain⟨o,hoo⟩:∃o,ps[(d-2).toNat]?=some o:=⟨_,zf1z hdn⟩;have hn:=Gy hoo;have hd2:2<=d:=by omega
    have he:FX own ps l=(FX own ps (l.drop (i+1))).map ((j6++[o])++·):=by
     rw[hr];simp only[FX,c1,c3,false_and,or_self,if_false,hoo,zf5z];congr 1;funext x;simp
    obtain⟨v',F',hap,q1,q2,Kw⟩:=app o;simp[U7,L1,k1,k6,k8,k9,k33,k34,k35,G9,AT,hx,c1,c3,hwd,hd2,hn,B2,g1,g2,g3,hap,q1,q2];exact EF hJ ⟨i+1,by omega,by simp[L1],j6++[o],v',rfl,Kw _,by simp[ha],he⟩
 .obtain⟨j6,v,hb,hg,ha,hr⟩:=hr;rw[List.drop_eq_nil_of_le (by omega)]at hr;simp[U7,L1,k1,k6,k8,k9,k33,k34,k35,G9];exact hΦ _ _ _ (.inl ⟨rfl,j6,v,hb,hg,by simpa[FX]using hr⟩)
def EffV(goal:Int)(o:Option (List Tm))(r:AV):Prop :=
 match o with
 |some ts=>∃m,r=.tup [Cl ⟨2,goal,m,ts⟩,.bool true]
 |none=>∃x,r=.tup [Cl x,.bool false]
theorem wq{key:Tm}(h:Ov key=0):KD key=[]\/(KD key).length=2:=by
 unfold KD;split
 .rename_i hp;obtain⟨hk,hn⟩:=Gd.1 hp;obtain⟨h1,_,_⟩:=NK h hk;obtain⟨a,b,e⟩:=TW (.inr (.inr (.inr (.inr hn)))) h1;rw[e];exact .inr rfl
 .split
  .split
   .exact .inr rfl
   .exact .inl rfl
  .exact .inl rfl
theorem ax(p:Pyl)(mp:HH)(l:CI)(key:Tm)(hk:Ov key=0)(hl:l.length<=1000000)(hd:p.data.length<=1000000)(hd0:∀d∈p.data,0<=d/\d<=1000000) :
  ∃r,pc Q Z3 [Dp p,sl mp 4 (G8 l),U6 key]=some r/\EffV p.goal (de p l key) r:=by
 have i1:=OW key (bs [115,104,107]);have i2:=OW key (bs [115,107]);have d1:decide (key.kind=3/\key.name=bs [115,104,107])=Mx key (bs [115,104,107]):=rfl;have d2:decide (key.kind=3/\key.name=bs [115,107])=Mx key (bs [115,107]):=rfl;rw[d1]at i1;rw[d2]at i2;have ho:=wq hk;have mw:=λmo own (ho':own=[]\/own.length=2)=>qo p.dm p.data hd hd0 mo mp own l ho' hl (Dp p).cells (U6 key).cells [.int .i64 0,.int .i64 0,.vs true 0 []] rfl (.int .i64 2) (.int .i64 p.goal) ⟨rfl,rfl⟩;rw[bH,EK]at mw;have fz:∀{j6:List AV} {v:AV} {h:AH},Oz 4 j6 v h->∃m,∀B,Bo ⟨B,h.fams⟩ true v=some (sl m 4 j6):=by
  intro j6 v h hg;rcases hg with ⟨rfl,rfl⟩|⟨s9,k,rfl,hk⟩
  .exact⟨(true,false),λB=>rfl⟩
  .refine⟨(false,true),λB=>?_⟩;rw[PW];simp only[hk,zf3z];rw[if_pos ⟨trivial,by omega,by simp⟩,List.drop_zero,List.take_length]
 unfold de;have tail:∀(own:List Tm),KD key=own->∀(Ψ:AV->Prop),(∀r,EffV p.goal (FX (KD key) l p.data) r->Ψ r)->∀(e:Ex) (G6:Fr) (h':AH),G6.length=79->C7 G6 9=.ptr 3 0->C7 G6 6=.ptr 2 0 ->
   (e=.exit 1/\(∃j6 v,h'.boxes=[[.str p.tag,sl p.pm 1 (p.parts.map (AV.int .i64)),.int .i64 p.goal,sl p.dm 1 (p.data.map (AV.int .i64))],[.int .i64 key.kind,.str key.name,.int .i64 key.sort,sl key.cm 4 (G8 key.kids)],[.int .i64 0,.int .i64 0,.vs true 0 []],[.int .i64 2,.int .i64 p.goal,v]]/\Oz 4 (G8 j6) v h'/\FX own l p.data=some j6)) ->
   L9 (A8 (Ax Q) (C2 Z3) (.seq (rG [A 78 3 9,oW 3 6 78,C 7 (.bool true)]) .ret) (G6,h')) (Wp [RRes.cell 6 true 3,RRes.tmp 7] Ψ):=by
  rintro own hw Ψ hΨ e G6 h' hl' k9 k6 ⟨rfl,j6,v,hb,hg,he⟩;obtain⟨bx,fams⟩:=h';simp only at hb;subst hb;obtain⟨g1,g2,g3⟩:=GC hg;obtain⟨m,hm⟩:=fz hg;simp only at hm;rw[hw,he]at hΨ;simp[hl',k9,k6,hm];exact hΨ _ ⟨m,rfl⟩
 cases c1:Mx key (bs [115,104,107])with
 |true =>
  have hw:KD key=key.kids:=by unfold KD;rw[if_pos c1]
  have ho':=ho;rw[hw]at ho';rw[c1]at i1;refine peQ3 V5 λΨ hΨ fr hl h0 h1 h2=>?_;simp[V5]at hl h0 h1 h2;simp[V5,hl,h0,h1,h2,i1,B6,C9];refine L9.mono (mw key.cm key.kids ho' _ _ ?_ ?_ ?_ ?_ ?_ ?_ ?_ ?_ ?_) ?_<;>first|(simp[hl,h0,h1,h2];done)|skip
  rintro e G6 h' ⟨K,hq⟩;have hl':G6.length=79:=K.1.trans (by simp[hl]);have k9:C7 G6 9=.ptr 3 0:=S6 K 9 (by simp[hl]);have k6:C7 G6 6=.ptr 2 0:=S6 K 6 (by simp[hl]);rcases hq with ⟨rfl,hq⟩|⟨rfl,⟨b3,hb⟩,h7,he⟩
  .have:=tail _ hw Ψ hΨ _ G6 h' hl' k9 k6 ⟨rfl,hq⟩;simpa using this
  .rw[hw,he]at hΨ;simp[hl',k6,hb,h7];exact hΨ _ ⟨⟨0,0,(true,false),[]⟩,rfl⟩
 |false =>
  rw[c1]at i1;cases c2:Mx key (bs [115,107])with
  |true =>
   obtain⟨hk3,hkn⟩:=Gd.1 c2;obtain⟨f1,_,_⟩:=NK hk hk3;obtain⟨a,ea⟩:=Xf (.inr (.inr hkn)) f1;have hw:KD key=[a,a]:=by unfold KD;rw[if_neg (by rw[c1];simp),if_pos c2,ea]
   have n0:MB (G8 key.kids) 0=some (U6 a):=by rw[ea];rfl
   rw[c2]at i2;have hsl:sl (true,true) 4 (G8 [a,a])=sl (true,true) 4 [U6 a,U6 a]:=rfl;refine peQ3 V5 λΨ hΨ fr hl h0 h1 h2=>?_;simp[V5]at hl h0 h1 h2;simp[V5,hl,h0,h1,h2,i1,i2,n0,B6,C9,B2];refine L9.mono (mw (true,true) [a,a] (.inr rfl) _ _ ?_ ?_ ?_ ?_ ?_ ?_ ?_ ?_ ?_) ?_<;>first|(simp[hl,h0,h1,h2,hsl];done)|skip
   rintro e G6 h' ⟨K,hq⟩;have hl':G6.length=79:=K.1.trans (by simp[hl]);have k9:C7 G6 9=.ptr 3 0:=S6 K 9 (by simp[hl]);have k6:C7 G6 6=.ptr 2 0:=S6 K 6 (by simp[hl]);rcases hq with ⟨rfl,hq⟩|⟨rfl,⟨b3,hb⟩,h7,he⟩
   .have:=tail _ hw Ψ hΨ _ G6 h' hl' k9 k6 ⟨rfl,hq⟩;simpa using this
   .rw[hw,he]at hΨ;simp[hl',k6,hb,h7];exact hΨ _ ⟨⟨0,0,(true,false),[]⟩,rfl⟩
  |false =>
   have hw:KD key=[]:=by unfold KD;rw[if_neg (by rw[c1];simp),if_neg (by rw[c2];simp)]
   rw[c2]at i2;have hsl:sl (true,false) 4 (G8 [])=.vs true 0 []:=rfl;refine peQ3 V5 λΨ hΨ fr hl h0 h1 h2=>?_;simp[V5]at hl h0 h1 h2;simp[V5,hl,h0,h1,h2,i1,i2,B6,C9];refine L9.mono (mw (true,false) [] (.inl rfl) _ _ ?_ ?_ ?_ ?_ ?_ ?_ ?_ ?_ ?_) ?_<;>first|(simp[hl,h0,h1,h2,hsl];done)|skip
   rintro e G6 h' ⟨K,hq⟩;have hl':G6.length=79:=K.1.trans (by simp[hl]);have k9:C7 G6 9=.ptr 3 0:=S6 K 9 (by simp[hl]);have k6:C7 G6 6=.ptr 2 0:=S6 K 6 (by simp[hl]);rcases hq with ⟨rfl,hq⟩|⟨rfl,⟨b3,hb⟩,h7,he⟩
   .have:=tail _ hw Ψ hΨ _ G6 h' hl' k9 k6 ⟨rfl,hq⟩;simpa using this
   .rw[hw,he]at hΨ;simp[hl',k6,hb,h7];exact hΨ _ ⟨⟨0,0,(true,false),[]⟩,rfl⟩
theorem Dc{f:FuncId}{rf:RFunc}{args:I7}{h:AH}{Φ:AV->AH->Prop}(hc:Q5 f=some rf)(hl:args.length<=rf.ntmps)
  (H:∀fr:Fr,fr.length=rf.ntmps->(∀i,C7 fr i=args.getD i B4)->L9 (A8 (Ax Qf) (C2 f) rf.body (fr,h)) (kE rf.results Φ)) (hrst:(C2 f).rst=false:=by rfl):∃v h',rc Qf f args h=some (v,h')/\Φ v h' :=
 jC (C:=Qf) hc hl (λfr h1 h2=>H fr h1 h2) hrst
structure Jdg where
 rule:Int
 role:Int
 blk:Int
 bad:Int
 am:Bool×Bool
 args:List Int
 t:Tm
 u:Typ
 f:Fa
def Fz(j:Jdg):List AV:=[.int .i64 j.rule,.int .i64 j.role,.int .i64 j.blk,.int .i64 j.bad,sl j.am 1 (j.args.map (AV.int .i64)),.int .i64 j.t.kind,.str j.t.name,.int .i64 j.t.sort,sl j.t.cm 4 (G8 j.t.kids),.int .i64 j.u.kind,sl j.u.m 4 (j.u.ps.map Dp),.int .i64 j.f.kind,.int .i64 j.f.goal,sl j.f.fm 4 (G8 j.f.terms)]
def Mc(j:Jdg):AV:=.agg (Fz j)
@[simp]theorem jd_cells(j:Jdg):(Mc j).cells=Fz j:=rfl
def zI:Tm:=.mk 0 (bs []) 0 (true,false) []
def Kv:Fa:=⟨0,0,(true,false),[]⟩
structure PA where
 p:Nat
 bm:Nat
 k1:Nat
 k2:Nat
 role:Int
 blk:Int
 bad:Int
structure PD where
 tv:AV
 ev:AV
 lv:AV
 tys:List Tyd
 efs:List Fa
 ti:List Int
 ei:List Int
 l:List Jdg
 kn:List (ByteArray×Int)
def J8(A:PA)(tv ev lv:AV)(n1 n2:Nat):List AV:=[tv,ev,.sl A.k1 n1 0 n1,.sl A.k2 n2 0 n2,lv,pI 0,.int .i64 A.role,.int .i64 A.blk,.int .i64 A.bad,.vs true 0 [],pI 0,.str (bs []),pI 0,.vs true 0 [],pI 0,.vs true 0 [],pI 0,pI 0,.vs true 0 [],.mp A.bm]
structure PrH (A:PA) (D:PD) (h:AH):Prop where
 bp:h.boxes[A.p]?=some (J8 A D.tv D.ev D.lv D.tys.length D.efs.length)
 bm:h.boxes[A.bm]?=some [.mbox (D.kn.map λx=>.str x.1) (D.kn.map λx=>.int .i64 x.2)]
 ne:A.p≠A.bm
 f1:D.ti≠[]->h.fams[A.k1]?=some ⟨D.ti.map (AV.int .i64),1,true⟩
 f2:D.ei≠[]->h.fams[A.k2]?=some ⟨D.ei.map (AV.int .i64),1,true⟩
 nk:A.k1≠A.k2
 tl:D.ti.length=D.tys.length
 el:D.ei.length=D.efs.length
 lt:He false 6 (D.tys.map p9) D.tv h
 le:He false 3 (D.efs.map Cl) D.ev h
 ll:He false 14 (D.l.map Mc) D.lv h
 at':Bg D.lv D.tv
 ae:Bg D.lv D.ev
structure Frm (A:PA) (lv:AV) (h:AH) (lv':AV) (h':AH):Prop where
 bl:h.boxes.length<=h'.boxes.length
 bx:∀j,j≠A.p->j≠A.bm->j<h.boxes.length->h'.boxes[j]?=h.boxes[j]?
 fr:∀(s:Nat) (ws:List AV) (w:AV),He false s ws w h->Bg lv w->He false s ws w h'/\Bg lv' w
theorem Frm.trans{A:PA}{a b c:AV}{h h1 h2:AH}(x:Frm A a h b h1)(y:Frm A b h1 c h2):Frm A a h c h2 :=
 ⟨Nat.le_trans x.bl y.bl,λj p q l=>(y.bx j p q (Nat.lt_of_lt_of_le l x.bl)).trans (x.bx j p q l),λs ws w hw ha=>by
  obtain⟨k1,k2⟩:=x.fr s ws w hw ha;exact y.fr s ws w k1 k2⟩
theorem Frm.more(A:PA)(lv:AV)(B X:List (List AV))(F:List Fam):Frm A lv ⟨B,F⟩ lv ⟨B++X,F⟩ :=
 ⟨by simp,λj _ _ hj=>zf0z hj,λs ws w hw ha=>⟨DD hw rfl,ha⟩⟩
theorem PrH.more{A:PA}{D:PD}{B:List (List AV)}{F:List Fam}(H:PrH A D ⟨B,F⟩)(X:List (List AV)):PrH A D ⟨B++X,F⟩ :=
 ⟨(zf0z (J4 H.bp)).trans H.bp,(zf0z (J4 H.bm)).trans H.bm,H.ne,H.f1,H.f2,H.nk,H.tl,H.el,DD H.lt rfl,DD H.le rfl,DD H.ll rfl,H.at',H.ae⟩
def PD.add(D:PD)(lv:AV)(j:Jdg):PD:={D with lv:=lv,l:=D.l++[j]}
@[simp]theorem Dx(a b:AV)(l:I7):u6 (a::b::l)=false:=by
 unfold u6;split<;>first|rfl|(rename_i h;cases h)
theorem gN{s:Nat}{xs:I7}{v:AV}{h:AH}(H:He false s xs v h){k s':Nat}{ys:I7}(hk:h.fams[k]?=some ⟨ys,s',true⟩)(n o l:Nat):Bg v (.sl k n o l):=λj n1 o1 l1 n2 o2 l2 e e'=>by
 rcases H with ⟨b,rfl⟩|⟨_,q,rfl,hq⟩
 .cases e
 .cases e;cases e';rw[hq]at hk;cases hk
theorem PrH.put{A:PA}{D:PD}{bx:List (List AV)}{F:List Fam}(H:PrH A D ⟨bx,F⟩)(X:List (List AV)){lv:AV}{F':List Fam}(j:Jdg)(hl':∀BB,He false 14 (D.l.map Mc++[Mc j]) lv ⟨BB,F'⟩)
  (hfr:∀(wr:Bool) (s:Nat) (ws:List AV) (w:AV),He wr s ws w ⟨bx,F⟩->Bg D.lv w->(∀BB,He wr s ws w ⟨BB,F'⟩)/\Bg lv w) :
  PrH A (D.add lv j) ⟨(bx++X).set A.p (J8 A D.tv D.ev lv D.tys.length D.efs.length),F'⟩/\Frm A D.lv ⟨bx,F⟩ lv ⟨(bx++X).set A.p (J8 A D.tv D.ev lv D.tys.length D.efs.length),F'⟩:=by
 have lp:=J4 H.bp;have lm:=J4 H.bm;simp only at lp lm;have row:∀{k:Nat} {is:List Int},is≠[]->F[k]?=some ⟨is.map (AV.int .i64),1,true⟩->F'[k]?=some ⟨is.map (AV.int .i64),1,true⟩:=λ{k is} s9 hk=>by
  have hL:He true 1 (is.map (AV.int .i64)) (.sl k (is.map (AV.int .i64)).length 0 (is.map (AV.int .i64)).length) ⟨bx,F⟩:=.inr ⟨by simpa using s9,k,rfl,hk⟩;obtain⟨h1,_⟩:=hfr _ _ _ _ hL (gN H.ll hk _ _ _);rcases h1 []with ⟨b,e⟩|⟨_,q,e,h2⟩
  .cases e
  .cases e;exact h2
 obtain⟨t1,t2⟩:=hfr _ _ _ _ H.lt H.at';obtain⟨e1,e2⟩:=hfr _ _ _ _ H.le H.ae;refine⟨⟨zf2z (by simp;omega),?_,H.ne,λh=>row h (H.f1 h),λh=>row h (H.f2 h),H.nk,H.tl,H.el,t1 _,e1 _,?_,t2,e2⟩,⟨by simp,λj hj _ hjl=>?_,λs ws w hw ha=>?_⟩⟩
 .simp only;rw[zf6z H.ne,zf0z lm];exact H.bm
 .show He false 14 ((D.l++[j]).map Mc) lv _;rw[List.map_append];exact hl' _
 .simp only at hjl ⊢;rw[zf6z (Ne.symm hj),zf0z hjl]
 .obtain⟨a1,a2⟩:=hfr _ _ _ _ hw ha;exact⟨a1 _,a2⟩
set_option maxHeartbeats 2000000 in
theorem Ig(A:PA)(D:PD)(h:AH)(H:PrH A D h)(rule:Int)(t:Tm)(u:Typ)(av:AV)(args:List Int)(ha:He false 1 (args.map (AV.int .i64)) av h)(hap:Bg D.lv av)(hl:D.l.length<=1000000000) :
  ∃m:Bool×Bool,∃v h',rc Qf G4 [.ptr A.p 0,.int .i64 rule,U6 t,HG u,av] h=some (v,h')/\v=.int .i64 (D.l.length:Nat)/\∃lv,PrH A (D.add lv ⟨rule,A.role,A.blk,A.bad,m,args,t,u,Kv⟩) h'/\Frm A D.lv h lv h':=by
 obtain⟨bx,F⟩:=h;have hP:=H.bp;simp only[J8]at hP;have lp:=J4 hP;have u1:∀X,(bx++X)[A.p]?=_:=λX=>(zf0z lp).trans hP;obtain⟨m,hz⟩:=Ga ha;refine⟨m,?_⟩;refine Dc KG (by simp[s8]) λfr hl ha=>?_;have h0:=ha 0;have h1:=ha 1;have h2:=ha 2;have h3:=ha 3;have h4:=ha 4;clear ha;simp[s8]at hl h0 h1 h2 h3 h4;obtain⟨c1,c2,c3,-⟩:=i8 ha;have z1:=λB=>(hz B true rfl).1;have z2:=λB=>(hz B true rfl).2;have z3:=λB=>(hz B false rfl).1;have z4:=λB=>(hz B false rfl).2;simp only at z1 z2 z3 z4;obtain⟨lv',F',hap',hl',hfr⟩:=Lt (c:=C2 G4) (bytes:=184) (x:=sl (true,true) 14 [Mc ⟨rule,A.role,A.blk,A.bad,m,args,t,u,Kv⟩]) (ys:=[Mc ⟨rule,A.role,A.blk,A.bad,m,args,t,u,Kv⟩]) H.ll (EH _ _ _ _) (by simp[P7,maxLen];omega);simp only at hap';obtain⟨d1,d2,d3,-⟩:=i8 (hl' []);have Ev:Mc ⟨rule,A.role,A.blk,A.bad,m,args,t,u,Kv⟩=.agg [.int .i64 rule,.int .i64 A.role,.int .i64 A.blk,.int .i64 A.bad,sl m 1 (args.map (AV.int .i64)),.int .i64 t.kind,.str t.name,.int .i64 t.sort,sl t.cm 4 (G8 t.kids),.int .i64 u.kind,sl u.m 4 (u.ps.map Dp),.int .i64 0,.int .i64 0,sl (true,false) 1 []]:=rfl;rw[Ev]at hap';have u2:∀X Y,((bx++X).set A.p Y)[A.p]?=some Y:=λX Y=>zf2z (by simp;omega);have J3:=Ls (hl' []);rw[zf7z,zg1z,zf4z]at J3;have hw:IntKind.i64.wrap ((D.l.length:Nat):Int)=(D.l.length:Nat):=EX (by omega) (by omega);simp[s8,hl,h0,h1,h2,h3,h4,u1];refine M3 (λk=>bx.length+k) (λ_=>True) [.nil,.nil,.rb 0,.rb 1,.nil,.sb 2,.nil,.sb 2,.nil,.sb 2,.nil,.sb 2] 0 (λa b e=>by omega) rfl (by decide) ?_;simp[s8,hl,h0,h1,h2,h3,h4,u1,u2,c1,c2,c3,B6,C9,B2,z1,z2,z3,z4,hap',d1,d2,d3,J3,hw];exact⟨lv',H.put _ _ hl' hfr⟩
end Go.Abs.Q
namespace Go.Abs.Q
open Go.Proofs
attribute [local simp] J0 J5 fin M6 M0 Y2 b8
set_option maxHeartbeats 2000000 in
theorem bY(A:PA)(D:PD)(h:AH)(H:PrH A D h)(rule:Int)(f:Fa)(av:AV)(args:List Int)(ha:He false 1 (args.map (AV.int .i64)) av h)(hap:Bg D.lv av)(hl:D.l.length<=1000000000) :
  ∃m:Bool×Bool,∃v h',rc Qf O0 [.ptr A.p 0,.int .i64 rule,Cl f,av] h=some (v,h')/\v=.int .i64 (D.l.length:Nat)/\∃lv,PrH A (D.add lv ⟨rule,A.role,A.blk,A.bad,m,args,zI,w6 0,f⟩) h'/\Frm A D.lv h lv h':=by
 obtain⟨bx,F⟩:=h;have hP:=H.bp;simp only[J8]at hP;have lp:=J4 hP;have u1:∀X,(bx++X)[A.p]?=_:=λX=>(zf0z lp).trans hP;obtain⟨m,hz⟩:=Ga ha;refine⟨m,?_⟩;refine Dc Ii (by simp[b5]) λfr hl ha=>?_;have h0:=ha 0;have h1:=ha 1;have h2:=ha 2;have h3:=ha 3;clear ha;simp[b5]at hl h0 h1 h2 h3;obtain⟨c1,c2,c3,-⟩:=i8 ha;have z1:=λB=>(hz B true rfl).1;have z2:=λB=>(hz B true rfl).2;have z3:=λB=>(hz B false rfl).1;have z4:=λB=>(hz B false rfl).2;simp only at z1 z2 z3 z4;obtain⟨lv',F',hap',hl',hfr⟩:=Lt (c:=C2 O0) (bytes:=184) (x:=sl (true,true) 14 [Mc ⟨rule,A.role,A.blk,A.bad,m,args,zI,w6 0,f⟩]) (ys:=[Mc ⟨rule,A.role,A.blk,A.bad,m,args,zI,w6 0,f⟩]) H.ll (EH _ _ _ _) (by simp[P7,maxLen];omega);simp only at hap';obtain⟨d1,d2,d3,-⟩:=i8 (hl' []);have Ev:Mc ⟨rule,A.role,A.blk,A.bad,m,args,zI,w6 0,f⟩=.agg [.int .i64 rule,.int .i64 A.role,.int .i64 A.blk,.int .i64 A.bad,sl m 1 (args.map (AV.int .i64)),.int .i64 0,.str (bs []),.int .i64 0,sl (true,false) 1 [],.int .i64 0,sl (true,false) 1 [],.int .i64 f.kind,.int .i64 f.goal,sl f.fm 4 (G8 f.terms)]:=rfl;rw[Ev]at hap';have u2:∀X Y,((bx++X).set A.p Y)[A.p]?=some Y:=λX Y=>zf2z (by simp;omega);have J3:=Ls (hl' []);rw[zf7z,zg1z,zf4z]at J3;have hw:IntKind.i64.wrap ((D.l.length:Nat):Int)=(D.l.length:Nat):=EX (by omega) (by omega);simp[b5,hl,h0,h1,h2,h3,u1];refine M3 (λk=>bx.length+k) (λ_=>True) [.nil,.nil,.rb 0,.nil,.sb 1,.nil,.sb 1,.nil,.sb 1] 0 (λa b e=>by omega) rfl (by decide) ?_;simp[b5,hl,h0,h1,h2,h3,u1,u2,c1,c2,c3,B6,C9,B2,z1,z2,z3,z4,hap',d1,d2,d3,J3,hw];exact⟨lv',H.put _ _ hl' hfr⟩
end Go.Abs.Q
