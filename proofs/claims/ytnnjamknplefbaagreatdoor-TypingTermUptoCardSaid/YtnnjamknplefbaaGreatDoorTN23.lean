/- A part of the proof. -/
import Derived.Test.YtnnjamknplefbaaGreatDoorTN22
set_option linter.all false
open List renaming getElem?_append_left->zf0z,getElem?_set_self->zf1z,getElem?_eq_getElem->zf2z,getElem?_eq_some_iff->zf3z,getElem?_set_ne->zf4z,length_map->zf5z,getElem?_map->zf6z,length_singleton->zf8z,length_append->zg0z,map_set->zg1z,length_set->zg5z
open Option renaming bind_some->zf7z,map_map->zf9z,bind_none->zg4z
open Nat renaming add_sub_cancel->zg2z,le_refl->zg6z
open Bool renaming and_eq_true->zg3z
set_option linter.all false
namespace Go.Abs.Q
open Go.Proofs
attribute [local simp] E5 E6 fin J4 H8 Q3 S6
theorem xi{l:Be}(h:TQ l=0):∀x∈l,RE x=0:=by
 induction l with
 |nil=>intro x hx;cases hx
 |cons a l ih =>
  rw[Xg]at h;intro x hx;by_cases ha:RE a=0
  .rw[if_neg (by simpa using ha)]at h;rcases List.mem_cons.1 hx with rfl|hx
   .exact ha
   .exact ih h x hx
  .rw[if_pos ha]at h;exact absurd h ha
theorem MJ{t:Tm}(h:RE t=0)(hk:t.kind=3):PM t.name t.kids.length=true/\nI t.name t.kids=0/\∀x∈t.kids,RE x=0:=by
 obtain⟨k,nm,s,m,l⟩:=t;rw[uN (show k=3 from hk)]at h;split at h
 .cases h
 .split at h
  .cases h
  .rename_i h2;split at h
   .rename_i h3;exact absurd h h3
   .rename_i h3;refine⟨?_,by simpa[Tm.name,Tm.kids]using h3,xi h⟩;show PM nm (l.length:Int)=true;cases hq:PM nm (l.length:Int)with
    |true=>rfl
    |false=>exact absurd hq h2
theorem RG{l:Be}{nm:Al}(hn:nm=bs [112,97,105,114]\/nm=bs [101,110,99]\/nm=bs [97,101,110,99]\/nm=bs [115,105,103,110]\/nm=bs [115,104,107])(h:PM nm l.length=true):∃a b,l=[a,b]:=by
 have:l.length=2:=by
  rcases hn with rfl|rfl|rfl|rfl|rfl
  all_goals
   simp only[PM,zg3z,decide_eq_true_eq]at h;have h1:=h.1;have h2:=h.2;revert h1 h2;show (2:Int)<=_->_<=(2:Int)->_;intro h1 h2;omega
 match l,this with
 | [a,b],_=>exact⟨a,b,rfl⟩
theorem SP{l:Be}{nm:Al}(hn:nm=bs [112,107]\/nm=bs [104,97,115,104]\/nm=bs [115,107])(h:PM nm l.length=true):∃a,l=[a]:=by
 have:l.length=1:=by
  rcases hn with rfl|rfl|rfl
  all_goals
   simp only[PM,zg3z,decide_eq_true_eq]at h;have h1:=h.1;have h2:=h.2;revert h1 h2;show (1:Int)<=_->_<=(1:Int)->_;intro h1 h2;omega
 match l,this with
 | [a],_=>exact⟨a,rfl⟩
def OI(t:Tm)(nm:ByteArray):Bool:=decide (t.kind=3/\t.name=nm)
theorem Dq{t:Tm}{nm:Al}:OI t nm=true↔t.kind=3/\t.name=nm:=by simp[OI]
theorem Kq{t:Tm}(h:RE t=0)(hp:OI t (bs [112,97,105,114])=true):∃a b,t.kids=[a,b]/\RE a=0/\RE b=0:=by
 obtain⟨hk,hn⟩:=Dq.1 hp;obtain⟨h1,_,h2⟩:=MJ h hk;obtain⟨a,b,e⟩:=RG (.inl hn) h1;exact⟨a,b,e,h2 a g_,h2 b g_⟩
def Mz(q:Tm):Option ByteArray :=
 if OI q (bs [112,97,105,114])=true then (match q.kids with|a::_=>if a.kind=2/\a.sort=5 then some a.name else none | []=>none)else none
def WZ(o:Option ByteArray):AV:=match o with|some s=>.tup [.str s,.bool true]|none=>.tup [.str (bs []),.bool false]
theorem pc_tag(q:Tm)(hq:RE q=0):pc Q Mv [I8 q]=some (WZ (Mz q)):=by
 have hI:=WI q (bs [112,97,105,114]);have hd:decide (q.kind=3/\q.name=bs [112,97,105,114])=OI q (bs [112,97,105,114]):=rfl;rw[hd]at hI;unfold Mz;cases hp:OI q (bs [112,97,105,114])with
 |false =>
  rw[hp]at hI;rw[if_neg e_];unfold WZ;refine J0 z7 λfr hl h0=>?_;simp[z7]at hl h0;simp[z7,hl,h0,hI]
 |true =>
  rw[hp]at hI;obtain⟨a,b,e,-,-⟩:=Kq hq hp;have hn:KW (C4 q.kids) 0=some (I8 a):=by rw[e];rfl
  rw[if_pos rfl,e];simp only;have hac:=I7 a;by_cases c1:a.kind=2
  .by_cases c2:a.sort=5
   .rw[if_pos ⟨c1,c2⟩];unfold WZ;refine J0 z7 λfr hl h0=>?_;simp[z7]at hl h0;simp[z7,hl,h0,hI,hn,hac,c1,c2]
   .rw[if_neg (by intro h;exact c2 h.2)];unfold WZ;refine J0 z7 λfr hl h0=>?_;simp[z7]at hl h0;simp[z7,hl,h0,hI,hn,hac,c1,c2]
  .rw[if_neg (by intro h;exact c1 h.1)];unfold WZ;refine J0 z7 λfr hl h0=>?_;simp[z7]at hl h0;simp[z7,hl,h0,hI,hn,hac,c1]
theorem gP{α:Type}(p:α->Bool)(l:List α):(idx p l=-1/\l.find? p=none)\/∃(i:Nat) (a:α),idx p l=(i:Int)/\l[i]?=some a/\l.find? p=some a:=by
 have key:∀(l:List α) (k:Nat),(EX p k l=-1/\l.find? p=none)\/∃(i:Nat) (a:α),EX p k l=((k+i:Nat):Int)/\l[i]?=some a/\l.find? p=some a:=by
  intro l
  induction l with
  |nil=>exact λk=>.inl ⟨rfl,rfl⟩
  |cons a l ih =>
   intro k;by_cases ha:p a=true
   .exact .inr ⟨0,a,by simp[EX,ha],rfl,by simp[ha]⟩
   .have ha':p a=false:=by simpa using ha
    rcases ih (k+1)with ⟨h1,h2⟩|⟨i,b,h1,h2,h3⟩
    .exact .inl ⟨by simp[EX,ha',h1],by simp[ha',h2]⟩
    .exact .inr ⟨i+1,b,by simp only[EX,ha'];rw[if_neg e_,h1];congr 1;omega,by simpa using h2,by simp[ha',h3]⟩
 rcases key l 0 with h|⟨i,a,h1,h2,h3⟩
 .exact .inl h
 .exact .inr ⟨i,a,by simpa[idx]using h1,h2,h3⟩
def VQ(t:Typ)(nm:ByteArray):Option Pyl:=t.ps.find? λp=>decide (p.tag=nm)
def zPy:Pyl:=⟨bs [],(true,false),[],0,(true,false),[]⟩
def TZ(o:Option Pyl):AV:=match o with|some p=>.tup [Bc p,.bool true]|none=>.tup [Bc zPy,.bool false]
theorem A04(p:Pyl)(nm:Al):pc Q GA [Bc p,.pv [.str nm]]=some (.bool (decide (p.tag=nm))):=by
 refine j5 MQ λfr hl h0 h1=>?_;simp[MQ]at hl h0 h1;simp[MQ,hl,h0,h1,h1]
theorem pc_find(t:Typ)(nm:Al)(hl:t.ps.length<=1000000):pc Q GW [Hn t,.str nm]=some (TZ (VQ t nm)):=by
 have hI:=aZ Bc 4 (λp=>decide (p.tag=nm)) T2 GA [.pv [.str nm]] rfl t.m t.ps a_ (λa _=>A04 a nm) MH rfl td rfl;have hz:AV.agg [.str (bs []),sl (true,false) 1 [],.int .i64 0,sl (true,false) 1 []]=Bc zPy:=rfl;rcases gP (λp:Pyl=>decide (p.tag=nm)) t.ps with ⟨h1,h2⟩|⟨i,a,h1,h2,h3⟩
 .have hf:VQ t nm=none:=h2;rw[hf];rw[h1]at hI;clear h1;unfold TZ;refine j5 Gf λfr hl h0 h1=>?_;simp[Gf]at hl h0 h1;simp[Gf,hl,h0,h1,hI,Aw,B5,C0,hz,show ∀s,(AV.str s).flat=true from λ_=>rfl]
 .have hf:VQ t nm=some a:=h3;rw[hf];rw[h1]at hI;clear h1;have hx:=J5 (f:=Bc) h2;unfold TZ;refine j5 Gf λfr hl h0 h1=>?_;simp[Gf]at hl h0 h1;simp[Gf,hl,h0,h1,hI,Aw,B5,C0,hx,show ∀s,(AV.str s).flat=true from λ_=>rfl]
def Pp:Nat->Tm->Option (List Tm)
 |0,t=>some [t]
 |k+1,t=>if OI t (bs [112,97,105,114])=true then (match t.kids with | [a,b]=>(Pp k b).map (a::·)|_=>none)else none
def dvV(m:Bool×Bool)(o:Option (List Tm)):AV:=match o with|some l=>.tup [sl m 4 (C4 l),.bool true]|none=>.tup [.vs true 0 [],.bool false]
theorem ki(n:Nat)(hn:n<=1000000)(t:Tm)(ht:RE t=0)(fr:Fr)(h:AH)(hh:h.boxes=[(I8 t).cells])(hl:fr.length=30)(h2:B2 fr 2=.ptr 0 0)(h8:B2 fr 8=.int .i64 ((n:Nat):Int))(h9:B2 fr 9=.int .i64 0)(h6:B2 fr 6=.vs true 0 []) :
  D7 (lp (A8 (m6 Q) (B1 w8) Ah) (fr,h)) λe B8 h'=>Kp Ah.wr fr B8 /\
   (e=.exit 0/\(∃Y7 u,h'.boxes=[(I8 u).cells]/\Y7.length<=n/\TU 4 (C4 Y7) (B2 B8 6) h'/\Pp n t=some (Y7++[u]))\/e=.ret/\B2 B8 4=.vs true 0 []/\B2 B8 5=.bool false/\Pp n t=none):=by
 refine E9 rfl fr (λk B8 h'=>∃(i:Nat) (Y7:List Tm) (u:Tm),i+k=n/\B2 B8 9=.int .i64 (i:Nat)/\h'.boxes=[(I8 u).cells]/\RE u=0/\Y7.length=i/\TU 4 (C4 Y7) (B2 B8 6) h'/\Pp n t=(Pp k u).map (Y7++·)) ?_ n h ⟨0,[],t,a_,h9,hh,ht,rfl,by rw[h6];exact VA 4 h,e_⟩;rintro J Φ hJ hΦ k CT H1 K ⟨i,Y7,u,hi,k9,hb,hu,ha,hg,hd⟩;have C6:=K.1.trans hl;have k2:=D4 K 2 h2;have k8:=D4 K 8 h8;clear K;by_cases C2:i<n
 .have Hx:(i:Int)<(n:Int):=by omega
  have L4:=J6 i a_;have hI:=WI u (bs [112,97,105,114]);have hdd:decide (u.kind=3/\u.name=bs [112,97,105,114])=OI u (bs [112,97,105,114]):=rfl;rw[hdd]at hI;obtain⟨k,rfl⟩:∃k',k=k'+1:=⟨k-1,a_⟩;obtain⟨bx,fams⟩:=H1;simp only at hb;subst hb;cases hp:OI u (bs [112,97,105,114])with
  |false =>
   rw[hp]at hI;have hd':Pp n t=none:=by rw[hd];simp[Pp,hp]
   simp[Ah,C6,k2,k8,k9,C2,Hx,hI];exact hΦ _ _ _ (.inr ⟨rfl,d_,d_,hd'⟩)
  |true =>
   rw[hp]at hI;obtain⟨a,b,e,ea,eb⟩:=Kq hu hp;have n0:KW (C4 u.kids) 0=some (I8 a):=by rw[e];rfl
   have n1:KW (C4 u.kids) 1=some (I8 b):=by rw[e];rfl
   have hd':Pp n t=(Pp k b).map ((Y7++[a])++·):=by
    rw[hd];simp only[Pp,hp,if_true,e,zf9z];congr 1;funext x;simp
   obtain⟨v',⟨B',F'⟩,hap,Jj,hB'⟩:=Sr (c:=B1 w8) (bytes:=56) (x:=I8 a) hg rfl (true,true) oG oG;simp only at hB';subst hB';obtain⟨c1,c2,c3⟩:=GL hg;have hmv:C4 Y7++[I8 a]=C4 (Y7++[a]):=by rw[b5,b5];simp
   rw[hmv]at Jj;generalize hv0:B2 CT 6=v0 at *
   rw[I7]at hap;simp[Ah,C6,k2,k8,k9,C2,Hx,hI,n0,n1,L4,A9,hap,hv0];exact⟨k,a_,hJ _ _ _ ⟨i+1,Y7++[a],b,a_,d_,by rw[I7],eb,by simp[ha],by simp[C6];exact Uz Jj rfl,hd'⟩⟩
 .obtain rfl:i=n:=by omega
  obtain rfl:k=0:=by omega
  simp[Ah,C6,k8,k9];exact hΦ _ _ _ (.inl ⟨rfl,Y7,u,hb,a_,by simpa using hg,by rw[hd];rfl⟩)
theorem wu(t:Tm)(ht:RE t=0)(n:Nat)(hn:n<=1000000):∃m,pc Q w8 [I8 t,.int .i64 (n:Nat)]=some (dvV m (Pp (n-1) t)):=by
 suffices hq:∃r,pc Q w8 [I8 t,.int .i64 (n:Nat)]=some r/\∃m:Bool×Bool,r=dvV m (Pp (n-1) t) by
  obtain⟨r,h,m,rfl⟩:=hq;exact⟨m,h⟩
 have hw:IntKind.i64.wrap ((n:Int)-1)=(n:Int)-1:=Y8 a_ a_;have tail:∀(Y7:List Tm) (u:Tm) (v:AV) (F:List Fam),Y7.length<=1000000->TU 4 (C4 Y7) v ⟨[(I8 u).cells],F⟩->∃v' F',N0 (B1 w8) ⟨[(I8 u).cells],F⟩ 4 56 v (sl (true,true) 4 [I8 u])=some (v',⟨[(I8 u).cells],F'⟩)/\∃m,frz ⟨[(I8 u).cells],F'⟩ true v'=some (sl m 4 (C4 (Y7++[u]))):=by
  intro Y7 u v F ha hg;obtain⟨v',⟨B',F'⟩,hap,Jj,hB'⟩:=Sr (c:=B1 w8) (bytes:=56) (x:=I8 u) hg rfl (true,true) oG oG;simp only at hB';subst hB';have hmv:C4 Y7++[I8 u]=C4 (Y7++[u]):=by rw[b5,b5];simp
  rw[hmv]at Jj;obtain⟨m,hm⟩:=ra Jj;rw[I7]at hm ⊢;exact⟨v',F',by rw[I7]at hap;exact hap,m,hm⟩
 refine Bs JK λΨ hΨ fr hl h0 h1=>?_;simp[JK]at hl h0 h1;have hac:=I7 t;cases n with
 |zero =>
  simp only[Int.natCast_zero,Int.zero_sub]at hw h1;have hw0:IntKind.i64.wrap (-1)=-1:=hw;simp[JK,hl,h0,h1,hw0,A9,K7,maxLen];refine Bd ?_;simp[Ah,hl,h0,A9,K7,maxLen]
  trace_state
  exact hΨ _ ⟨(false,true),rfl⟩
 |succ n =>
  have hn1:((n+1:Nat):Int)-1=(n:Int):=by omega
  rw[hn1]at hw;simp[JK,hl,h0,h1,hw];refine D7.mono (ki n a_ t ht _ _ ?_ ?_ ?_ ?_ ?_ ?_) ?_<;>first|(simp[hl,h0,h1,hw];done)|skip
  rintro e B8 h' ⟨K,⟨rfl,Y7,u,hb,ha,hg,hd⟩|⟨rfl,h4,h5,hd⟩⟩
  .have hl':B8.length=30:=K.1.trans c_;have k2:B2 B8 2=.ptr 0 0:=D4 K 2 oP;obtain⟨bx,fams⟩:=h';simp only at hb;subst hb;obtain⟨v',F',t1,m,t2⟩:=tail Y7 u _ _ a_ hg;rw[I7]at t1 t2;generalize hv0:B2 B8 6=v0 at *
   rw[zg2z,hd]at hΨ;simp[hl',k2,hv0,A9,t1,t2];exact hΨ _ ⟨m,rfl⟩
  .rw[zg2z,hd]at hΨ;simp[h4,h5];exact hΨ _ ⟨(true,true),rfl⟩
def Rw(u:Typ)(q:Tm):Option (Pyl×List Tm) :=
 (Mz q).bind λnm=>(VQ u nm).bind λp=>match q.kids with | [_,b]=>(Pp (p.parts.length-1) b).map λl=>(p,l)|_=>none
def yQ(o:Option (Pyl×List Tm))(r:AV):Prop :=
 match o with
 |some (p,l)=>∃m,r=.tup [Bc p,sl m 4 (C4 l),.bool true]
 |none=>∃x m,r=.tup [Bc x,sl m 4 [],.bool false]
theorem xG(u:Typ)(q:Tm)(hu:V7 u)(hq:RE q=0):∃r,pc Q LL [Hn u,I8 q]=some r/\yQ (Rw u q) r:=by
 have hT:=pc_tag q hq;have hz:AV.agg [.str (bs []),sl (true,false) 1 [],.int .i64 0,sl (true,false) 1 []]=Bc zPy:=rfl;have hz0:AV.agg [.str (bs []),.vs true 0 [],.int .i64 0,.vs true 0 []]=Bc zPy:=rfl;unfold Rw;cases hc:Mz q with
 |none =>
  rw[hc]at hT;unfold WZ at hT;simp only[zg4z,yQ];refine Bs b8 λΨ hΨ fr hl h0 h1=>?_;simp[b8]at hl h0 h1;simp[b8,hl,h0,h1,hT,B5,C0,hz];exact hΨ _ ⟨_,(true,false),rfl⟩
 |some nm =>
  rw[hc]at hT;unfold WZ at hT;simp only[zf7z];have hp:OI q (bs [112,97,105,114])=true:=by
   unfold Mz at hc;split at hc
   .assumption
   .cases hc
  obtain⟨a,b,e,ea,eb⟩:=Kq hq hp;rw[e];simp only;have hF:=pc_find u nm hu.1;cases hf:VQ u nm with
  |none =>
   rw[hf]at hF;unfold TZ at hF;simp only[zg4z,yQ];refine Bs b8 λΨ hΨ fr hl h0 h1=>?_;simp[b8]at hl h0 h1;simp[b8,hl,h0,h1,hT,hF,B5,C0,hz];exact hΨ _ ⟨_,(true,false),rfl⟩
  |some p =>
   rw[hf]at hF;unfold TZ at hF;simp only[zf7z];have hpm:p∈u.ps:=List.mem_of_find?_eq_some hf;obtain⟨m,hD⟩:=wu b eb p.parts.length (hu.2 p hpm).2.1;have n1:KW (C4 q.kids) 1=some (I8 b):=by rw[e];rfl
   cases hd:Pp (p.parts.length-1) b with
   |none =>
    rw[hd]at hD;unfold dvV at hD;simp only[Option.map_none,yQ];refine Bs b8 λΨ hΨ fr hl h0 h1=>?_;simp[b8]at hl h0 h1;simp[b8,hl,h0,h1,hT,hF,hD,n1];exact hΨ _ ⟨_,(true,false),rfl⟩
   |some l =>
    rw[hd]at hD;unfold dvV at hD;simp only[Option.map_some,yQ];refine Bs b8 λΨ hΨ fr hl h0 h1=>?_;simp[b8]at hl h0 h1;simp[b8,hl,h0,h1,hT,hF,hD,n1];exact hΨ _ ⟨_,rfl⟩
def KX(key:Tm):List Tm:=if OI key (bs [115,104,107])=true then key.kids else if OI key (bs [115,107])=true then (match key.kids with|a::_=>[a,a] | []=>[])else []
def DA(own l:List Tm):List Int->Option (List Tm)
 | []=>some []
 |d::r=>if (d<2/\own=[])\/(l.length:Int)<=d-2 then none else
  match (if d<2 then own[d.toNat]? else l[(d-2).toNat]?)with
  |some t=>(DA own l r).map (t::·)
  |none=>none
theorem Zj(own l:Be):∀{ds:List Int} {ts:Be},DA own l ds=some ts->ts.length=ds.length
 | [],ts,h=>by cases h;rfl
 |d::r,ts,h=>by
  unfold DA at h;split at h
  .cases h
  .split at h
   .rw[Option.map_eq_some_iff]at h;obtain⟨ts',h',rfl⟩:=h;simp[Zj own l h']
   .cases h
def cd(p:Pyl)(l:List Tm)(key:Tm):Option (List Tm):=DA (KX key) l p.data
theorem A0S(md:Gg)(l:List Int)(D6:l.length<=1000000)(hl0:∀d∈l,0<=d/\d<=1000000)(mo mp:Gg)(own ps:Be)(ho:own=[]\/own.length=2)(hps:ps.length<=1000000)(b0 b1 b2:b9)(hb2:b2=[.int .i64 0,.int .i64 0,.vs true 0 []])(k0 g0:AV)(hk0:k0.cells=[k0]/\Cr ⟨[],[]⟩ true k0=some k0)(fr:Fr)(h:AH)(hB:h.boxes=[b0,b1,b2,[k0,g0,.vs true 0 []]])(hl:fr.length=79)(h1:B2 fr 1=sl mp 4 (C4 ps))(h6:B2 fr 6=.ptr 2 0)(h8:B2 fr 8=sl mo 4 (C4 own))(h9:B2 fr 9=.ptr 3 0)(h33:B2 fr 33=sl md 1 (l.map (AV.int .i64)))(h34:B2 fr 34=.int .i64 l.length)(h35:B2 fr 35=.int .i64 0) :
  D7 (lp (A8 (m6 Q) (B1 r6) W9) (fr,h)) λe B8 h'=>Kp W9.wr fr B8/\(e=.exit 1/\(∃Y7 v,h'.boxes=[b0,b1,b2,[k0,g0,v]]/\TU 4 (C4 Y7) v h'/\DA own ps l=some Y7)\/e=.ret/\(∃b3,h'.boxes=[b0,b1,b2,b3])/\B2 B8 7=.bool false/\DA own ps l=none):=by
 refine E9 rfl fr (λn fr h'=>∃(i:Nat),i+n=l.length/\B2 fr 35=.int .i64 (i:Nat)/\(∃Y7 v,h'.boxes=[b0,b1,b2,[k0,g0,v]]/\TU 4 (C4 Y7) v h'/\Y7.length=i/\DA own ps l=(DA own ps (l.drop i)).map (Y7++·))) ?_ l.length h ⟨0,a_,h35,⟨[],_,hB,VA 4 _,rfl,e_⟩⟩;rintro J Φ hJ hΦ n CT H1 K ⟨i,hi,k35,hr⟩;have C6:=K.1.trans hl;have k1:=D4 K 1 h1;have k6:=D4 K 6 h6;have k8:=D4 K 8 h8;have k9:=D4 K 9 h9;have k33:=D4 K 33 h33;have k34:=D4 K 34 h34;clear K;by_cases C2:i<l.length
 .have L4:=J6 i a_;obtain⟨Y7,v,hb,hg,ha,hr⟩:=hr;obtain⟨bx,fams⟩:=H1;simp only at hb;subst hb;have hx:=J5 (f:=AV.int .i64) (zf2z C2);have hd0:=hl0 l[i] (List.getElem_mem C2);rw[List.drop_eq_getElem_cons C2]at hr;generalize l[i]=d at *
  subst hb2;have hwd:IntKind.i64.wrap (d-2)=d-2:=Y8 a_ a_;have app:∀t:Tm,∃v' F',N0 (B1 r6) ⟨[b0,b1,[.int .i64 0,.int .i64 0,.vs true 0 []],[k0,g0,v]],fams⟩ 4 56 v (sl (true,true) 4 [I8 t])=some (v',⟨[b0,b1,[.int .i64 0,.int .i64 0,.vs true 0 []],[k0,g0,v]],F'⟩)/\v'.isTup=false/\v'.cells=[v']/\∀B,TU 4 (C4 (Y7++[t])) v' ⟨B,F'⟩:=by
   intro t;obtain⟨v',⟨B',F'⟩,hap,Jj,hB'⟩:=Sr (c:=B1 r6) (bytes:=56) (x:=I8 t) hg rfl (true,true) oG oG;simp only at hB';subst hB';have hmv:C4 Y7++[I8 t]=C4 (Y7++[t]):=by rw[b5,b5];simp
   rw[hmv]at Jj;obtain⟨q1,q2,q3⟩:=GL Jj;exact⟨v',F',hap,q1,q2,λB=>Uz Jj rfl⟩
  obtain⟨g1,g2,g3⟩:=GL hg;have hk0c:=hk0.1;by_cases c1:d<2
  .by_cases c2:own=[]
   .have he:DA own ps l=none:=by rw[hr];simp[DA,c1,c2]
    subst c2;simp[W9,C6,k1,k6,k8,k9,k33,k34,k35,C2,L4,hx,c1,B5,C0];exact hΦ _ _ _ (.inr ⟨rfl,⟨_,rfl⟩,d_,he⟩)
   .have hol:own.length=2:=ho.resolve_left c2;have c3:¬(ps.length:Int)<=d-2:=by omega
    have hdn:d.toNat<own.length:=by omega
    obtain⟨o,hoo⟩:∃o,own[d.toNat]?=some o:=⟨_,zf2z hdn⟩;have hn:=Ep hoo;have he:DA own ps l=(DA own ps (l.drop (i+1))).map ((Y7++[o])++·):=by
     rw[hr];simp only[DA,c2,c3,and_false,or_self,if_false,if_pos c1,hoo,zf9z];congr 1;funext x;simp
    obtain⟨v',F',hap,q1,q2,Jj⟩:=app o;have hz:(AV.vs true 0 []:AV).cells=[.vs true 0 []]:=rfl;simp[W9,C6,k1,k6,k8,k9,k33,k34,k35,C2,L4,hx,c1,hol,c3,hwd,hd0.1,hn,A9,g1,g2,g3,hap,q1,q2];exact V6 hJ ⟨i+1,a_,d_,Y7++[o],v',rfl,Jj _,by simp[ha],he⟩
  .by_cases c3:(ps.length:Int)<=d-2
   .have he:DA own ps l=none:=by rw[hr];simp[DA,c3]
    simp[W9,C6,k1,k6,k8,k9,k33,k34,k35,C2,L4,hx,c1,c3,hwd,B5,C0];exact hΦ _ _ _ (.inr ⟨rfl,⟨_,rfl⟩,d_,he⟩)
   .have hdn:(d-2).toNat<ps.length:=by omega
    obtain⟨o,hoo⟩:∃o,ps[(d-2).toNat]?=some o:=⟨_,zf2z hdn⟩;have hn:=Ep hoo;have hd2:2<=d:=by omega
    have he:DA own ps l=(DA own ps (l.drop (i+1))).map ((Y7++[o])++·):=by
     rw[hr];simp only[DA,c1,c3,false_and,or_self,if_false,hoo,zf9z];congr 1;funext x;simp
    obtain⟨v',F',hap,q1,q2,Jj⟩:=app o;simp[W9,C6,k1,k6,k8,k9,k33,k34,k35,C2,L4,hx,c1,c3,hwd,hd2,hn,A9,g1,g2,g3,hap,q1,q2];exact V6 hJ ⟨i+1,a_,d_,Y7++[o],v',rfl,Jj _,by simp[ha],he⟩
 .obtain⟨Y7,v,hb,hg,ha,hr⟩:=hr;rw[List.drop_eq_nil_of_le a_]at hr;simp[W9,C6,k1,k6,k8,k9,k33,k34,k35,C2];exact hΦ _ _ _ (.inl ⟨rfl,Y7,v,hb,hg,by simpa[DA]using hr⟩)
def yM(goal:Int)(o:Option (List Tm))(r:AV):Prop :=
 match o with
 |some ts=>∃m,r=.tup [Dp ⟨2,goal,m,ts⟩,.bool true]
 |none=>∃x,r=.tup [Dp x,.bool false]
theorem tK{key:Tm}(h:RE key=0):KX key=[]\/(KX key).length=2:=by
 unfold KX;split
 .rename_i hp;obtain⟨hk,hn⟩:=Dq.1 hp;obtain⟨h1,_,_⟩:=MJ h hk;obtain⟨a,b,e⟩:=RG (.inr (.inr (.inr (.inr hn)))) h1;rw[e];exact .inr rfl
 .split
  .split
   .exact .inr rfl
   .exact .inl rfl
  .exact .inl rfl
theorem lT(p:Pyl)(mp:Gg)(l:Be)(key:Tm)(hk:RE key=0)(hl:l.length<=1000000)(hd:p.data.length<=1000000)(hd0:∀d∈p.data,0<=d/\d<=1000000) :
  ∃r,pc Q r6 [Bc p,sl mp 4 (C4 l),I8 key]=some r/\yM p.goal (cd p l key) r:=by
 have i1:=WI key (bs [115,104,107]);have i2:=WI key (bs [115,107]);have d1:decide (key.kind=3/\key.name=bs [115,104,107])=OI key (bs [115,104,107]):=rfl;have d2:decide (key.kind=3/\key.name=bs [115,107])=OI key (bs [115,107]):=rfl;rw[d1]at i1;rw[d2]at i2;have ho:=tK hk;have Eg:=λmo own (ho':own=[]\/own.length=2)=>A0S p.dm p.data hd hd0 mo mp own l ho' hl (Bc p).cells (I8 key).cells [.int .i64 0,.int .i64 0,.vs true 0 []] rfl (.int .i64 2) (.int .i64 p.goal) ⟨rfl,rfl⟩;rw[DI,I7]at Eg;have fz:∀{Y7:List AV} {v:AV} {h:AH},TU 4 Y7 v h->∃m,∀B,Cr ⟨B,h.fams⟩ true v=some (sl m 4 Y7):=by
  intro Y7 v h hg;rcases hg with ⟨rfl,rfl⟩|⟨AS,k,rfl,hk⟩
  .exact⟨(true,false),λB=>rfl⟩
  .refine⟨(false,true),λB=>?_⟩;rw[Sw];simp only[hk,zf7z];rw[if_pos ⟨trivial,a_,e_⟩,List.drop_zero,List.take_length]
 unfold cd;have tail:∀(own:List Tm),KX key=own->∀(Ψ:AV->Prop),(∀r,yM p.goal (DA (KX key) l p.data) r->Ψ r)->∀(e:Ex) (B8:Fr) (h':AH),B8.length=79->B2 B8 9=.ptr 3 0->B2 B8 6=.ptr 2 0 ->
   (e=.exit 1/\(∃Y7 v,h'.boxes=[[.str p.tag,sl p.pm 1 (p.parts.map (AV.int .i64)),.int .i64 p.goal,sl p.dm 1 (p.data.map (AV.int .i64))],[.int .i64 key.kind,.str key.name,.int .i64 key.sort,sl key.cm 4 (C4 key.kids)],[.int .i64 0,.int .i64 0,.vs true 0 []],[.int .i64 2,.int .i64 p.goal,v]]/\TU 4 (C4 Y7) v h'/\DA own l p.data=some Y7)) ->
   D7 (A8 (m6 Q) (B1 r6) (.seq (rG [A 78 3 9,oW 3 6 78,C 7 (.bool true)]) .ret) (B8,h')) (cO [UB.cell 6 true 3,UB.tmp 7] Ψ):=by
  rintro own hw Ψ hΨ e B8 h' hl' k9 k6 ⟨rfl,Y7,v,hb,hg,he⟩;obtain⟨bx,fams⟩:=h';simp only at hb;subst hb;obtain⟨g1,g2,g3⟩:=GL hg;obtain⟨m,hm⟩:=fz hg;simp only at hm;rw[hw,he]at hΨ;simp[hl',k9,k6,hm];exact hΨ _ ⟨m,rfl⟩
 cases c1:OI key (bs [115,104,107])with
 |true =>
  have hw:KX key=key.kids:=by unfold KX;rw[if_pos c1]
  have ho':=ho;rw[hw]at ho';rw[c1]at i1;refine XT X7 λΨ hΨ fr hl h0 h1 h2=>?_;simp[X7]at hl h0 h1 h2;simp[X7,hl,h0,h1,h2,i1,B5,C0];refine D7.mono (Eg key.cm key.kids ho' _ _ ?_ ?_ ?_ ?_ ?_ ?_ ?_ ?_ ?_) ?_<;>first|(simp[hl,h0,h1,h2];done)|skip
  rintro e B8 h' ⟨K,hq⟩;have hl':B8.length=79:=K.1.trans c_;have k9:B2 B8 9=.ptr 3 0:=D4 K 9 c_;have k6:B2 B8 6=.ptr 2 0:=D4 K 6 c_;rcases hq with ⟨rfl,hq⟩|⟨rfl,⟨b3,hb⟩,h7,he⟩
  .have:=tail _ hw Ψ hΨ _ B8 h' hl' k9 k6 ⟨rfl,hq⟩;simpa using this
  .rw[hw,he]at hΨ;simp[hl',k6,hb,h7];exact hΨ _ ⟨⟨0,0,(true,false),[]⟩,rfl⟩
 |false =>
  rw[c1]at i1;cases c2:OI key (bs [115,107])with
  |true =>
   obtain⟨hk3,hkn⟩:=Dq.1 c2;obtain⟨f1,_,_⟩:=MJ hk hk3;obtain⟨a,ea⟩:=SP (.inr (.inr hkn)) f1;have hw:KX key=[a,a]:=by unfold KX;rw[if_neg (by rw[c1];simp),if_pos c2,ea]
   have n0:KW (C4 key.kids) 0=some (I8 a):=by rw[ea];rfl
   rw[c2]at i2;have dv:sl (true,true) 4 (C4 [a,a])=sl (true,true) 4 [I8 a,I8 a]:=rfl;refine XT X7 λΨ hΨ fr hl h0 h1 h2=>?_;simp[X7]at hl h0 h1 h2;simp[X7,hl,h0,h1,h2,i1,i2,n0,B5,C0,A9];refine D7.mono (Eg (true,true) [a,a] (.inr rfl) _ _ ?_ ?_ ?_ ?_ ?_ ?_ ?_ ?_ ?_) ?_<;>first|(simp[hl,h0,h1,h2,dv];done)|skip
   rintro e B8 h' ⟨K,hq⟩;have hl':B8.length=79:=K.1.trans c_;have k9:B2 B8 9=.ptr 3 0:=D4 K 9 c_;have k6:B2 B8 6=.ptr 2 0:=D4 K 6 c_;rcases hq with ⟨rfl,hq⟩|⟨rfl,⟨b3,hb⟩,h7,he⟩
   .have:=tail _ hw Ψ hΨ _ B8 h' hl' k9 k6 ⟨rfl,hq⟩;simpa using this
   .rw[hw,he]at hΨ;simp[hl',k6,hb,h7];exact hΨ _ ⟨⟨0,0,(true,false),[]⟩,rfl⟩
  |false =>
   have hw:KX key=[]:=by unfold KX;rw[if_neg (by rw[c1];simp),if_neg (by rw[c2];simp)]
   rw[c2]at i2;have dv:sl (true,false) 4 (C4 [])=.vs true 0 []:=rfl;refine XT X7 λΨ hΨ fr hl h0 h1 h2=>?_;simp[X7]at hl h0 h1 h2;simp[X7,hl,h0,h1,h2,i1,i2,B5,C0];refine D7.mono (Eg (true,false) [] (.inl rfl) _ _ ?_ ?_ ?_ ?_ ?_ ?_ ?_ ?_ ?_) ?_<;>first|(simp[hl,h0,h1,h2,dv];done)|skip
   rintro e B8 h' ⟨K,hq⟩;have hl':B8.length=79:=K.1.trans c_;have k9:B2 B8 9=.ptr 3 0:=D4 K 9 c_;have k6:B2 B8 6=.ptr 2 0:=D4 K 6 c_;rcases hq with ⟨rfl,hq⟩|⟨rfl,⟨b3,hb⟩,h7,he⟩
   .have:=tail _ hw Ψ hΨ _ B8 h' hl' k9 k6 ⟨rfl,hq⟩;simpa using this
   .rw[hw,he]at hΨ;simp[hl',k6,hb,h7];exact hΨ _ ⟨⟨0,0,(true,false),[]⟩,rfl⟩
theorem Gm{f:FuncId}{rf:RFunc}{args:b9}{h:AH}{Φ:AV->AH->Prop}(hc:L3 f=some rf)(hl:args.length<=rf.ntmps)
  (H:∀fr:Fr,fr.length=rf.ntmps->(∀i,B2 fr i=args.getD i B9)->D7 (A8 (m6 Qf) (B1 f) rf.body (fr,h)) (vJ rf.results Φ)) (hrst:(B1 f).rst=false:=by rfl):∃v h',rc Qf f args h=some (v,h')/\Φ v h' :=
 uD (C:=Qf) hc hl (λfr h1 h2=>H fr h1 h2) hrst
structure Jdg where
 rule:Int
 role:Int
 blk:Int
 bad:Int
 am:Bool×Bool
 args:List Int
 t:Tm
 u:Typ
 f:Fa
def Q8(j:Jdg):List AV:=[.int .i64 j.rule,.int .i64 j.role,.int .i64 j.blk,.int .i64 j.bad,sl j.am 1 (j.args.map (AV.int .i64)),.int .i64 j.t.kind,.str j.t.name,.int .i64 j.t.sort,sl j.t.cm 4 (C4 j.t.kids),.int .i64 j.u.kind,sl j.u.m 4 (j.u.ps.map Bc),.int .i64 j.f.kind,.int .i64 j.f.goal,sl j.f.fm 4 (C4 j.f.terms)]
def V8(j:Jdg):AV:=.agg (Q8 j)
@[simp]theorem NX(j:Jdg):(V8 j).cells=Q8 j:=rfl
def Yo:Tm:=.mk 0 (bs []) 0 (true,false) []
def IS:Fa:=⟨0,0,(true,false),[]⟩
structure PA where
 p:Nat
 bm:Nat
 k1:Nat
 k2:Nat
 role:Int
 blk:Int
 bad:Int
structure PD where
 tv:AV
 ev:AV
 lv:AV
 tys:List Tyd
 efs:List Fa
 ti:List Int
 ei:List Int
 l:List Jdg
 kn:List (ByteArray×Int)
def H9(A:PA)(tv ev lv:AV)(n1 n2:Nat):List AV:=[tv,ev,.sl A.k1 n1 0 n1,.sl A.k2 n2 0 n2,lv,pI 0,.int .i64 A.role,.int .i64 A.blk,.int .i64 A.bad,.vs true 0 [],pI 0,.str (bs []),pI 0,.vs true 0 [],pI 0,.vs true 0 [],pI 0,pI 0,.vs true 0 [],.mp A.bm]
structure PrH (A:PA) (D:PD) (h:AH):Prop where
 bp:h.boxes[A.p]?=some (H9 A D.tv D.ev D.lv D.tys.length D.efs.length)
 bm:h.boxes[A.bm]?=some [.mbox (D.kn.map λx=>.str x.1) (D.kn.map λx=>.int .i64 x.2)]
 ne:A.p≠A.bm
 f1:D.ti≠[]->h.fams[A.k1]?=some ⟨D.ti.map (AV.int .i64),1,true⟩
 f2:D.ei≠[]->h.fams[A.k2]?=some ⟨D.ei.map (AV.int .i64),1,true⟩
 nk:A.k1≠A.k2
 tl:D.ti.length=D.tys.length
 el:D.ei.length=D.efs.length
 lt:IT false 6 (D.tys.map r8) D.tv h
 le:IT false 3 (D.efs.map Dp) D.ev h
 ll:IT false 14 (D.l.map V8) D.lv h
 at':BI D.lv D.tv
 ae:BI D.lv D.ev
structure Frm (A:PA) (lv:AV) (h:AH) (lv':AV) (h':AH):Prop where
 bl:h.boxes.length<=h'.boxes.length
 bx:∀j,j≠A.p->j≠A.bm->j<h.boxes.length->h'.boxes[j]?=h.boxes[j]?
 fr:∀(s:Nat) (ws:List AV) (w:AV),IT false s ws w h->BI lv w->IT false s ws w h'/\BI lv' w
theorem Frm.trans{A:PA}{a b c:AV}{h h1 h2:AH}(x:Frm A a h b h1)(y:Frm A b h1 c h2):Frm A a h c h2 :=
 ⟨Nat.le_trans x.bl y.bl,λj p q l=>(y.bx j p q (Nat.lt_of_lt_of_le l x.bl)).trans (x.bx j p q l),λs ws w hw ha=>by
  obtain⟨k1,k2⟩:=x.fr s ws w hw ha;exact y.fr s ws w k1 k2⟩
theorem Frm.more(A:PA)(lv:AV)(B X:List (List AV))(F:List Fam):Frm A lv ⟨B,F⟩ lv ⟨B++X,F⟩ :=
 ⟨e_,λj _ _ hj=>zf0z hj,λs ws w hw ha=>⟨Fp hw rfl,ha⟩⟩
theorem PrH.more{A:PA}{D:PD}{B:List (List AV)}{F:List Fam}(H:PrH A D ⟨B,F⟩)(X:List (List AV)):PrH A D ⟨B++X,F⟩ :=
 ⟨(zf0z (H5 H.bp)).trans H.bp,(zf0z (H5 H.bm)).trans H.bm,H.ne,H.f1,H.f2,H.nk,H.tl,H.el,Fp H.lt rfl,Fp H.le rfl,Fp H.ll rfl,H.at',H.ae⟩
def PD.add(D:PD)(lv:AV)(j:Jdg):PD:={D with lv:=lv,l:=D.l++[j]}
@[simp]theorem Jr(a b:AV)(l:b9):BE (a::b::l)=false:=by
 unfold BE;split<;>first|rfl|(rename_i h;cases h)
theorem rd{s:Nat}{xs:b9}{v:AV}{h:AH}(H:IT false s xs v h){k s':Nat}{ys:b9}(hk:h.fams[k]?=some ⟨ys,s',true⟩)(n o l:Nat):BI v (.sl k n o l):=λj n1 o1 l1 n2 o2 l2 e e'=>by
 rcases H with ⟨b,rfl⟩|⟨_,q,rfl,hq⟩
 .cases e
 .cases e;cases e';rw[hq]at hk;cases hk
theorem PrH.put{A:PA}{D:PD}{bx:List (List AV)}{F:List Fam}(H:PrH A D ⟨bx,F⟩)(X:List (List AV)){lv:AV}{F':List Fam}(j:Jdg)(hl':∀BB,IT false 14 (D.l.map V8++[V8 j]) lv ⟨BB,F'⟩)
  (hfr:∀(wr:Bool) (s:Nat) (ws:List AV) (w:AV),IT wr s ws w ⟨bx,F⟩->BI D.lv w->(∀BB,IT wr s ws w ⟨BB,F'⟩)/\BI lv w) :
  PrH A (D.add lv j) ⟨(bx++X).set A.p (H9 A D.tv D.ev lv D.tys.length D.efs.length),F'⟩/\Frm A D.lv ⟨bx,F⟩ lv ⟨(bx++X).set A.p (H9 A D.tv D.ev lv D.tys.length D.efs.length),F'⟩:=by
 have lp:=H5 H.bp;have lm:=H5 H.bm;simp only at lp lm;have row:∀{k:Nat} {is:List Int},is≠[]->F[k]?=some ⟨is.map (AV.int .i64),1,true⟩->F'[k]?=some ⟨is.map (AV.int .i64),1,true⟩:=λ{k is} AS hk=>by
  have hL:IT true 1 (is.map (AV.int .i64)) (.sl k (is.map (AV.int .i64)).length 0 (is.map (AV.int .i64)).length) ⟨bx,F⟩:=.inr ⟨by simpa using AS,k,rfl,hk⟩;obtain⟨h1,_⟩:=hfr _ _ _ _ hL (rd H.ll hk _ _ _);rcases h1 []with ⟨b,e⟩|⟨_,q,e,h2⟩
  .cases e
  .cases e;exact h2
 obtain⟨t1,t2⟩:=hfr _ _ _ _ H.lt H.at';obtain⟨e1,e2⟩:=hfr _ _ _ _ H.le H.ae;refine⟨⟨zf1z f8,?_,H.ne,λh=>row h (H.f1 h),λh=>row h (H.f2 h),H.nk,H.tl,H.el,t1 _,e1 _,?_,t2,e2⟩,⟨e_,λj hj _ hjl=>?_,λs ws w hw ha=>?_⟩⟩
 .simp only;rw[zf4z H.ne,zf0z lm];exact H.bm
 .show IT false 14 ((D.l++[j]).map V8) lv _;rw[List.map_append];exact hl' _
 .simp only at hjl ⊢;rw[zf4z (Ne.symm hj),zf0z hjl]
 .obtain⟨a1,a2⟩:=hfr _ _ _ _ hw ha;exact⟨a1 _,a2⟩
set_option maxHeartbeats 2000000 in
theorem No(A:PA)(D:PD)(h:AH)(H:PrH A D h)(rule:Int)(t:Tm)(u:Typ)(av:AV)(args:List Int)(ha:IT false 1 (args.map (AV.int .i64)) av h)(hap:BI D.lv av)(hl:D.l.length<=1000000000) :
  ∃m:Bool×Bool,∃v h',rc Qf J3 [.ptr A.p 0,.int .i64 rule,I8 t,Hn u,av] h=some (v,h')/\v=.int .i64 (D.l.length:Nat)/\∃lv,PrH A (D.add lv ⟨rule,A.role,A.blk,A.bad,m,args,t,u,IS⟩) h'/\Frm A D.lv h lv h':=by
 obtain⟨bx,F⟩:=h;have hP:=H.bp;simp only[H9]at hP;have lp:=H5 hP;have u1:∀X,(bx++X)[A.p]?=_:=λX=>(zf0z lp).trans hP;obtain⟨m,hz⟩:=CS ha;refine⟨m,?_⟩;refine Gm QQ (by simp[BH]) λfr hl ha=>?_;have h0:=ha 0;have h1:=ha 1;have h2:=ha 2;have h3:=ha 3;have h4:=ha 4;clear ha;simp[BH]at hl h0 h1 h2 h3 h4;obtain⟨c1,c2,c3,-⟩:=L5 ha;have z1:=λB=>(hz B true rfl).1;have z2:=λB=>(hz B true rfl).2;have z3:=λB=>(hz B false rfl).1;have z4:=λB=>(hz B false rfl).2;simp only at z1 z2 z3 z4;obtain⟨lv',F',hap',hl',hfr⟩:=Gt (c:=B1 J3) (bytes:=184) (x:=sl (true,true) 14 [V8 ⟨rule,A.role,A.blk,A.bad,m,args,t,u,IS⟩]) (ys:=[V8 ⟨rule,A.role,A.blk,A.bad,m,args,t,u,IS⟩]) H.ll (W0 _ _ _ _) i_;simp only at hap';obtain⟨d1,d2,d3,-⟩:=L5 (hl' []);have IN:V8 ⟨rule,A.role,A.blk,A.bad,m,args,t,u,IS⟩=.agg [.int .i64 rule,.int .i64 A.role,.int .i64 A.blk,.int .i64 A.bad,sl m 1 (args.map (AV.int .i64)),.int .i64 t.kind,.str t.name,.int .i64 t.sort,sl t.cm 4 (C4 t.kids),.int .i64 u.kind,sl u.m 4 (u.ps.map Bc),.int .i64 0,.int .i64 0,sl (true,false) 1 []]:=rfl;rw[IN]at hap';have u2:∀X Y,((bx++X).set A.p Y)[A.p]?=some Y:=λX Y=>zf1z f8;have D6:=OY (hl' []);rw[zg0z,zf5z,zf8z]at D6;have hw:IntKind.i64.wrap ((D.l.length:Nat):Int)=(D.l.length:Nat):=Y8 a_ a_;simp[BH,hl,h0,h1,h2,h3,h4,u1];refine E8 (λk=>bx.length+k) (λ_=>True) [.nil,.nil,.rb 0,.rb 1,.nil,.sb 2,.nil,.sb 2,.nil,.sb 2,.nil,.sb 2] 0 (λa b e=>by omega) rfl f9 ?_;simp[BH,hl,h0,h1,h2,h3,h4,u1,u2,c1,c2,c3,B5,C0,A9,z1,z2,z3,z4,hap',d1,d2,d3,D6,hw];exact⟨lv',H.put _ _ hl' hfr⟩
end Go.Abs.Q
namespace Go.Abs.Q
open Go.Proofs
attribute [local simp] E5 E6 fin J4 H8 Q3 S6
set_option maxHeartbeats 2000000 in
theorem mD(A:PA)(D:PD)(h:AH)(H:PrH A D h)(rule:Int)(f:Fa)(av:AV)(args:List Int)(ha:IT false 1 (args.map (AV.int .i64)) av h)(hap:BI D.lv av)(hl:D.l.length<=1000000000) :
  ∃m:Bool×Bool,∃v h',rc Qf N8 [.ptr A.p 0,.int .i64 rule,Dp f,av] h=some (v,h')/\v=.int .i64 (D.l.length:Nat)/\∃lv,PrH A (D.add lv ⟨rule,A.role,A.blk,A.bad,m,args,Yo,Q9 0,f⟩) h'/\Frm A D.lv h lv h':=by
 obtain⟨bx,F⟩:=h;have hP:=H.bp;simp only[H9]at hP;have lp:=H5 hP;have u1:∀X,(bx++X)[A.p]?=_:=λX=>(zf0z lp).trans hP;obtain⟨m,hz⟩:=CS ha;refine⟨m,?_⟩;refine Gm Nr (by simp[u6]) λfr hl ha=>?_;have h0:=ha 0;have h1:=ha 1;have h2:=ha 2;have h3:=ha 3;clear ha;simp[u6]at hl h0 h1 h2 h3;obtain⟨c1,c2,c3,-⟩:=L5 ha;have z1:=λB=>(hz B true rfl).1;have z2:=λB=>(hz B true rfl).2;have z3:=λB=>(hz B false rfl).1;have z4:=λB=>(hz B false rfl).2;simp only at z1 z2 z3 z4;obtain⟨lv',F',hap',hl',hfr⟩:=Gt (c:=B1 N8) (bytes:=184) (x:=sl (true,true) 14 [V8 ⟨rule,A.role,A.blk,A.bad,m,args,Yo,Q9 0,f⟩]) (ys:=[V8 ⟨rule,A.role,A.blk,A.bad,m,args,Yo,Q9 0,f⟩]) H.ll (W0 _ _ _ _) i_;simp only at hap';obtain⟨d1,d2,d3,-⟩:=L5 (hl' []);have IN:V8 ⟨rule,A.role,A.blk,A.bad,m,args,Yo,Q9 0,f⟩=.agg [.int .i64 rule,.int .i64 A.role,.int .i64 A.blk,.int .i64 A.bad,sl m 1 (args.map (AV.int .i64)),.int .i64 0,.str (bs []),.int .i64 0,sl (true,false) 1 [],.int .i64 0,sl (true,false) 1 [],.int .i64 f.kind,.int .i64 f.goal,sl f.fm 4 (C4 f.terms)]:=rfl;rw[IN]at hap';have u2:∀X Y,((bx++X).set A.p Y)[A.p]?=some Y:=λX Y=>zf1z f8;have D6:=OY (hl' []);rw[zg0z,zf5z,zf8z]at D6;have hw:IntKind.i64.wrap ((D.l.length:Nat):Int)=(D.l.length:Nat):=Y8 a_ a_;simp[u6,hl,h0,h1,h2,h3,u1];refine E8 (λk=>bx.length+k) (λ_=>True) [.nil,.nil,.rb 0,.nil,.sb 1,.nil,.sb 1,.nil,.sb 1] 0 (λa b e=>by omega) rfl f9 ?_;simp[u6,hl,h0,h1,h2,h3,u1,u2,c1,c2,c3,B5,C0,A9,z1,z2,z3,z4,hap',d1,d2,d3,D6,hw];exact⟨lv',H.put _ _ hl' hfr⟩
end Go.Abs.Q
namespace Go.Abs.Q
open Go.Proofs
attribute [local simp] E5 E6 fin J4 H8 Q3 S6
def KP(A:PA)(tv ev:AV)(n1 n2:Nat)(h:AH):Prop:=∃lv,h.boxes[A.p]?=some (H9 A tv ev lv n1 n2)
theorem yR{A:PA}{tv ev:AV}{n1 n2:Nat}{i:Nat}{x:AV}(hi:i<4)(hx:(H9 A tv ev .nilp n1 n2)[i]?=some x):Fl (KP A tv ev n1 n2) false 1 (.ptr A.p i) x:=λh ⟨lv,hk⟩=>by
 show (match h.boxes[A.p]? with|some cs=>if BE cs then au false 1 i cs else Q6 false 1 (cs.drop i)|none=>none)=some x
 rw[hk];have hmb:BE (H9 A tv ev lv n1 n2)=false:=Jr _ _ _;show (if BE (H9 A tv ev lv n1 n2)=true then au false 1 i (H9 A tv ev lv n1 n2)else Q6 false 1 ((H9 A tv ev lv n1 n2).drop i))=some x
 rw[if_neg (by rw[hmb];simp)];have:∀(l:List AV),Q6 false 1 (l.drop i)=l[i]?:=λl=>by simp[Q6]
 rw[this,←hx];rcases i with _|_|_|_|i<;>first|rfl|omega
theorem wv(x:Tyd)(t:Tm)(h1:x.t.size<=1099511627776)(h2:t.size<=1099511627776):pc Q AJ [r8 x,.pv (I8 t).cells]=some (.bool (Rr x.t t)):=by
 have hs:=eK x.t t h1 h2;have ha:AV.agg [.int .i64 x.t.kind,.str x.t.name,.int .i64 x.t.sort,sl x.t.cm 4 (C4 x.t.kids)]=I8 x.t:=G9 x.t;have hb:AV.agg [.int .i64 t.kind,.str t.name,.int .i64 t.sort,sl t.cm 4 (C4 t.kids)]=I8 t:=G9 t;have hc:(r8 x).cells=[.int .i64 x.t.kind,.str x.t.name,.int .i64 x.t.sort,sl x.t.cm 4 (C4 x.t.kids),.int .i64 x.u.kind,sl x.u.m 4 (x.u.ps.map Bc)]:=rfl;have hd:(r8 x).isTup=false:=rfl;rw[I7];refine j5 FF λfr hl h0 h1=>?_;simp[FF]at hl h0 h1;simp[FF,hl,h0,h1,hs,ha,hb,hc,hd]
theorem OZ{s:Nat}{xs:b9}{v:AV}{B B':List (List AV)}{F:List Fam}(H:IT false s xs v ⟨B,F⟩){k s':Nat}{ys:b9}(hk:F[k]?=some ⟨ys,s',true⟩)(f:Fam):IT false s xs v ⟨B',F.set k f⟩:=by
 rcases H with h|⟨h1,q,h2,h3⟩
 .exact .inl h
 .refine .inr ⟨h1,q,h2,?_⟩;simp only at h3 ⊢;rw[zf4z (λe=>by rw[e,h3]at hk;cases hk)];exact h3
theorem PrH.setT{A:PA}{D:PD}{bx:List (List AV)}{F:List Fam}(H:PrH A D ⟨bx,F⟩)(AS:D.ti≠[])(i:Nat)(v:Int) :
  PrH A {D with ti:=D.ti.set i v} ⟨bx,F.set A.k1 ⟨(D.ti.set i v).map (AV.int .i64),1,true⟩⟩/\Frm A D.lv ⟨bx,F⟩ D.lv ⟨bx,F.set A.k1 ⟨(D.ti.set i v).map (AV.int .i64),1,true⟩⟩:=by
 have f1:=H.f1 AS;simp only at f1;have C2:=(zf3z.1 f1).1;refine⟨⟨H.bp,H.bm,H.ne,λ_=>zf1z C2,λh=>(zf4z H.nk).trans (H.f2 h),H.nk,(zg5z).trans H.tl,H.el,OZ H.lt f1 _,OZ H.le f1 _,OZ H.ll f1 _,H.at',H.ae⟩,⟨zg6z _,λ_ _ _ _=>rfl,λs ws w hw ha=>⟨OZ hw f1 _,ha⟩⟩⟩
theorem PrH.setE{A:PA}{D:PD}{bx:List (List AV)}{F:List Fam}(H:PrH A D ⟨bx,F⟩)(AS:D.ei≠[])(i:Nat)(v:Int) :
  PrH A {D with ei:=D.ei.set i v} ⟨bx,F.set A.k2 ⟨(D.ei.set i v).map (AV.int .i64),1,true⟩⟩/\Frm A D.lv ⟨bx,F⟩ D.lv ⟨bx,F.set A.k2 ⟨(D.ei.set i v).map (AV.int .i64),1,true⟩⟩:=by
 have f2:=H.f2 AS;simp only at f2;have C2:=(zf3z.1 f2).1;refine⟨⟨H.bp,H.bm,H.ne,λh=>(zf4z H.nk.symm).trans (H.f1 h),λ_=>zf1z C2,H.nk,H.tl,(zg5z).trans H.el,OZ H.lt f2 _,OZ H.le f2 _,OZ H.ll f2 _,H.at',H.ae⟩,⟨zg6z _,λ_ _ _ _=>rfl,λs ws w hw ha=>⟨OZ hw f2 _,ha⟩⟩⟩
def EntR(A:PA)(D:PD)(t:Tm)(v:Int)(D':PD):Prop :=
 (D'=D/\v=-1/\D.tys.find? (λx=>Rr x.t t)=none)\/∃(i:Nat) (x:Tyd) (k:Int),D.tys.find? (λx=>Rr x.t t)=some x/\D.tys[i]?=some x/\D.ti[i]?=some k /\
  ((0<=k/\D'=D/\v=k)\/(k<0/\v=(D.l.length:Nat)/\∃lv m,D'={D.add lv ⟨1,A.role,A.blk,A.bad,m,[],t,x.u,IS⟩with ti:=D.ti.set i (D.l.length:Nat)}))
set_option maxHeartbeats 4000000 in
set_option maxRecDepth 10000 in
theorem A1N(A:PA)(D:PD)(h:AH)(H:PrH A D h)(t:Tm)(ht:t.size<=1099511627776)(htys:∀x∈D.tys,x.t.size<=1099511627776)(htl:D.tys.length<=1000000)(hl:D.l.length<=1000000000) :
  ∃v h',rc Qf P6 [.ptr A.p 0,I8 t] h=some (v,h')/\∃(k:Int) (D':PD),v=.int .i64 k/\PrH A D' h'/\Frm A D.lv h D'.lv h'/\EntR A D t k D':=by
 obtain⟨bx,F⟩:=h;have hP:=H.bp;simp only[H9]at hP;have lp:=H5 hP;have u1:∀X,(bx++X)[A.p]?=_:=λX=>(zf0z lp).trans hP;obtain⟨m,hz⟩:=CS H.lt;have z1:=λB=>(hz B true rfl).1;have z2:=λB=>(hz B true rfl).2;have z3:=λB=>(hz B false rfl).1;have z4:=λB=>(hz B false rfl).2;simp only at z1 z2 z3 z4;obtain⟨c1,c2,c3,-⟩:=L5 H.lt;have htm:=Rh H.lt;simp only at htm;have hI:=Lb (aZ r8 6 (λx=>Rr x.t t) W7 AJ [.pv (I8 t).cells] rfl m D.tys a_ (λa ha=>wv a t (htys a ha) ht) Nq rfl A1m rfl);rw[I7]at hI;have kK:∀X,KP A D.tv D.ev D.tys.length D.efs.length ⟨bx++X,F⟩:=λX=>⟨D.lv,u1 X⟩;rcases gP (λx:Tyd=>Rr x.t t) D.tys with ⟨i1,i2⟩|⟨i,x,i1,i2,i3⟩
 .rw[i1]at hI;clear i1;refine Gm CG (by simp[H4]) λfr hl ha=>?_;have h0:=ha 0;have h1:=ha 1;clear ha;simp[H4]at hl h0 h1;simp[H4,hl,h0,h1,u1,z1,z2,z3,z4,c1,c2,c3,htm,hI,Aw,show ∀s,(AV.str s).flat=true from λ_=>rfl,show ∀s,(AV.int .i64 s).flat=true from λ_=>rfl];exact⟨D,H.more _,Frm.more _ _ _ _ _,.inl ⟨rfl,rfl,i2⟩⟩
 .rw[i1]at hI;clear i1;have hil:=(zf3z.1 i2).1;have AS:D.ti≠[]:=by
   intro e;have:=H.tl;rw[e]at this;simp at this;omega
  have f1:=H.f1 AS;simp only at f1;obtain⟨k,hk⟩:∃k,D.ti[i]?=some k:=⟨D.ti[i]'(by rw[H.tl];exact hil),zf2z _⟩;have hkx:(D.ti.map (AV.int .i64))[i]?=some (.int .i64 k):=by rw[zf6z,hk];rfl
  have hkg:∀hh:i<D.ti.length,D.ti[i]=k:=λhh=>by rw[zf2z hh]at hk;exact Option.some.inj hk
  have hi0:¬(i:Int)<0:=by omega
  have htll:(D.ti.map (AV.int .i64)).length=D.tys.length:=by rw[zf5z,H.tl]
  by_cases hk0:k<0
  .have hj0:=No A D ⟨bx++[[.rbox [.int .i64 t.kind,.str t.name,.int .i64 t.sort,sl t.cm 4 (C4 t.kids)]]],F⟩ (H.more _) 1 t x.u (.vs true 0 []) [] (.inl ⟨false,rfl⟩) (λ_ _ _ _ _ _ _ _ e=>nomatch e) hl;obtain⟨mj,v,⟨bx',F'⟩,hj,rfl,lv,hP',hF'⟩:=hj0;have g1:=hP'.f1 AS;have g2:=hP'.bp;simp only[H9,PD.add]at g1 g2;have kK':∀F,KP A D.tv D.ev D.tys.length D.efs.length ⟨bx',F⟩:=λF=>⟨lv,hP'.bp⟩;have ld2:Fl (KP A D.tv D.ev D.tys.length D.efs.length) false 1 (.ptr A.p 2) (.sl A.k1 D.tys.length 0 D.tys.length):=yR a_ rfl;have ld0:Fl (KP A D.tv D.ev D.tys.length D.efs.length) false 1 (.ptr A.p 0) D.tv:=yR a_ rfl;have hx:(D.tys.map r8)[i]?=some (r8 x):=by rw[zf6z,i2];rfl
   have hcx:(r8 x).cells=[.int .i64 x.t.kind,.str x.t.name,.int .i64 x.t.sort,sl x.t.cm 4 (C4 x.t.kids),.int .i64 x.u.kind,sl x.u.m 4 (x.u.ps.map Bc)]:=rfl;have hrf:∀(a:Int) (y:AV),(AV.int .i64 a).reform [y]=some y:=λ_ _=>rfl;have g3:∀f,(F'.set A.k1 f)[A.k1]?=some f:=λf=>zf1z (zf3z.1 g1).1;have g4:∀y:Int,(D.ti.set i y)[i]?=some y:=λy=>zf1z (by rw[H.tl];exact hil);have hxg:∀hh:i<D.tys.length,D.tys[i]=x:=λhh=>by rw[zf2z hh]at i2;exact Option.some.inj i2
   rcases Ay H.lt hx with hia|⟨q,hia,hq⟩
   .refine Gm CG (by simp[H4]) λfr hl ha=>?_;have h0:=ha 0;have h1:=ha 1;clear ha;simp[H4]at hl h0 h1;simp[H4,hl,h0,h1,u1,z1,z2,z3,z4,c1,c2,c3,htm,hI,Aw,f1,hkx,htll,hil,hk0,H.tl,hkg,hi0,show ∀s,(AV.str s).flat=true from λ_=>rfl,show ∀s,(AV.int .i64 s).flat=true from λ_=>rfl];refine E8 (λk=>bx.length+k) (KP A D.tv D.ev D.tys.length D.efs.length) [.nil,.nil,.nil,.fl,.nil,.nil,.rb 0,.nil,.nil,.nil,.nil,.fl,.nil,.nil,.nil,.rw,.any,.any,.any] 0 (λa b e=>by omega) rfl f9 ?_;simp[H4,hl,h0,h1,u1,kK,kK',ld2,ld0,hia,hcx,hj,g1,g2,hrf,g3,g4,hil,htll,H.tl,hi0,hkg,hxg];obtain⟨p1,p2⟩:=hP'.setT AS i (D.l.length:Nat);rw[zg1z]at p1 p2;exact⟨_,p1,((Frm.more _ _ _ _ _).trans hF').trans p2,.inr ⟨i,x,k,i3,i2,hk,.inr ⟨hk0,rfl,lv,mj,rfl⟩⟩⟩
   .refine Gm CG (by simp[H4]) λfr hl ha=>?_;have h0:=ha 0;have h1:=ha 1;clear ha;simp[H4]at hl h0 h1;simp[H4,hl,h0,h1,u1,z1,z2,z3,z4,c1,c2,c3,htm,hI,Aw,f1,hkx,htll,hil,hk0,H.tl,hkg,hi0,show ∀s,(AV.str s).flat=true from λ_=>rfl,show ∀s,(AV.int .i64 s).flat=true from λ_=>rfl];refine E8 (λk=>bx.length+k) (KP A D.tv D.ev D.tys.length D.efs.length) [.nil,.nil,.nil,.fl,.nil,.nil,.rb 0,.nil,.nil,.nil,.nil,.fl,.nil,.nil,.nil,.rw,.any,.any,.any] 0 (λa b e=>by omega) rfl f9 ?_;simp[H4,hl,h0,h1,u1,kK,kK',ld2,ld0,hia,hcx,hj,g1,g2,hrf,g3,g4,hil,htll,H.tl,hi0,hkg,hxg,hq];obtain⟨p1,p2⟩:=hP'.setT AS i (D.l.length:Nat);rw[zg1z]at p1 p2;exact⟨_,p1,((Frm.more _ _ _ _ _).trans hF').trans p2,.inr ⟨i,x,k,i3,i2,hk,.inr ⟨hk0,rfl,lv,mj,rfl⟩⟩⟩
  .refine Gm CG (by simp[H4]) λfr hl ha=>?_;have h0:=ha 0;have h1:=ha 1;clear ha;simp[H4]at hl h0 h1;simp[H4,hl,h0,h1,u1,z1,z2,z3,z4,c1,c2,c3,htm,hI,Aw,f1,hkx,htll,hil,hk0,H.tl,hkg,hi0,show ∀s,(AV.str s).flat=true from λ_=>rfl,show ∀s,(AV.int .i64 s).flat=true from λ_=>rfl];exact⟨D,H.more _,Frm.more _ _ _ _ _,.inr ⟨i,x,k,i3,i2,hk,.inl ⟨a_,rfl,rfl⟩⟩⟩
theorem qA(x f:Fa)(h1:Tm.sizes x.terms<=1099511627776)(h2:Tm.sizes f.terms<=1099511627776):pc Q s8 [Dp x,.pv (Dp f).cells]=some (.bool (Ii x f)):=by
 have hs:=lr x f h1 h2;rw[Il];refine j5 ES λfr hl h0 h1=>?_;simp[ES]at hl h0 h1;simp[ES,hl,h0,h1,hs]
def EffR(A:PA)(D:PD)(f:Fa)(v:Int)(D':PD):Prop :=
 (D'=D/\v=-1/\D.efs.find? (λx=>Ii x f)=none)\/∃(i:Nat) (x:Fa) (k:Int),D.efs.find? (λx=>Ii x f)=some x/\D.efs[i]?=some x/\D.ei[i]?=some k /\
  ((0<=k/\D'=D/\v=k)\/(k<0/\v=(D.l.length:Nat)/\∃lv m,D'={D.add lv ⟨1,A.role,A.blk,A.bad,m,[],Yo,Q9 0,f⟩with ei:=D.ei.set i (D.l.length:Nat)}))
set_option maxHeartbeats 4000000 in
set_option maxRecDepth 10000 in
theorem xQ(A:PA)(D:PD)(h:AH)(H:PrH A D h)(f:Fa)(ht:Tm.sizes f.terms<=1099511627776)(hefs:∀x∈D.efs,Tm.sizes x.terms<=1099511627776)(htl:D.efs.length<=1000000)(hl:D.l.length<=1000000000) :
  ∃v h',rc Qf N4 [.ptr A.p 0,Dp f] h=some (v,h')/\∃(k:Int) (D':PD),v=.int .i64 k/\PrH A D' h'/\Frm A D.lv h D'.lv h'/\EffR A D f k D':=by
 obtain⟨bx,F⟩:=h;have hP:=H.bp;simp only[H9]at hP;have lp:=H5 hP;have u1:∀X,(bx++X)[A.p]?=_:=λX=>(zf0z lp).trans hP;obtain⟨m,hz⟩:=CS H.le;have z1:=λB=>(hz B true rfl).1;have z2:=λB=>(hz B true rfl).2;have z3:=λB=>(hz B false rfl).1;have z4:=λB=>(hz B false rfl).2;simp only at z1 z2 z3 z4;obtain⟨c1,c2,c3,-⟩:=L5 H.le;have htm:=Rh H.le;simp only at htm;have hI:=Lb (aZ Dp 3 (λx=>Ii x f) L8 s8 [.pv (Dp f).cells] rfl m D.efs a_ (λa ha=>qA a f (hefs a ha) ht) IQ rfl sd rfl);rw[Il]at hI;have kK:∀X,KP A D.tv D.ev D.tys.length D.efs.length ⟨bx++X,F⟩:=λX=>⟨D.lv,u1 X⟩;rcases gP (λx:Fa=>Ii x f) D.efs with ⟨i1,i2⟩|⟨i,x,i1,i2,i3⟩
 .rw[i1]at hI;clear i1;refine Gm EN (by simp[J9]) λfr hl ha=>?_;have h0:=ha 0;have h1:=ha 1;clear ha;simp[J9]at hl h0 h1;simp[J9,hl,h0,h1,u1,z1,z2,z3,z4,c1,c2,c3,htm,hI,Aw,show ∀s,(AV.str s).flat=true from λ_=>rfl,show ∀s,(AV.int .i64 s).flat=true from λ_=>rfl];exact⟨D,H.more _,Frm.more _ _ _ _ _,.inl ⟨rfl,rfl,i2⟩⟩
 .rw[i1]at hI;clear i1;have hil:=(zf3z.1 i2).1;have AS:D.ei≠[]:=by
   intro e;have:=H.el;rw[e]at this;simp at this;omega
  have f1:=H.f2 AS;simp only at f1;obtain⟨k,hk⟩:∃k,D.ei[i]?=some k:=⟨D.ei[i]'(by rw[H.el];exact hil),zf2z _⟩;have hkx:(D.ei.map (AV.int .i64))[i]?=some (.int .i64 k):=by rw[zf6z,hk];rfl
  have hkg:∀hh:i<D.ei.length,D.ei[i]=k:=λhh=>by rw[zf2z hh]at hk;exact Option.some.inj hk
  have hi0:¬(i:Int)<0:=by omega
  have htll:(D.ei.map (AV.int .i64)).length=D.efs.length:=by rw[zf5z,H.el]
  by_cases hk0:k<0
  .have hj0:=mD A D ⟨bx++[[.rbox [.int .i64 f.kind,.int .i64 f.goal,sl f.fm 4 (C4 f.terms)]]],F⟩ (H.more _) 1 f (.vs true 0 []) [] (.inl ⟨false,rfl⟩) (λ_ _ _ _ _ _ _ _ e=>nomatch e) hl;obtain⟨mj,v,⟨bx',F'⟩,hj,rfl,lv,hP',hF'⟩:=hj0;have g1:=hP'.f2 AS;have g2:=hP'.bp;simp only[H9,PD.add]at g1 g2;have kK':∀F,KP A D.tv D.ev D.tys.length D.efs.length ⟨bx',F⟩:=λF=>⟨lv,hP'.bp⟩;have ld2:Fl (KP A D.tv D.ev D.tys.length D.efs.length) false 1 (.ptr A.p 3) (.sl A.k2 D.efs.length 0 D.efs.length):=yR a_ rfl;have hrf:∀(a:Int) (y:AV),(AV.int .i64 a).reform [y]=some y:=λ_ _=>rfl;have g3:∀f,(F'.set A.k2 f)[A.k2]?=some f:=λf=>zf1z (zf3z.1 g1).1;have g4:∀y:Int,(D.ei.set i y)[i]?=some y:=λy=>zf1z (by rw[H.el];exact hil);refine Gm EN (by simp[J9]) λfr hl ha=>?_;have h0:=ha 0;have h1:=ha 1;clear ha;simp[J9]at hl h0 h1;simp[J9,hl,h0,h1,u1,z1,z2,z3,z4,c1,c2,c3,htm,hI,Aw,f1,hkx,htll,hil,hk0,H.el,hkg,hi0,show ∀s,(AV.str s).flat=true from λ_=>rfl,show ∀s,(AV.int .i64 s).flat=true from λ_=>rfl];refine E8 (λk=>bx.length+k) (KP A D.tv D.ev D.tys.length D.efs.length) [.nil,.nil,.nil,.fl,.nil,.nil,.rb 0,.any,.any,.any] 0 (λa b e=>by omega) rfl f9 ?_;simp[J9,hl,h0,h1,u1,kK,kK',ld2,hj,g1,g2,hrf,g3,g4,hil,htll,H.el,hi0,hkg];obtain⟨p1,p2⟩:=hP'.setE AS i (D.l.length:Nat);rw[zg1z]at p1 p2;exact⟨_,p1,((Frm.more _ _ _ _ _).trans hF').trans p2,.inr ⟨i,x,k,i3,i2,hk,.inr ⟨hk0,rfl,lv,mj,rfl⟩⟩⟩
  .refine Gm EN (by simp[J9]) λfr hl ha=>?_;have h0:=ha 0;have h1:=ha 1;clear ha;simp[J9]at hl h0 h1;simp[J9,hl,h0,h1,u1,z1,z2,z3,z4,c1,c2,c3,htm,hI,Aw,f1,hkx,htll,hil,hk0,H.el,hkg,hi0,show ∀s,(AV.str s).flat=true from λ_=>rfl,show ∀s,(AV.int .i64 s).flat=true from λ_=>rfl];exact⟨D,H.more _,Frm.more _ _ _ _ _,.inr ⟨i,x,k,i3,i2,hk,.inl ⟨a_,rfl,rfl⟩⟩⟩
end Go.Abs.Q
