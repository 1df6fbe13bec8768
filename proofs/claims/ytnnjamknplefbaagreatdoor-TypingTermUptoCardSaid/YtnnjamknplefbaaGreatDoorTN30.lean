/- A part of the proof. -/
import Derived.Test.YtnnjamknplefbaaGreatDoorTN29
set_option linter.all false
open List renaming getElem?_eq_getElem->zf0z,map_nil->zf1z,map_set->zf2z,length_append->zf3z,getElem?_set_self->zf4z,length_set->zf5z,drop_eq_getElem_cons->zf6z,getElem?_eq_some_iff->zf7z,find?_cons->zf8z,length_map->zf9z,map_append->zg0z,drop_eq_nil_of_le->zg1z,length_singleton->zg2z,getElem?_set_ne->zg3z,getElem_mem->zg4z,length_cons->zg5z,length_nil->zg6z,map_cons->zg7z,map_take->zg8z
set_option linter.all false
namespace Go.Abs.Q
open Go.Proofs
attribute [local simp] E5 E6 fin J4 H8 Q3 S6
structure RS where
 tm:Bool×Bool
 tys:List Tyd
 em:Bool×Bool
 effs:List Fa
 im:Bool×Bool
 ti:List Int
 jm:Bool×Bool
 ei:List Int
 lm:Bool×Bool
 l:List Jdg
 role:Int
 blk:Int
 bad:Int
def JA(s:RS):AV:=.agg [sl s.tm 6 (s.tys.map r8),sl s.em 3 (s.effs.map Dp),sl s.im 1 (s.ti.map (AV.int .i64)),sl s.jm 1 (s.ei.map (AV.int .i64)),sl s.lm 14 (s.l.map V8),.int .i64 0,.int .i64 s.role,.int .i64 s.blk,.int .i64 s.bad,.vs true 0 [],.int .i64 0,.str (bs []),.int .i64 0,.vs true 0 [],.int .i64 0,.vs true 0 [],.int .i64 0,.int .i64 0,.vs true 0 []]
@[simp]theorem AM(s:RS):(JA s).cells=[sl s.tm 6 (s.tys.map r8),sl s.em 3 (s.effs.map Dp),sl s.im 1 (s.ti.map (AV.int .i64)),sl s.jm 1 (s.ei.map (AV.int .i64)),sl s.lm 14 (s.l.map V8),.int .i64 0,.int .i64 s.role,.int .i64 s.blk,.int .i64 s.bad,.vs true 0 [],.int .i64 0,.str (bs []),.int .i64 0,.vs true 0 [],.int .i64 0,.vs true 0 [],.int .i64 0,.int .i64 0,.vs true 0 []]:=rfl
@[simp]theorem qT(s:RS):AV.agg [sl s.tm 6 (s.tys.map r8),sl s.em 3 (s.effs.map Dp),sl s.im 1 (s.ti.map (AV.int .i64)),sl s.jm 1 (s.ei.map (AV.int .i64)),sl s.lm 14 (s.l.map V8),.int .i64 0,.int .i64 s.role,.int .i64 s.blk,.int .i64 s.bad,.vs true 0 [],.int .i64 0,.str (bs []),.int .i64 0,.vs true 0 [],.int .i64 0,.vs true 0 [],.int .i64 0,.int .i64 0,.vs true 0 []]=JA s:=rfl
@[simp]theorem rs_isTup(s:RS):(JA s).isTup=false:=p_ rfl
@[simp]theorem rs_flatA(s:RS):M9 (JA s)=true:=p_ rfl
@[simp]theorem rs_frz(h:AH)(am:Bool)(s:RS):frz h am (JA s)=some (JA s):=DB h am rfl
@[simp]theorem rs_tame(h:AH)(s:RS):tame h (JA s)=true:=p_ rfl
theorem gv(s:RS)(rule:Int)(m:Gg)(args:List Int)(t:Tm)(u:Typ)(hl:s.l.length<=1000000) :
  ∃lm,pc Q Ap [JA s,.int .i64 rule,sl m 1 (args.map (AV.int .i64)),I8 t,Hn u]=some (.tup [JA {s with lm:=lm,l:=s.l++[⟨rule,s.role,s.blk,s.bad,m,args,t,u,IS⟩]},.int .i64 (s.l.length:Nat)]):=by
 suffices hq:∃r,pc Q Ap [JA s,.int .i64 rule,sl m 1 (args.map (AV.int .i64)),I8 t,Hn u]=some r/\∃lm,r=.tup [JA {s with lm:=lm,l:=s.l++[⟨rule,s.role,s.blk,s.bad,m,args,t,u,IS⟩]},.int .i64 (s.l.length:Nat)] by
  obtain⟨r,h1,lm,rfl⟩:=hq;exact⟨lm,h1⟩
 have IN:V8 ⟨rule,s.role,s.blk,s.bad,m,args,t,u,IS⟩=.agg [.int .i64 rule,.int .i64 s.role,.int .i64 s.blk,.int .i64 s.bad,sl m 1 (args.map (AV.int .i64)),.int .i64 t.kind,.str t.name,.int .i64 t.sort,sl t.cm 4 (C4 t.kids),.int .i64 u.kind,sl u.m 4 (u.ps.map Bc),.int .i64 0,.int .i64 0,sl (true,false) 1 []]:=rfl;obtain⟨X,hX⟩:∃X:List (List AV),X=[[sl s.tm 6 (s.tys.map r8),sl s.em 3 (s.effs.map Dp),sl s.im 1 (s.ti.map (AV.int .i64)),sl s.jm 1 (s.ei.map (AV.int .i64)),sl s.lm 14 (s.l.map V8),.int .i64 0,.int .i64 s.role,.int .i64 s.blk,.int .i64 s.bad,.vs true 0 [],.int .i64 0,.str (bs []),.int .i64 0,.vs true 0 [],.int .i64 0,.vs true 0 [],.int .i64 0,.int .i64 0,.vs true 0 []],(I8 t).cells,(Hn u).cells,[.vs true 0 [],.vs true 0 [],.vs true 0 [],.vs true 0 [],.vs true 0 [],.int .i64 0,.int .i64 0,.int .i64 0,.int .i64 0,.vs true 0 [],.int .i64 0,.str (bs []),.int .i64 0,.vs true 0 [],.int .i64 0,.vs true 0 [],.int .i64 0,.int .i64 0,.vs true 0 []],[.int .i64 rule,.int .i64 s.role,.int .i64 s.blk,.int .i64 s.bad,sl m 1 (args.map (AV.int .i64)),.int .i64 t.kind,.str t.name,.int .i64 t.sort,sl t.cm 4 (C4 t.kids),.int .i64 u.kind,sl u.m 4 (u.ps.map Bc),.int .i64 0,.int .i64 0,.vs true 0 []]]:=⟨_,rfl⟩;obtain⟨v1,F1,a1,l1,-⟩:=OX (c:=B1 Ap) (sz:=14) (bytes:=184) (xs:=[]) (ys:=s.l.map V8) (x:=sl s.lm 14 (s.l.map V8)) (h:=(⟨X,[]⟩:AH)) (ZL _ _ [] true _) (W0 _ _ _ _) i_;obtain⟨v2,F2,a2,l2,-⟩:=OX (c:=B1 Ap) (sz:=14) (bytes:=184) (xs:=[]++s.l.map V8) (ys:=[V8 ⟨rule,s.role,s.blk,s.bad,m,args,t,u,IS⟩]) (x:=sl (true,true) 14 [V8 ⟨rule,s.role,s.blk,s.bad,m,args,t,u,IS⟩]) l1 (W0 _ _ _ _) i_;have ee:([]++s.l.map V8)++[V8 ⟨rule,s.role,s.blk,s.bad,m,args,t,u,IS⟩]=(s.l++[(⟨rule,s.role,s.blk,s.bad,m,args,t,u,IS⟩:Jdg)]).map V8:=by simp
 rw[ee]at l2;obtain⟨c1,c2,c3,-⟩:=L5 l2;obtain⟨lm,z⟩:=CS l2;have z1:=λB=>(z B true rfl).1;have z2:=λB=>(z B true rfl).2;have z3:=λB=>(z B false rfl).1;have z4:=λB=>(z B false rfl).2;have D6:=OY l2;rw[zf9z,zf3z,zg2z]at D6;simp only[AM,I7,Wb,NX,Q8]at hX;subst hX;simp only[zf1z]at a1 a2;rw[IN]at a2;simp only at a1 a2 z1 z2 z3 z4;have hw:IntKind.i64.wrap ((s.l.length:Nat):Int)=(s.l.length:Nat):=Y8 a_ a_;have hz0:sl (true,false) 1 ([]:List AV)=.vs true 0 []:=rfl;refine AD (C:=Q) ((IU _).trans rfl) ((HM _).trans dH) (by simp[Jh]) λΨ hΨ fr hl ha=>?_;rw[LW];have h0:=ha 0;have h1:=ha 1;have h2:=ha 2;have h3:=ha 3;have h4:=ha 4;clear ha;simp[Jh]at hl h0 h1 h2 h3 h4;simp[Jh,hl,h0,h1,h2,h3,h4,B5,C0]
 with_reducible refine @E8 _ _ _ _ _ _ _ (λk=>k) (λ_=>True) [.nil,.nil,.rb 1,.rb 2,.nil,.sb 4,.nil,.sb 4,.nil,.sb 4,.nil,.sb 4] 0 (λa b e=>e) ?_ ?_ ?_
 .rfl
 .decide
 have hfl:M9 (AV.agg [.int .i64 rule,.int .i64 s.role,.int .i64 s.blk,.int .i64 s.bad,sl m 1 (args.map (AV.int .i64)),.int .i64 t.kind,.str t.name,.int .i64 t.sort,sl t.cm 4 (C4 t.kids),.int .i64 u.kind,sl u.m 4 (u.ps.map Bc),.int .i64 0,.int .i64 0,.vs true 0 []])=true:=rfl;simp[Jh,hl,h0,h1,h2,h3,h4,A9,a1,a2,c1,c2,c3,D6,hfl]
 with_reducible refine @E8 _ _ _ _ _ _ _ (λk=>k) (λ_=>True) [.rb 0,.nil,.rb 0,.nil,.nil,.sb 3,.nil] 0 (λa b e=>e) ?_ ?_ ?_
 .rfl
 .decide
 simp[Jh,hl,h0,h1,h2,h3,h4,c1,c2,c3,D6,hw,z1,z2,z3,z4];exact hΨ _ ⟨lm,by unfold JA;simp only[zg0z,zg7z,zf1z];rfl⟩
theorem gw(s:RS)(rule:Int)(m:Gg)(args:List Int)(f:Fa)(hl:s.l.length<=1000000) :
  ∃lm,pc Q AG [JA s,.int .i64 rule,sl m 1 (args.map (AV.int .i64)),Dp f]=some (.tup [JA {s with lm:=lm,l:=s.l++[⟨rule,s.role,s.blk,s.bad,m,args,Yo,Q9 0,f⟩]},.int .i64 (s.l.length:Nat)]):=by
 suffices hq:∃r,pc Q AG [JA s,.int .i64 rule,sl m 1 (args.map (AV.int .i64)),Dp f]=some r/\∃lm,r=.tup [JA {s with lm:=lm,l:=s.l++[⟨rule,s.role,s.blk,s.bad,m,args,Yo,Q9 0,f⟩]},.int .i64 (s.l.length:Nat)] by
  obtain⟨r,h1,lm,rfl⟩:=hq;exact⟨lm,h1⟩
 have IN:V8 ⟨rule,s.role,s.blk,s.bad,m,args,Yo,Q9 0,f⟩=.agg [.int .i64 rule,.int .i64 s.role,.int .i64 s.blk,.int .i64 s.bad,sl m 1 (args.map (AV.int .i64)),.int .i64 0,.str (bs []),.int .i64 0,sl (true,false) 1 [],.int .i64 0,sl (true,false) 1 [],.int .i64 f.kind,.int .i64 f.goal,sl f.fm 4 (C4 f.terms)]:=rfl;obtain⟨X,hX⟩:∃X:List (List AV),X=[[sl s.tm 6 (s.tys.map r8),sl s.em 3 (s.effs.map Dp),sl s.im 1 (s.ti.map (AV.int .i64)),sl s.jm 1 (s.ei.map (AV.int .i64)),sl s.lm 14 (s.l.map V8),.int .i64 0,.int .i64 s.role,.int .i64 s.blk,.int .i64 s.bad,.vs true 0 [],.int .i64 0,.str (bs []),.int .i64 0,.vs true 0 [],.int .i64 0,.vs true 0 [],.int .i64 0,.int .i64 0,.vs true 0 []],(Dp f).cells,[.vs true 0 [],.vs true 0 [],.vs true 0 [],.vs true 0 [],.vs true 0 [],.int .i64 0,.int .i64 0,.int .i64 0,.int .i64 0,.vs true 0 [],.int .i64 0,.str (bs []),.int .i64 0,.vs true 0 [],.int .i64 0,.vs true 0 [],.int .i64 0,.int .i64 0,.vs true 0 []],[.int .i64 rule,.int .i64 s.role,.int .i64 s.blk,.int .i64 s.bad,sl m 1 (args.map (AV.int .i64)),.int .i64 0,.str (bs []),.int .i64 0,.vs true 0 [],.int .i64 0,.vs true 0 [],.int .i64 f.kind,.int .i64 f.goal,sl f.fm 4 (C4 f.terms)]]:=⟨_,rfl⟩;obtain⟨v1,F1,a1,l1,-⟩:=OX (c:=B1 AG) (sz:=14) (bytes:=184) (xs:=[]) (ys:=s.l.map V8) (x:=sl s.lm 14 (s.l.map V8)) (h:=(⟨X,[]⟩:AH)) (ZL _ _ [] true _) (W0 _ _ _ _) i_;obtain⟨v2,F2,a2,l2,-⟩:=OX (c:=B1 AG) (sz:=14) (bytes:=184) (xs:=[]++s.l.map V8) (ys:=[V8 ⟨rule,s.role,s.blk,s.bad,m,args,Yo,Q9 0,f⟩]) (x:=sl (true,true) 14 [V8 ⟨rule,s.role,s.blk,s.bad,m,args,Yo,Q9 0,f⟩]) l1 (W0 _ _ _ _) i_;have ee:([]++s.l.map V8)++[V8 ⟨rule,s.role,s.blk,s.bad,m,args,Yo,Q9 0,f⟩]=(s.l++[(⟨rule,s.role,s.blk,s.bad,m,args,Yo,Q9 0,f⟩:Jdg)]).map V8:=by simp
 rw[ee]at l2;obtain⟨c1,c2,c3,-⟩:=L5 l2;obtain⟨lm,z⟩:=CS l2;have z1:=λB=>(z B true rfl).1;have z2:=λB=>(z B true rfl).2;have z3:=λB=>(z B false rfl).1;have z4:=λB=>(z B false rfl).2;have D6:=OY l2;rw[zf9z,zf3z,zg2z]at D6;simp only[AM,Il]at hX;subst hX;simp only[zf1z]at a1 a2;rw[IN]at a2;simp only at a1 a2 z1 z2 z3 z4;have hw:IntKind.i64.wrap ((s.l.length:Nat):Int)=(s.l.length:Nat):=Y8 a_ a_;refine AD (C:=Q) ((IU _).trans rfl) ((HM _).trans UX) (by simp[Cv]) λΨ hΨ fr hl ha=>?_;rw[LW];have h0:=ha 0;have h1:=ha 1;have h2:=ha 2;have h3:=ha 3;clear ha;simp[Cv]at hl h0 h1 h2 h3;simp[Cv,hl,h0,h1,h2,h3,B5,C0]
 with_reducible refine @E8 _ _ _ _ _ _ _ (λk=>k) (λ_=>True) [.nil,.nil,.rb 1,.nil,.sb 3,.nil,.sb 3,.nil,.sb 3] 0 (λa b e=>e) ?_ ?_ ?_
 .rfl
 .decide
 have hfl:M9 (AV.agg [.int .i64 rule,.int .i64 s.role,.int .i64 s.blk,.int .i64 s.bad,sl m 1 (args.map (AV.int .i64)),.int .i64 0,.str (bs []),.int .i64 0,.vs true 0 [],.int .i64 0,.vs true 0 [],.int .i64 f.kind,.int .i64 f.goal,sl f.fm 4 (C4 f.terms)])=true:=rfl;simp[Cv,hl,h0,h1,h2,h3,A9,a1,a2,c1,c2,c3,D6,hfl]
 with_reducible refine @E8 _ _ _ _ _ _ _ (λk=>k) (λ_=>True) [.rb 0,.nil,.rb 0,.nil,.nil,.sb 2,.nil] 0 (λa b e=>e) ?_ ?_ ?_
 .rfl
 .decide
 simp[Cv,hl,h0,h1,h2,h3,c1,c2,c3,D6,hw,z1,z2,z3,z4];exact hΨ _ ⟨lm,by unfold JA;simp only[zg0z,zg7z,zf1z];rfl⟩
theorem wV(m:Gg)(l:List Int)(D6:l.length<=1000000)(j:Nat)(kv:Int)(fr:Fr)(h:AH)(h7:B2 fr 7=.vs true 0 [])(hl:fr.length=30)(h0:B2 fr 0=sl m 1 (l.map (AV.int .i64)))(h1:B2 fr 1=.int .i64 (j:Nat))(h2:B2 fr 2=.int .i64 kv)(h8:B2 fr 8=.int .i64 0) :
  D7 (lp (A8 (m6 Q) (B1 w7) CI) (fr,h)) λe B8 h'=>Kp CI.wr fr B8/\e=.exit 0/\h'.boxes=h.boxes/\IT false 1 ((l.set j kv).map (AV.int .i64)) (B2 B8 7) h':=by
 refine E9 rfl fr (λn fr h'=>∃(i:Nat),i+n=l.length/\B2 fr 8=.int .i64 (i:Nat)/\(h'.boxes=h.boxes/\IT false 1 (((l.set j kv).take i).map (AV.int .i64)) (B2 fr 7) h')) ?_ l.length h ⟨0,a_,h8,⟨rfl,by rw[h7,List.take_zero,zf1z];exact Qd _ _ _⟩⟩;rintro J Φ hJ hΦ n CT H1 K ⟨i,hi,k8,hr⟩;have C6:=K.1.trans hl;have k0:=D4 K 0 h0;have k1:=D4 K 1 h1;have k2:=D4 K 2 h2;clear K;by_cases C2:i<l.length
 .have L4:=J6 i a_;obtain⟨hb,hg⟩:=hr;obtain⟨bx,F⟩:=H1;simp only at hb;have hx:=J5 (f:=AV.int .i64) (zf0z C2);have hls:i<(l.set j kv).length:=by rw[zf5z];exact C2
  have e1:((l.set j kv).take (i+1)).map (AV.int .i64)=((l.set j kv).take i).map (AV.int .i64)++[AV.int .i64 (l.set j kv)[i]]:=by rw[List.take_succ_eq_append_getElem hls,zg0z];rfl
  have e2:(l.set j kv)[i]=if j=i then kv else l[i]:=by rw[List.getElem_set]
  have e3:(((l.set j kv).take i).map (AV.int .i64)).length<=1000000:=by rw[zf9z,List.length_take];omega
  rw[e2]at e1;generalize l[i]=a at *
  by_cases c:j=i
  .rw[if_pos c]at e1;have c':((i:Int)=(j:Int)):=by omega
   obtain⟨v',F',hap,Jj,-⟩:=OX (c:=B1 w7) (bytes:=8) (x:=sl (true,true) 1 [AV.int .i64 kv]) (ys:=[AV.int .i64 kv]) hg (W0 _ _ _ _) (by simp only[zg5z,zg6z,K7,maxLen];omega);simp only at hap;subst c;simp[CI,C6,k0,k1,k2,k8,C2,L4,hx,A9,hap];exact V6 hJ ⟨j+1,a_,d_,hb,by simp[C6];rw[←zf2z,←zg8z,e1];exact Jj⟩
  .rw[if_neg c]at e1;have c':¬((i:Int)=(j:Int)):=by omega
   have c2:¬i=j:=λh=>c h.symm;obtain⟨v',F',hap,Jj,-⟩:=OX (c:=B1 w7) (bytes:=8) (x:=sl (true,true) 1 [AV.int .i64 a]) (ys:=[AV.int .i64 a]) hg (W0 _ _ _ _) (by simp only[zg5z,zg6z,K7,maxLen];omega);simp only at hap;simp[CI,C6,k0,k1,k2,k8,C2,L4,hx,A9,hap,c',c2];exact V6 hJ ⟨i+1,a_,d_,hb,by simp[C6];rw[←zf2z,←zg8z,e1];exact Jj⟩
 .obtain⟨hb,hg⟩:=hr;rw[List.take_of_length_le (by rw[zf5z];omega)]at hg;simp[CI,C6,k0,k1,k2,k8,C2];exact hΦ _ _ _ ⟨rfl,hb,by simp[C6];rw[←zf2z];exact hg⟩
theorem YO(m:Gg)(l:List Int)(D6:l.length<=1000000)(j:Nat)(k:Int):∃m',pc Q w7 [sl m 1 (l.map (AV.int .i64)),.int .i64 (j:Nat),.int .i64 k]=some (sl m' 1 ((l.set j k).map (AV.int .i64))):=by
 suffices hq:∃r,pc Q w7 [sl m 1 (l.map (AV.int .i64)),.int .i64 (j:Nat),.int .i64 k]=some r/\∃m',r=sl m' 1 ((l.set j k).map (AV.int .i64)) by
  obtain⟨r,h1,m',rfl⟩:=hq;exact⟨m',h1⟩
 have Eg:=wV m l D6 j k;refine XT ML λΨ hΨ fr hl h0 h1 h2=>?_;simp[ML]at hl h0 h1 h2;simp[ML,hl,h0,h1,h2];refine D7.mono (Eg _ _ ?_ ?_ ?_ ?_ ?_ ?_) ?_<;>first|(simp[hl,h0,h1,h2];done)|skip
 rintro e B8 ⟨bx,F⟩ ⟨K,rfl,hb,hg⟩;have hl':B8.length=30:=K.1.trans c_;obtain⟨m',hz⟩:=VB hg;obtain⟨d1,d2,d3,-⟩:=L5 hg;simp only at hz;simp[hl',hz,d1,d2,d3];exact hΨ _ ⟨m',by rw[zf2z]⟩
structure RInv (s:RS):Prop where
 ok:TyOk s.tys s.effs
 tl:s.ti.length=s.tys.length
 el:s.ei.length=s.effs.length
 ti:∀(i:Nat) (k:Int),s.ti[i]?=some k->0<=k->∃(n:Nat) (J:Jdg) (x:Tyd),k=(n:Nat)/\s.l[n]?=some J/\s.tys[i]?=some x/\J.u=x.u
 ei:∀(i:Nat) (k:Int),s.ei[i]?=some k->0<=k->∃n:Nat,k=(n:Nat)/\n<s.l.length
 fin:∀J∈s.l,V7 J.u/\KT J.u=0\/J.u=Q9 0
structure RGro (n:Nat) (s s':RS):Prop where
 tys:s'.tys=s.tys
 effs:s'.effs=s.effs
 l:∃r,s'.l=s.l++r/\r.length<=n
theorem RGro.refl(s:RS)(n:Nat):RGro n s s:=⟨rfl,rfl,[],e_,e_⟩
theorem RGro.trans{a b c:RS}{n m:Nat}(h:RGro n a b)(h':RGro m b c):RGro (n+m) a c:=by
 obtain⟨r,h1,h2⟩:=h.l;obtain⟨r',h3,h4⟩:=h'.l;exact⟨h'.tys.trans h.tys,h'.effs.trans h.effs,r++r',by rw[h3,h1,List.append_assoc],by rw[zf3z];omega⟩
theorem RGro.mono{a b:RS}{n m:Nat}(h:RGro n a b)(hm:n<=m):RGro m a b:=by
 obtain⟨r,h1,h2⟩:=h.l;exact⟨h.tys,h.effs,r,h1,a_⟩
theorem RGro.len{a b:RS}{n:Nat}(h:RGro n a b):a.l.length<=b.l.length/\b.l.length<=a.l.length+n:=by
 obtain⟨r,h1,h2⟩:=h.l;rw[h1,zf3z];omega
theorem RGro.get{a b:RS}{n:Nat}(h:RGro n a b){j:Nat}{J:Jdg}(hj:a.l[j]?=some J):b.l[j]?=some J:=by
 obtain⟨r,h1,_⟩:=h.l;rw[h1,List.getElem?_append_left (zf7z.1 hj).1];exact hj
theorem RInv.add{s:RS}(I:RInv s)(lm:Gg){j:Jdg}(hj:V7 j.u/\KT j.u=0\/j.u=Q9 0):RInv {s with lm:=lm,l:=s.l++[j]}/\RGro 1 s {s with lm:=lm,l:=s.l++[j]}:=by
 have G:RGro 1 s {s with lm:=lm,l:=s.l++[j]}:=⟨rfl,rfl,[j],rfl,e_⟩
 refine⟨⟨I.ok,I.tl,I.el,λi k h hk=>?_,λi k h hk=>?_,λJ hJ=>?_⟩,G⟩
 .obtain⟨n,J,x,h1,h2,h3⟩:=I.ti i k h hk;exact⟨n,J,x,h1,G.get h2,h3⟩
 .obtain⟨n,h1,h2⟩:=I.ei i k h hk;refine⟨n,h1,?_⟩;show n<(s.l++[j]).length;rw[zf3z];omega
 .rcases List.mem_append.1 hJ with h|h
  .exact I.fin J h
  .rw[List.mem_singleton.1 h];exact hj
def UB(s':RS)(t:Tm)(k:Int):Prop:=(k=-1/\ty s'.tys s'.effs t=none)\/∃(j:Nat) (J:Jdg),k=(j:Nat)/\s'.l[j]?=some J/\V7 J.u/\KT J.u=0/\ty s'.tys s'.effs t=some J.u
theorem LN{α:Type}{p:α->Bool}{l:List α}(i:Nat)(h:∀j x,j<i->l[j]?=some x->p x=false):l.find? p=(l.drop i).find? p:=by
 induction i generalizing l with
 |zero=>simp
 |succ i ih =>
  cases l with
  |nil=>simp
  |cons a l =>
   have h0:=h 0 a a_ rfl;rw[zf8z,h0];simp only[List.drop_succ_cons];exact ih λj x hj hx=>h (j+1) x a_ (by simpa using hx)
def EntP(s:RS)(t:Tm)(s':RS)(k:Int):Prop:=RInv s'/\RGro 1 s s'/\∃(j:Nat) (J:Jdg) (x:Tyd),k=(j:Nat)/\s'.l[j]?=some J/\J.u=x.u/\x∈s.tys/\TK s.tys t=some x.u
theorem lC(s:RS)(D6:s.tys.length<=1000000)(t:Tm)(I:RInv s)(hl0:s.l.length<=999999)(hts:t.size<=1099511627776)(wJ:∀x∈s.tys,x.t.size<=1099511627776)(z:b9)(hz:z=(JA ⟨(true,false),[],(true,false),[],(true,false),[],(true,false),[],(true,false),[],0,0,0⟩).cells)(hv:vE t=0)(fr:Fr)(h:AH)(hh:h.boxes=[(JA s).cells,(I8 t).cells,z])(hl:fr.length=58)(h2:B2 fr 2=.ptr 0 0)(h3:B2 fr 3=.ptr 1 0)(h4:B2 fr 4=.ptr 2 0)(h6:B2 fr 6=.int .i64 0) :
  D7 (lp (A8 (m6 Q) (B1 GT) y9) (fr,h)) λe B8 h'=>Kp y9.wr fr B8/\(e=.exit 0/\h'.boxes=[(JA s).cells,(I8 t).cells,z]/\TK s.tys t=none\/e=.ret/\∃(s':RS) (k:Int),h'.boxes=[(JA s').cells,(I8 t).cells,(JA s').cells]/\B2 B8 5=.int .i64 k/\EntP s t s' k):=by
 refine E9 rfl fr (λn fr h'=>∃(i:Nat),i+n=s.tys.length/\B2 fr 6=.int .i64 (i:Nat)/\(h'.boxes=[(JA s).cells,(I8 t).cells,z]/\∀j x,j<i->s.tys[j]?=some x->Rr x.t t=false)) ?_ s.tys.length h ⟨0,a_,h6,⟨hh,λj x hj=>by omega⟩⟩;rintro J Φ hJ hΦ n CT H1 K ⟨i,hi,k6,hr⟩;have C6:=K.1.trans hl;have k2:=D4 K 2 h2;have k3:=D4 K 3 h3;have k4:=D4 K 4 h4;clear K;by_cases C2:i<s.tys.length
 .have L4:=J6 i a_;obtain⟨hb,hr⟩:=hr;obtain⟨bx,F⟩:=H1;simp only at hb;subst hb;clear hh;subst hz;have hx:=J5 (f:=r8) (zf0z C2);have hp:=zf0z C2;have co:=zg4z C2;have hlt2:i<s.ti.length:=by rw[I.tl];exact C2
  have hy:=J5 (f:=AV.int .i64) (zf0z hlt2);have hti:=zf0z hlt2;have hS:=IF s.tys[i].t t (wJ _ co) hts;have htk:=s.tys.length;have hll:=I.ok.tl;have htl:=I.tl;generalize s.tys[i]=x at *
  generalize s.ti[i]=k at *
  have hxa:=G9 x.t;have hua:=Ax x.u;have hta:=G9 t;simp only[r8]at hx;cases hc:Rr x.t t with
  |false =>
   rw[hc]at hS;simp[y9,C6,k2,k3,k4,k6,C2,L4,hx,hxa,hta,hS];refine⟨n-1,a_,hJ _ _ _ ⟨i+1,a_,d_,by simp only[AM,I7,zf1z,zf2z],λj y hj hyy=>?_⟩⟩;by_cases h:j<i
   .exact hr j y h hyy
   .have:j=i:=by omega
    subst this;rw[hp]at hyy;cases hyy;exact hc
  |true =>
   rw[hc]at hS;have hent:TK s.tys t=some x.u:=by
    unfold TK;rw[LN i hr,zf6z C2,zf8z];have:s.tys[i]=x:=by rw[zf0z C2]at hp;exact Option.some.inj hp
    rw[this,hc];rfl
   by_cases hk:k<0
   .obtain⟨lm,hA⟩:=gv s 1 (true,false) [] t x.u a_;have hj0:V7 x.u/\KT x.u=0:=⟨(I.ok.ty x co).2.2.1,(I.ok.ty x co).2.2.2⟩;obtain⟨I1,G1⟩:=I.add lm (j:=⟨1,s.role,s.blk,s.bad,(true,false),[],t,x.u,IS⟩) (.inl hj0);obtain⟨m',hC⟩:=YO s.im s.ti (by have:=I.tl;have:=I.ok.tl;omega) i (s.l.length:Nat);rw[zf1z]at hA;obtain⟨s1,hs1⟩:∃s1:RS,s1={s with lm:=lm,l:=s.l++[⟨1,s.role,s.blk,s.bad,(true,false),[],t,x.u,IS⟩]}:=⟨_,rfl⟩
    rw[←hs1]at hA I1 G1;have f1:s1.im=s.im:=by rw[hs1]
    have f2:s1.ti=s.ti:=by rw[hs1]
    have f3:s1.tys=s.tys:=by rw[hs1]
    have f4:s1.l[s.l.length]?=some ⟨1,s.role,s.blk,s.bad,(true,false),[],t,x.u,IS⟩:=by rw[hs1];simp
    rw[←f1,←f2]at hC;have Zy:(s1.ti.set i (s.l.length:Nat)).length=s1.ti.length:=by rw[zf5z]
    have hlt3:i<s1.ti.length:=by rw[f2];exact hlt2
    have hy2:KW ((s1.ti.set i (s.l.length:Nat)).map (AV.int .i64)) i=some (.int .i64 (s.l.length:Nat)):=J5 (f:=AV.int .i64) (by rw[zf4z hlt3]);have fin:EntP s t {s1 with im:=m',ti:=s1.ti.set i (s.l.length:Nat)} (s.l.length:Nat):=by
     refine⟨⟨I1.ok,by rw[←I1.tl];exact Zy,I1.el,λq w h1 h2=>?_,I1.ei,I1.fin⟩,⟨G1.tys,G1.effs,G1.l⟩,s.l.length,_,x,rfl,f4,rfl,co,hent⟩;by_cases hq:i=q
     .subst hq;have AQ:(s1.ti.set i ((s.l.length:Nat):Int))[i]?=some w:=h1;rw[zf4z hlt3]at AQ;cases AQ;exact⟨s.l.length,_,x,rfl,f4,by rw[f3];exact hp,rfl⟩
     .have AQ:(s1.ti.set i ((s.l.length:Nat):Int))[q]?=some w:=h1;rw[zg3z hq]at AQ;exact I1.ti q w AQ h2
    simp[y9,C6,k2,k3,k4,k6,C2,L4,hx,hy,hlt2,hxa,hua,hta,hS,hk,hA,hC]
    with_reducible refine @E8 _ _ _ _ _ _ _ (λk=>k) (λ_=>True) [.rb 0,.nil,.rb 0,.nil,.nil,.rw,.sb 2,.nil] 0 (λa b e=>e) ?_ ?_ ?_
    .rfl
    .decide
    have hy3:=hy2;rw[zf2z]at hy3;simp[y9,C6,k2,k3,k4,k6,C2,L4,hy2,hy3,hlt3,Zy];refine hΦ _ _ _ (.inr ⟨rfl,{s1 with im:=m',ti:=s1.ti.set i (s.l.length:Nat)},_,?_,?_,fin⟩)
    .simp only[AM,I7,zf1z,zf2z]
    .simp[C6]
   .obtain⟨nj,J,x',e1,e2,e3,e4⟩:=I.ti i k hti a_;have:x'=x:=by rw[hp]at e3;exact(Option.some.inj e3).symm
    subst this;simp[y9,C6,k2,k3,k4,k6,C2,L4,hx,hy,hlt2,hxa,hua,hta,hS,hk]
    with_reducible refine @E8 _ _ _ _ _ _ _ (λk=>k) (λ_=>True) [.rb 0,.nil,.rb 0,.nil,.nil,.rw,.sb 2,.nil] 0 (λa b e=>e) ?_ ?_ ?_
    .rfl
    .decide
    simp[y9,C6,k2,k3,k4,k6,C2,L4,hy,hlt2];refine hΦ _ _ _ (.inr ⟨rfl,s,_,?_,?_,I,RGro.refl _ _,nj,J,x',e1,e2,e4,co,hent⟩)
    .simp only[AM,I7,zf1z,zf2z]
    .simp[C6]
 .obtain⟨hb,hr⟩:=hr;obtain⟨bx,F⟩:=H1;simp only at hb;subst hb;have hent:TK s.tys t=none:=by
   unfold TK;rw[LN i hr,zg1z a_];rfl
  simp[y9,C6,k2,k3,k4,k6,C2];exact hΦ _ _ _ (.inl ⟨rfl,by simp only[AM,I7,zf1z,zf2z],hent⟩)
theorem xC(s:RS)(t:Tm)(I:RInv s)(hl0:s.l.length<=999999)(hts:t.size<=1099511627776)(hv:vE t=0) :
  ∃(s':RS) (k:Int),pc Q GT [JA s,I8 t]=some (.tup [JA s',.int .i64 k])/\((s'=s/\k=-1/\TK s.tys t=none)\/EntP s t s' k):=by
 suffices hq:∃r,pc Q GT [JA s,I8 t]=some r/\∃(s':RS) (k:Int),r=.tup [JA s',.int .i64 k]/\((s'=s/\k=-1/\TK s.tys t=none)\/EntP s t s' k) by
  obtain⟨r,h1,s',k,rfl,h2⟩:=hq;exact⟨s',k,h1,h2⟩
 have Eg:=lC s (by have:=I.ok.tl;omega) t I hl0 hts (λx hx=>by have:=(I.ok.ty x hx).2.1;omega) _ rfl hv;rw[AM,I7,AM]at Eg;refine Bs Pd λΨ hΨ fr hl h0 h1=>?_;simp[Pd]at hl h0 h1;simp[Pd,hl,h0,h1];refine D7.mono (Eg _ _ ?_ ?_ ?_ ?_ ?_ ?_) ?_<;>first|rfl|(simp[hl,h0,h1];done)|skip
 rintro e B8 ⟨bx,F⟩ ⟨K,⟨rfl,hb,hf⟩|⟨rfl,s',k,hb,k5,hE⟩⟩
 .simp only at hb;subst hb;have hl':B8.length=58:=K.1.trans c_;have k2:B2 B8 2=.ptr 0 0:=D4 K 2 c_;have k4:B2 B8 4=.ptr 2 0:=D4 K 4 c_;simp[hl',k2,k4];exact hΨ _ ⟨s,-1,rfl,.inl ⟨rfl,rfl,hf⟩⟩
 .simp only at hb;subst hb;have k4:B2 B8 4=.ptr 2 0:=D4 K 4 c_;simp[k4,k5];exact hΨ _ ⟨s',k,rfl,.inr hE⟩
def EfcP(s:RS)(f:Fa)(s':RS)(k:Int):Prop:=RInv s'/\RGro 1 s s'/\∃j:Nat,k=(j:Nat)/\j<s'.l.length/\Zi s.effs f=true
theorem efS_hit{efs:List Fa}{f:Fa}{i:Nat}(C2:i<efs.length)(hr:∀j x,j<i->efs[j]?=some x->Ii x f=false)(h:Ii efs[i] f=true):Zi efs f=true:=by
 unfold Zi;rw[LN i hr,zf6z C2,zf8z,h];rfl
theorem pH(s:RS)(D6:s.effs.length<=1000000)(f:Fa)(I:RInv s)(hl0:s.l.length<=999999)(hts:Tm.sizes f.terms<=1099511627776)(wJ:∀x∈s.effs,Tm.sizes x.terms<=1099511627776)(z:b9)(hz:z=(JA ⟨(true,false),[],(true,false),[],(true,false),[],(true,false),[],(true,false),[],0,0,0⟩).cells)(fr:Fr)(h:AH)(hh:h.boxes=[(JA s).cells,(Dp f).cells,z])(hl:fr.length=50)(h2:B2 fr 2=.ptr 0 0)(h3:B2 fr 3=.ptr 1 0)(h4:B2 fr 4=.ptr 2 0)(h6:B2 fr 6=.int .i64 0) :
  D7 (lp (A8 (m6 Q) (B1 El) l7) (fr,h)) λe B8 h'=>Kp l7.wr fr B8/\(e=.exit 0/\h'.boxes=[(JA s).cells,(Dp f).cells,z]/\Zi s.effs f=false\/e=.ret/\∃(s':RS) (k:Int),h'.boxes=[(JA s').cells,(Dp f).cells,(JA s').cells]/\B2 B8 5=.int .i64 k/\EfcP s f s' k):=by
 refine E9 rfl fr (λn fr h'=>∃(i:Nat),i+n=s.effs.length/\B2 fr 6=.int .i64 (i:Nat)/\(h'.boxes=[(JA s).cells,(Dp f).cells,z]/\∀j x,j<i->s.effs[j]?=some x->Ii x f=false)) ?_ s.effs.length h ⟨0,a_,h6,⟨hh,λj x hj=>by omega⟩⟩;rintro J Φ hJ hΦ n CT H1 K ⟨i,hi,k6,hr⟩;have C6:=K.1.trans hl;have k2:=D4 K 2 h2;have k3:=D4 K 3 h3;have k4:=D4 K 4 h4;clear K;by_cases C2:i<s.effs.length
 .have L4:=J6 i a_;obtain⟨hb,hr⟩:=hr;obtain⟨bx,F⟩:=H1;simp only at hb;subst hb;clear hh;subst hz;have hx:=J5 (f:=Dp) (zf0z C2);have hp:=zf0z C2;have co:=zg4z C2;have hlt2:i<s.ei.length:=by rw[I.el];exact C2
  have hy:=J5 (f:=AV.int .i64) (zf0z hlt2);have hti:=zf0z hlt2;have hS:=Qw s.effs[i] f (wJ _ co) hts;have hll:=I.ok.el;have htl:=I.el;have hit:=efS_hit C2 hr;generalize s.effs[i]=x at *
  generalize s.ei[i]=k at *
  have hxa:=UK x;have hta:=UK f;cases hc:Ii x f with
  |false =>
   rw[hc]at hS;simp[l7,C6,k2,k3,k4,k6,C2,L4,hx,hxa,hta,hS];refine⟨n-1,a_,hJ _ _ _ ⟨i+1,a_,d_,by simp only[AM,Il,zf1z,zf2z],λj y hj hyy=>?_⟩⟩;by_cases h:j<i
   .exact hr j y h hyy
   .have:j=i:=by omega
    subst this;rw[hp]at hyy;cases hyy;exact hc
  |true =>
   rw[hc]at hS;have hent:=hit hc;by_cases hk:k<0
   .obtain⟨lm,hA⟩:=gw s 1 (true,false) [] f a_;obtain⟨I1,G1⟩:=I.add lm (j:=⟨1,s.role,s.blk,s.bad,(true,false),[],Yo,Q9 0,f⟩) (.inr rfl);obtain⟨m',hC⟩:=YO s.jm s.ei (by have:=I.el;have:=I.ok.el;omega) i (s.l.length:Nat);rw[zf1z]at hA;obtain⟨s1,hs1⟩:∃s1:RS,s1={s with lm:=lm,l:=s.l++[⟨1,s.role,s.blk,s.bad,(true,false),[],Yo,Q9 0,f⟩]}:=⟨_,rfl⟩
    rw[←hs1]at hA I1 G1;have f1:s1.jm=s.jm:=by rw[hs1]
    have f2:s1.ei=s.ei:=by rw[hs1]
    have f4:s.l.length<s1.l.length:=by rw[hs1];simp
    rw[←f1,←f2]at hC;have Zy:(s1.ei.set i (s.l.length:Nat)).length=s1.ei.length:=by rw[zf5z]
    have hlt3:i<s1.ei.length:=by rw[f2];exact hlt2
    have hy2:KW ((s1.ei.set i (s.l.length:Nat)).map (AV.int .i64)) i=some (.int .i64 (s.l.length:Nat)):=J5 (f:=AV.int .i64) (by rw[zf4z hlt3]);have fin:EfcP s f {s1 with jm:=m',ei:=s1.ei.set i (s.l.length:Nat)} (s.l.length:Nat):=by
     refine⟨⟨I1.ok,I1.tl,by rw[←I1.el];exact Zy,I1.ti,λq w h1 h2=>?_,I1.fin⟩,⟨G1.tys,G1.effs,G1.l⟩,s.l.length,rfl,f4,hent⟩;by_cases hq:i=q
     .subst hq;have AQ:(s1.ei.set i ((s.l.length:Nat):Int))[i]?=some w:=h1;rw[zf4z hlt3]at AQ;cases AQ;exact⟨s.l.length,rfl,f4⟩
     .have AQ:(s1.ei.set i ((s.l.length:Nat):Int))[q]?=some w:=h1;rw[zg3z hq]at AQ;exact I1.ei q w AQ h2
    simp[l7,C6,k2,k3,k4,k6,C2,L4,hx,hy,hlt2,hxa,hta,hS,hk,hA,hC]
    with_reducible refine @E8 _ _ _ _ _ _ _ (λk=>k) (λ_=>True) [.rb 0,.nil,.rb 0,.nil,.nil,.rw,.sb 2,.nil] 0 (λa b e=>e) ?_ ?_ ?_
    .rfl
    .decide
    have hy3:=hy2;rw[zf2z]at hy3;simp[l7,C6,k2,k3,k4,k6,C2,L4,hy2,hy3,hlt3,Zy];refine hΦ _ _ _ (.inr ⟨rfl,{s1 with jm:=m',ei:=s1.ei.set i (s.l.length:Nat)},_,?_,?_,fin⟩)
    .simp only[AM,Il,zf1z,zf2z]
    .simp[C6]
   .obtain⟨nj,e1,e2⟩:=I.ei i k hti a_;simp[l7,C6,k2,k3,k4,k6,C2,L4,hx,hy,hlt2,hxa,hta,hS,hk]
    with_reducible refine @E8 _ _ _ _ _ _ _ (λk=>k) (λ_=>True) [.rb 0,.nil,.rb 0,.nil,.nil,.rw,.sb 2,.nil] 0 (λa b e=>e) ?_ ?_ ?_
    .rfl
    .decide
    simp[l7,C6,k2,k3,k4,k6,C2,L4,hy,hlt2];refine hΦ _ _ _ (.inr ⟨rfl,s,_,?_,?_,I,RGro.refl _ _,nj,e1,e2,hent⟩)
    .simp only[AM,Il,zf1z,zf2z]
    .simp[C6]
 .obtain⟨hb,hr⟩:=hr;obtain⟨bx,F⟩:=H1;simp only at hb;subst hb;have hent:Zi s.effs f=false:=by
   unfold Zi;rw[LN i hr,zg1z a_];rfl
  simp[l7,C6,k2,k3,k4,k6,C2];exact hΦ _ _ _ (.inl ⟨rfl,by simp only[AM,Il,zf1z,zf2z],hent⟩)
theorem lc(s:RS)(f:Fa)(I:RInv s)(hl0:s.l.length<=999999)(hts:Tm.sizes f.terms<=1099511627776) :
  ∃(s':RS) (k:Int),pc Q El [JA s,Dp f]=some (.tup [JA s',.int .i64 k])/\((s'=s/\k=-1/\Zi s.effs f=false)\/EfcP s f s' k):=by
 suffices hq:∃r,pc Q El [JA s,Dp f]=some r/\∃(s':RS) (k:Int),r=.tup [JA s',.int .i64 k]/\((s'=s/\k=-1/\Zi s.effs f=false)\/EfcP s f s' k) by
  obtain⟨r,h1,s',k,rfl,h2⟩:=hq;exact⟨s',k,h1,h2⟩
 have Eg:=pH s (by have:=I.ok.el;omega) f I hl0 hts (λx hx=>by have:=(I.ok.ef x hx).1;omega) _ rfl;rw[AM,Il,AM]at Eg;refine Bs Ny λΨ hΨ fr hl h0 h1=>?_;simp[Ny]at hl h0 h1;simp[Ny,hl,h0,h1];refine D7.mono (Eg _ _ ?_ ?_ ?_ ?_ ?_ ?_) ?_<;>first|rfl|(simp[hl,h0,h1];done)|skip
 rintro e B8 ⟨bx,F⟩ ⟨K,⟨rfl,hb,hf⟩|⟨rfl,s',k,hb,k5,hE⟩⟩
 .simp only at hb;subst hb;have hl':B8.length=50:=K.1.trans c_;have k2:B2 B8 2=.ptr 0 0:=D4 K 2 c_;have k4:B2 B8 4=.ptr 2 0:=D4 K 4 c_;simp[hl',k2,k4];exact hΨ _ ⟨s,-1,rfl,.inl ⟨rfl,rfl,hf⟩⟩
 .simp only at hb;subst hb;have k4:B2 B8 4=.ptr 2 0:=D4 K 4 c_;simp[k4,k5];exact hΨ _ ⟨s',k,rfl,.inr hE⟩
def RRz(s':RS)(o:Option Typ)(k:Int):Prop:=(k=-1/\o=none)\/∃(j:Nat) (J:Jdg),k=(j:Nat)/\s'.l[j]?=some J/\V7 J.u/\KT J.u=0/\o=some J.u
def YZ(n:Nat):Prop:=∀(t:Tm) (s:RS),t.size<=n->Ls t->RInv s->s.l.length+8*t.size<=900000 ->
 ∃(s':RS) (k:Int),pc Q EK [JA s,I8 t]=some (.tup [JA s',.int .i64 k])/\RInv s'/\RGro (8*t.size) s s'/\RRz s' (ty s.tys s.effs t) k
def Bf(f:FuncId)(args:List AV)(n:Nat)(s:RS)(o:Option Typ):Prop :=
 ∃(s':RS) (k:Int),pc Q f args=some (.tup [JA s',.int .i64 k])/\RInv s'/\RGro n s s'/\RRz s' o k
theorem Bf.mk{f:FuncId}{args:b9}{n:Nat}{s:RS}{o:Option Typ}(h:∃r,pc Q f args=some r/\∃(s':RS) (k:Int),r=.tup [JA s',.int .i64 k]/\RInv s'/\RGro n s s'/\RRz s' o k):Bf f args n s o:=by
 obtain⟨r,h1,s',k,rfl,h2⟩:=h;exact⟨s',k,h1,h2⟩
theorem Et{s s2:RS}{n:Nat}(I:RInv s2)(G:RGro n s s2)(hl:s2.l.length<=1000000)(rule:Int)(m:Gg)(args:List Int)(t:Tm)(u:Typ)(h1:V7 u)(h2:KT u=0) :
  ∃s3:RS,pc Q Ap [JA s2,.int .i64 rule,sl m 1 (args.map (AV.int .i64)),I8 t,Hn u]=some (.tup [JA s3,.int .i64 (s2.l.length:Nat)])/\RInv s3/\RGro (n+1) s s3/\RRz s3 (some u) (s2.l.length:Nat):=by
 obtain⟨lm,hA⟩:=gv s2 rule m args t u hl;obtain⟨I1,G1⟩:=I.add lm (j:=⟨rule,s2.role,s2.blk,s2.bad,m,args,t,u,IS⟩) (.inl ⟨h1,h2⟩);exact⟨_,hA,I1,G.trans G1,.inr ⟨_,⟨rule,s2.role,s2.blk,s2.bad,m,args,t,u,IS⟩,rfl,e_,h1,h2,rfl⟩⟩
theorem HG:V7 (Q9 1)/\KT (Q9 1)=0:=⟨AR 1,f9⟩
theorem ZC:V7 (Q9 6)/\KT (Q9 6)=0:=⟨AR 6,f9⟩
theorem Se{t:Tm}(O9:Ls t)(hk:t.kind=3){a b:Tm}(e:t.kids=[a,b]):Ls a/\Ls b/\a.size+b.size+1=t.size/\KW (C4 t.kids) 0=some (I8 a)/\KW (C4 t.kids) 1=some (I8 b)/\t.kids.length=2:=by
 have hs:=t.kids_size;rw[e]at hs;simp only[Tm.sizes]at hs;exact⟨(O9.kid hk g_).1,(O9.kid hk g_).1,a_,by rw[e];rfl,by rw[e];rfl,by rw[e];rfl⟩
theorem gd{t:Tm}(O9:Ls t)(hk:t.kind=3){a:Tm}(e:t.kids=[a]):Ls a/\a.size+1=t.size/\KW (C4 t.kids) 0=some (I8 a)/\t.kids.length=1:=by
 have hs:=t.kids_size;rw[e]at hs;simp only[Tm.sizes]at hs;exact⟨(O9.kid hk g_).1,a_,by rw[e];rfl,by rw[e];rfl⟩
theorem HS{l:List Jdg}{j:Nat}{J:Jdg}(h:l[j]?=some J):KW (l.map V8) j=some (V8 J)/\j<l.length:=⟨J5 (f:=V8) h,(zf7z.1 h).1⟩
def tM(f:Tm->Option Typ)(a b:Tm):Option Typ:=match f a with|some u=>(match f b with|some v=>some (Q9 (if (OJ u&&OJ v)=true then 1 else 6))|none=>none)|none=>none
set_option maxHeartbeats 1000000 in
theorem A1C(n:Nat)(ih:YZ n)(t:Tm)(hn:t.size<=n+1)(O9:Ls t)(hk:t.kind=3){a b:Tm}(e:t.kids=[a,b])(s:RS)(I:RInv s)(hb:s.l.length+8*t.size<=900000) :
  Bf HA [JA s,I8 t] (8*t.size) s (tM (ty s.tys s.effs) a b):=by
 obtain⟨oa,ob,hs,n0,n1,Qc⟩:=Se O9 hk e;have ag:=G9 a;have bg:=G9 b;have tg:=G9 t;have ca:=I7 a;have cb:=I7 b;obtain⟨s1,k1,AQ,I1,G1,r1⟩:=ih a s a_ oa I a_;have L1:=G1.len;apply Bf.mk;unfold tM;rcases r1 with ⟨rfl,t1⟩|⟨j1,J1,rfl,hj1,f1,v1,t1⟩
 .rw[t1];refine Bs J8 λΨ hΨ fr hl h0 h1=>?_;simp[J8]at hl h0 h1;simp[J8,hl,h0,h1,n0,n1,Qc,ag,bg,tg,AQ];exact hΨ _ ⟨s,-1,rfl,I,RGro.refl _ _,.inl ⟨rfl,rfl⟩⟩
 .rw[t1];obtain⟨s2,k2,h2',I2,G2,r2⟩:=ih b s1 a_ ob I1 a_;have L2:=G2.len;rw[G1.tys,G1.effs]at r2;have p1:¬(j1:Int)<0:=by omega
  rcases r2 with ⟨rfl,t2⟩|⟨j2,J2,rfl,hj2,f2,v2,t2⟩
  .rw[t2];refine Bs J8 λΨ hΨ fr hl h0 h1=>?_;simp[J8]at hl h0 h1;simp[J8,hl,h0,h1,n0,n1,Qc,ag,bg,tg,AQ,h2',p1];exact hΨ _ ⟨s,-1,rfl,I,RGro.refl _ _,.inl ⟨rfl,rfl⟩⟩
  .rw[t2];have p2:¬(j2:Int)<0:=by omega
   obtain⟨x1,y1⟩:=HS (G2.get hj1);obtain⟨x2,y2⟩:=HS hj2;have o1:=Iz J1.u f1;have o2:=Iz J2.u f2;have u1:=Ax J1.u;have u2:=Ax J2.u;have sp1:=Fd 1;have sp6:=Fd 6;have dv:sl (true,true) 1 [AV.int .i64 (j1:Nat),.int .i64 (j2:Nat)]=sl (true,true) 1 ([(j1:Int),(j2:Int)].map (AV.int .i64)):=rfl;cases q1:OJ J1.u with
   |false =>
    rw[q1]at o1;obtain⟨s3,hA,I3,G3,R3⟩:=Et I2 (G1.trans G2) a_ 13 (true,true) [(j1:Int),(j2:Int)] t (Q9 6) ZC.1 ZC.2;rw[←dv]at hA;refine Bs J8 λΨ hΨ fr hl h0 h1=>?_;simp[J8]at hl h0 h1;simp[J8,hl,h0,h1,n0,n1,Qc,ag,bg,tg,AQ,h2',p1,p2,x1,y1,x2,y2,Q8,u1,u2,o1,sp6,A9,hA];exact hΨ _ ⟨s3,_,rfl,I3,G3.mono a_,by simpa[q1]using R3⟩
   |true =>
    rw[q1]at o1;cases q2:OJ J2.u with
    |false =>
     rw[q2]at o2;obtain⟨s3,hA,I3,G3,R3⟩:=Et I2 (G1.trans G2) a_ 13 (true,true) [(j1:Int),(j2:Int)] t (Q9 6) ZC.1 ZC.2;rw[←dv]at hA;refine Bs J8 λΨ hΨ fr hl h0 h1=>?_;simp[J8]at hl h0 h1;simp[J8,hl,h0,h1,n0,n1,Qc,ag,bg,tg,AQ,h2',p1,p2,x1,y1,x2,y2,Q8,u1,u2,o1,o2,sp6,A9,hA];exact hΨ _ ⟨s3,_,rfl,I3,G3.mono a_,by simpa[q1,q2]using R3⟩
    |true =>
     rw[q2]at o2;obtain⟨s3,hA,I3,G3,R3⟩:=Et I2 (G1.trans G2) a_ 13 (true,true) [(j1:Int),(j2:Int)] t (Q9 1) HG.1 HG.2;rw[←dv]at hA;refine Bs J8 λΨ hΨ fr hl h0 h1=>?_;simp[J8]at hl h0 h1;simp[J8,hl,h0,h1,n0,n1,Qc,ag,bg,tg,AQ,h2',p1,p2,x1,y1,x2,y2,Q8,u1,u2,o1,o2,sp1,A9,hA];exact hΨ _ ⟨s3,_,rfl,I3,G3.mono a_,by simpa[q1,q2]using R3⟩
def pkS(f:Tm->Option Typ)(a:Tm):Option Typ:=match f a with|some u=>if u.kind=4 then some ⟨5,u.m,u.ps⟩else if OJ u=true then some (Q9 1)else none|none=>none
theorem pub_ok{u:Typ}(h1:V7 u)(h2:KT u=0)(hk:u.kind=4):V7 ⟨5,u.m,u.ps⟩/\KT ⟨5,u.m,u.ps⟩=0:=by
 refine⟨h1,?_⟩;unfold KT at h2 ⊢;rw[hk]at h2;simpa[OM]using h2
set_option maxHeartbeats 1000000 in
theorem pc_rpk(n:Nat)(ih:YZ n)(t:Tm)(hn:t.size<=n+1)(O9:Ls t)(hk:t.kind=3){a:Tm}(e:t.kids=[a])(s:RS)(I:RInv s)(hb:s.l.length+8*t.size<=900000) :
  Bf JE [JA s,I8 t] (8*t.size) s (pkS (ty s.tys s.effs) a):=by
 obtain⟨oa,hs,n0,Qc⟩:=gd O9 hk e;have ag:=G9 a;have tg:=G9 t;have ca:=I7 a;obtain⟨s1,k1,AQ,I1,G1,r1⟩:=ih a s a_ oa I a_;have L1:=G1.len;apply Bf.mk;unfold pkS;rcases r1 with ⟨rfl,t1⟩|⟨j1,J1,rfl,hj1,f1,v1,t1⟩
 .rw[t1];refine Bs S9 λΨ hΨ fr hl h0 h1=>?_;simp[S9]at hl h0 h1;simp[S9,hl,h0,h1,n0,Qc,ag,tg,AQ];exact hΨ _ ⟨s,-1,rfl,I,RGro.refl _ _,.inl ⟨rfl,rfl⟩⟩
 .rw[t1];have p1:¬(j1:Int)<0:=by omega
  obtain⟨x1,y1⟩:=HS hj1;have o1:=Iz J1.u f1;have u1:=Ax J1.u;have sp1:=Fd 1;have dv:sl (true,true) 1 [AV.int .i64 (j1:Nat)]=sl (true,true) 1 ([(j1:Int)].map (AV.int .i64)):=rfl;by_cases k4:J1.u.kind=4
  .obtain⟨z1,z2⟩:=pub_ok f1 v1 k4;obtain⟨s3,hA,I3,G3,R3⟩:=Et I1 G1 a_ 15 (true,true) [(j1:Int)] t ⟨5,J1.u.m,J1.u.ps⟩ z1 z2;rw[←dv]at hA;have u5:=Ax ⟨5,J1.u.m,J1.u.ps⟩;simp only at u5;refine Bs S9 λΨ hΨ fr hl h0 h1=>?_;simp[S9]at hl h0 h1;simp[S9,hl,h0,h1,n0,Qc,ag,tg,AQ,p1,x1,y1,Q8,k4,A9,B5,C0,u5,hA];exact hΨ _ ⟨s3,_,rfl,I3,G3.mono a_,by simpa[k4]using R3⟩
  .cases q1:OJ J1.u with
   |false =>
    rw[q1]at o1;refine Bs S9 λΨ hΨ fr hl h0 h1=>?_;simp[S9]at hl h0 h1;simp[S9,hl,h0,h1,n0,Qc,ag,tg,AQ,p1,x1,y1,Q8,k4,u1,o1];exact hΨ _ ⟨s,-1,rfl,I,RGro.refl _ _,.inl ⟨rfl,by simp[k4,q1]⟩⟩
   |true =>
    rw[q1]at o1;obtain⟨s3,hA,I3,G3,R3⟩:=Et I1 G1 a_ 15 (true,true) [(j1:Int)] t (Q9 1) HG.1 HG.2;rw[←dv]at hA;refine Bs S9 λΨ hΨ fr hl h0 h1=>?_;simp[S9]at hl h0 h1;simp[S9,hl,h0,h1,n0,Qc,ag,tg,AQ,p1,x1,y1,Q8,k4,u1,o1,sp1,A9,hA];exact hΨ _ ⟨s3,_,rfl,I3,G3.mono a_,by simpa[k4,q1]using R3⟩
set_option maxHeartbeats 1000000 in
theorem ah(n:Nat)(ih:YZ n)(rule:Int)(t:Tm)(hn:t.size<=n+1)(O9:Ls t)(hk:t.kind=3){a b:Tm}(e:t.kids=[a,b])(s:RS)(I:RInv s)(hb:s.l.length+8*t.size<=900000) :
  Bf Ms [JA s,.int .i64 rule,I8 t] (8*t.size) s (MU (ty s.tys s.effs) a b):=by
 obtain⟨oa,ob,hs,n0,n1,Qc⟩:=Se O9 hk e;have ag:=G9 a;have bg:=G9 b;have tg:=G9 t;have ca:=I7 a;have cb:=I7 b;obtain⟨s1,k1,AQ,I1,G1,r1⟩:=ih a s a_ oa I a_;have L1:=G1.len;apply Bf.mk;unfold MU Vz;rcases r1 with ⟨rfl,t1⟩|⟨j1,J1,rfl,hj1,f1,v1,t1⟩
 .rw[t1];refine XT V4 λΨ hΨ fr hl h0 h1 h2=>?_;simp[V4]at hl h0 h1 h2;simp[V4,hl,h0,h1,h2,n0,n1,Qc,ag,bg,tg,AQ];exact hΨ _ ⟨s,-1,rfl,I,RGro.refl _ _,.inl ⟨rfl,rfl⟩⟩
 .rw[t1];have p1:¬(j1:Int)<0:=by omega
  obtain⟨x1,y1⟩:=HS hj1;have o1:=Iz J1.u f1;have u1:=Ax J1.u;cases q1:OJ J1.u with
  |false =>
   rw[q1]at o1;refine XT V4 λΨ hΨ fr hl h0 h1 h2=>?_;simp[V4]at hl h0 h1 h2;simp[V4,hl,h0,h1,h2,n0,n1,Qc,ag,bg,tg,AQ,p1,x1,y1,Q8,u1,o1];exact hΨ _ ⟨s,-1,rfl,I,RGro.refl _ _,.inl ⟨rfl,by simp[q1]⟩⟩
  |true =>
   rw[q1]at o1;obtain⟨s2,k2,h2',I2,G2,r2⟩:=ih b s1 a_ ob I1 a_;have L2:=G2.len;rw[G1.tys,G1.effs]at r2;rcases r2 with ⟨rfl,t2⟩|⟨j2,J2,rfl,hj2,f2,v2,t2⟩
   .rw[t2];refine XT V4 λΨ hΨ fr hl h0 h1 h2=>?_;simp[V4]at hl h0 h1 h2;simp[V4,hl,h0,h1,h2,n0,n1,Qc,ag,bg,tg,AQ,h2',p1,x1,y1,Q8,u1,o1];exact hΨ _ ⟨s,-1,rfl,I,RGro.refl _ _,.inl ⟨rfl,by simp[q1]⟩⟩
   .rw[t2];have p2:¬(j2:Int)<0:=by omega
    obtain⟨x2,y2⟩:=HS hj2;have o2:=Iz J2.u f2;have u2:=Ax J2.u;have sp1:=Fd 1;have dv:sl (true,true) 1 [AV.int .i64 (j1:Nat),.int .i64 (j2:Nat)]=sl (true,true) 1 ([(j1:Int),(j2:Int)].map (AV.int .i64)):=rfl;cases q2:OJ J2.u with
    |false =>
     rw[q2]at o2;refine XT V4 λΨ hΨ fr hl h0 h1 h2=>?_;simp[V4]at hl h0 h1 h2;simp[V4,hl,h0,h1,h2,n0,n1,Qc,ag,bg,tg,AQ,h2',p1,p2,x1,y1,x2,y2,Q8,u1,u2,o1,o2];exact hΨ _ ⟨s,-1,rfl,I,RGro.refl _ _,.inl ⟨rfl,by simp[q1,q2]⟩⟩
    |true =>
     rw[q2]at o2;obtain⟨s3,hA,I3,G3,R3⟩:=Et I2 (G1.trans G2) a_ rule (true,true) [(j1:Int),(j2:Int)] t (Q9 1) HG.1 HG.2;rw[←dv]at hA;refine XT V4 λΨ hΨ fr hl h0 h1 h2=>?_;simp[V4]at hl h0 h1 h2;simp[V4,hl,h0,h1,h2,n0,n1,Qc,ag,bg,tg,AQ,h2',p1,p2,x1,y1,x2,y2,Q8,u1,u2,o1,o2,sp1,A9,hA];exact hΨ _ ⟨s3,_,rfl,I3,G3.mono a_,by simpa[q1,q2]using R3⟩
end Go.Abs.Q
