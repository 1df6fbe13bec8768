/- A part of the proof. -/
import Derived.Test.YtnnjamknplefbaaGreatDoorTN33
set_option linter.all false
open List renaming getElem?_eq_getElem->zf0z,map_cons->zf1z,map_nil->zf2z,length_eq_zero_iff->zf3z,length_cons->zf4z,length_append->zf5z,getElem?_cons_succ->zf6z,getElem?_cons_zero->zf7z,mem_singleton->zf9z,any_eq_true->zg0z,length_map->zg1z,length_nil->zg2z,mem_cons->zg3z
open Bool renaming false_eq_true->zf8z
open Nat renaming le_refl->zg4z
set_option linter.all false
namespace Go.Abs.Q
open Go.Proofs
attribute [local simp] E5 E6 fin J4 H8 Q3 S6
set_option maxHeartbeats 8000000 in
theorem qH(q K1 K2:Jdg)(m:Gg)(hv:vE q.t=0)(hv1:vE K1.t=0)(hv2:vE K2.t=0)(hq:V7 q.u)(hK1:V7 K1.u)(hK2:V7 K2.u)(hf1:K1.f=IS)(hf2:K2.f=IS)(h:TwoR q.rule q.t q.u K1 K2):pc Q Ck [V8 q,sl m 14 ([K1,K2].map V8)]=some (.bool true):=by
 have Eg:=lA m [K1,K2] e_ (by intro K hK;simp at hK;rcases hK with rfl|rfl<;>assumption)
 have s0:=(P9 (BZ hv).1).2.1;have s1:=(P9 (BZ hv1).1).2.1;have s2:=(P9 (BZ hv2).1).2.1;have qg:=G9 q.t;have kg1:=G9 K1.t;have kg2:=G9 K2.t;have qu:=Ax q.u;have ku1:=Ax K1.u;have ku2:=Ax K2.u;have qj:AV.agg (Q8 q)=V8 q:=rfl;have kj1:AV.agg (Q8 K1)=V8 K1:=rfl;have kj2:AV.agg (Q8 K2)=V8 K2:=rfl;simp only[Q8]at qj kj1 kj2;have o1:=Iz K1.u hK1;have o2:=Iz K2.u hK2;obtain⟨hk,⟨a,b,e,he1,he2⟩,h⟩:=h;obtain⟨-,-,-,e4,-,-,e7,-,-,-,e11,-⟩:=qX;rcases h with ⟨hr,hn,hu⟩|⟨⟨hr,hn⟩|⟨hr,hn⟩|⟨hr,hn⟩,ho1,ho2,hu⟩
 .have hrr:∀k:Int,(q.rule=k)=((13:Int)=k):=λk=>by rw[hr]
  obtain⟨m',hA⟩:=TC (bs [112,97,105,114]) (true,true) [K1.t,K2.t] e_;have hA:pc Q Ao [.str (bs [112,97,105,114]),sl (true,true) 4 [I8 K1.t,I8 K2.t]]=some (I8 (.mk 3 (bs [112,97,105,114]) 0 m' [K1.t,K2.t])):=hA;have hS:=IF q.t (.mk 3 (bs [112,97,105,114]) 0 m' [K1.t,K2.t]) a_ n_;rw[Wr hv hk hn m' (by rw[e];simp[he1,he2])]at hS;cases c1:OJ K1.u with
  |false =>
   rw[c1]at o1 hu;simp only[Bool.false_and,zf8z,if_false]at hu;have hi:=Nn q 6 hq;rw[hu,By]at hi;refine j5 D5 λfr hl h0 h1=>?_;simp[D5]at hl h0 h1;simp[D5,hl,h0,h1,Q8,hrr];refine D7.mono (Eg _ _ ?_ ?_ ?_) ?_<;>first|(simp[hl,h0,h1];done)|skip
   rintro e B8 h' ⟨K3,rfl,rfl⟩;have hl':B8.length=179:=K3.1.trans c_;have k1:B2 B8 1=sl m 14 ([K1,K2].map V8):=D4 K3 1 l_;have k2:B2 B8 2=.ptr 0 0:=D4 K3 2 c_;simp only[zf1z,zf2z]at k1;simp[hl',k1,k2,Q8,hrr,qg,kg1,kg2,qu,ku1,ku2,qj,kj1,kj2,A9,o1,hA,hS,hi]
  |true =>
   rw[c1]at o1 hu;cases c2:OJ K2.u with
   |false =>
    rw[c2]at o2 hu;simp only[Bool.and_false,zf8z,if_false]at hu;have hi:=Nn q 6 hq;rw[hu,By]at hi;refine j5 D5 λfr hl h0 h1=>?_;simp[D5]at hl h0 h1;simp[D5,hl,h0,h1,Q8,hrr];refine D7.mono (Eg _ _ ?_ ?_ ?_) ?_<;>first|(simp[hl,h0,h1];done)|skip
    rintro e B8 h' ⟨K3,rfl,rfl⟩;have hl':B8.length=179:=K3.1.trans c_;have k1:B2 B8 1=sl m 14 ([K1,K2].map V8):=D4 K3 1 l_;have k2:B2 B8 2=.ptr 0 0:=D4 K3 2 c_;simp only[zf1z,zf2z]at k1;simp[hl',k1,k2,Q8,hrr,qg,kg1,kg2,qu,ku1,ku2,qj,kj1,kj2,A9,o1,o2,e4,e7,e11,hA,hS,hi]
   |true =>
    rw[c2]at o2 hu;simp only[Bool.and_self,if_true]at hu;have hi:=Nn q 1 hq;rw[hu,By]at hi;refine j5 D5 λfr hl h0 h1=>?_;simp[D5]at hl h0 h1;simp[D5,hl,h0,h1,Q8,hrr];refine D7.mono (Eg _ _ ?_ ?_ ?_) ?_<;>first|(simp[hl,h0,h1];done)|skip
    rintro e B8 h' ⟨K3,rfl,rfl⟩;have hl':B8.length=179:=K3.1.trans c_;have k1:B2 B8 1=sl m 14 ([K1,K2].map V8):=D4 K3 1 l_;have k2:B2 B8 2=.ptr 0 0:=D4 K3 2 c_;simp only[zf1z,zf2z]at k1;simp[hl',k1,k2,Q8,hrr,qg,kg1,kg2,qu,ku1,ku2,qj,kj1,kj2,A9,o1,o2,e4,e7,e11,hA,hS,hi]
 .have hrr:∀k:Int,(q.rule=k)=((17:Int)=k):=λk=>by rw[hr]
  obtain⟨m',hA⟩:=TC (bs [101,110,99]) (true,true) [K1.t,K2.t] e_;have hA:pc Q Ao [.str (bs [101,110,99]),sl (true,true) 4 [I8 K1.t,I8 K2.t]]=some (I8 (.mk 3 (bs [101,110,99]) 0 m' [K1.t,K2.t])):=hA;have hS:=IF q.t (.mk 3 (bs [101,110,99]) 0 m' [K1.t,K2.t]) a_ n_;rw[Wr hv hk hn m' (by rw[e];simp[he1,he2])]at hS;rw[ho1]at o1;rw[ho2]at o2;have hi:=Nn q 1 hq;rw[hu,By]at hi;refine j5 D5 λfr hl h0 h1=>?_;simp[D5]at hl h0 h1;simp[D5,hl,h0,h1,Q8,hrr];refine D7.mono (Eg _ _ ?_ ?_ ?_) ?_<;>first|(simp[hl,h0,h1];done)|skip
  rintro e B8 h' ⟨K3,rfl,rfl⟩;have hl':B8.length=179:=K3.1.trans c_;have k1:B2 B8 1=sl m 14 ([K1,K2].map V8):=D4 K3 1 l_;have k2:B2 B8 2=.ptr 0 0:=D4 K3 2 c_;simp only[zf1z,zf2z]at k1;simp[hl',k1,k2,Q8,hrr,qg,kg1,kg2,qu,ku1,ku2,qj,kj1,kj2,A9,o1,o2,e4,e7,e11,hA,hS,hi]
 .have hrr:∀k:Int,(q.rule=k)=((19:Int)=k):=λk=>by rw[hr]
  obtain⟨m',hA⟩:=TC (bs [97,101,110,99]) (true,true) [K1.t,K2.t] e_;have hA:pc Q Ao [.str (bs [97,101,110,99]),sl (true,true) 4 [I8 K1.t,I8 K2.t]]=some (I8 (.mk 3 (bs [97,101,110,99]) 0 m' [K1.t,K2.t])):=hA;have hS:=IF q.t (.mk 3 (bs [97,101,110,99]) 0 m' [K1.t,K2.t]) a_ n_;rw[Wr hv hk hn m' (by rw[e];simp[he1,he2])]at hS;rw[ho1]at o1;rw[ho2]at o2;have hi:=Nn q 1 hq;rw[hu,By]at hi;refine j5 D5 λfr hl h0 h1=>?_;simp[D5]at hl h0 h1;simp[D5,hl,h0,h1,Q8,hrr];refine D7.mono (Eg _ _ ?_ ?_ ?_) ?_<;>first|(simp[hl,h0,h1];done)|skip
  rintro e B8 h' ⟨K3,rfl,rfl⟩;have hl':B8.length=179:=K3.1.trans c_;have k1:B2 B8 1=sl m 14 ([K1,K2].map V8):=D4 K3 1 l_;have k2:B2 B8 2=.ptr 0 0:=D4 K3 2 c_;simp only[zf1z,zf2z]at k1;simp[hl',k1,k2,Q8,hrr,qg,kg1,kg2,qu,ku1,ku2,qj,kj1,kj2,A9,o1,o2,e4,e7,e11,hA,hS,hi]
 .have hrr:∀k:Int,(q.rule=k)=((21:Int)=k):=λk=>by rw[hr]
  obtain⟨m',hA⟩:=TC (bs [115,105,103,110]) (true,true) [K1.t,K2.t] e_;have hA:pc Q Ao [.str (bs [115,105,103,110]),sl (true,true) 4 [I8 K1.t,I8 K2.t]]=some (I8 (.mk 3 (bs [115,105,103,110]) 0 m' [K1.t,K2.t])):=hA;have hS:=IF q.t (.mk 3 (bs [115,105,103,110]) 0 m' [K1.t,K2.t]) a_ n_;rw[Wr hv hk hn m' (by rw[e];simp[he1,he2])]at hS;rw[ho1]at o1;rw[ho2]at o2;have hi:=Nn q 1 hq;rw[hu,By]at hi;refine j5 D5 λfr hl h0 h1=>?_;simp[D5]at hl h0 h1;simp[D5,hl,h0,h1,Q8,hrr];refine D7.mono (Eg _ _ ?_ ?_ ?_) ?_<;>first|(simp[hl,h0,h1];done)|skip
  rintro e B8 h' ⟨K3,rfl,rfl⟩;have hl':B8.length=179:=K3.1.trans c_;have k1:B2 B8 1=sl m 14 ([K1,K2].map V8):=D4 K3 1 l_;have k2:B2 B8 2=.ptr 0 0:=D4 K3 2 c_;simp only[zf1z,zf2z]at k1;simp[hl',k1,k2,Q8,hrr,qg,kg1,kg2,qu,ku1,ku2,qj,kj1,kj2,A9,o1,o2,e4,e7,e11,hA,hS,hi]
end Go.Abs.Q
namespace Go.Abs.Q
open Go.Proofs
attribute [local simp] E5 E6 fin J4 H8 Q3 S6
set_option maxHeartbeats 1000000 in
theorem qJ(rule:Int)(t q key:Tm)(kind:Int)(hv:vE t=0)(h:ol rule t q key kind):pc Q KG [I8 t]=some (.tup [I8 q,I8 key,.str t.name]):=by
 obtain⟨hk,h⟩:=h;have i1:=JS t (bs [97,101,110,99]);have i2:=JS t (bs [101,110,99]);have i3:=JS t (bs [115,105,103,110]);rw[sx _ hk]at i1 i2 i3;have tg:=G9 t;have tc:=I7 t;have qg:=G9 q;have kg:=G9 key;obtain⟨e1,e2,e3,e4,e5,e6,e7,e8,e9,e10,e11,e12,e13,e14,e15⟩:=qX;rcases h with ⟨-,hn,-,e⟩|⟨-,hn,-,e⟩|⟨-,hn,-,b,e,hb,eb⟩
 .have n0:KW (C4 t.kids) 0=some (I8 q):=by rw[e];rfl
  have n1:KW (C4 t.kids) 1=some (I8 key):=by rw[e];rfl
  have XI:t.kids.length=2:=by rw[e];rfl
  rw[decide_eq_false (by rw[hn];exact e10.symm)]at i1;rw[decide_eq_true hn]at i2;refine J0 W3 λfr hl h0=>?_;simp[W3]at hl h0;simp[W3,hl,h0,i1,i2,tg,tc]
  with_reducible refine @E8 _ _ _ _ _ _ _ (λk=>k) (λ_=>True) [.nil,.rb 0,.nil,.rw,.nil,.rb 0,.nil,.rw,.nil,.rb 0,.sb 1,.sb 2,.nil] 0 (λa b e=>e) ?_ ?_ ?_
  .rfl
  .decide
  simp[W3,hl,h0,n0,n1,XI,qg,kg]
 .have n0:KW (C4 t.kids) 0=some (I8 q):=by rw[e];rfl
  have n1:KW (C4 t.kids) 1=some (I8 key):=by rw[e];rfl
  have XI:t.kids.length=2:=by rw[e];rfl
  rw[decide_eq_false (by rw[hn];exact e15)]at i1;rw[decide_eq_false (by rw[hn];exact e14)]at i2;rw[decide_eq_true hn]at i3;refine J0 W3 λfr hl h0=>?_;simp[W3]at hl h0;simp[W3,hl,h0,i1,i2,i3,tg,tc]
  with_reducible refine @E8 _ _ _ _ _ _ _ (λk=>k) (λ_=>True) [.nil,.rb 0,.nil,.rw,.nil,.rb 0,.nil,.rw,.nil,.rb 0,.sb 1,.sb 2,.nil] 0 (λa b e=>e) ?_ ?_ ?_
  .rfl
  .decide
  simp[W3,hl,h0,n0,n1,XI,qg,kg]
 .have n0:KW (C4 t.kids) 0=some (I8 q):=by rw[e];rfl
  have n1:KW (C4 t.kids) 1=some (I8 b):=by rw[e];rfl
  have XI:t.kids.length=2:=by rw[e];rfl
  have m0:KW (C4 b.kids) 0=some (I8 key):=by rw[eb];rfl
  have ml:b.kids.length=1:=by rw[eb];rfl
  have bg:=G9 b;have bc:=I7 b;have i4:=JS b (bs [112,107]);rw[hb]at i4;rw[decide_eq_true hn]at i1;have hn':AV.str (bs [97,101,110,99])=.str t.name:=by rw[hn]
  refine J0 W3 λfr hl h0=>?_;simp[W3]at hl h0;simp[W3,hl,h0,i1,i4,tg,tc,n0,n1,XI,bg]
  with_reducible refine @E8 _ _ _ _ _ _ _ (λk=>k) (λ_=>True) [.nil,.rb 0,.nil,.rw,.nil,.rb 0,.nil,.nil,.rw,.nil,.rw,.sb 1,.sb 2,.nil] 0 (λa b e=>e) ?_ ?_ ?_
  .rfl
  .decide
  simp[W3,hl,h0,n0,n1,XI,m0,ml,bc,qg,kg,hn]
theorem wA{α:Type}{l:List α}{a c d:α}(h0:l[0]?=some a)(h2:l[2]?=some c)(h3:l[3]?=some d):∃b r,l=a::b::c::d::r:=by
 rcases l with _|⟨x,_|⟨y,_|⟨z,_|⟨w,r⟩⟩⟩⟩<;>simp at h0 h2 h3
 exact⟨y,r,by rw[h0,h2,h3]⟩
def yV(rule:Int)(A:List Jdg)(p:Pyl)(parts:List Tm):Prop:=∀(n:Nat) (x:Tm) (k:Int),parts[n]?=some x->p.parts[n]?=some k->∃K:Jdg,A[n+1]?=some K/\K.f=IS/\S4 K.t=S4 x/\V7 K.u/\vE K.t=0/\(rule=20->OJ K.u=true)/\(rule≠20->K.u.kind=k/\K.u.ps=[])
set_option maxHeartbeats 2000000 in
theorem wU(jq:Jdg)(ma:Gg)(A:List Jdg)(mp:Gg)(l:Be)(D6:l.length<=1000)(p:Pyl)(hpl:l.length<=p.parts.length)(hP:yV jq.rule A p l)(hvl:∀x∈l,x.size<=1048576)(cq ck:b9)(fr:Fr)(h:AH)(hB:h.boxes=[(V8 jq).cells,cq,ck,(Bc p).cells])(hl:fr.length=196)(h1:B2 fr 1=sl ma 14 (A.map V8))(h2:B2 fr 2=.ptr 0 0)(h9:B2 fr 9=.ptr 3 0)(h10:B2 fr 10=sl mp 4 (C4 l))(h14:B2 fr 14=.int .i64 0) :
  D7 (lp (A8 (m6 Q) (B1 Da) CH) (fr,h)) λe B8 h'=>Kp CH.wr fr B8/\e=.exit 0/\h'.boxes[0]?=some (V8 jq).cells/\h'.boxes[2]?=some ck/\h'.boxes[3]?=some (Bc p).cells:=by
 refine E9 rfl fr (λn fr h'=>∃(i:Nat),i+n=l.length/\B2 fr 14=.int .i64 (i:Nat)/\(h'.boxes[0]?=some (V8 jq).cells/\h'.boxes[2]?=some ck/\h'.boxes[3]?=some (Bc p).cells)) ?_ l.length h ⟨0,a_,h14,(by rw[hB];exact⟨rfl,rfl,rfl⟩)⟩;rintro J Φ hJ hΦ n CT H1 K ⟨i,hi,k14,hr⟩;have C6:=K.1.trans hl;have k1:=D4 K 1 h1;have k2:=D4 K 2 h2;have k9:=D4 K 9 h9;have k10:=D4 K 10 h10;clear K;by_cases C2:i<l.length
 .have L4:=J6 i a_;obtain⟨b0,b2,b3⟩:=hr;obtain⟨bx,F⟩:=H1;simp only at b0 b2 b3;rw[NX]at b0;rw[DI]at b3;obtain⟨cq',rest,rfl⟩:=wA b0 b2 b3;have hx:=Gk C2;have hpk:i<p.parts.length:=by omega
  have hy:=J5 (f:=AV.int .i64) (zf0z hpk);obtain⟨K,hK,hf,he,hu,hvK,ho,hn⟩:=hP i l[i] p.parts[i] (zf0z C2) (zf0z hpk);have hsx:=hvl _ (List.getElem_mem C2);obtain⟨x1,y1⟩:=HS hK;have sK:=(P9 (BZ hvK).1).2.1;have hS:=IF K.t l[i] a_ a_;rw[LC.2 he]at hS;have hZ:=Jd K hf;have hO:=Iz K.u hu;have hI:=Nn K p.parts[i] hu;generalize l[i]=x at *
  generalize p.parts[i]=kk at *
  have xg:=G9 x;have kg:=G9 K.t;have ug:=Ax K.u;have kj:AV.agg (Q8 K)=V8 K:=rfl;simp only[Q8]at kj;have hw:IntKind.i64.wrap (1+(i:Int))=((i+1:Nat):Int):=by rw[Y8 a_ a_];omega
  have hge:(0:Int)<=(i:Int)+1:=by omega
  by_cases c:jq.rule=20
  .rw[ho c]at hO;simp[CH,C6,k1,k2,k9,k10,k14,C2,L4,Q8,hw,hge,x1,y1,kj,hZ,kg,hx,xg,hS,eq_true c,ug,hO];exact V6 hJ ⟨i+1,a_,d_,by simp[Q8],e_,e_⟩
  .have hIe:Hw K.u (Q9 kk)=true:=by
    obtain⟨h1,h2⟩:=hn c;unfold Hw;rw[h2];simp[Q9,BD,h1]
   rw[hIe]at hI;simp[CH,C6,k1,k2,k9,k10,k14,C2,L4,Q8,hw,hge,x1,y1,kj,hZ,kg,hx,xg,hS,c,hy,hpk,hI];exact V6 hJ ⟨i+1,a_,d_,by simp[Q8],e_,e_⟩
 .obtain⟨b0,b2,b3⟩:=hr;obtain⟨bx,F⟩:=H1;simp only at b0 b2 b3;simp[CH,C6,k1,k2,k9,k10,k14,C2];exact hΦ _ _ _ ⟨rfl,b0,b2,b3⟩
end Go.Abs.Q
namespace Go.Abs.Q
open Go.Proofs
attribute [local simp] E5 E6 fin J4 H8 Q3 S6
theorem lk_kids{rule:Int}{t q key:Tm}{kind:Int}(hv:vE t=0)(h:ol rule t q key kind):RE q=0/\RE key=0/\q.size<=400/\key.size<=400:=by
 have h4:=(P9 (BZ hv).1).2.1;have hs:=t.kids_size;obtain⟨hk,h⟩:=h;obtain⟨-,-,hth⟩:=MJ (BZ hv).2 hk;rcases h with ⟨-,-,-,e⟩|⟨-,-,-,e⟩|⟨-,-,-,b,e,hb,eb⟩
 .rw[e]at hs hth;simp only[Tm.sizes]at hs;exact⟨hth q e_,hth key e_,a_,a_⟩
 .rw[e]at hs hth;simp only[Tm.sizes]at hs;exact⟨hth q e_,hth key e_,a_,a_⟩
 .rw[e]at hs hth;have hsb:=b.kids_size;obtain⟨-,-,hthb⟩:=MJ (hth b e_) (Dq.1 hb).1;rw[eb]at hsb hthb;simp only[Tm.sizes]at hs hsb;exact⟨hth q e_,hthb key e_,a_,a_⟩
def EffJ(rule:Int)(A:List Jdg)(p:Pyl)(parts:List Tm)(key:Tm):Prop :=
 if rule≠18/\0<=p.goal then A.length=parts.length+2/\∃(Ke:Jdg) (ts:List Tm),A[parts.length+1]?=some Ke/\cd p parts key=some ts/\Ii Ke.f ⟨2,p.goal,(true,false),ts⟩=true/\Tm.sizes Ke.f.terms<=1099511627776/\Tm.sizes ts<=1099511627776
 else A.length=parts.length+1
set_option maxHeartbeats 16000000 in
theorem lY(jq:Jdg)(A:List Jdg)(ma:Gg)(K0:Jdg)(qq key:Tm)(kind:Int)(p:Pyl)(parts:Be)(hv:vE jq.t=0)(hlk:ol jq.rule jq.t qq key kind)(hq:V7 jq.u)(hu:jq.u=Q9 1)(hA0:A[0]?=some K0)(hf0:K0.f=IS)(he0:S4 K0.t=S4 key)(hk0:K0.u.kind=kind)(w3:V7 K0.u)(w2:KT K0.u=0)(hv0:vE K0.t=0)(hft:Rw K0.u qq=some (p,parts))(hP:yV jq.rule A p parts)(hE:EffJ jq.rule A p parts key) :
  pc Q Da [V8 jq,sl ma 14 (A.map V8)]=some (.bool true):=by
 obtain⟨tq,tk,sq,sk⟩:=lk_kids hv hlk;have sK:=(P9 (BZ hv0).1).2.1;have AT:=qJ jq.rule jq.t qq key kind hv hlk;have hZ:=Jd K0 hf0;have hS:=IF K0.t key a_ a_;rw[LC.2 he0]at hS;have hI:=Nn jq 1 hq;rw[hu,By]at hI;obtain⟨rf,P5,hfv⟩:=lh K0.u qq w3 w2 tq;rw[hft]at hfv;obtain⟨mp,rfl⟩:=hfv;obtain⟨f1,f2,f3,-⟩:=NE hft;obtain⟨g1,g2,g3,g4⟩:=Sz (Wc w2 p f1);obtain⟨re,hef,E3⟩:=ak p mp parts key tk a_ a_ g4;have Eg:=wU jq ma A mp parts a_ p a_ hP (λx hx=>by have:=f3 x hx;omega) (I8 qq).cells (I8 key).cells;obtain⟨x0,y0⟩:=HS hA0;have qg:=G9 jq.t;have qu:=Ax jq.u;have qj:AV.agg (Q8 jq)=V8 jq:=rfl;have kj:AV.agg (Q8 K0)=V8 K0:=rfl;simp only[Q8]at qj kj;have kg:=G9 K0.t;have ku:=Ax K0.u;have qqg:=G9 qq;have keg:=G9 key;have pg:=gz p;simp only[I7]at Eg;have w1:IntKind.i64.wrap ((parts.length:Int)+1)=(parts.length:Int)+1:=Y8 a_ a_;have w4:IntKind.i64.wrap ((parts.length:Int)+1+1)=(parts.length:Int)+1+1:=Y8 a_ a_;have w5:IntKind.i64.wrap ((parts.length:Int)+1+1-1)=((parts.length+1:Nat):Int):=by rw[Y8 a_ a_];omega
 have V5:0<A.length:=by omega
 have w6:((parts.length:Int)+1).toNat=parts.length+1:=by omega
 have hz1:¬((parts.length:Int)+1+1=0):=by omega
 have hz2:¬((parts.length:Int)+1=0):=by omega
 unfold EffJ at hE;by_cases hg:jq.rule≠18/\0<=p.goal
 .rw[if_pos hg]at hE;obtain⟨hAl,Ke,ts,hKe,hee,heq,hse,X8⟩:=hE;obtain⟨xe,ye⟩:=HS hKe;rw[hee]at E3;obtain⟨mf,rfl⟩:=E3;have hF:=Qw ⟨2,p.goal,mf,ts⟩ Ke.f X8 hse;have heq2:Ii ⟨2,p.goal,mf,ts⟩ Ke.f=true:=by
   obtain⟨h1,h2,h3⟩:=LZ.1 heq;exact LZ.2 ⟨h1.symm,h2.symm,h3.symm⟩
  rw[heq2]at hF;have hfa:AV.agg [.int .i64 2,.int .i64 p.goal,sl mf 4 (C4 ts)]=Dp ⟨2,p.goal,mf,ts⟩:=rfl;have hfc:(Dp ⟨2,p.goal,mf,ts⟩).cells=[.int .i64 2,.int .i64 p.goal,sl mf 4 (C4 ts)]:=rfl;have keg2:=UK Ke.f;have hAl':(A.length:Int)=(parts.length:Int)+1+1:=by omega
  have hge:(0:Int)<=(parts.length:Int)+1:=by omega
  obtain⟨e18,eg⟩:=hg;rcases hlk.2 with ⟨hr,hn,hkd,-⟩|⟨hr,hn,hkd,-⟩|⟨hr,-⟩
  .have hrr:∀k:Int,(jq.rule=k)=((16:Int)=k):=λk=>by rw[hr]
   have hk0':K0.u.kind=3:=hk0.trans hkd;refine j5 M4 λfr hl h0 h1=>?_;simp[M4]at hl h0 h1;simp[M4,hl,h0,h1,Q8,hrr,qg,qu,AT,x0,y0,V5,hz1,hz2,kj,kg,ku,hZ,keg,hS,qj,hI,eq_true hn,eq_true hk0',qqg,P5,w1,w4,hAl',eg,];refine D7.mono (Eg _ _ ?_ ?_ ?_ ?_ ?_ ?_ ?_) ?_<;>first|(simp[hl,h0,h1,Q8];done)|skip
   rintro e B8 ⟨bx,F⟩ ⟨K1,rfl,b0,b2,b3⟩;simp only at b0 b2 b3;rw[NX]at b0;rw[DI]at b3;obtain⟨cq',rest,rfl⟩:=wA b0 b2 b3;have hl':B8.length=196:=K1.1.trans c_;have k1:B2 B8 1=sl ma 14 (A.map V8):=D4 K1 1 l_;have k6:B2 B8 6=.ptr 2 0:=D4 K1 6 c_;have k9:B2 B8 9=.ptr 3 0:=D4 K1 9 c_;have k10:B2 B8 10=sl mp 4 (C4 parts):=D4 K1 10 c_;have k12:B2 B8 12=.int .i64 ((parts.length:Int)+1+1):=D4 K1 12 c_;have k13:B2 B8 13=.bool true:=D4 K1 13 c_;simp[hl',k1,k6,k9,k10,k12,k13,Q8,hrr,pg,keg,hef,hfa,hfc,hF,w1,w6,hge,xe,ye,keg2]
  .have hrr:∀k:Int,(jq.rule=k)=((20:Int)=k):=λk=>by rw[hr]
   have hk0':K0.u.kind=4:=hk0.trans hkd;refine j5 M4 λfr hl h0 h1=>?_;simp[M4]at hl h0 h1;simp[M4,hl,h0,h1,Q8,hrr,qg,qu,AT,x0,y0,V5,hz1,hz2,kj,kg,ku,hZ,keg,hS,qj,hI,eq_true hn,eq_true hk0',qqg,P5,w1,w4,hAl',eg,];refine D7.mono (Eg _ _ ?_ ?_ ?_ ?_ ?_ ?_ ?_) ?_<;>first|(simp[hl,h0,h1,Q8];done)|skip
   rintro e B8 ⟨bx,F⟩ ⟨K1,rfl,b0,b2,b3⟩;simp only at b0 b2 b3;rw[NX]at b0;rw[DI]at b3;obtain⟨cq',rest,rfl⟩:=wA b0 b2 b3;have hl':B8.length=196:=K1.1.trans c_;have k1:B2 B8 1=sl ma 14 (A.map V8):=D4 K1 1 l_;have k6:B2 B8 6=.ptr 2 0:=D4 K1 6 c_;have k9:B2 B8 9=.ptr 3 0:=D4 K1 9 c_;have k10:B2 B8 10=sl mp 4 (C4 parts):=D4 K1 10 c_;have k12:B2 B8 12=.int .i64 ((parts.length:Int)+1+1):=D4 K1 12 c_;have k13:B2 B8 13=.bool true:=D4 K1 13 c_;simp[hl',k1,k6,k9,k10,k12,k13,Q8,hrr,pg,keg,hef,hfa,hfc,hF,w1,w6,hge,xe,ye,keg2]
  .exact absurd hr e18
 .rw[if_neg hg]at hE;have hAl':(A.length:Int)=(parts.length:Int)+1:=by omega
  have hex:∃(x:Fa) (b:Bool),re=.tup [Dp x,.bool b]:=by
   unfold yM at E3;split at E3
   .obtain⟨m,rfl⟩:=E3;exact⟨_,_,rfl⟩
   .obtain⟨x,rfl⟩:=E3;exact⟨_,_,rfl⟩
  obtain⟨xf,bf,rfl⟩:=hex;have xfg:=UK xf;have xfc:=Il xf;rcases hlk.2 with ⟨hr,hn,hkd,-⟩|⟨hr,hn,hkd,-⟩|⟨hr,hn,hkd,-⟩
  .have hrr:∀k:Int,(jq.rule=k)=((16:Int)=k):=λk=>by rw[hr]
   have hk0':K0.u.kind=3:=hk0.trans hkd;have ng:¬0<=p.goal:=λh=>hg ⟨by rw[hr];decide,h⟩;refine j5 M4 λfr hl h0 h1=>?_;simp[M4]at hl h0 h1;simp[M4,hl,h0,h1,Q8,hrr,qg,qu,AT,x0,y0,V5,hz1,hz2,kj,kg,ku,hZ,keg,hS,qj,hI,eq_true hn,eq_true hk0',qqg,P5,w1,w4,hAl',ng,];refine D7.mono (Eg _ _ ?_ ?_ ?_ ?_ ?_ ?_ ?_) ?_<;>first|(simp[hl,h0,h1,Q8];done)|skip
   rintro e B8 ⟨bx,F⟩ ⟨K1,rfl,b0,b2,b3⟩;simp only at b0 b2 b3;rw[NX]at b0;rw[DI]at b3;obtain⟨cq',rest,rfl⟩:=wA b0 b2 b3;have hl':B8.length=196:=K1.1.trans c_;have k1:B2 B8 1=sl ma 14 (A.map V8):=D4 K1 1 l_;have k6:B2 B8 6=.ptr 2 0:=D4 K1 6 c_;have k9:B2 B8 9=.ptr 3 0:=D4 K1 9 c_;have k10:B2 B8 10=sl mp 4 (C4 parts):=D4 K1 10 c_;have k12:B2 B8 12=.int .i64 ((parts.length:Int)+1):=D4 K1 12 c_;have k13:B2 B8 13=.bool false:=D4 K1 13 c_;simp[hl',k1,k6,k9,k10,k12,k13,Q8,hrr,pg,keg,hef,xfg,xfc]
  .have hrr:∀k:Int,(jq.rule=k)=((20:Int)=k):=λk=>by rw[hr]
   have hk0':K0.u.kind=4:=hk0.trans hkd;have ng:¬0<=p.goal:=λh=>hg ⟨by rw[hr];decide,h⟩;refine j5 M4 λfr hl h0 h1=>?_;simp[M4]at hl h0 h1;simp[M4,hl,h0,h1,Q8,hrr,qg,qu,AT,x0,y0,V5,hz1,hz2,kj,kg,ku,hZ,keg,hS,qj,hI,eq_true hn,eq_true hk0',qqg,P5,w1,w4,hAl',ng,];refine D7.mono (Eg _ _ ?_ ?_ ?_ ?_ ?_ ?_ ?_) ?_<;>first|(simp[hl,h0,h1,Q8];done)|skip
   rintro e B8 ⟨bx,F⟩ ⟨K1,rfl,b0,b2,b3⟩;simp only at b0 b2 b3;rw[NX]at b0;rw[DI]at b3;obtain⟨cq',rest,rfl⟩:=wA b0 b2 b3;have hl':B8.length=196:=K1.1.trans c_;have k1:B2 B8 1=sl ma 14 (A.map V8):=D4 K1 1 l_;have k6:B2 B8 6=.ptr 2 0:=D4 K1 6 c_;have k9:B2 B8 9=.ptr 3 0:=D4 K1 9 c_;have k10:B2 B8 10=sl mp 4 (C4 parts):=D4 K1 10 c_;have k12:B2 B8 12=.int .i64 ((parts.length:Int)+1):=D4 K1 12 c_;have k13:B2 B8 13=.bool false:=D4 K1 13 c_;simp[hl',k1,k6,k9,k10,k12,k13,Q8,hrr,pg,keg,hef,xfg,xfc]
  .have hrr:∀k:Int,(jq.rule=k)=((18:Int)=k):=λk=>by rw[hr]
   have hk0':K0.u.kind=4:=hk0.trans hkd;refine j5 M4 λfr hl h0 h1=>?_;simp[M4]at hl h0 h1;simp[M4,hl,h0,h1,Q8,hrr,qg,qu,AT,x0,y0,V5,hz1,hz2,kj,kg,ku,hZ,keg,hS,qj,hI,eq_true hn,eq_true hk0',qqg,P5,w1,w4,hAl',];refine D7.mono (Eg _ _ ?_ ?_ ?_ ?_ ?_ ?_ ?_) ?_<;>first|(simp[hl,h0,h1,Q8];done)|skip
   rintro e B8 ⟨bx,F⟩ ⟨K1,rfl,b0,b2,b3⟩;simp only at b0 b2 b3;rw[NX]at b0;rw[DI]at b3;obtain⟨cq',rest,rfl⟩:=wA b0 b2 b3;have hl':B8.length=196:=K1.1.trans c_;have k1:B2 B8 1=sl ma 14 (A.map V8):=D4 K1 1 l_;have k6:B2 B8 6=.ptr 2 0:=D4 K1 6 c_;have k9:B2 B8 9=.ptr 3 0:=D4 K1 9 c_;have k10:B2 B8 10=sl mp 4 (C4 parts):=D4 K1 10 c_;have k12:B2 B8 12=.int .i64 ((parts.length:Int)+1):=D4 K1 12 c_;have k13:B2 B8 13=.bool false:=D4 K1 13 c_;simp[hl',k1,k6,k9,k10,k12,k13,Q8,hrr,pg,keg,hef,xfg,xfc]
theorem KN{α:Type}{l:List α}{n i:Nat}{x:α}(h:(l.take n)[i]?=some x):i<n/\l[i]?=some x:=by
 rw[List.getElem?_take]at h;split at h
 .exact⟨by assumption,h⟩
 .cases h
theorem UQ{rule:Int}{l:List Jdg}:∀{ks:List Int} {xs:Be} {is:List Int},PartsR rule l ks xs is->xs.length=ks.length/\is.length=ks.length/\∀(n:Nat) (k:Int) (x:Tm) (i:Int),ks[n]?=some k->xs[n]?=some x->is[n]?=some i->ZO rule l k x i
 | [],[],[],_=>⟨rfl,rfl,λn k x i h=>by simp at h⟩
 |k::ks,x::xs,i::is,h=>by
  rw[PartsR]at h;obtain⟨h1,h2⟩:=h;obtain⟨a,b,c⟩:=UQ h2;refine⟨by simp[a],by simp[b],λn=>?_⟩;cases n with
  |zero =>
   intro k' x' i' e1 e2 e3;simp only[zf7z,Option.some.injEq]at e1 e2 e3;subst e1 e2 e3;exact h1
  |succ n =>
   intro k' x' i' e1 e2 e3;exact c n k' x' i' (by simpa using e1) (by simpa using e2) (by simpa using e3)
 | [],[],_::_,h=>by simp[PartsR]at h
 | [],_::_,_,h=>by simp[PartsR]at h
 |_::_,[],_,h=>by simp[PartsR]at h
 |_::_,_::_,[],h=>by simp[PartsR]at h
theorem eW:∀ts:List Tm,(∀t∈ts,vE t=0)->Tm.sizes ts<=400*ts.length
 | [],_=>by simp[Tm.sizes]
 |t::ts,h=>by
  have h1:=(P9 (BZ (h t e_)).1).2.1;have h2:=eW ts λx hx=>h x (by simp[hx]);simp only[Tm.sizes,zf4z];omega
theorem ru{l:List Jdg}{i0:Nat}:∀(is:List Int),(∀k∈is,∃(a:Nat) (K:Jdg),k=(a:Nat)/\a<i0/\l[a]?=some K)->∃qs:List Jdg,qs.length=is.length/\∀(n:Nat) (k:Int),is[n]?=some k->∃(a:Nat) (K:Jdg),k=(a:Nat)/\a<i0/\l[a]?=some K/\qs[n]?=some K
 | [],_=>⟨[],rfl,λn k h=>by simp at h⟩
 |k::is,h=>by
  obtain⟨a,K,e,ha,hl⟩:=h k e_;obtain⟨qs,h1,h2⟩:=ru is λk hk=>h k (by simp[hk]);refine⟨K::qs,by simp[h1],λn=>?_⟩;cases n with
  |zero =>
   intro k' hk;simp only[zf7z,Option.some.injEq]at hk;subst hk;exact⟨a,K,e,ha,hl,rfl⟩
  |succ n =>
   intro k' hk;exact h2 n k' (by simpa using hk)
theorem jU{A:PA}{tys:List Tyd}{efs:List Fa}{l:List Jdg}(ok:TyOk tys efs)(HR:∀(i:Nat) (J:Jdg),l[i]?=some J->Rt A tys efs (l.take i) J){i:Nat}{J:Jdg}(h:l[i]?=some J) :
  JOk J/\J.role=A.role/\J.blk=A.blk/\J.bad=A.bad/\∀k∈J.args,∃(a:Nat) (K:Jdg),k=(a:Nat)/\a<i/\l[a]?=some K:=by
 have hR:=HR i J h;clear h;have s0:Tm.sizes IS.terms<=1099511627776:=by simp[IS,Tm.sizes]
 have sz:∀t,vE t=0->t.size<=1048576:=λt ht=>by have:=(P9 (BZ ht).1).2.1;omega
 have s1:KT (Q9 1)=0:=by decide
 cases hR with
 |base x t m h1 h2 h3=>exact⟨⟨sz t h3,s0,(ok.ty x h1).2.2.1,e_,.inl ⟨rfl,h3,(ok.ty x h1).2.2.2⟩⟩,rfl,rfl,rfl,λk h=>by simp at h⟩
 |eff x f m h1 h2 h3 h4 =>
  refine⟨⟨by simp[Yo,Tm.size,Tm.sizes],?_,AR 0,e_,.inr ⟨by simp[h3],rfl,rfl,h4⟩⟩,rfl,rfl,rfl,λk h=>by simp at h⟩;have e1:=eW f.terms h4;have e2:=Tm.length_le x.terms;have e3:=(ok.ef x h1).1;have e4:=congrArg List.length (LZ.1 h2).2.2;rw[zg1z,zg1z]at e4;simp only;omega
 |pub t m h1 h2=>exact⟨⟨sz t h2,s0,AR 1,e_,.inl ⟨rfl,h2,s1⟩⟩,rfl,rfl,rfl,λk h=>by simp at h⟩
 |one rule t u m i J h1 h2 h3 h4 h5 h6 =>
  obtain⟨a1,a2⟩:=KN h1;exact⟨⟨sz t h3,s0,h5,e_,.inl ⟨rfl,h3,h4⟩⟩,rfl,rfl,rfl,λk h=>by simp only[zf9z]at h;exact⟨_,_,h,a1,a2⟩⟩
 |two rule t u m i k J K h1 h2 h3 h4 h5 h6 h7 h8 =>
  obtain⟨a1,a2⟩:=KN h1;obtain⟨b1,b2⟩:=KN h3;refine⟨⟨sz t h5,s0,h7,e_,.inl ⟨rfl,h5,h6⟩⟩,rfl,rfl,rfl,λk h=>?_⟩;simp only[zg3z,List.not_mem_nil,or_false]at h;rcases h with h|h
  .exact⟨_,_,h,a1,a2⟩
  .exact⟨_,_,h,b1,b2⟩
 |car rule t q key kind m i' J' p parts is es h1 h2 h3 h4 h5 h6 h7 h8 h9 =>
  obtain⟨a1,a2⟩:=KN h3;obtain⟨-,w2,w3⟩:=(HR i' J' a2).props ok h4;obtain⟨f1,f2,-,-⟩:=NE h7;obtain⟨g1,g2,-,-⟩:=Sz (Wc w2 p f1);obtain⟨p1,p2,p3⟩:=UQ h8;have hes:es.length<=1/\∀k∈es,∃(a:Nat) (K:Jdg),k=(a:Nat)/\a<i/\l[a]?=some K:=by
   split at h9
   .obtain⟨k,K,ts,rfl,b,-⟩:=h9;obtain⟨b1,b2⟩:=KN b;exact⟨e_,λk' hk=>by rw[zf9z.1 hk];exact⟨_,_,rfl,b1,b2⟩⟩
   .rw[h9];exact⟨e_,λk h=>by simp at h⟩
  refine⟨⟨sz t h2,s0,AR 1,by simp only[zf4z,zf5z];omega,.inl ⟨rfl,h2,s1⟩⟩,rfl,rfl,rfl,λk h=>?_⟩;rcases zg3z.1 h with h|h
  .exact⟨_,_,h,a1,a2⟩
  .rcases List.mem_append.1 h with h|h
   .obtain⟨n,hn,e⟩:=List.getElem_of_mem h;obtain⟨j,K,c1,c2,-⟩:=p3 n _ _ _ (zf0z a_) (zf0z a_) (zf0z hn);obtain⟨c3,c4⟩:=KN c2;exact⟨j,K,by rw[←e,c1],c3,c4⟩
   .exact hes.2 k h
theorem qI(q:Jdg)(m:Gg)(qs:List Jdg)(hr:q.rule=16\/q.rule=20\/q.rule=18)(h:pc Q Da [V8 q,sl m 14 (qs.map V8)]=some (.bool true)):pc Q Ck [V8 q,sl m 14 (qs.map V8)]=some (.bool true):=by
 have qj:AV.agg (Q8 q)=V8 q:=rfl;simp only[Q8]at qj;rcases hr with hr|hr|hr
 .have hrr:∀k:Int,(q.rule=k)=((16:Int)=k):=λk=>by rw[hr]
  refine j5 D5 λfr hl h0 h1=>?_;simp[D5]at hl h0 h1;simp[D5,hl,h0,h1,Q8,hrr,qj,h]
 .have hrr:∀k:Int,(q.rule=k)=((20:Int)=k):=λk=>by rw[hr]
  refine j5 D5 λfr hl h0 h1=>?_;simp[D5]at hl h0 h1;simp[D5,hl,h0,h1,Q8,hrr,qj,h]
 .have hrr:∀k:Int,(q.rule=k)=((18:Int)=k):=λk=>by rw[hr]
  refine j5 D5 λfr hl h0 h1=>?_;simp[D5]at hl h0 h1;simp[D5,hl,h0,h1,Q8,hrr,qj,h]
def tC:AV:=.agg [.int .i64 0,.vs true 0 [],.vs true 0 [],.vs true 0 []]
theorem A0d:AV.agg [.int .i64 0,.vs true 0 [],.vs true 0 [],.vs true 0 []]=tC:=rfl
@[simp]theorem m0_cells:tC.cells=[.int .i64 0,.vs true 0 [],.vs true 0 [],.vs true 0 []]:=rfl
@[simp]theorem m0_isTup:tC.isTup=false:=p_ rfl
@[simp]theorem m0_flatA:M9 tC=true:=p_ rfl
@[simp]theorem m0_frz(h:AH)(am:Bool):frz h am tC=some tC:=DB h am rfl
@[simp]theorem m0_tame(h:AH):tame h tC=true:=p_ rfl
section
variable (g:Tyg) (ml mq:Bool×Bool) (l qs:List Jdg) (i:Nat) (q:Jdg) (hq:l[i]?=some q) (hE:pc Q Aq [sl ml 14 (l.map V8),.int .i64 (i:Nat)]=some (.tup [sl mq 14 (qs.map V8),.bool true])) (hC:pc Q GS [V8 q]=some (.bool true))
include hq hE hC
theorem UR(h13:13<=q.rule)(h22:q.rule<=22)(hz:pc Q Du [V8 q,.bool false]=some (.bool true))(hb:pc Q Ck [V8 q,sl mq 14 (qs.map V8)]=some (.bool true)) :
  pc Q BU [EO g,tC,.vs true 0 [],sl ml 14 (l.map V8),.int .i64 (i:Nat)]=some (.bool true):=by
 obtain⟨x0,y0⟩:=HS hq;have qj:AV.agg (Q8 q)=V8 q:=rfl;simp only[Q8]at qj;have n1:¬q.rule=1:=by omega
 have n2:¬q.rule=2:=by omega
 have n3:¬q.rule=3:=by omega
 have n4:¬q.rule=4:=by omega
 have n5:¬q.rule=11:=by omega
 have n6:¬q.rule=12:=by omega
 have n7:¬q.rule=23:=by omega
 have n8:¬q.rule=24:=by omega
 have n9:5<=q.rule:=by omega
 have n10:¬q.rule<=11:=by omega
 refine gu MC rfl (by simp[AU]) λfr hl ha=>?_;have h0:=ha 0;have h1:=ha 1;have h2:=ha 2;have h3:=ha 3;have h4:=ha 4;clear ha;simp[AU]at hl h0 h1 h2 h3 h4;simp[AU,hl,h0,h1,h2,h3,h4,Q8,qj,x0,y0,hE,hC,hz,hb,n1,n2,n3,n4,n5,n6,n7,n8,n9,n10,h13,h22]
theorem qE(hr:q.rule=2)(hz:pc Q Du [V8 q,.bool false]=some (.bool true))(hn:qs=[])(hp:pc Q Hd [I8 q.t]=some (.bool true))(hv:pc Q Iu [I8 q.t]=some (.int .i64 0))(hi:pc Q Nf [V8 q,.int .i64 1]=some (.bool true)) :
  pc Q BU [EO g,tC,.vs true 0 [],sl ml 14 (l.map V8),.int .i64 (i:Nat)]=some (.bool true):=by
 subst hn;obtain⟨x0,y0⟩:=HS hq;have qj:AV.agg (Q8 q)=V8 q:=rfl;simp only[Q8]at qj;have qt:=G9 q.t;have hrr:∀k:Int,(q.rule=k)=((2:Int)=k):=λk=>by rw[hr]
 refine gu MC rfl (by simp[AU]) λfr hl ha=>?_;have h0:=ha 0;have h1:=ha 1;have h2:=ha 2;have h3:=ha 3;have h4:=ha 4;clear ha;simp[AU]at hl h0 h1 h2 h3 h4;simp[AU,hl,h0,h1,h2,h3,h4,Q8,qj,x0,y0,hE,hC,hz,hp,hv,hi,qt,hrr]
theorem ac(hr:q.rule=1)(hz:pc Q Du [V8 q,.bool (!decide (q.f.kind=0))]=some (.bool true))(hn:qs=[])(hp:pc Q Bn [EO g,V8 q]=some (.bool true)) :
  pc Q BU [EO g,tC,.vs true 0 [],sl ml 14 (l.map V8),.int .i64 (i:Nat)]=some (.bool true):=by
 subst hn;obtain⟨x0,y0⟩:=HS hq;have qj:AV.agg (Q8 q)=V8 q:=rfl;simp only[Q8]at qj;have qt:=G9 q.t;have gg:=ZJ g;have hrr:∀k:Int,(q.rule=k)=((1:Int)=k):=λk=>by rw[hr]
 refine gu MC rfl (by simp[AU]) λfr hl ha=>?_;have h0:=ha 0;have h1:=ha 1;have h2:=ha 2;have h3:=ha 3;have h4:=ha 4;clear ha;simp[AU]at hl h0 h1 h2 h3 h4;simp[AU,hl,h0,h1,h2,h3,h4,Q8,qj,x0,y0,hE,hC,hz,hp,gg,hrr]
end
theorem eM{l qs:List Jdg}{i0:Nat}{is:List Int}(h:∀(n:Nat) (k:Int),is[n]?=some k->∃(a:Nat) (K:Jdg),k=(a:Nat)/\a<i0/\l[a]?=some K/\qs[n]?=some K){n j:Nat}{K:Jdg}(hn:is[n]?=some (j:Int))(hj:(l.take i0)[j]?=some K):qs[n]?=some K:=by
 obtain⟨a,K',e,-,h1,h2⟩:=h n _ hn;obtain⟨-,h3⟩:=KN hj;have:a=j:=by omega
 subst this;rw[h3]at h1;rw[h2,h1]
theorem A0Q{α:Type}{l:List α}{a:α}(hl:l.length=1)(h:l[0]?=some a):l=[a]:=by
 match l,hl with
 | [x],_=>simpa using h
theorem A0R{α:Type}{l:List α}{a b:α}(hl:l.length=2)(h:l[0]?=some a)(h':l[1]?=some b):l=[a,b]:=by
 match l,hl with
 | [x,y],_=>simp at h h';rw[h,h']
theorem mI:∀{a b:Be},a.map S4=b.map S4->Tm.sizes a=Tm.sizes b
 | [],[],_=>rfl
 | [],_::_,h=>by simp at h
 |_::_,[],h=>by simp at h
 |x::a,y::b,h=>by
  simp only[zf1z,List.cons.injEq]at h;have h3:x.size=y.size:=(Jq _ x (zg4z _)).symm.trans ((congrArg Tm.size h.1).trans (Jq _ y (zg4z _)));simp only[Tm.sizes,h3,mI h.2]
set_option maxHeartbeats 2000000 in
theorem wz(g:Tyg)(hF:TygFin g)(ok:TyOk g.tys g.effs)(A:PA)(ml:Gg)(l:List Jdg)(hll:l.length<=1000000)(HR:∀(i:Nat) (J:Jdg),l[i]?=some J->Rt A g.tys g.effs (l.take i) J)(i:Nat)(q:Jdg)(hq:l[i]?=some q) :
  pc Q BU [EO g,tC,.vs true 0 [],sl ml 14 (l.map V8),.int .i64 (i:Nat)]=some (.bool true):=by
 obtain⟨jo,r1,r2,r3,r4⟩:=jU ok HR hq;obtain⟨qs,e1,e2⟩:=ru q.args r4;have hA:yI l i q qs:=⟨e1,λn k hk=>by
  obtain⟨a,K,x1,x2,x3,x4⟩:=e2 n k hk;obtain⟨y1,y2,y3,y4,-⟩:=jU ok HR x3;exact⟨a,K,x1,x2,x3,x4,by rw[y2,r1],by rw[y4,r3],by rw[y3,r2],y1⟩⟩
 obtain⟨mq,hE⟩:=lZ ml l hll i q jo.al hq qs hA;have hC:=eH q jo;have hR:=HR i q hq;have pr:∀{j:Nat} {K:Jdg},(l.take i)[j]?=some K->K.f=IS->vE K.t=0/\KT K.u=0/\V7 K.u:=λh hf=>(HR _ _ (KN h).2).props ok hf;cases hR with
 |base x t m h1 h2 h3 =>
  refine ac g ml mq l qs i _ hq hE hC rfl (Jd _ rfl) (zf3z.1 e1) (lq g hF _ jo rfl (zg0z.2 ⟨x,h1,?_⟩));unfold jr;rw[h2,By];rfl
 |eff x f m h1 h2 h3 h4 =>
  have hk:f.kind≠0:=by rw[h3];decide
  refine ac g ml mq l qs i _ hq hE hC rfl ?_ (zf3z.1 e1) (ln g hF _ jo hk (zg0z.2 ⟨x,h1,h2⟩));have:(!decide (f.kind=0))=true:=by simp[hk]
  rw[this];exact eI _ rfl rfl
 |pub t m h1 h2 =>
  have v0:=(BZ h2).1;have hs:=(P9 v0).2.1;have hP:=aa t (by have hn:=(P9 v0).1;obtain⟨k,nm,s,m,kk⟩:=t;have:=Xh (Mw hn).1;simp only[Tm.name];omega);rw[h1]at hP;have hV:=RY t a_;rw[v0]at hV;have hI:=Nn ⟨2,A.role,A.blk,A.bad,m,[],t,Q9 1,IS⟩ 1 (AR 1);rw[By]at hI;exact qE g ml mq l qs i _ hq hE hC rfl (Jd _ rfl) (zf3z.1 e1) hP hV hI
 |one rule t u m j K h1 h2 h3 h4 h5 h6 =>
  obtain⟨w1,w2,w3⟩:=pr h1 h2;have eq:qs=[K]:=A0Q e1 (eM e2 (n:=0) rfl h1);subst eq;have hr:13<=rule/\rule<=22:=by
   rcases h6 with ⟨h,-⟩|⟨h,-⟩|⟨h,-⟩<;>omega
  exact UR g ml mq l _ i _ hq hE hC hr.1 hr.2 (Jd _ rfl) (qG _ K mq h3 w1 h5 w3 h2 h6)
 |two rule t u m j k K1 K2 h1 h2 h3 h4 h5 h6 h7 h8 =>
  obtain⟨w1,w2,w3⟩:=pr h1 h2;obtain⟨v1,v2,v3⟩:=pr h3 h4;have eq:qs=[K1,K2]:=A0R e1 (eM e2 (n:=0) rfl h1) (eM e2 (n:=1) rfl h3);subst eq;have hr:13<=rule/\rule<=22:=by
   rcases h8.2.2 with ⟨h,-⟩|⟨⟨h,-⟩|⟨h,-⟩|⟨h,-⟩,-⟩<;>omega
  exact UR g ml mq l _ i _ hq hE hC hr.1 hr.2 (Jd _ rfl) (qH _ K1 K2 mq h5 w1 v1 h7 w3 v3 h2 h4 h8)
 |car rule t qq key kind m j K p parts is es h1 h2 h3 h4 h5 h6 h7 h8 h9 =>
  obtain⟨w1,w2,w3⟩:=pr h3 h4;obtain⟨p1,p2,p3⟩:=UQ h8;have hr:13<=rule/\rule<=22:=by
   rcases h1.2 with ⟨h,-⟩|⟨h,-⟩|⟨h,-⟩<;>omega
  have hr3:rule=16\/rule=20\/rule=18:=by
   rcases h1.2 with ⟨h,-⟩|⟨h,-⟩|⟨h,-⟩<;>simp[h]
  simp only at e1 e2;have ai:∀n,n<is.length->((j:Int)::(is++es))[n+1]?=is[n]?:=λn hn=>by
   rw[zf6z,List.getElem?_append_left hn]
  have hPJ:yV rule qs p parts:=λn x k hx hk=>by
   have hn:=(List.getElem?_eq_some_iff.1 hx).1;have hni:n<is.length:=by omega
   obtain⟨a,J,y1,y2,y3,y4,y5,y6⟩:=p3 n k x is[n] hk hx (zf0z hni);obtain⟨z1,-,z3⟩:=pr y2 y3;refine⟨J,eM e2 (n:=n+1) (j:=a) ?_ y2,y3,y4,z3,z1,y5,y6⟩;rw[ai n hni,zf0z hni,y1]
  have hEJ:EffJ rule qs p parts key:=by
   unfold EffJ;split at h9
   .rename_i hc;rw[if_pos hc];obtain⟨k,Ke,ts,rfl,y1,y2,y3⟩:=h9;obtain⟨z1,z2⟩:=KN y1;have jk:=(jU ok HR z2).1;refine⟨by rw[e1];simp only[zf4z,zf5z,zg2z];omega,Ke,ts,eM e2 (n:=parts.length+1) (j:=k) ?_ y1,y2,y3,jk.fs,?_⟩
    .rw[zf6z,List.getElem?_append_right a_];rw[show parts.length-is.length=0 by omega];rfl
    .rw[←mI (LZ.1 y3).2.2];exact jk.fs
   .rename_i hc;rw[if_neg hc,e1,h9];simp only[zf4z,zf5z,zg2z];omega
  exact UR g ml mq l _ i _ hq hE hC hr.1 hr.2 (Jd _ rfl) (qI _ mq qs hr3 (lY ⟨rule,A.role,A.blk,A.bad,m,(j:Int)::(is++es),t,Q9 1,IS⟩ qs mq K qq key kind p parts h2 h1 (AR 1) rfl (eM e2 (n:=0) rfl h3) h4 h5 h6 w3 w2 w1 h7 hPJ hEJ))
theorem ky(g:Tyg)(hF:TygFin g)(ok:TyOk g.tys g.effs)(A:PA)(a1:A.role=0)(a3:A.bad=0)(ml:Gg)(l:List Jdg)(D6:l.length<=1000000)(HR:∀(i:Nat) (J:Jdg),l[i]?=some J->Rt A g.tys g.effs (l.take i) J)(fr:Fr)(h:AH)(hB:h.boxes=[(EO g).cells,tC.cells])(hl:fr.length=59)(h2:B2 fr 2=sl ml 14 (l.map V8))(h5:B2 fr 5=.ptr 0 0)(h6:B2 fr 6=.ptr 1 0)(h14:B2 fr 14=.int .i64 l.length)(h15:B2 fr 15=.int .i64 0) :
  D7 (lp (A8 (m6 Q) (B1 GP) GG) (fr,h)) λe B8 h'=>Kp GG.wr fr B8/\h'=h/\e=.exit 0:=by
 refine E9 rfl fr (λn fr h'=>∃(i:Nat),i+n=l.length/\B2 fr 15=.int .i64 (i:Nat)/\(h'=h)) ?_ l.length h ⟨0,a_,h15,rfl⟩;rintro J Φ hJ hΦ n CT H1 K ⟨i,hi,k15,hr⟩;have C6:=K.1.trans hl;have k2:=D4 K 2 h2;have k5:=D4 K 5 h5;have k6:=D4 K 6 h6;have k14:=D4 K 14 h14;clear K;by_cases C2:i<l.length
 .have L4:=J6 i a_;subst hr;obtain⟨bx,F⟩:=H1;simp only at hB;subst hB;have hq:=zf0z C2;have hRt:pc Q BU [EO g,tC,sl (true,false) 1 [],sl ml 14 (l.map V8),.int .i64 (i:Nat)]=some (.bool true):=wz g hF ok A ml l D6 HR i _ hq;obtain⟨-,r1,-,r3,-⟩:=jU ok HR hq;obtain⟨x1,y1⟩:=HS hq;generalize l[i]=J at *
  have gg:=ZJ g;have z1:=r1.trans a1;have z3:=r3.trans a3;simp[GG,C6,k2,k5,k6,k14,k15,C2,L4,x1,y1,Q8,gg,A0d,z1,z3,hRt];exact V6 hJ ⟨i+1,a_,d_,rfl⟩
 .subst hr;simp[GG,C6,k2,k5,k6,k14,k15,C2];exact hΦ _ _ _ ⟨rfl,rfl⟩
theorem wx(g:Tyg)(hF:TygFin g)(ok:TyOk g.tys g.effs)(A:PA)(a1:A.role=0)(a3:A.bad=0)(ml:Gg)(l:List Jdg)(D6:l.length<=1000000)(HR:∀(i:Nat) (J:Jdg),l[i]?=some J->Rt A g.tys g.effs (l.take i) J) :
  pc Q GP [EO g,tC,sl ml 14 (l.map V8),.int .i64 0,.int .i64 0]=some (.bool true):=by
 have Eg:=ky g hF ok A a1 a3 ml l D6 HR;refine gu Ye rfl (by simp[LQ]) λfr hl ha=>?_;have h0:=ha 0;have h1:=ha 1;have h2:=ha 2;have h3:=ha 3;have h4:=ha 4;clear ha;simp[LQ]at hl h0 h1 h2 h3 h4;simp[LQ,hl,h0,h1,h2,h3,h4];refine D7.mono (Eg _ _ ?_ ?_ ?_ ?_ ?_ ?_ ?_) ?_<;>first|rfl|(simp[hl,h0,h1,h2];done)|skip
 rintro e B8 h' ⟨K,rfl,rfl⟩;have hl':B8.length=59:=K.1.trans c_;have k3:B2 B8 3=.int .i64 0:=D4 K 3 (by simp[hl,h3]);have k4:B2 B8 4=.int .i64 0:=D4 K 4 (by simp[hl,h4]);simp[hl',k3,k4];refine Bd ?_;simp[Ra,hl',k3,k4]
end Go.Abs.Q
namespace Go.Abs.Q
open Go.Proofs
attribute [local simp] E5 E6 fin J4 H8 Q3 S6
set_option maxHeartbeats 4000000 in
theorem cz(hA:pc Qr Cj []=some (.bool true))(g:Tyg)(B:TygB g)(t:Tm)(ht:t.size<=1048576):pc Qr FV [EO g,I8 t]=some (.bool true):=by
 obtain⟨b,hb,hbf⟩:=A03 g B;have hb':=Xz (Lb hb);have e1:(I8 t).cells=[.int .i64 t.kind,.str t.name,.int .i64 t.sort,sl t.cm 4 (C4 t.kids)]:=by cases t;rfl
 have tag:=G9 t;have gg:=ZJ g;cases b with
 |false =>
  refine pcS AK rfl (by simp[G7]) λfr hl ha=>?_;have h0:=ha 0;have h1:=ha 1;clear ha;simp[G7]at hl h0 h1;simp[G7,hl,h0,h1,hA,hb',e1]
 |true =>
  have F:=vy (hbf rfl);have hFew:=λm=>Xz (Lb (A0v m [t] 1 40 (by simp only[Tm.sizes];omega) f9));rw[C4,C4]at hFew;cases c9:kD [t] 1 40 with
  |false =>
   rw[c9]at hFew;refine pcS AK rfl (by simp[G7]) λfr hl ha=>?_;have h0:=ha 0;have h1:=ha 1;clear ha;simp[G7]at hl h0 h1;simp[G7,hl,h0,h1,hA,hb',e1,tag,gg,A9,hFew]
  |true =>
   rw[c9]at hFew;have h40:=(kF a_ c9).1;simp only[Tm.sizes]at h40;obtain⟨r,hr,P⟩:=pc_Term g t F a_;obtain⟨rr,hrr,R⟩:=A1A g t F a_;have hr':=Xz hr;have hrr':=Xz (Lb hrr);have hS:∀u,V7 u->pc Qr FW [Hn u,Hn u]=some (.bool true):=λu hu=>by
    have:=Xz (Lb (QN u u ⟨hu.1,λp hp=>(hu.2 p hp).2⟩));rw[By]at this;exact this
   have hS0:=hS _ (AR 0);have sm0:AV.agg [.int .i64 0,.vs true 0 []]=Hn (Q9 0):=rfl;have sm0c:(Hn (Q9 0)).cells=[.int .i64 0,.vs true 0 []]:=rfl;obtain⟨u',m',l',e',rfl,hu',R⟩:=R;rcases P with ⟨h1,rfl⟩|⟨h1,⟨h2,rfl⟩|⟨h2,⟨h3,rfl⟩|⟨u,m,l,A,h3,rfl,a1,a2,a3,hl0,h4,J,h5,h6,h7,h8⟩⟩⟩
   .obtain⟨rfl,rfl⟩:u'=Q9 0/\e'=1:=by
     rcases R with ⟨-,q1,q2⟩|⟨q,-⟩
     .exact⟨q1,q2⟩
     .rw[h1]at q;cases q
    refine pcS AK rfl (by simp[G7]) λfr hl ha=>?_;have h0:=ha 0;have h1:=ha 1;clear ha;simp[G7]at hl h0 h1;simp[G7,hl,h0,h1,hA,hb',e1,tag,gg,A9,hFew,hr',hrr',B5,C0,hS0,sm0,sm0c]
   .obtain⟨rfl,rfl⟩:u'=Q9 0/\e'=vE t:=by
     rcases R with ⟨q,-⟩|⟨-,⟨-,q1,q2⟩|⟨q,-⟩⟩
     .rw[h1]at q;cases q
     .exact⟨q1,q2⟩
     .exact absurd q h2
    refine pcS AK rfl (by simp[G7]) λfr hl ha=>?_;have h0:=ha 0;have h1:=ha 1;clear ha;simp[G7]at hl h0 h1;simp[G7,hl,h0,h1,hA,hb',e1,tag,gg,A9,hFew,hr',hrr',B5,C0,hS0,sm0,sm0c,h2]
   .obtain⟨rfl,rfl⟩:u'=Q9 0/\e'=10:=by
     rcases R with ⟨q,-⟩|⟨-,⟨q,-⟩|⟨-,⟨-,q1,q2⟩|⟨q,-⟩⟩⟩
     .rw[h1]at q;cases q
     .exact absurd h2 q
     .exact⟨q1,q2⟩
     .rw[h3]at q;cases q
    refine pcS AK rfl (by simp[G7]) λfr hl ha=>?_;have h0:=ha 0;have h1:=ha 1;clear ha;simp[G7]at hl h0 h1;simp[G7,hl,h0,h1,hA,hb',e1,tag,gg,A9,hFew,hr',hrr',B5,C0,hS0,sm0,sm0c]
   .obtain⟨rfl,rfl⟩:u'=u/\e'=0:=by
     rcases R with ⟨q,-⟩|⟨-,⟨q,-⟩|⟨-,⟨q,-⟩|⟨q1,q2⟩⟩⟩
     .rw[h1]at q;cases q
     .exact absurd h2 q
     .rw[h3]at q;cases q
     .rw[h3]at q1;exact⟨(Option.some.inj q1).symm,q2⟩
    have hS1:=hS _ hu';have ok:=uT F h1;have hR:=Xz (Lb (wx g F ok A a1 a3 m l hl0 h4));rw[List.getLast?_eq_getElem?]at h5;obtain⟨x1,y1⟩:=HS h5;have jo:=(jU ok h4 h5).1;have hT:=Xz (Lb (IF J.t t (by have:=jo.sz;omega) a_));rw[LC.2 h7]at hT;have jt:=G9 J.t;have ug:=Ax u';have uc:=Wb u';have kf:J.f.kind=0:=by rw[h6];rfl
    have tf:J.f.terms.length=0:=by rw[h6];rfl
    have kf2:J.f.terms=[]:=by rw[h6];rfl
    have w1:IntKind.i64.wrap ((l.length:Int)-1)=((l.length-1:Nat):Int):=by rw[Y8 a_ a_];omega
    have n0:¬(l.length:Int)=0:=by omega
    have n1:¬l.length=0:=by omega
    have n2:¬l=[]:=λh=>by rw[h]at y1;simp at y1
    refine pcS AK rfl (by simp[G7]) λfr hl ha=>?_;have h0:=ha 0;have h1:=ha 1;clear ha;simp[G7]at hl h0 h1;simp[G7,hl,h0,h1,hA,hb',e1,tag,gg,A9,hFew,hr',hrr',B5,C0,hS0,hS1,sm0,sm0c,hR,x1,y1,Q8,hT,jt,ug,uc,kf,tf,kf2,w1,n0,n1,n2,A0d,h8]
end Go.Abs.Q
