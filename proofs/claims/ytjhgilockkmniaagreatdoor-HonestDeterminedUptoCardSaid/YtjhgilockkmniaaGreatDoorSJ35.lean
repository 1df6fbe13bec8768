/- A part of the proof. -/
import Derived.Test.YtjhgilockkmniaaGreatDoorSJ34
set_option linter.all false
open List renaming mem_cons_of_mem->zf0z,length_nil->zf1z,range->zf2z,length_cons->zf3z,mem_cons_self->zf4z,getElem?_eq_getElem->zf5z,length_map->zf7z,map_cons->zf8z,set_cons_zero->zf9z,getElem_mem->zg0z,length_take->zg1z,map_append->zg2z,map_eq_cons_iff->zg3z,getElem?_map->zg5z,filter_map->zg7z
open Bool renaming and_eq_true->zf6z,and_self->zg8z
open Int renaming toNat_natCast->zg4z
open Option renaming getD_some->zg6z
open Nat renaming le_refl->zg9z
namespace Go.Abs.Q
open Go.Proofs
theorem MQ {α:Type} {g:α->Int} {ln:α->Int}:∀{l:List α},(∀a∈l,g a=0)->M4 g ln l=(0,0)
 | [],_=>rfl
 |a::l,h=>by
  simp only[M4];rw[if_neg (by simp[h a zf4z])];exact MQ λb hb=>h b (zf0z _ hb)
theorem Kw {α:Type} {g:α->Int}:∀{l:List α},(∀a∈l,g a=0)->C0 g l=0
 | [],_=>rfl
 |a::l,h=>by
  simp only[C0];rw[if_neg (by simp[h a zf4z])];exact Kw λb hb=>h b (zf0z _ hb)
theorem Ma {n:Nar} (h:Right n):Bv n=(0,0):=by
 unfold Bv;rw[if_neg (by simp[h.nar]),if_neg (by simp[h.dec]),MQ h.steps,if_neg (by simp),MQ h.goals]
theorem XS {a:R7} {l:List ByteArray}:l.any (V4 a)=true↔a∈l:=by
 rw[List.any_eq_true];constructor
 .rintro⟨x,hx,he⟩;rw[Rb]at he;exact he ▸ hx
 .exact λh=>⟨a,h,(Rb a a).2 rfl⟩
def MT (ss:List Ste) (o:List Int):List Ste:=o.filterMap λk=>ss[k.toNat]?
def yN (n:Nar) (m:Bool×Bool) (o:List Int):Nar:={n with sm:=m,steps:=MT n.steps o}
structure OrdOk (N:Nat) (o:List Int):Prop where
 len:o.length=N
 rng:∀k∈o,0<=k/\k.toNat<N
theorem JI {ss:List Ste}:∀{o:List Int},(∀k∈o,0<=k/\k.toNat<ss.length)->(MT ss o).length=o.length
 | [],_=>rfl
 |k::o,h=>by
  have h1:=(h k zf4z).2;have:=JI (ss:=ss) (o:=o) λk hk=>h k (zf0z _ hk);unfold MT at this ⊢;rw[List.filterMap_cons,zf5z h1];simp[this]
theorem KU {ss:List Ste} {o:List Int} {s:Ste} (h:s∈MT ss o):s∈ss:=by
 obtain⟨k,_,h2⟩:=List.mem_filterMap.1 h;exact List.mem_of_getElem? h2
theorem Ss {n:Nar} (h:Right n) (m:U8) {o:List Int} (ho:OrdOk n.steps.length o):Right (yN n m o):=by
 have hl:(MT n.steps o).length=n.steps.length:=(JI ho.rng).trans ho.len;obtain⟨h1,h2,h3⟩:=Gu h.nar;have hh:Eg (yN n m o)=Eg n:=by
  unfold Eg JV yN;simp only[hl]
 refine⟨?_,h.dec,λs hs=>h.steps s (KU hs),h.goals⟩;unfold JB;rw[hh,if_neg (by simp[h1]),if_neg (by rw[Kw (l:=(yN n m o).steps) λs hs=>h2 s (KU hs)];simp)];exact Kw h3
theorem eR {n:Nar} (F:Fine n) (m:U8) {o:List Int} (ho:OrdOk n.steps.length o):Fine (yN n m o) :=
 ⟨F.name,F.roles,F.rolesL,F.fresh,F.freshL,F.tags,F.tagsL,λs hs=>F.steps s (KU hs),by show (MT n.steps o).length<=_;rw[JI ho.rng,ho.len];exact F.stepsL,F.goals,F.goalsL⟩
theorem lA {n:Nar} (S:Lens n) (m:U8) {o:List Int} (ho:OrdOk n.steps.length o):Lens (yN n m o) :=
 ⟨S.names,by show (MT n.steps o).length<=_;rw[JI ho.rng,ho.len];exact S.steps,S.goals,S.data⟩
def Lx (s:Ste):ByteArray×ByteArray×Tm:=(s.frm,s.to,Hw s.msg)
def kx (f:ByteArray->Int) (s:Ste):ByteArray×ByteArray×Tm:=(s.frm,s.to,ED f s.msg)
theorem bv (a b:Ste):bu a b=true↔Lx a=Lx b:=by
 unfold bu Lx nd;simp only[zf6z,decide_eq_true_eq,bU,Prod.mk.injEq,and_assoc]
theorem MJ:∀l l':List Ste,Bg l l'=true↔l.map Lx=l'.map Lx
 | [],[]=>by simp[Bg]
 | [],_::_=>by simp[Bg]
 |_::_,[]=>by simp[Bg]
 |a::l,b::l'=>by
  simp only[Bg,zf6z,bv,MJ l l',zf8z,List.cons.injEq]
mutual
theorem bw:∀t:Tm,Hw (Hw t)=Hw t
 | .mk k nm s m l=>by rw[Hw,Hw,Xc l]
theorem Xc:∀l:List Tm,AR (AR l)=AR l
 | []=>rfl
 |t::l=>by rw[AR,AR,bw t,Xc l]
end
mutual
theorem bz (f:ByteArray->Int):∀t:Tm,Hw (ED f t)=ED f t
 | .mk k nm s m l=>by rw[ED,Hw,Xd f l]
theorem Xd (f:ByteArray->Int):∀l:List Tm,AR (a7 f l)=a7 f l
 | []=>rfl
 |t::l=>by rw[a7,AR,bz f t,Xd f l]
end
theorem MV:∀{l:Hg},GL l=0->∀t∈l,FM t=0
 | [],_,t,ht=>by cases ht
 |b::l,h,t,ht=>by
  simp only[GL]at h;by_cases hb:FM b=0
  .rw[if_neg (by simp[hb])]at h;rcases List.mem_cons.1 ht with rfl|ht
   .exact hb
   .exact MV h t ht
  .rw[if_pos hb]at h;exact absurd h hb
theorem Qx {k:Int} {nm:R7} {s:Int} {m:U8} {l:Hg} (h:FM (.mk k nm s m l)=0):s=0/\GL l=0:=by
 simp only[FM]at h;split at h
 .omega
 .rename_i h1;split at h
  .omega
  .exact⟨Classical.byContradiction λe=>h1 (.inr e),h⟩
theorem iD (f:ByteArray->Int):∀(N:Nat) (a b:Tm),a.size<=N->FM a=0->FM b=0->ED f a=ED f b->Hw a=Hw b:=by
 intro N
 induction N with
 |zero=>intro a b h;have:=a.size_pos;omega
 |succ N ih =>
  intro a b hn ha hb he;obtain⟨k,nm,s,m,l⟩:=a;obtain⟨k',nm',s',m',l'⟩:=b;obtain⟨rfl,hal⟩:=Qx ha;obtain⟨rfl,hbl⟩:=Qx hb;simp only[ED,Tm.mk.injEq]at he;obtain⟨rfl,rfl,-,-,hl⟩:=he;have L4:Tm.size (.mk k nm 0 m l)=1+Tm.sizes l:=rfl;have key:∀l l':List Tm,Tm.sizes l<=N->(∀t∈l,FM t=0)->(∀t∈l',FM t=0)->a7 f l=a7 f l'->AR l=AR l':=by
   intro l
   induction l with
   |nil =>
    intro l' _ _ _ h;cases l' with
    |nil=>rfl
    |cons _ _=>simp[a7]at h
   |cons x l ihl =>
    intro l' hs h1 h2 h;cases l' with
    |nil=>simp[a7]at h
    |cons y l' =>
     simp only[a7,List.cons.injEq]at h;simp only[Tm.sizes]at hs;simp only[AR];rw[ih x y (by omega) (h1 x zf4z) (h2 y zf4z) h.1,ihl l' (by omega) (λt ht=>h1 t (zf0z _ ht)) (λt ht=>h2 t (zf0z _ ht)) h.2]
  simp only[Hw,key l l' (by omega) (MV hal) (MV hbl) hl]
theorem cY {f:ByteArray->Int}:∀{l l':List Ste},(∀s∈l,FM s.msg=0)->(∀s∈l',FM s.msg=0)->l.map (kx f)=l'.map (kx f)->l.map Lx=l'.map Lx
 | [],[],_,_,_=>rfl
 | [],_::_,_,_,h=>by simp at h
 |_::_,[],_,_,h=>by simp at h
 |a::l,b::l',h1,h2,h=>by
  simp only[zf8z,List.cons.injEq]at h ⊢;refine⟨?_,cY (λs hs=>h1 s (zf0z _ hs)) (λs hs=>h2 s (zf0z _ hs)) h.2⟩;have h3:=h.1;unfold kx at h3;simp only[Prod.mk.injEq]at h3;unfold Lx;rw[h3.1,h3.2.1,iD f _ _ _ (zg9z _) (h1 a zf4z) (h2 b zf4z) h3.2.2]
abbrev KT:=ByteArray×ByteArray×Tm
def Uz (n y:Nar):Prop:=∀r:Nat,r<n.roles.length->(Gk n r).map Lx=(Gk y r).map Lx
theorem Nn {n:Nar} (h:Right n) {r:Nat} (hr:r<n.roles.length):(Gk n r).map Lx=Wq (λx:KT=>x.1) (λx=>x.2.1) n.roles[r] (n.steps.map (kx (W6 (B4 n) (J7 n)))):=by
 have hP:Jw n r=0:=by
  unfold Jw;rw[Ma h,if_neg (by simp),if_neg (by omega)]
 unfold Gk;rw[if_pos hP,zg4z,List.getD_eq_getElem?_getD,zf5z hr,zg6z];unfold Wq;rw[zg7z,zg7z,List.map_map];rw[show (VL n.roles[r]∘LC (W6 (B4 n) (J7 n)))=Mh (λx:KT=>x.1) (λx=>x.2.1) n.roles[r]∘kx (W6 (B4 n) (J7 n)) from rfl];apply List.map_congr_left;intro s _;simp only[Function.comp,Lx,kx,LC,bz]
theorem XF {n:Nar} (h:Right n) {s:Ste} (hs:s∈n.steps):s.frm∈n.roles/\s.to∈n.roles:=by
 have h1:=h.steps s hs;unfold DI at h1;have h2:HX n.roles s.frm s.to=0:=by
  split at h1
  .exact h1
  .rename_i h3;exact Classical.byContradiction h3
 unfold HX at h2;split at h2
 .rename_i h3;exact⟨XS.1 h3.1,XS.1 h3.2⟩
 .omega
theorem VF {n:Nar} (h:Right n) {s:Ste} (hs:s∈n.steps):FM s.msg=0:=by
 have h1:=(Gu h.nar).2.1 s hs;unfold FA at h1;split at h1
 .omega
 .unfold DT at h1;by_cases h2:GM s.msg=0
  .unfold GM at h2;split at h2
   .rename_i h3;exact absurd h2 h3
   .exact h2
  .rw[if_pos h2]at h1;exact absurd h1 h2
theorem Qv {n:Nar} (h:Right n) {l:List Ste} (hl:∀s∈l,s∈n.steps) (f:ByteArray->Int) {r:R7} (hr:r∉n.roles):Wq (λx:KT=>x.1) (λx=>x.2.1) r (l.map (kx f))=[]:=by
 unfold Wq;rw[List.filter_eq_nil_iff];intro x hx;obtain⟨s,hs,rfl⟩:=List.mem_map.1 hx;obtain⟨h1,h2⟩:=XF h (hl s hs);intro ht;rcases Lt.1 ht with rfl|rfl
 .exact hr h1
 .exact hr h2
theorem TM (f:ByteArray->Int):∀{l:List Ste},Pg l=true->EZ (λx:KT=>x.1) (λx=>x.2.1) (l.map (kx f))
 | [],_=>trivial
 | [_],_=>trivial
 |a::b::l,h=>by
  simp only[Pg,zf6z]at h;exact⟨h.1,TM f (l:=b::l) h.2⟩
theorem UN (f:ByteArray->Int):∀{l:List Ste},EZ (λx:KT=>x.1) (λx=>x.2.1) (l.map (kx f))->Pg l=true
 | [],_=>rfl
 | [_],_=>rfl
 |a::b::l,h=>by
  simp only[Pg,zf6z];exact⟨h.1,UN f (l:=b::l) h.2⟩
theorem dz {n:Nar} (h:Right n) {m:U8} {o:List Int} (ho:OrdOk n.steps.length o) (hs:Uz n (yN n m o)) (r:R7) :
  Wq (λx:KT=>x.1) (λx=>x.2.1) r ((MT n.steps o).map (kx (W6 (B4 n) (J7 n))))=Wq (λx:KT=>x.1) (λx=>x.2.1) r (n.steps.map (kx (W6 (B4 n) (J7 n)))):=by
 by_cases hr:r∈n.roles
 .obtain⟨i,hi,rfl⟩:=List.mem_iff_getElem.1 hr;have h1:=hs i hi;rw[Nn h hi,Nn (Ss h m ho) (r:=i) hi]at h1;exact h1.symm
 .rw[Qv h (λs hs=>KU hs) _ hr,Qv h (λs hs=>hs) _ hr]
theorem be {n:Nar} (h:Right n) (hc:Pg n.steps=true) {m:U8} {o:List Int} (ho:OrdOk n.steps.length o) (hs:Uz n (yN n m o)):n.steps.map Lx=(MT n.steps o).map Lx:=by
 have e:=QQ (TM (W6 (B4 n) (J7 n)) hc) (by rw[zf7z,zf7z,JI ho.rng,ho.len]) (dz h ho hs);exact(cY (λs hs=>VF h (KU hs)) (λs hs=>VF h hs) e).symm
def Ie:Nat->List (List Int)
 |0=>[[]]
 |n+1=>(Ie n).flatMap λl=>(zf2z (n+1)).map λk=>l.take k++(n:Int)::l.drop k
theorem eJ (a b:Ste):∀(A B:List Ste),A.length+B.length<=3->∃o∈Ie (A.length+2+B.length),MT (A++a::b::B) o=A++b::a::B
 | [],[],_=>⟨[1,0],(by decide +kernel:([1,0]:List Int)∈Ie 2),rfl⟩
 | [],[_],_=>⟨[1,0,2],(by decide +kernel:([1,0,2]:List Int)∈Ie 3),rfl⟩
 | [],[_,_],_=>⟨[1,0,2,3],(by decide +kernel:([1,0,2,3]:List Int)∈Ie 4),rfl⟩
 | [],[_,_,_],_=>⟨[1,0,2,3,4],(by decide +kernel:([1,0,2,3,4]:List Int)∈Ie 5),rfl⟩
 | [_],[],_=>⟨[0,2,1],(by decide +kernel:([0,2,1]:List Int)∈Ie 3),rfl⟩
 | [_],[_],_=>⟨[0,2,1,3],(by decide +kernel:([0,2,1,3]:List Int)∈Ie 4),rfl⟩
 | [_],[_,_],_=>⟨[0,2,1,3,4],(by decide +kernel:([0,2,1,3,4]:List Int)∈Ie 5),rfl⟩
 | [_,_],[],_=>⟨[0,1,3,2],(by decide +kernel:([0,1,3,2]:List Int)∈Ie 4),rfl⟩
 | [_,_],[_],_=>⟨[0,1,3,2,4],(by decide +kernel:([0,1,3,2,4]:List Int)∈Ie 5),rfl⟩
 | [_,_,_],[],_=>⟨[0,1,2,4,3],(by decide +kernel:([0,1,2,4,3]:List Int)∈Ie 5),rfl⟩
 | [],_::_::_::_::_,h=>by exfalso;simp only[zf3z,zf1z]at h;omega
 | [_],_::_::_::_,h=>by exfalso;simp only[zf3z,zf1z]at h;omega
 | [_,_],_::_::_,h=>by exfalso;simp only[zf3z,zf1z]at h;omega
 | [_,_,_],_::_,h=>by exfalso;simp only[zf3z,zf1z]at h;omega
 |_::_::_::_::_,_,h=>by exfalso;simp only[zf3z,zf1z]at h;omega
theorem Wh:∀n,n<=5->∀o∈Ie n,o.length=n/\∀k∈o,0<=k/\k.toNat<n
 |0,_=>by decide
 |1,_=>by decide
 |2,_=>by decide
 |3,_=>by decide +kernel
 |4,_=>by decide +kernel
 |5,_=>by decide +kernel
 |n+6,h=>by omega
theorem OrdOk.of {n:Nat} (h:n<=5) {o:List Int} (ho:o∈Ie n):OrdOk n o:=⟨(Wh n h o ho).1,(Wh n h o ho).2⟩
theorem bg {n:Nar} (h:Right n) (h5:n.steps.length<=5) (hc:Pg n.steps=false) (m:U8):∃o∈Ie n.steps.length,Uz n (yN n m o)/\n.steps.map Lx≠(MT n.steps o).map Lx:=by
 have hn:¬EZ (λx:KT=>x.1) (λx=>x.2.1) (n.steps.map (kx (W6 (B4 n) (J7 n)))):=λhh=>by
  rw[UN _ hh]at hc;cases hc
 obtain⟨A',a',b',B',e,hsh⟩:=Ql hn;obtain⟨A,l1,e1,rfl,h2⟩:=List.map_eq_append_iff.1 e;obtain⟨a,l2,rfl,rfl,h3⟩:=zg3z.1 h2;obtain⟨b,B,rfl,rfl,rfl⟩:=zg3z.1 h3;have C4:n.steps.length=A.length+2+B.length:=by rw[e1];simp;omega
 obtain⟨o,ho,hp⟩:=eJ a b A B (by omega);rw[←C4]at ho;rw[←e1]at hp;have hO:=OrdOk.of h5 ho;refine⟨o,ho,λr hr=>?_,?_⟩
 .rw[Nn h hr,Nn (Ss h m hO) (r:=r) hr];show _=Wq _ _ n.roles[r] ((MT n.steps o).map (kx (W6 (B4 n) (J7 n))));rw[hp,e1];simp only[zg2z,zf8z];exact(XH hsh _).symm
 .rw[hp,e1];simp only[zg2z,zf8z];intro he;have h4:=(List.append_cancel_left he);simp only[List.cons.injEq]at h4;have h5:a.frm=b.frm:=by have:=h4.1;unfold Lx at this;simp only[Prod.mk.injEq]at this;exact this.1
  have:fA (λx:KT=>x.1) (λx=>x.2.1) (kx (W6 (B4 n) (J7 n)) a) (kx (W6 (B4 n) (J7 n)) b)=true:=by
   unfold fA Mh kx;simp[h5]
  rw[this]at hsh;cases hsh
end Go.Abs.Q
namespace Go.Abs.Q
open Go.Proofs
attribute [local simp] C8 D5 fin H6 G0 Cb BG Af Ae
theorem VA (h:AH) (m:U8) (sz:Nat) (L4:0<sz) (xs:C6) (i:Nat) (x:AV) (hx:xs[i]?=some x):NV h sz (sl m sz xs) (some (some (i:Int))) (some (some ((i:Int)+1))) (some none)=some (sl (m.1&&decide ((i:Int)+1=xs.length),true) sz [x],h):=by
 have hi:=(List.getElem?_eq_some_iff.1 hx).1;have he:xs.isEmpty=false:=by
  cases xs with
  |nil=>simp at hi
  |cons _ _=>rfl
 have hd:(xs.drop i).take 1=[x]:=by
  rw[List.drop_eq_getElem_cons hi];rw[zf5z hi]at hx;cases hx;rfl
 simp only[NV,sl,Ez,he,zg6z];rw[if_pos ⟨L4,.inl (by simp)⟩];rw[if_pos (by omega)];have e1:((i:Int)+1-(i:Int)).toNat=1:=by omega
 rw[e1,zg4z,hd];simp
theorem PX (B:List (List AV)) (a b:C6):(B++[a]).set B.length b=B++[b]:=by
 rw[List.set_append_right _ _ (zg9z _),Nat.sub_self];rfl
theorem aK (i:Nat) (h:i<=1000000):IntKind.i64.wrap ((i:Int)+1)=(i:Int)+1:=R0 (by omega) (by omega)
theorem cn (U:List Unit) (x na:Nar) (i0:Nat) (hU:U.length=i0) (hi0:i0<x.steps.length) (C4:x.steps.length<=1000) (hs:∀s∈x.steps,s.msg.size<=1099511627776) (b0:Bool) (fr:Fr) (h:AH) (hh:h.boxes=[(D2 na).cells,(D2 x).cells]) (h9:A2 fr 9=.bool b0) (hl:fr.length=167) (h5:A2 fr 5=.ptr 1 0) (h10:A2 fr 10=.int .i64 (i0:Nat)) (h63:A2 fr 63=.int .i64 U.length) (h64:A2 fr 64=.int .i64 0) :
  C3 (lp (A4 (N5 Qf) (B9 E7) J9) (fr,h)) λe fr' h'=>Kp J9.wr fr fr'/\e=.exit 2/\h'.boxes=[(D2 na).cells,(D2 x).cells]/\∃b:Bool,A2 fr' 9=.bool b:=by
 refine C1 rfl fr (λn fr h'=>∃(i:Nat),i+n=U.length/\A2 fr 64=.int .i64 (i:Nat)/\(∃b:Bool,A2 fr 9=.bool b/\h'.boxes=[(D2 na).cells,(D2 x).cells])) ?_ U.length h ⟨0,by omega,h64,b0,h9,hh⟩;rintro J Φ hJ hΦ n E4 H1 K ⟨i,hi,k64,hr⟩;have A6:=K.1.trans hl;have k5:=B8 K 5 h5;have k10:=B8 K 10 h10;have k63:=B8 K 63 h63;clear K;by_cases A9:i<U.length
 .have j0:=C9 i (by omega);obtain⟨b,k9,hB⟩:=hr;obtain⟨bx,fams⟩:=H1;simp only at hB;subst hB;have xb:=D4 x;have nb:=D4 na;have hix:i<x.steps.length:=by omega
  have m0:=hs _ (zg0z hi0);have m1:=hs _ (zg0z hix);obtain⟨ma,ha⟩:∃m',∀h:AH,NV h 7 (sl x.sm 7 (x.steps.map Q2)) (some (some (i0:Int))) (some (some ((i0:Int)+1))) (some none)=some (sl m' 7 ([x.steps[i0]].map Q2),h):=by
   exact⟨_,λh=>VA h x.sm 7 (by decide) (x.steps.map Q2) i0 (Q2 x.steps[i0]) (by rw[zg5z,zf5z hi0];rfl)⟩
  obtain⟨mb,hb⟩:∃m',∀h:AH,NV h 7 (sl x.sm 7 (x.steps.map Q2)) (some (some (i:Int))) (some (some ((i:Int)+1))) (some none)=some (sl m' 7 ([x.steps[i]].map Q2),h) :=
   ⟨_,λh=>VA h x.sm 7 (by decide) (x.steps.map Q2) i (Q2 x.steps[i]) (by rw[zg5z,zf5z hix];rfl)⟩
  have hS:=Pt (JG ma mb [x.steps[i0]] [x.steps[i]] (by simp) (by simp) (by simpa using m0) (by simpa using m1));have hw0:=aK i0 (by omega);generalize x.steps[i0]=s0 at *
  generalize x.steps[i]=s1 at *
  generalize Bg [s0] [s1]=r at *
  simp only[zf8z,List.map_nil]at ha hb hS;cases b with
  |true =>
   simp[J9,A6,k5,k10,k63,k64,A9,j0,k9,nb,xb];exact H0 hJ ⟨i+1,by omega,by simp[A6],true,by simp[A6],by rw[nb,xb]⟩
  |false =>
   simp[J9,A6,k5,k10,k63,k64,A9,j0,k9,nb,xb,hw0,ha,hb,hS];exact H0 hJ ⟨i+1,by omega,by simp[A6],r,by simp[A6],by rw[nb,xb]⟩
 .obtain⟨b,k9,hB⟩:=hr;obtain⟨bx,fams⟩:=H1;simp only at hB;subst hB;have xb:=D4 x;have nb:=D4 na;simp[J9,A6,k5,k10,k63,k64,A9,k9,nb,xb];exact hΦ _ _ _ ⟨rfl,by rw[nb,xb],b,by simp[k9]⟩
theorem co (x na:Nar) (C4:x.steps.length<=1000) (hs:∀s∈x.steps,s.msg.size<=1099511627776) (b0:Bool) (fr:Fr) (h:AH) (hh:h.boxes=[(D2 na).cells,(D2 x).cells]) (h9:A2 fr 9=.bool b0) (hl:fr.length=167) (h5:A2 fr 5=.ptr 1 0) (h59:A2 fr 59=.int .i64 x.steps.length) (h60:A2 fr 60=.int .i64 0) :
  C3 (lp (A4 (N5 Qf) (B9 E7) O2) (fr,h)) λe fr' h'=>Kp O2.wr fr fr'/\e=.exit 0/\h'.boxes=[(D2 na).cells,(D2 x).cells]/\∃b:Bool,A2 fr' 9=.bool b:=by
 refine C1 rfl fr (λn fr h'=>∃(i:Nat),i+n=x.steps.length/\A2 fr 60=.int .i64 (i:Nat)/\(∃b:Bool,A2 fr 9=.bool b/\h'.boxes=[(D2 na).cells,(D2 x).cells])) ?_ x.steps.length h ⟨0,by omega,h60,b0,h9,hh⟩;rintro J Φ hJ hΦ n E4 H1 K ⟨i,hi,k60,hr⟩;have A6:=K.1.trans hl;have k5:=B8 K 5 h5;have k59:=B8 K 59 h59;clear K;by_cases A9:i<x.steps.length
 .have j0:=C9 i (by omega);obtain⟨b,k9,hB⟩:=hr;obtain⟨bx,fams⟩:=H1;simp only at hB;subst hB;simp[O2,A6,k5,k59,k60,A9,j0,k9];refine C3.mono (cn (List.replicate i ()) x na i (by simp) A9 C4 hs b _ _ ?_ ?_ ?_ ?_ ?_ ?_ ?_) ?_<;>first|(simp[A6,k5,k9,k60];done)|skip
  rintro e T9 ⟨bx2,F2⟩ ⟨K,rfl,hB2,b2,q9⟩;simp only at hB2;subst hB2;have FN:T9.length=167:=K.1.trans (by simp[A6]);have q60:A2 T9 60=.int .i64 (i:Nat):=B8 K 60 (by simp[A6,k60]);clear K;simp[FN,q60,j0];exact H0 hJ ⟨i+1,by omega,by simp[FN],b2,by simp[FN,q9],rfl⟩
 .obtain⟨b,k9,hB⟩:=hr;simp[O2,A6,k5,k59,k60,A9];exact hΦ _ _ _ ⟨rfl,hB,b,by simp[k9]⟩
end Go.Abs.Q
namespace Go.Abs
def ZV:Foot:=⟨some [],[],some [],[]⟩
theorem XR (w:List (Option Nat)):(w.all λx=>!([]:List (Option Nat)).contains x)=true:=by simp
theorem TH (f:Foot):i3 ZV f=true:=by
 obtain⟨rb,wb,rf,wf⟩:=f;have h:∀r:Option (List (Option Nat)),x8 r []=true:=λr=>by cases r<;>rfl
 have h':∀w:List (Option Nat),x8 (some []) w=true:=XR;simp only[i3,ZV,h,h',zg8z]
theorem TI (f:Foot):i3 f ZV=true:=by
 obtain⟨rb,wb,rf,wf⟩:=f;have h:∀r:Option (List (Option Nat)),x8 r []=true:=λr=>by cases r<;>rfl
 have h':∀w:List (Option Nat),x8 (some []) w=true:=XR;simp only[i3,ZV,h,h',zg8z]
def SK (bs:List Nat) (C5:List RO) (ns:List Bool):Bool :=
 (zf2z C5.length).all λj=>(zf2z j).all λi =>
  match C5[i]?,C5[j]?,ns[i]?,ns[j]? with
  |some oi,some oj,some a,some b=>((bs.getD j 0).testBit i ||
   (
    (match oi.dst with|some d=>!oj.slots.contains d&&oj.dst != some d|none=>true) &&
    (match oj.dst with|some d=>!oi.slots.contains d|none=>true)&&(a||b)))&&(match oi.dst,oj.dst with|some d,some e=>d != e|_,_=>true)
  |_,_,_,_=>false
def QH:List Bool->List Foot->Prop
 | [],[]=>True
 |b::ns,g::gs=>(b=true->g=ZV)/\QH ns gs
 |_,_=>False
theorem QH.get:∀{ns:List Bool} {gs:List Foot},QH ns gs->∀{i:Nat} {b:Bool},ns[i]?=some b->∃g,gs[i]?=some g/\(b=true->g=ZV)
 | [],[],_,i,b,h=>by simp at h
 |a::ns,g::gs,hn,0,b,h=>by
  simp only[List.getElem?_cons_zero,Option.some.injEq]at h;subst h;exact⟨g,rfl,hn.1⟩
 |a::ns,g::gs,hn,i+1,b,h=>by simpa using QH.get hn.2 (i:=i) (by simpa using h)
theorem Zc {bs:List Nat} {C5:List RO} {ns:List Bool} {gs:List Foot} (hn:QH ns gs) (h:SK bs C5 ns=true):Z1 bs C5 gs=true:=by
 simp only[SK,Z1,List.all_eq_true]at h ⊢;intro j hj i hi;have:=h j hj i hi;split at this
 .rename_i oi oj a b e1 e2 e3 e4;obtain⟨fi,h3,n3⟩:=hn.get e3;obtain⟨fj,h4,n4⟩:=hn.get e4;rw[e1,e2,h3,h4];simp only[zf6z,Bool.or_eq_true,KR]at this ⊢;refine⟨?_,this.2⟩;rcases this.1 with h5|⟨h5,h6⟩
  .exact .inl h5
  .refine .inr ⟨h5,?_⟩;rcases h6 with h6|h6
   .rw[n3 h6];exact TH _
   .rw[n4 h6];exact TI _
 .cases this
theorem Db.a {O:Orc} {c:Ctx} {fr fr':Fr} {h h' h1:AH} {gs:List Foot} {d:Option Nat} {op:ROp} {rest:List RO} {v:AV} (he:A3 O c op fr h=some (v,h1)) (hr:Db O c rest (put fr d v) h1 gs fr' h') :
  Db O c (⟨d,op,none⟩::rest) fr h (Am c ⟨d,op,none⟩ fr h h1::gs) fr' h':=by
 obtain⟨fs,e,l⟩:=hr;refine⟨Am c ⟨d,op,none⟩ fr h h1::fs,?_,⟨rfl,λ_ h=>h,rfl,λ_ h=>h⟩,l⟩;simp only[J1,N3,he,e,Option.map_some]
def Bf (O:Orc) (c:Ctx) (ops:List RO) (fr:Fr) (h:AH) (ns:List Bool) (fr':Fr) (h':AH):Prop:=∃gs,Db O c ops fr h gs fr' h'/\QH ns gs
section
variable {O:Orc} {c:Ctx} {fr fr':Fr} {h h' h1:AH} {ns:List Bool} {d:Option Nat} {op:ROp} {rest:List RO} {v:AV}
theorem Bf.nil:Bf O c [] fr h [] fr h:=⟨[],Db.nil,trivial⟩
theorem Bf.r (he:A3 O c op fr h=some (v,h)) (h1:FL c h.boxes.length (get fr) op=some []) (h2:DY c (get fr) op=some []) (hr:Bf O c rest (put fr d v) h ns fr' h'):Bf O c (⟨d,op,none⟩::rest) fr h (true::ns) fr' h':=by
 obtain⟨gs,k1,k2⟩:=hr;exact⟨_,Db.r he h1 h2 k1,λ_=>rfl,k2⟩
theorem Bf.a (he:A3 O c op fr h=some (v,h1)) (hr:Bf O c rest (put fr d v) h1 ns fr' h'):Bf O c (⟨d,op,none⟩::rest) fr h (false::ns) fr' h':=by
 obtain⟨gs,k1,k2⟩:=hr;exact⟨_,Db.a he k1,(λe=>nomatch e),k2⟩
theorem Vg {bs:List Nat} {ops:List RO} {Ψ:Ex->Fr->AH->Prop} (hr:Bf O c ops fr (h.holes (VY ops)) ns fr' h') (hp:SK bs ops ns=true) (hΨ:Ψ .normal fr' h'):C3 (A4 O c (.regd bs ops) (fr,h)) Ψ:=by
 obtain⟨gs,k1,k2⟩:=hr;exact QE k1 (Zc k2 hp) hΨ
end
end Go.Abs
namespace Go.Abs.Q
open Go.Proofs
attribute [local simp] C8 D5 fin H6 G0 Cb BG Af Ae
def qF:List Nat:=[0,0,0,4,12,30,0,0,192,448,0,1984,4094,8190,16383,32767]
def Wg:List RO:=[V 34 3,V 35 7,V 36 0,O 37 (.bin .sub (.t 36) (.c (pI 1))),O 38 (.bslice 1 (pI 0) [(0,(.t 37))]),O 39 (.app 1 8 (.t 35) (.t 38)),V 40 4,V 41 5,oI 42 1 40 41,L 43 42,V 44 6,O 45 (.slc 1 (.t 43) (some (.t 44)) none none),O 46 (.app 1 8 (.t 39) (.t 45)),O 47 (.bslice 1 (.vs true 0 []) [(0,(.t 46))]),O 48 (.app 1 24 (.t 34) (.t 47)),V 3 48]
def qG:List Bool:=[true,true,true,true,true,false,true,true,true,true,true,true,false,false,false,true]
theorem gI:SK qF Wg qG=true:=by decide
def JW (n:Nat) (l:List Int) (k:Nat):List Int:=l.take k++(n:Int)::l.drop k
set_option maxHeartbeats 2000000 in
theorem dC {O:Orc} {c:Ctx} (hc:c.mutApp=false) (fr:Fr) (hl:fr.length=50) (bx:List (List AV)) (F:List Fam) (n i k:Nat) (hn5:n<=1000) (m ml:U8) (xs L5:C6) (l:List Int) (hll:l.length<=1000) (hacc:L5.length<=1000000) (hk:k<=l.length) (v v1:AV)
  (k0:A2 fr 0=.int .i64 ((n+1:Nat):Int)) (k3:A2 fr 3=v) (k4:A2 fr 4=sl m 1 xs) (k5:A2 fr 5=.int .i64 (i:Nat)) (k6:A2 fr 6=.int .i64 (k:Nat)) (k7:A2 fr 7=v1)
  (hx:JY xs i=some (sl ml 1 (S7 l))) (hg:GLs ⟨bx,F⟩ [⟨true,1,S7 (l.take k),v1⟩,⟨true,1,L5,v⟩])
  (Ψ:Ex->Fr->AH->Prop) (hΨ:∀fr' v' F' m',fr'.length=50->(∀j,j<34->j≠3->A2 fr' j=A2 fr j)->A2 fr' 3=v'->Nd false 1 (L5++[sl m' 1 (S7 (JW n l k))]) v' ⟨bx,F'⟩->Ψ .normal fr' ⟨bx,F'⟩) :
  C3 (A4 O c (.regd qF Wg) (fr,⟨bx,F⟩)) Ψ:=by
 have hH:AH.holes ⟨bx,F⟩ (VY Wg)=⟨bx,F⟩:=by
  show (⟨bx++[],F⟩:AH)=_;rw[List.append_nil]
 have hw:IntKind.i64.wrap (((n+1:Nat):Int)-1)=(n:Int):=by rw[R0 (by omega) (by omega)];omega
 have hw0:IntKind.i64.wrap (n:Int)=(n:Int):=R0 (by omega) (by omega);have hw':IntKind.i64.wrap ((n:Int)+1-1)=(n:Int):=by rw[R0 (by omega) (by omega)];omega
 have hS:=λh=>eE h ml 1 (by decide) (S7 l) k (by simpa[S7]using hk);obtain⟨v2,F2,a2,G2⟩:=hg.app hc (i:=0) (bytes:=8) (x:=sl (true,true) 1 [.int .i64 (n:Nat)]) (ys:=[.int .i64 (n:Nat)]) rfl (Ad _ _ _ _) (by simp only[S7,I0,maxLen,zf7z,zf3z,zf1z,zg1z];omega);obtain⟨v3,F3,a3,G3⟩:=(G2 bx).app hc (i:=0) (bytes:=8) (x:=sl (ml.1,ml.2||!(S7 l).isEmpty) 1 ((S7 l).drop k)) (ys:=(S7 l).drop k) rfl (Ad _ _ _ _) (by simp only[S7,I0,maxLen,zf7z,zf3z,zf1z,zg1z,List.length_append,List.length_drop];omega);have hrow:S7 (l.take k)++[AV.int .i64 (n:Nat)]++(S7 l).drop k=S7 (JW n l k):=by simp[S7,JW]
 rw[zf9z,zf9z,hrow]at G3;obtain⟨m3,hf3⟩:=((G3 bx).get (i:=0) rfl).frz;obtain⟨c1,c2⟩:=((G3 bx).get (i:=0) rfl).cells;obtain⟨v4,F4,a4,G4⟩:=(G3 bx).app hc (i:=1) (bytes:=24) (x:=sl (true,true) 1 [sl m3 1 (S7 (JW n l k))]) (ys:=[sl m3 1 (S7 (JW n l k))]) rfl (Ad _ _ _ _) (by simp only[I0,maxLen,zf3z,zf1z];omega);have hL4:Nd false 1 (L5++[sl m3 1 (S7 (JW n l k))]) v4 ⟨bx,F4⟩:=((G4 bx).get (i:=1) rfl).lsa rfl;have hf3':=(hf3 bx false).1;have L:∀k,k<50->k<List.length fr:=λk hk=>by omega
 refine Vg (fr':=?fr') (h':=?h') (ns:=qG) ?hr gI ?hψ
 case hr =>
  rw[hH];refine Bf.r (v:=v) (by simp[k3]) rfl rfl ?_;refine Bf.r (v:=v1) (by simp[k7]) rfl rfl ?_;refine Bf.r (v:=.int .i64 ((n+1:Nat):Int)) (by simp[k0]) rfl rfl ?_;refine Bf.r (v:=.int .i64 (n:Nat)) (by simp[L,hw',hw0]) rfl rfl ?_;refine Bf.r (v:=sl (true,true) 1 [.int .i64 (n:Nat)]) (by simp[L,B5]) (by simp[FL,L,BJ,AV.flat]) (by simp[DY,L,BJ,AV.flat]) ?_;refine Bf.a (v:=v2) (h1:=⟨bx,F2⟩) (by simp[L];exact a2 bx) ?_;refine Bf.r (v:=sl m 1 xs) (by simp[k4]) rfl rfl ?_;refine Bf.r (v:=.int .i64 (i:Nat)) (by simp[k5]) rfl rfl ?_;refine Bf.r (v:=.pv [sl ml 1 (S7 l)]) (by simp[L,hx]) rfl rfl ?_;refine Bf.r (v:=sl ml 1 (S7 l)) (by simp[L]) (by simp[FL,L]) (by simp[DY,L]) ?_;refine Bf.r (v:=.int .i64 (k:Nat)) (by simp[k6]) rfl rfl ?_;refine Bf.r (v:=sl (ml.1,ml.2||!(S7 l).isEmpty) 1 ((S7 l).drop k)) (by simp[L,hS]) rfl (by simp[DY,L,sl]) ?_;refine Bf.a (v:=v3) (h1:=⟨bx,F3⟩) (by simp[L];exact a3 bx) ?_;refine Bf.a (v:=sl (true,true) 1 [sl m3 1 (S7 (JW n l k))]) (h1:=⟨bx,F3⟩) (by simp[L,B5,hf3']) ?_;refine Bf.a (v:=v4) (h1:=⟨bx,F4⟩) (by simp[L];exact a4 bx) ?_;refine Bf.r (v:=v4) (by simp[L]) rfl rfl ?_;exact Bf.nil
 case hψ =>
  refine hΨ _ v4 F4 m3 (by simp[hl]) (λj h1 h2=>?_) (by simp[L]) hL4;simp only[Uj,Ui]
  repeat rw[C8 _ _ (by omega)]
theorem ci (N:Nat) (hn5:N<=5) (l:List Int) (hll:l.length=N) (R:List Nat) (hR:R.length=N+1) (i0:Nat) (m ml:U8) (xs:C6) (hx:JY xs i0=some (sl ml 1 (S7 l))) (L5:C6) (L0:List (List Int)) (hacc:EH L0 L5) (hal:L5.length<=900000) (v:AV) (fr:Fr) (h:AH) (h3:A2 fr 3=v) (hg:Nd false 1 L5 v h) (hl:fr.length=50) (h0:A2 fr 0=.int .i64 R.length) (h4:A2 fr 4=sl m 1 xs) (h5:A2 fr 5=.int .i64 (i0:Nat)) (h6:A2 fr 6=.int .i64 0) :
  C3 (lp (A4 (N5 Q) (B9 Q5) BZ) (fr,h)) λe fr' h'=>Kp BZ.wr fr fr'/\e=.exit 2/\∃aa:List AV,Nd false 1 aa (A2 fr' 3) h'/\EH (L0++(zf2z (N+1)).map λk=>JW N l k) aa/\aa.length<=L5.length+(N+1):=by
 refine C1 rfl fr (λn fr h'=>∃(i:Nat),i+n=R.length/\A2 fr 6=.int .i64 (i:Nat)/\(∃(w:AV) (aa:List AV),A2 fr 3=w/\Nd false 1 aa w h'/\EH (L0++(zf2z i).map λk=>JW N l k) aa/\aa.length<=L5.length+i)) ?_ R.length h ⟨0,by omega,h6,v,L5,h3,hg,by simpa using hacc,by omega⟩;rintro J Φ hJ hΦ n E4 H1 K ⟨i,hi,k6,hr⟩;have A6:=K.1.trans hl;have k0:=B8 K 0 h0;have k4:=B8 K 4 h4;have k5:=B8 K 5 h5;clear K;by_cases A9:i<R.length
 .have j0:=C9 i (by omega);obtain⟨w,aa,k3,hg,hro,has⟩:=hr;obtain⟨bx,fams⟩:=H1;have hS:=λh=>PZ h ml 1 (by decide) (S7 l) i (by simp[S7];omega);have hR2:=hro;have hT:L0++(zf2z (i+1)).map (λk=>JW N l k)=(L0++(zf2z i).map λk=>JW N l k)++[JW N l i]:=by
   rw[List.range_succ,zg2z,List.append_assoc];rfl
  have hgs:GLs ⟨bx,fams⟩ [⟨true,1,aa,w⟩]:=GLs.one hg;obtain⟨v1,F1,a1,G1⟩:=(hgs.cons 1 true []).app (c:=B9 Q5) rfl (i:=0) (bytes:=8) (x:=sl (ml.1&&decide (i=(S7 l).length),ml.2||!(S7 l).isEmpty) 1 ((S7 l).take i)) (ys:=(S7 l).take i) rfl (Ad _ _ _ _) (by simp only[S7,I0,maxLen,zf7z,zg1z,zf1z];omega);rw[zf9z,List.nil_append,S7,←List.map_take]at G1;simp[BZ,A6,k0,k4,k5,k6,A9,j0,k3,hx,hS,a1,B5];refine dC (c:=B9 Q5) rfl _ (by simp[A6]) bx F1 N i0 i (by omega) m ml xs aa l (by omega) (by omega) (by omega) w v1 ?_ ?_ ?_ ?_ ?_ ?_ hx (G1 bx) _ ?_<;>first|(simp[A6,k0,k3,k4,k5,k6,hR];done)|skip
  intro T9 v' F' m' FN hk2 p3 hg2;have p6:A2 T9 6=.int .i64 (i:Nat):=(hk2 6 (by omega) (by omega)).trans (by simp[A6,k6]);clear hk2;have hro2:=hro.snoc m' (JW N l i);rw[←hT]at hro2;simp[FN,p6,j0];exact H0 hJ ⟨i+1,by omega,by simp[FN],v',_,by simp[FN,p3],hg2,hro2,by simp;omega⟩
 .obtain⟨w,aa,k3,hg,hro,has⟩:=hr;have hi2:i=N+1:=by omega
  rw[hi2]at hro;simp[BZ,A6,k0,k4,k5,k6,A9];exact hΦ _ _ _ ⟨rfl,aa,by simp[k3];exact hg,hro,by omega⟩
theorem cj (N:Nat) (hn5:N<=5) (L:List (List Int)) (hL:∀l∈L,l.length=N) (hLl:L.length<=1000) (m:U8) (xs:C6) (hX:EH L xs) (fr:Fr) (h:AH) (h3:A2 fr 3=.vs true 0 []) (hl:fr.length=50) (h0:A2 fr 0=.int .i64 ((N+1:Nat):Int)) (h4:A2 fr 4=sl m 1 xs) (h5:A2 fr 5=.int .i64 0) :
  C3 (lp (A4 (N5 Q) (B9 Q5) Ba) (fr,h)) λe fr' h'=>Kp Ba.wr fr fr'/\e=.exit 0/\∃aa:List AV,Nd false 1 aa (A2 fr' 3) h'/\EH (L.flatMap λl=>(zf2z (N+1)).map λk=>JW N l k) aa:=by
 refine C1 rfl fr (λn fr h'=>∃(i:Nat),i+n=L.length/\A2 fr 5=.int .i64 (i:Nat)/\(∃(w:AV) (aa:List AV),A2 fr 3=w/\Nd false 1 aa w h'/\EH ((L.take i).flatMap λl=>(zf2z (N+1)).map λk=>JW N l k) aa/\aa.length<=6*i)) ?_ L.length h ⟨0,by omega,h5,_,[],h3,fD _ _ _,by simpa using EH.nil,by simp⟩;rintro J Φ hJ hΦ n E4 H1 K ⟨i,hi,k5,hr⟩;have A6:=K.1.trans hl;have k0:=B8 K 0 h0;have k4:=B8 K 4 h4;clear K;by_cases A9:i<L.length
 .have j0:=C9 i (by omega);obtain⟨w,aa,k3,hg,hro,has⟩:=hr;obtain⟨bx,fams⟩:=H1;obtain⟨m1,gx⟩:=hX.get A9;have hx:JY xs i=some (sl m1 1 (S7 L[i])):=gx;have Nj:=hX.len;have hll:=hL _ (zg0z A9);have hT:(L.take (i+1)).flatMap (λl=>(zf2z (N+1)).map λk=>JW N l k)=(L.take i).flatMap (λl=>(zf2z (N+1)).map λk=>JW N l k)++(zf2z (N+1)).map λk=>JW N L[i] k:=by
   rw[List.take_succ_eq_append_getElem A9,List.flatMap_append];simp
  generalize L[i]=l at *
  simp[Ba,A6,k0,k4,k5,A9,j0,k3,Nj];refine C3.mono (ci N hn5 l hll (zf2z (N+1)) (by simp) i m m1 xs hx aa _ hro (by omega) w _ _ ?_ ?_ ?_ ?_ ?_ ?_ ?_) ?_<;>first|(simp[A6,k0,k3,k4,k5];done)|exact LJ hg rfl|skip
  rintro e T9 ⟨bx2,F2⟩ ⟨K,rfl,aa2,hg2,hr2,ha2⟩;have FN:T9.length=50:=K.1.trans (by simp[A6]);have p5:A2 T9 5=.int .i64 (i:Nat):=B8 K 5 (by simp[A6,k5]);clear K;rw[←hT]at hr2;simp[FN,p5,j0];exact H0 hJ ⟨i+1,by omega,by simp[FN],_,aa2,by simp[FN],LJ hg2 rfl,hr2,by omega⟩
 .obtain⟨w,aa,k3,hg,hro,has⟩:=hr;rw[List.take_of_length_le (by omega)]at hro;have Nj:=hX.len;simp[Ba,A6,k0,k4,k5,A9,Nj];exact hΦ _ _ _ ⟨rfl,aa,by simp[k3];exact hg,hro⟩
theorem US:∀N,N<=5->(Ie N).length<=120
 |0,_=>by decide
 |1,_=>by decide
 |2,_=>by decide
 |3,_=>by decide +kernel
 |4,_=>by decide +kernel
 |5,_=>by decide +kernel
 |n+6,h=>by omega
theorem Zd:∀N:Nat,N<=5->∃(m:U8) (xs:C6),pc Q Q5 [.int .i64 (N:Nat)]=some (sl m 1 xs)/\EH (Ie N) xs:=by
 intro N
 induction N with
 |zero =>
  intro _;refine⟨(true,true),[sl (true,true) 1 []],?_,EH.nil.snoc (true,true) []⟩;refine Bu BY λfr hl h0=>?_;simp[BY]at hl h0;simp[BY,hl,h0,B5]
 |succ N ih =>
  intro h5;obtain⟨m,xs,hP,hX⟩:=ih (by omega)
  suffices h:∃v,pc Q Q5 [.int .i64 ((N+1:Nat):Int)]=some v/\∃(m:Bool×Bool) (xs:List AV),v=sl m 1 xs/\EH (Ie (N+1)) xs by
   obtain⟨v,h1,m,xs,rfl,h2⟩:=h;exact⟨m,xs,h1,h2⟩
  have hw':IntKind.i64.wrap ((N:Int)+1-1)=(N:Int):=by rw[R0 (by omega) (by omega)];omega
  have hw0:IntKind.i64.wrap (N:Int)=(N:Int):=R0 (by omega) (by omega);have T6:¬(N:Int)+1=0:=by omega
  have hLn:=US N (by omega);refine Ka BY λΨ hΨ fr hl h0=>?_;simp[BY]at hl h0;simp[BY,hl,h0,hw',hw0,T6,hP];refine C3.mono (cj N (by omega) (Ie N) (λl hl=>(Wh N (by omega) l hl).1) (by omega) m xs hX _ _ ?_ ?_ ?_ ?_ ?_) ?_<;>first|(simp[hl,h0];done)|skip
  rintro e E4 ⟨bx,F1⟩ ⟨K,rfl,aa,hg,hR⟩;have A6:E4.length=50:=K.1.trans (by simp[hl]);clear K;obtain⟨mm,hf⟩:=fF hg;simp only at hf;simp[A6,hf];exact hΨ _ ⟨mm,_,rfl,hR⟩
end Go.Abs.Q
