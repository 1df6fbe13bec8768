/- A part of the proof. -/
import Derived.Test.YtnnjamknplefbaaGreatDoorTN27
set_option linter.all false
open Nat renaming le_refl->zf0z
open List renaming mem_cons_of_mem->zf1z,length_append->zf3z,mem_cons_self->zf4z,countP_cons->zf7z,length_cons->zf8z,mem_append->zf9z,any_cons->zg0z,map_cons->zg1z,drop_eq_getElem_cons->zg2z,drop_eq_nil_of_le->zg4z,getElem?_set_ne->zg6z,all_cons->zg8z,mem_cons->zg9z,take_succ_cons->zt0z,any_map->zt1z,mem_singleton->zt2z,getElem?_map->zt3z,any_eq_true->zt4z,getElem_mem->zt5z,any_append->zt7z,length_map->zt8z,length_nil->zt9z,map_nil->A2u
open ByteArray renaming size_append->zf2z
open Bool renaming and_eq_true->zf5z,true_and->zf6z,eq_iff_iff->zg3z,and_eq_false_iff->zg5z,false_or->zg7z
open Prod renaming fst->zt6z
set_option linter.all false
namespace Go.Abs.Q
open Go.Proofs
theorem Xh{a:Al}(h:Bq a=true):a.size<=24:=by
 unfold Bq at h;split at h
 .cases h
 .simp only[zf5z,decide_eq_true_eq]at h;exact h.1.1
theorem xq(s:Int):(o9 s).length<=5:=by
 unfold o9;have:∀i:Nat,(Lq.getD i []).length<=5:=λi=>by
  match i with
  |0|1|2|3|4|5=>decide
  |i+6=>simp[Lq]
 exact this _
theorem fE:∀(l:Be) (b:Bool),(∀t∈l,(RH t).length+2<=40*t.size)->(Ch b l).length<=40*Tm.sizes l
 | [],_,_=>by simp[Ch]
 |t::l,b,h=>by
  have h1:=h t zf4z;have h2:=fE l false λx hx=>h x (zf1z _ hx);rw[Ch,Tm.sizes,zf3z,zf3z];have:(if b=true then ([]:List UInt8)else [44,32]).length<=2:=by split<;>simp
  omega
theorem bW:∀(n:Nat) (t:Tm),t.size<=n->Q7 t=0->(RH t).length+2<=40*t.size
 |0,t,h,_=>by have:=t.size_pos;omega
 |n+1,t,h,hA=>by
  have hk:=t.kids_size;obtain⟨k,nm,s,m,l⟩:=t;obtain⟨h1,h2,h3⟩:=Mw hA;have hn:=Xh h1;simp only[Tm.kids]at hk;have hl:=fE l true λx hx=>bW n x (by have:=Tm.size_le hx;omega) (Oy h2 x hx);have hw:=xq s;have hs:nm.data.toList.length=nm.size:=by simp
  unfold RH;split
  .split<;>simp only[zf3z,zf8z,zt9z]<;>omega
  .split<;>simp only[zf3z,zf8z,zt9z]<;>omega
theorem fD:∀(l:Be),(∀x∈l,be x=true)->bi l=true
 | [],_=>rfl
 |t::l,h=>by rw[bi,h t zf4z,fD l λx hx=>h x (zf1z _ hx)];rfl
theorem uS:∀(n:Nat) (t:Tm),t.size<=n->Q7 t=0->be t=true
 |0,t,h,_=>by have:=t.size_pos;omega
 |n+1,t,h,hA=>by
  have hk:=t.kids_size;obtain⟨k,nm,s,m,l⟩:=t;obtain⟨h1,h2,h3⟩:=Mw hA;simp only[Tm.kids]at hk;have hl:=fD l λx hx=>uS n x (by have:=Tm.size_le hx;omega) (Oy h2 x hx);unfold be;rcases h3 with ⟨q1,q2,q3,_⟩|⟨q1,_⟩
  .rw[if_pos q1];simp[q2,q3]
  .rw[if_neg a_];exact hl
mutual
theorem mZ:∀t:Tm,∃t',mU (I8 t)=some t'/\S4 t'=S4 t
 | .mk k nm s m l=>by
  obtain⟨l',h1,h2⟩:=bV l;refine⟨.mk k nm s (m.1,decide ((if ((C4 l).isEmpty&&!m.2)=true then 0 else 4)=4)) l',?_,by rw[S4,S4,h2]⟩
  unfold I8 sl;rw[mU,h1];by_cases hz:((C4 l).isEmpty&&!m.2)=true
  .rw[if_pos hz];rw[if_pos (.inr ⟨rfl,(zf5z _ _ ▸ hz).1⟩)]
  .rw[if_neg hz];rw[if_pos (.inl rfl)]
theorem bV:∀l:List Tm,∃l',bU (C4 l)=some l'/\Jp l'=Jp l
 | []=>⟨[],rfl,rfl⟩
 |t::l=>by
  obtain⟨t',a1,a2⟩:=mZ t;obtain⟨l',h1,h2⟩:=bV l;exact⟨t'::l',by rw[C4,bU,a1,h1],by rw[Jp,Jp,a2,h2]⟩
end
mutual
theorem ic:∀t:Tm,RH (S4 t)=RH t
 | .mk k nm s m l=>by rw[S4,RH,RH,mc true l]
theorem mc:∀(b:Bool) (l:Be),Ch b (Jp l)=Ch b l
 |_,[]=>rfl
 |b,t::l=>by rw[Jp,Ch,Ch,ic t,mc false l]
end
mutual
theorem Wa:∀t:Tm,Q7 (S4 t)=Q7 t
 | .mk k nm s m l=>by
  have hl:(Jp l).length=l.length:=by simp[Rs]
  rw[S4,Q7,Q7,hl,mW l]
theorem mW:∀l:List Tm,W5 (Jp l)=W5 l
 | []=>rfl
 |t::l=>by rw[Jp,W5,W5,Wa t,mW l]
end
mutual
theorem iX:∀t:Tm,JM (S4 t)=JM t
 | .mk k nm s m l=>by rw[S4,JM,JM,mT l]
theorem mT:∀l:List Tm,Gv (Jp l)=Gv l
 | []=>rfl
 |t::l=>by rw[Jp,Gv,Gv,iX t,mT l]
end
theorem tval_er{t t':Tm}(h:S4 t=S4 t'):EP t=EP t':=by
 have h1:Q7 t=Q7 t':=by rw[←Wa t,h,Wa t']
 have h2:JM t=JM t':=by rw[←iX t,h,iX t']
 have h3:t.size=t'.size:=(Jq _ t (zf0z _)).symm.trans ((congrArg Tm.size h).trans (Jq _ t' (zf0z _)));unfold EP;rw[h1,h2,h3]
theorem qB{t:Tm}(h:Ls t):pc Qf b7 [I8 t]=some (.tup [.str (Lp t),.int .i64 0]):=by
 obtain⟨t',h1,h2⟩:=mZ t;have hs:Qf.spec b7=some TI:=by
  show bN b7=some TI;unfold bN;rw[if_pos rfl]
 have hv:=(BZ h.1).1;have hn:Q7 t'=0:=by rw[←Wa t',h2,Wa t];exact(P9 hv).1
 have hz:t'.size=t.size:=(Jq _ t' (zf0z _)).symm.trans ((congrArg Tm.size h2).trans (Jq _ t (zf0z _)));have hb:fmtB t'=true:=by
  have hl:=bW _ t' (zf0z _) hn;have:=h.2;unfold fmtB;rw[tval_er h2,hv,uS _ t' (zf0z _) hn];simp only[zf5z,decide_eq_true_eq];exact⟨⟨⟨trivial,trivial⟩,a_⟩,a_⟩
 have hw:RH t'=RH t:=by rw[←ic t',h2,ic t]
 apply YN;unfold FN;rw[hs];simp only[TI,h1,hb,hw,Lp,if_true]
theorem me{t t':Tm}(h:Ls t)(h':Ls t')(e:Lp t=Lp t'):S4 t=S4 t':=by
 refine wtx_inj (P9 (BZ h.1).1).1 (P9 (BZ h'.1).1).1 ?_;have:=congrArg (λb:ByteArray=>b.data.toList) e;simpa[Lp]using this
theorem ZS{a b c:Al}(h:a++b=a++c):b=c:=by
 have h1:=congrArg (λx:ByteArray=>x.data.toList) h;simp only[ByteArray.data_append,Array.toList_append]at h1;have h2:=List.append_cancel_left h1;cases b;cases c;simp only[ByteArray.mk.injEq];exact Array.toList_inj.1 h2
theorem Jm.same{D D':PD}(h1:D'.l=D.l)(h2:D'.tys=D.tys)(h3:D'.efs=D.efs){t:Tm}{k:Int}(h:Jm D t k):Jm D' t k:=by
 unfold Jm at *
 rw[h1,h2,h3];exact h
theorem da{α:Type}{p q:α->Bool}:∀{l:List α} {x:α},x∈l->q x=true->p x=false->(∀y∈l,p y=true->q y=true)->l.countP p+1<=l.countP q
 |a::l,x,hx,h1,h2,h=>by
  rcases zg9z.1 hx with rfl|hx
  .rw[zf7z,zf7z,if_neg (by simp[h2]),if_pos h1];have:l.countP p<=l.countP q:=List.countP_mono_left λy hy hp=>h y (zf1z _ hy) hp;omega
  .have ih:=da hx h1 h2 λy hy hp=>h y (zf1z _ hy) hp;rw[zf7z,zf7z];by_cases hp:p a=true
   .rw[if_pos hp,if_pos (h a zf4z hp)];omega
   .rw[if_neg hp];split<;>omega
theorem TInv.note{A:PA}{pre:Al}{U:Be}{D:PD}(I:TInv A pre D){t:Tm}(ht:Ls t)(hU:t∈U){k:Int}(hr:Jm D t k)(hn:TL pre D t=false) :
  TInv A pre {D with kn:=D.kn++[(pre++Lp t,k)]}/\Gro pre t.size D {D with kn:=D.kn++[(pre++Lp t,k)]}/\Ak U pre {D with kn:=D.kn++[(pre++Lp t,k)]}+20<=Ak U pre D:=by
 refine⟨⟨I.ok,I.pk,I.ti,I.ei,λx hx s hs e=>?_,I.rt⟩,⟨rfl,rfl,rfl,rfl,⟨[],e_⟩,λx hx=>?_⟩,?_⟩
 .rcases zf9z.1 hx with hx|hx
  .exact Jm.same rfl rfl rfl (I.kn x hx s hs e)
  .rw[zt2z.1 hx]at e ⊢;have:=me ht hs (ZS e);exact Jm.same rfl rfl rfl (hr.er this)
 .rcases zf9z.1 hx with hx|hx
  .exact .inl ⟨x,hx,rfl⟩
  .rw[zt2z.1 hx];exact .inr ⟨t,ht,zf0z _,rfl⟩
 .unfold Ak;have:=da (p:=λs=>!TL pre {D with kn:=D.kn++[(pre++Lp t,k)]} s) (q:=λs=>!TL pre D s) hU (by simp[hn]) (by simp only[TL,zt7z,zg0z];simp[(Mg _ _).2 rfl]) (λy _ hy=>by
   simp only[TL,zt7z,Bool.not_or,zf5z]at hy ⊢;exact hy.1)
  simp only at this ⊢;omega
end Go.Abs.Q
namespace Go.Abs.Q
open Go.Proofs
attribute [local simp] E5 E6 fin J4 H8 Q3 S6
def CmpC(A:PA)(pre:ByteArray)(U:List Tm)(n:Nat):Prop:=∀(t:Tm) (D:PD) (h:AH),t∈U->t.size<=n+1->Ls t->PrH A D h->TInv A pre D->Ak U pre D+200*(n+1)<=1000000->t.kind=3->ty D.tys D.efs t=HJ D.efs (ty D.tys D.efs) t ->
 ∃v h',rc Qf N7 [.ptr A.p 0,I8 t] h=some (v,h')/\VD A pre U (t.size-1) 19 t D h v h'
theorem QW{a b:Al}(h:a.size+b.size<=4611686018427387904):M7 .add (.str a) (.str b)=some (.str (a++b)):=by
 simp only[M7];rw[if_neg];have:IntKind.i64.max=9223372036854775807:=rfl;rw[this];omega
theorem bS(a b:Al):jy true (.str a) (.str b)=some (Zm a b):=by
 have:(a == b)=Zm a b:=by
  rw[zg3z,Mg];obtain⟨a⟩:=a;obtain⟨b⟩:=b;show (a == b)=true↔_;rw[beq_iff_eq,ByteArray.mk.injEq]
 simp[jy,this]
theorem fA(a:Al):∀(l:List ByteArray) (i:Nat),l.any (Zm a)=true->∃j,NU true (.str a) (l.map AV.str) i=some (some (i+j))/\l[j]?=some a
 | [],i,h=>by cases h
 |b::l,i,h=>by
  simp only[zg1z,NU,bS];cases hb:Zm a b with
  |true=>exact⟨0,rfl,by rw[(Mg _ _).1 hb];rfl⟩
  |false =>
   rw[zg0z,hb,zg7z]at h;obtain⟨j,h1,h2⟩:=fA a l (i+1) h;exact⟨j+1,by simp only[h1];congr 2;omega,h2⟩
theorem Xf(a:Al):∀(l:List ByteArray) (i:Nat),l.any (Zm a)=false->NU true (.str a) (l.map AV.str) i=some none
 | [],i,_=>rfl
 |b::l,i,h=>by
  rw[zg0z,Bool.or_eq_false_iff]at h;simp only[zg1z,NU,bS,h.1];exact Xf a l (i+1) h.2
theorem eqS_sym(a b:Al):Zm a b=Zm b a:=by
 rw[zg3z,Mg,Mg];exact eq_comm
set_option maxHeartbeats 4000000 in
theorem A1o(A:PA)(pre:Al)(U:Be)(n:Nat)(hP:∀t,Ls t->pc Qf AB [I8 t]=some (.bool (UU t)))
  (CC:CmpC A pre U n):ZP A pre U (n+1):=by
 intro t D h hUt hn O9 H I hb;obtain⟨d1,d2,d3,rfl,z1,z2,z3,hI1,hI2,hI3⟩:=I.pk;obtain⟨bx,F⟩:=h;have lp0:=H5 H.bp;have lm0:=H5 H.bm;simp only at lp0 lm0;have hbl:D.l.length<=Ak U (SV d1 d2 d3) D:=by unfold Ak;omega
 have hPt:=hP t O9;have hF:=qB O9;have hs1:=Lb (Je 1);obtain⟨v1,⟨bx1,F1⟩,hc1,k1,D1,rfl,H1,K1,R1⟩:=A1N A D ⟨bx++[[.int .i64 t.kind,.str t.name,.int .i64 t.sort,sl t.cm 4 (C4 t.kids)]],F⟩ (H.more _) t (by have:=O9.2;omega) (λx hx=>by have:=(I.ok.ty x hx).2.1;omega) (by have:=I.ok.tl;omega) a_;obtain⟨I1,G1,b1,r1⟩:=I.ent (U:=U) R1 O9.1;have q0:bx1[bx.length]?=some [.int .i64 t.kind,.str t.name,.int .i64 t.sort,sl t.cm 4 (C4 t.kids)]:=(Frm.box H K1 (zf0z _) e_).trans e_;have fin1:Frm A D.lv ⟨bx,F⟩ D1.lv ⟨bx1,F1⟩:=(Frm.more _ _ _ _ _).trans K1;rcases r1 with ⟨rfl,hent,rfl⟩|⟨hk0,r1⟩
 .have hpu:UU t=true->ty D1.tys D1.efs t=some (Q9 1):=λhp=>by rw[YT,ie,hent];simp only;rw[if_pos hp]
  cases hp:UU t with
  |true =>
   rw[hp]at hPt;obtain⟨v3,⟨bx3,F3⟩,hj,k3,D3,rfl,H3,K3,I3,G3,b3,r3⟩:=Ks A _ U D1 ⟨bx1,F1⟩ H1 I1 2 t (Q9 1) (.vs true 0 []) [] (.inl ⟨false,rfl⟩) (BI.vs _ _ _ _) a_ (λm=>.pub t m hp O9.1) (hpu hp);refine Gm AL (by simp[G6]) λfr hl ha=>?_;have h0:=ha 0;have h1:=ha 1;clear ha;simp[G6]at hl h0 h1;simp[G6,hl,h0,h1,hc1,q0,hPt,hs1,hj];exact⟨k3,D3,rfl,H3,fin1.trans K3,I3,(G1.trans G3).mono a_,a_,r3⟩
  |false =>
   rw[hp]at hPt;by_cases hk:t.kind=3
   .have hc:ty D1.tys D1.efs t=HJ D1.efs (ty D1.tys D1.efs) t:=by
     rw[YT,ie,hent];simp only;rw[if_neg (by rw[hp];simp),if_pos hk]
    have Ef:decide (t.kind=3)=true:=decide_eq_true hk;have hP1:=H1.bp;simp only[H9]at hP1;have lent:=OY H1.lt;have lene:=OY H1.le;rw[zt8z]at lent;rw[zt8z]at lene;have zt:(Lp t).size<=10000:=by
     have:=bW _ t (zf0z _) (P9 (BZ O9.1).1).1;have:=O9.2;show (RH t).toArray.size<=10000;simp;omega
    have y1:(bs [32]).size=1:=rfl;have A1:=QW (a:=d1) (b:=bs [32]) a_;have A2:=QW (a:=d1++bs [32]) (b:=d2) o_;have A3:=QW (a:=d1++bs [32]++d2) (b:=bs [32]) o_;have A4:=QW (a:=d1++bs [32]++d2++bs [32]) (b:=d3) o_;have A5:=QW (a:=d1++bs [32]++d2++bs [32]++d3) (b:=bs [32]) o_;have A6:=QW (a:=d1++bs [32]++d2++bs [32]++d3++bs [32]) (b:=Lp t) o_;have hbm:=H1.bm;simp only at hbm;have hks:∀D:PD,(D.kn.map λx=>AV.str x.1)=(D.kn.map zt6z).map AV.str:=λD=>by rw[List.map_map];rfl
    have hkn:∀D:PD,TL (SV d1 d2 d3) D t=(D.kn.map zt6z).any (Zm (SV d1 d2 d3++Lp t)):=λD=>by
     unfold TL;rw[zt1z];congr 1;funext x;exact eqS_sym _ _
    cases hkd:TL (SV d1 d2 d3) D1 t with
    |true =>
     have hkd':=hkd;rw[hkn]at hkd';obtain⟨j,f1,f2⟩:=fA _ _ 0 hkd';rw[Nat.zero_add]at f1;rw[zt3z,Option.map_eq_some_iff]at f2;obtain⟨⟨s,k⟩,f3,f4⟩:=f2;simp only at f4;have hr:=I1.kn (s,k) (List.mem_of_getElem? f3) t O9 f4;have hv:(D1.kn.map λx=>AV.int .i64 x.2)[j]?=some (.int .i64 k):=by rw[zt3z,f3];rfl
     have hM:Js true true (.int .i64 0) ⟨bx1,F1⟩ (.mp A.bm) (.str (d1++bs [32]++d2++bs [32]++d3++bs [32]++Lp t))=some (.tup [.int .i64 k,.bool true],⟨bx1,F1⟩):=by
      have f1':NU true (.str (d1++bs [32]++d2++bs [32]++d3++bs [32]++Lp t)) ((D1.kn.map zt6z).map AV.str) 0=some (some j):=f1;simp only[Js,VY,Hz,hbm,hks,f1',hv];rfl
     refine Gm AL (by simp[G6]) λfr hl ha=>?_;have h0:=ha 0;have h1:=ha 1;clear ha;simp[G6]at hl h0 h1;simp[G6,hl,h0,h1,hc1,q0,hPt,Ef,hF,hP1,hI1,hI2,hI3,A1,A2,A3,A4,A5,A6,lent,lene,hM];exact⟨k,D1,rfl,H1,fin1,I1,G1.mono a_,a_,hr⟩
    |false =>
     have hkd':=hkd;rw[hkn]at hkd';have f1:=Xf _ _ 0 hkd';have hM:Js true true (.int .i64 0) ⟨bx1,F1⟩ (.mp A.bm) (.str (d1++bs [32]++d2++bs [32]++d3++bs [32]++Lp t))=some (.tup [.int .i64 0,.bool false],⟨bx1,F1⟩):=by
      have f1':NU true (.str (d1++bs [32]++d2++bs [32]++d3++bs [32]++Lp t)) ((D1.kn.map zt6z).map AV.str) 0=some none:=f1;simp only[Js,VY,Hz,hbm,hks,f1'];rfl
     obtain⟨v2,⟨bx2,F2⟩,hc2,k2,D2,rfl,H2,K2,I2,G2,b2,r2⟩:=CC t D1 ⟨bx1,F1⟩ hUt hn O9 H1 I1 a_ hk hc;have fin2:Frm A D1.lv ⟨bx,F⟩ D2.lv ⟨bx2,F2⟩:=fin1.trans K2;have hn2:TL (SV d1 d2 d3) D2 t=false:=by
      apply Classical.byContradiction;intro hc';rw[Bool.not_eq_false]at hc';unfold TL at hc';rw[zt4z]at hc';obtain⟨x,hx,e⟩:=hc';rw[Mg]at e;rcases G2.kn x hx with ⟨y,hy,e'⟩|⟨s,y1,y2,y3⟩
      .have:TL (SV d1 d2 d3) D1 t=true:=by
        unfold TL;rw[zt4z];exact⟨y,hy,by rw[e',Mg];exact e⟩
       rw[hkd]at this;cases this
      .have e2:=me y1 O9 (ZS (y3.symm.trans e));have hz:s.size=t.size:=(Jq _ s (zf0z _)).symm.trans ((congrArg Tm.size e2).trans (Jq _ t (zf0z _)));have:=t.size_pos;omega
     obtain⟨I3,G3,b3⟩:=I2.note O9 hUt r2 hn2;have hbm2:=H2.bm;have hlp2:=H5 H2.bp;have hlm2:=H5 hbm2;simp only at hbm2 hlp2 hlm2;have hkd2:=hn2;rw[hkn]at hkd2;have f2:=Xf _ _ 0 hkd2;have hUp:cv true ⟨bx2,F2⟩ (.mp A.bm) (.str (d1++bs [32]++d2++bs [32]++d3++bs [32]++Lp t)) (.int .i64 k2)=some (B9,⟨bx2.set A.bm [.mbox (((D2.kn++[(SV d1 d2 d3++Lp t,k2)]).map λx=>AV.str x.1)) (((D2.kn++[(SV d1 d2 d3++Lp t,k2)]).map λx=>AV.int .i64 x.2))],F2⟩):=by
      have f2':NU true (.str (d1++bs [32]++d2++bs [32]++d3++bs [32]++Lp t)) (D2.kn.map λx=>AV.str x.1) 0=some none:=by rw[hks];exact f2
      have hz:frz ⟨bx2,F2⟩ false (.int .i64 k2)=some (.int .i64 k2):=rfl;simp only[cv,wd,hbm2,hz,VY,f2'];simp[SV,AV.isTup]
     have hP2:=H2.bp;simp only[H9]at hP2;have q2:bx2[bx.length]?=some [.int .i64 t.kind,.str t.name,.int .i64 t.sort,sl t.cm 4 (C4 t.kids)]:=(K2.bx _ a_ a_ (H5 q0)).trans q0;refine Gm AL (by simp[G6]) λfr hl ha=>?_;have h0:=ha 0;have h1:=ha 1;clear ha;simp[G6]at hl h0 h1;simp[G6,hl,h0,h1,hc1,q0,hPt,Ef,hF,hP1,hI1,hI2,hI3,A1,A2,A3,A4,A5,A6,lent,lene,hM,hc2,hP2,hUp];refine⟨k2,{D2 with kn:=D2.kn++[(SV d1 d2 d3++Lp t,k2)]},rfl,⟨(zg6z H2.ne.symm).trans H2.bp,?_,H2.ne,H2.f1,H2.f2,H2.nk,H2.tl,H2.el,Fp H2.lt rfl,Fp H2.le rfl,Fp H2.ll rfl,H2.at',H2.ae⟩,fin2.trans ⟨e_,λj _ hj _=>zg6z (Ne.symm hj),λs ws w hw ha=>⟨Fp hw rfl,ha⟩⟩,I3,((G1.trans G2).trans G3).mono a_,a_,Jm.same rfl rfl rfl r2⟩
     have e:=List.getElem?_set_self (l:=bx2) (i:=A.bm) (a:=[.mbox (((D2.kn++[(SV d1 d2 d3++Lp t,k2)]).map λx=>AV.str x.1)) (((D2.kn++[(SV d1 d2 d3++Lp t,k2)]).map λx=>AV.int .i64 x.2))]) hlm2;simpa using e
   .have Rg:ty D1.tys D1.efs t=none:=by
     rw[YT,ie,hent];simp only;rw[if_neg (by rw[hp];simp),if_neg hk]
    refine Gm AL (by simp[G6]) λfr hl ha=>?_;have h0:=ha 0;have h1:=ha 1;clear ha;simp[G6]at hl h0 h1;simp[G6,hl,h0,h1,hc1,q0,hPt,hk];exact⟨-1,D1,rfl,H1,fin1,I1,G1.mono a_,a_,.inl ⟨rfl,Rg⟩⟩
 .refine Gm AL (by simp[G6]) λfr hl ha=>?_;have h0:=ha 0;have h1:=ha 1;clear ha;simp[G6]at hl h0 h1;simp[G6,hl,h0,h1,hc1,hk0];exact⟨k1,D1,rfl,H1,fin1,I1,G1.mono a_,a_,r1⟩
theorem uU(A:PA)(pre:Al)(U:Be)(hU:yB U)(hP:∀t,Ls t->pc Qf AB [I8 t]=some (.bool (UU t))):∀n,ZP A pre U n
 |0=>λt D h _ hn _ _ _ _=>by have:=t.size_pos;omega
 |n+1=>A1o A pre U n hP λt D h h1 h2 h3 h4 h5 h6 h7 h8=>mC A pre U hU n (uU A pre U hU hP n) t D h h1 h2 h3 h4 h5 h6 h7 h8
mutual
def OR:Tm->List Tm
 | .mk k nm s m l=>.mk k nm s m l::Jf l
def Jf:List Tm->List Tm
 | []=>[]
 |t::l=>OR t++Jf l
end
theorem ZE(t:Tm):OR t=t::Jf t.kids:=by cases t;rw[OR];rfl
mutual
theorem WY:∀t:Tm,(OR t).length=t.size
 | .mk k nm s m l=>by
  have:=Xe l;rw[OR,zf8z,this];simp only[Tm.size];omega
theorem Xe:∀l:List Tm,(Jf l).length=Tm.sizes l
 | []=>rfl
 |t::l=>by rw[Jf,zf3z,WY t,Xe l,Tm.sizes]
end
theorem ey{x:Tm}:∀{l:Be},x∈l->x∈Jf l
 |t::l,h=>by
  rw[Jf,zf9z];rcases zg9z.1 h with rfl|h
  .exact .inl (by rw[ZE];exact zf4z)
  .exact .inr (ey h)
mutual
theorem iV:∀t:Tm,yB (OR t)
 | .mk k nm s m l=>λy hy x hx=>by
  rw[OR]at hy ⊢;rcases zg9z.1 hy with rfl|hy
  .exact zf1z _ (ey hx)
  .exact zf1z _ (mR l y hy x hx)
theorem mR:∀l:List Tm,yB (Jf l)
 | []=>λy hy=>by cases hy
 |t::l=>λy hy x hx=>by
  rw[Jf,zf9z]at hy ⊢;rcases hy with hy|hy
  .exact .inl (iV t y hy x hx)
  .exact .inr (mR l y hy x hx)
end
theorem ew(t:Tm):t∈OR t:=by rw[ZE];exact zf4z
def ClP(sz:Nat)(xs:List AV)(B:List (List AV))(F:List Fam)(v:AV)(h':AH):Prop :=
 ∃F',h'=⟨B,F'⟩/\(∀BB,IT false sz xs v ⟨BB,F'⟩)/\∀(wr:Bool) (s:Nat) (ws:List AV) (w:AV),IT wr s ws w ⟨B,F⟩->(∀BB,IT wr s ws w ⟨BB,F'⟩)/\BI v w
theorem dG(m:Gg)(xs:List Tyd)(hx:xs.length<=100000)(B:List (List AV))(F:List Fam) :
  ∃v h',rc Qf T9 [sl m 6 (xs.map r8)] ⟨B,F⟩=some (v,h')/\ClP 6 (xs.map r8) B F v h':=by
 obtain⟨v',F',hap,hl',hfr⟩:=Gt (c:=B1 T9) (sz:=6) (bytes:=88) (xs:=[]) (v:=sl (true,true) 6 []) (x:=sl m 6 (xs.map r8)) (ys:=xs.map r8) (h:=⟨B,F⟩) (.inl ⟨true,rfl⟩) (W0 _ _ _ _) i_;have fin:ClP 6 (xs.map r8) B F v' ⟨B,F'⟩:=⟨F',rfl,hl',λwr s ws w hw=>hfr wr s ws w hw (Ed w _ _ _).symm⟩;clear hl' hfr;simp only at hap;cases xs with
 |nil =>
  obtain⟨m1,m2⟩:=m;cases m2 with
  |false =>
   refine Gm Fe (by simp[O0]) λfr hl ha=>?_;have h0:=ha 0;clear ha;simp[O0]at hl h0;simp[O0,hl,h0,XP];exact⟨F,rfl,λBB=>.inl ⟨false,rfl⟩,λwr s ws w hw=>⟨λBB=>Fp hw rfl,BI.vs' _ _ _ _⟩⟩
  |true =>
   refine Gm Fe (by simp[O0]) λfr hl ha=>?_;have h0:=ha 0;clear ha;simp[O0]at hl h0;simp only[A2u]at hap fin;simp[O0,hl,h0,XP,A9,hap];exact fin
 |cons x xs =>
  refine Gm Fe (by simp[O0]) λfr hl ha=>?_;have h0:=ha 0;clear ha;simp[O0]at hl h0;simp only[zg1z]at hap fin;simp[O0,hl,h0,XP,A9,hap];exact fin
theorem iI(m:Gg)(xs:List Fa)(hx:xs.length<=100000)(B:List (List AV))(F:List Fam) :
  ∃v h',rc Qf W8 [sl m 3 (xs.map Dp)] ⟨B,F⟩=some (v,h')/\ClP 3 (xs.map Dp) B F v h':=by
 obtain⟨v',F',hap,hl',hfr⟩:=Gt (c:=B1 W8) (sz:=3) (bytes:=40) (xs:=[]) (v:=sl (true,true) 3 []) (x:=sl m 3 (xs.map Dp)) (ys:=xs.map Dp) (h:=⟨B,F⟩) (.inl ⟨true,rfl⟩) (W0 _ _ _ _) i_;have fin:ClP 3 (xs.map Dp) B F v' ⟨B,F'⟩:=⟨F',rfl,hl',λwr s ws w hw=>hfr wr s ws w hw (Ed w _ _ _).symm⟩;clear hl' hfr;simp only at hap;cases xs with
 |nil =>
  obtain⟨m1,m2⟩:=m;cases m2 with
  |false =>
   refine Gm Gn (by simp[Q2]) λfr hl ha=>?_;have h0:=ha 0;clear ha;simp[Q2]at hl h0;simp[Q2,hl,h0,XP];exact⟨F,rfl,λBB=>.inl ⟨false,rfl⟩,λwr s ws w hw=>⟨λBB=>Fp hw rfl,BI.vs' _ _ _ _⟩⟩
  |true =>
   refine Gm Gn (by simp[Q2]) λfr hl ha=>?_;have h0:=ha 0;clear ha;simp[Q2]at hl h0;simp only[A2u]at hap fin;simp[Q2,hl,h0,XP,A9,hap];exact fin
 |cons x xs =>
  refine Gm Gn (by simp[Q2]) λfr hl ha=>?_;have h0:=ha 0;clear ha;simp[Q2]at hl h0;simp only[zg1z]at hap fin;simp[Q2,hl,h0,XP,A9,hap];exact fin
def yj(a b:Typ):Bool:=Hw a b||decide (b.kind=6)||(if b.kind=1 then decide (a.kind=5)else decide (b.kind=2)&&(decide (a.kind=3)||decide (a.kind=4)))
theorem xB(a b:Typ)(ha:V7 a):pc Q LI [Hn a,Hn b]=some (.bool (yj a b)):=by
 have hS:=QN a b ⟨ha.1,λp hp=>(ha.2 p hp).2⟩;unfold yj;generalize Hw a b=E at hS;cases E with
 |true =>
  refine j5 M1 λfr hl h0 h1=>?_;simp[M1]at hl h0 h1;simp[M1,hl,h0,h1,hS]
 |false =>
  by_cases c6:b.kind=6
  .refine j5 M1 λfr hl h0 h1=>?_;simp[M1]at hl h0 h1;simp[M1,hl,h0,h1,hS,eq_true c6]
  .by_cases c1:b.kind=1
   .refine j5 M1 λfr hl h0 h1=>?_;simp[M1]at hl h0 h1;simp[M1,hl,h0,h1,hS,c6,eq_true c1]
   .by_cases c2:b.kind=2
    .by_cases c3:a.kind=3
     .refine j5 M1 λfr hl h0 h1=>?_;simp[M1]at hl h0 h1;simp[M1,hl,h0,h1,hS,c6,c1,eq_true c2,eq_true c3]
     .refine j5 M1 λfr hl h0 h1=>?_;simp[M1]at hl h0 h1;simp[M1,hl,h0,h1,hS,c6,c1,eq_true c2,c3]
    .refine j5 M1 λfr hl h0 h1=>?_;simp[M1]at hl h0 h1;simp[M1,hl,h0,h1,hS,c6,c1,c2]
theorem bZ{t:Typ}(h:KT t=0):(1<=t.kind/\t.kind<=6)/\(OM t.kind=false->t.ps=[]):=by
 unfold KT at h;split at h
 .cases h
 .rename_i h1;refine⟨a_,λhk=>?_⟩;split at h
  .cases h
  .rename_i h2;have:¬0<(t.ps.length:Int):=λh3=>h2 ⟨hk,h3⟩;exact List.eq_nil_of_length_eq_zero a_
theorem zj(k:Int){b:Typ}(h:b.ps=[]):Hw (Q9 k) b=decide (k=b.kind):=by
 unfold Hw;rw[h];simp[Q9,BD];exact decide_eq_decide.2 Iff.rfl
theorem mQ(a b:Typ):Sd a b=(decide (KT a=0)&&decide (KT b=0)&&yj a b):=by
 unfold Sd;by_cases ha:KT a=0
 .by_cases hb:KT b=0
  .rw[decide_eq_true ha,decide_eq_true hb];simp only[zf6z];obtain⟨⟨a1,a6⟩,a0⟩:=bZ ha;obtain⟨⟨b1,b6⟩,b0⟩:=bZ hb;unfold yC yj;rw[zg0z];cases hE:Hw a b with
   |true=>simp
   |false =>
    simp only[zg7z];by_cases hk:OM b.kind=false
    .have hz:=b0 hk;have e:∀k,Hw (Q9 k) b=decide (k=b.kind):=λk=>zj k hz;rw[zt1z];have ea:a.kind=b.kind->False:=λh=>by
      have hza:=a0 (by rw[h];exact hk);unfold Hw at hE;rw[hza,hz,h]at hE;simp[BD]at hE
     have hbk:b.kind=1\/b.kind=2\/b.kind=6:=by
      unfold OM at hk;simp only[decide_eq_false_iff_not]at hk;omega
     have hak:a.kind=1\/a.kind=2\/a.kind=3\/a.kind=4\/a.kind=5\/a.kind=6:=by omega
     have hf:∀l:List Int,l.any ((λx=>Hw x b)∘Q9)=l.any λk=>decide (k=b.kind):=λl=>by
      congr 1;funext k;exact e k
     rw[hf];clear hf e;rcases hbk with hb|hb|hb<;>rcases hak with h|h|h|h|h|h<;>rw[h,hb]at ea<;>rw[h,hb]<;>first|(exfalso;exact ea rfl)|decide
    .have Ef:OM b.kind=true:=by simpa using hk
     have hbk:b.kind=3\/b.kind=4\/b.kind=5:=by simpa[OM]using Ef
     have Rg:∀k,k=1\/k=2\/k=6->Hw (Q9 k) b=false:=λk h=>by
      unfold Hw;rw[zg5z];left;rw[decide_eq_false_iff_not];show ¬k=b.kind;omega
     rw[zt1z];have UM:(abvs a.kind).any ((λx=>Hw x b)∘Q9)=false:=by
      rw[List.any_eq_false];intro k hk;have:k=1\/k=2\/k=6:=by
       unfold abvs at hk;split at hk
       .simp at hk;omega
       .split at hk
        .simp at hk;omega
        .split at hk
         .simp at hk;omega
         .simp at hk
      show ¬Hw (Q9 k) b=true;rw[Rg k this];simp
     rw[UM];rcases hbk with h|h|h<;>rw[h]<;>simp
  .rw[decide_eq_false hb];simp
 .rw[decide_eq_false ha];simp
theorem tX(a b:Typ)(ha:V7 a)(hb:V7 b):pc Q Lj [Hn a,Hn b]=some (.bool (Sd a b)):=by
 have q1:=QO a ha;have q2:=QO b hb;have q3:=xB a b ha;rw[mQ];by_cases c1:KT a=0
 .rw[c1]at q1;by_cases c2:KT b=0
  .rw[c2]at q2;refine j5 EC λfr hl h0 h1=>?_;simp[EC]at hl h0 h1;simp[EC,hl,h0,h1,q1,q2,q3,c1,c2]
  .refine j5 EC λfr hl h0 h1=>?_;simp[EC]at hl h0 h1;simp[EC,hl,h0,h1,q1,q2,c1,c2]
 .refine j5 EC λfr hl h0 h1=>?_;simp[EC]at hl h0 h1;simp[EC,hl,h0,h1,q1,c1]
theorem A0o(t:Typ):OJ t=(decide (KT t=0)&&(decide (t.kind=1)||decide (t.kind=5))):=by
 have s1:KT (Q9 1)=0:=by decide
 unfold OJ;rw[mQ,decide_eq_true s1,Bool.and_true];by_cases h:KT t=0
 .rw[decide_eq_true h,zf6z,zf6z];obtain⟨⟨a1,a6⟩,a0⟩:=bZ h;unfold yj;have hk:(Q9 1).kind=1:=rfl;rw[hk];by_cases c:t.kind=1
  .have hz:=a0 (by rw[c];decide);have:Hw t (Q9 1)=true:=by
    unfold Hw;rw[hz,c];rfl
   rw[this,c];simp
  .have:Hw t (Q9 1)=false:=by
    unfold Hw;rw[zg5z];left;rw[decide_eq_false_iff_not];exact c
   rw[this,decide_eq_false c];simp
 .rw[decide_eq_false h];simp
theorem qD(t:Typ)(h:V7 t):pc Q Mo [Hn t]=some (.bool (OJ t)):=by
 have h1:=QO t h;rw[A0o];by_cases c1:KT t=0
 .rw[c1]at h1;by_cases c2:t.kind=1
  .refine J0 Ci λfr hl h0=>?_;simp[Ci]at hl h0;simp[Ci,hl,h0,h1,c1,eq_true c2]
  .refine J0 Ci λfr hl h0=>?_;simp[Ci]at hl h0;simp[Ci,hl,h0,h1,c1,c2]
 .refine J0 Ci λfr hl h0=>?_;simp[Ci]at hl h0;simp[Ci,hl,h0,h1,c1]
theorem Iz(t:Typ)(h:V7 t):pc Q KF [Hn t]=some (.bool (OJ t)):=by
 have h1:=qD t h;refine J0 RN λfr hl h0=>?_;simp[RN]at hl h0;simp[RN,hl,h0,h1]
theorem Fd(k:Int):pc Q He [.int .i64 k]=some (Hn (Q9 k)):=by
 refine J0 Nz λfr hl h0=>?_;simp[Nz]at hl h0;simp[Nz,hl,h0,B5,C0];rfl
theorem pQ(m:Gg)(l:List Pyl)(D6:l.length<=1000000)(nm:Al)(c0:AV)(z:b9)(hz:z=(Bc zPy).cells)(fr:Fr)(h:AH)(hh:h.boxes=[[c0,sl m 4 (l.map Bc)],z])(hl:fr.length=28)(h1:B2 fr 1=.str nm)(h2:B2 fr 2=.ptr 0 0)(h4:B2 fr 4=.ptr 1 0)(h6:B2 fr 6=.int .i64 0) :
  D7 (lp (A8 (m6 Q) (B1 KE) Ez) (fr,h)) λe B8 h'=>Kp Ez.wr fr B8/\(e=.exit 0/\h'.boxes=[[c0,sl m 4 (l.map Bc)],z]/\l.find? (λp=>decide (p.tag=nm))=none\/e=.ret/\B2 B8 5=.bool true/\∃p,h'.boxes=[[c0,sl m 4 (l.map Bc)],(Bc p).cells]/\l.find? (λp=>decide (p.tag=nm))=some p):=by
 refine E9 rfl fr (λn fr h'=>∃(i:Nat),i+n=l.length/\B2 fr 6=.int .i64 (i:Nat)/\(h'.boxes=[[c0,sl m 4 (l.map Bc)],z]/\(l.drop i).find? (λp=>decide (p.tag=nm))=l.find? λp=>decide (p.tag=nm))) ?_ l.length h ⟨0,a_,h6,⟨hh,rfl⟩⟩;rintro J Φ hJ hΦ n CT H1 K ⟨i,hi,k6,hr⟩;have C6:=K.1.trans hl;have k1:=D4 K 1 h1;have k2:=D4 K 2 h2;have k4:=D4 K 4 h4;clear K;by_cases C2:i<l.length
 .have L4:=J6 i a_;obtain⟨hb,hr⟩:=hr;obtain⟨bx,F⟩:=H1;simp only at hb;subst hb;clear hh;have hx:=J5 (f:=Bc) (List.getElem?_eq_getElem C2);rw[zg2z C2,List.find?_cons]at hr;generalize l[i]=p at *
  by_cases c:p.tag=nm
  .rw[decide_eq_true c]at hr;subst hz;simp[Ez,C6,k1,k2,k4,k6,C2,L4,hx,c,zPy];exact hΦ _ _ _ (.inr ⟨rfl,d_,p,by simp[c],hr.symm⟩)
  .rw[decide_eq_false c]at hr;simp[Ez,C6,k1,k2,k4,k6,C2,L4,hx,c];exact V6 hJ ⟨i+1,a_,d_,rfl,hr⟩
 .obtain⟨hb,hr⟩:=hr;obtain⟨bx,F⟩:=H1;simp only at hb;subst hb;rw[zg4z a_]at hr;simp[Ez,C6,k1,k2,k4,k6,C2];exact hΦ _ _ _ (.inl ⟨rfl,rfl,hr.symm⟩)
theorem A1B(t:Typ)(nm:Al)(hl:t.ps.length<=1000000):pc Q KE [Hn t,.str nm]=some (TZ (VQ t nm)):=by
 have hz0:AV.agg [.str (bs []),.vs true 0 [],.int .i64 0,.vs true 0 []]=Bc zPy:=rfl;have hz1:[AV.str (bs []),.vs true 0 [],.int .i64 0,.vs true 0 []]=(Bc zPy).cells:=rfl;have Eg:=pQ t.m t.ps hl nm (.int .i64 t.kind) _ rfl;unfold VQ;refine j5 RM λfr hl h0 h1=>?_;simp[RM]at hl h0 h1;simp[RM,hl,h0,h1];refine D7.mono (Eg _ _ ?_ ?_ ?_ ?_ ?_ ?_) ?_<;>first|rfl|(simp[hl,h0,h1];done)|(simp[hl,h0,h1];rfl)|skip
 rintro e B8 ⟨bx,F⟩ ⟨K,⟨rfl,hb,hf⟩|⟨rfl,k5,p,hb,hf⟩⟩
 .simp only at hb;subst hb;have hl':B8.length=28:=K.1.trans c_;have k4:B2 B8 4=.ptr 1 0:=D4 K 4 c_;rw[hf];simp[hl',k4,B5,C0,TZ,zPy];rfl
 .simp only at hb;subst hb;have k4:B2 B8 4=.ptr 1 0:=D4 K 4 c_;rw[hf];simp[k4,k5,TZ]
theorem JS(t:Tm)(nm:Al):pc Q Hb [I8 t,.str nm]=some (.bool (OI t nm)):=by
 have e:OI t nm=(decide (t.kind=3)&&decide (t.name=nm)):=by simp[OI]
 rw[e];by_cases hk:t.kind=3
 .refine j5 Kw λfr hl h0 h1=>?_;simp[Kw]at hl h0 h1;simp[Kw,hl,h0,h1,hk]
 .refine j5 Kw λfr hl h0 h1=>?_;simp[Kw]at hl h0 h1;simp[Kw,hl,h0,h1,hk]
theorem pc_ralg(nm:Al):pc Q Gx [.str nm]=some (.bool (decide (nm=bs [120,111,114]\/nm=bs [122,101,114,111]\/nm=bs [101,120,112]\/nm=bs [109,117,108]\/nm=bs [105,110,118]\/nm=bs [111,110,101]))):=by
 by_cases c1:nm=bs [120,111,114]
 .rw[decide_eq_true (.inl c1)];refine J0 G4 λfr hl h0=>?_;simp[G4]at hl h0;simp[G4,hl,h0,c1]
 by_cases c2:nm=bs [122,101,114,111]
 .rw[decide_eq_true (.inr (.inl c2))];refine J0 G4 λfr hl h0=>?_;simp[G4]at hl h0;simp[G4,hl,h0,c1,eq_true c2]
 by_cases c3:nm=bs [101,120,112]
 .rw[decide_eq_true (.inr (.inr (.inl c3)))];refine J0 G4 λfr hl h0=>?_;simp[G4]at hl h0;simp[G4,hl,h0,c1,c2,eq_true c3]
 by_cases c4:nm=bs [109,117,108]
 .rw[decide_eq_true (.inr (.inr (.inr (.inl c4))))];refine J0 G4 λfr hl h0=>?_;simp[G4]at hl h0;simp[G4,hl,h0,c1,c2,c3,eq_true c4]
 by_cases c5:nm=bs [105,110,118]
 .rw[decide_eq_true (.inr (.inr (.inr (.inr (.inl c5)))))];refine J0 G4 λfr hl h0=>?_;simp[G4]at hl h0;simp[G4,hl,h0,c1,c2,c3,c4,eq_true c5]
 by_cases c6:nm=bs [111,110,101]
 .rw[decide_eq_true (.inr (.inr (.inr (.inr (.inr c6)))))];refine J0 G4 λfr hl h0=>?_;simp[G4]at hl h0;simp[G4,hl,h0,c1,c2,c3,c4,c5,eq_true c6]
 .rw[decide_eq_false (by simp[c1,c2,c3,c4,c5,c6])];refine J0 G4 λfr hl h0=>?_;simp[G4]at hl h0;simp[G4,hl,h0,c1,c2,c3,c4,c5,c6]
theorem qf(l:Be)(i:Nat)(h:i<l.length):Jf (l.take (i+1))=Jf (l.take i)++OR l[i]:=by
 induction l generalizing i with
 |nil=>simp at h
 |cons a l ih =>
  cases i with
  |zero=>simp[Jf]
  |succ i =>
   simp only[zt0z,Jf,List.getElem_cons_succ,List.append_assoc];rw[ih i oE]
theorem bP(l:Be)(i:Nat):(Jf (l.take i)).length<=Tm.sizes l:=by
 rw[Xe]
 induction l generalizing i with
 |nil=>simp[Tm.sizes]
 |cons a l ih =>
  cases i with
  |zero=>simp[Tm.sizes]
  |succ i =>
   have:=ih i;simp only[zt0z,Tm.sizes];omega
theorem wT(m:Gg)(l:Be)(X9:Tm.sizes l<=1048576)(D6:l.length<=1048576)(ih:∀x∈l,∃m,pc Q FL [I8 x]=some (sl m 4 (C4 (OR x))))(t0:Tm)(c0 c1 c2:AV)(fr:Fr)(h:AH)(hB:h.boxes=[[c0,c1,c2,sl m 4 (C4 l)]])(h3:B2 fr 3=sl (true,true) 4 [I8 t0])(hl:fr.length=23)(h1:B2 fr 1=.ptr 0 0)(h4:B2 fr 4=.int .i64 0) :
  D7 (lp (A8 (m6 Q) (B1 FL) JC) (fr,h)) λe B8 h'=>Kp JC.wr fr B8/\e=.exit 0/\IT false 4 (C4 (t0::Jf l)) (B2 B8 3) h':=by
 refine E9 rfl fr (λn fr h'=>∃(i:Nat),i+n=l.length/\B2 fr 4=.int .i64 (i:Nat)/\(h'.boxes=[[c0,c1,c2,sl m 4 (C4 l)]]/\IT false 4 (C4 (t0::Jf (l.take i))) (B2 fr 3) h')) ?_ l.length h ⟨0,a_,h4,⟨hB,by rw[h3];exact .inl ⟨true,rfl⟩⟩⟩;rintro J Φ hJ hΦ n CT H1 K ⟨i,hi,k4,hr⟩;have C6:=K.1.trans hl;have k1:=D4 K 1 h1;clear K;by_cases C2:i<l.length
 .have L4:=J6 i a_;obtain⟨hb,hg⟩:=hr;obtain⟨bx,F⟩:=H1;simp only at hb;subst hb;have hx:=Gk C2;have e1:=qf l i C2;have e2:=bP l i;obtain⟨m',hI⟩:=ih l[i] (zt5z C2);have s1:=Tm.size_le (zt5z C2);have s2:=WY l[i];generalize l[i]=x at *
  obtain⟨v',F',hap,Jj,-⟩:=OX (c:=B1 FL) (bytes:=56) (x:=sl m' 4 (C4 (OR x))) (ys:=C4 (OR x)) hg (W0 _ _ _ _) (by simp only[Z9,zf8z,K7,maxLen];omega);simp only at hap;have htc:=G9 x;have hcx:=I7 x;simp[JC,C6,k1,k4,C2,L4,hx,htc,hI,hap];refine⟨n-1,a_,hJ _ _ _ ⟨i+1,a_,d_,rfl,?_⟩⟩;simp[C6];rw[e1];have e3:C4 (t0::(Jf (l.take i)++OR x))=C4 (t0::Jf (l.take i))++C4 (OR x):=by simp[b5]
  rw[e3];exact Jj
 .obtain⟨hb,hg⟩:=hr;obtain⟨bx,F⟩:=H1;simp only at hb;subst hb;rw[List.take_of_length_le a_]at hg;simp[JC,C6,k1,k4,C2];exact hΦ _ _ _ ⟨rfl,by simp[C6];exact hg⟩
theorem tW:∀(n:Nat) (t:Tm),t.size<=n->t.size<=1048576->∃m,pc Q FL [I8 t]=some (sl m 4 (C4 (OR t)))
 |0,t,h,_=>by have:=t.size_pos;omega
 |n+1,t,h,hb=>by
  have hs:=t.kids_size;have D6:=Tm.length_le t.kids;have htc:=G9 t
  suffices hq:∃r,pc Q FL [I8 t]=some r/\∃m,r=sl m 4 (C4 (OR t)) by
   obtain⟨r,h1,m,rfl⟩:=hq;exact⟨m,h1⟩
  have Eg:=wT t.cm t.kids a_ a_ (λx hx=>tW n x (by have:=Tm.size_le hx;omega) (by have:=Tm.size_le hx;omega)) t (.int .i64 t.kind) (.str t.name) (.int .i64 t.sort);refine peQ1 Sf λΨ hΨ fr hl h0=>?_;simp[Sf]at hl h0;simp[Sf,hl,h0,htc,A9];refine D7.mono (Eg _ _ ?_ ?_ ?_ ?_ ?_) ?_<;>first|(simp[hl,h0];done)|skip
  rintro e B8 ⟨bx,F⟩ ⟨K,rfl,hg⟩;have hl':B8.length=23:=K.1.trans c_;obtain⟨m,hz⟩:=VB hg;obtain⟨d1,d2,d3,-⟩:=L5 hg;simp only at hz;simp[hl',hz,d1,d2,d3];exact hΨ _ ⟨m,by rw[ZE]⟩
theorem sZ(q:ByteArray->Bool):∀(n:Nat) (t:Tm),t.size<=n->vx q t=(OR t).all λx=>decide (x.kind≠3)||q x.name
 |0,t,h=>by have:=t.size_pos;omega
 |n+1,t,h=>by
  have hs:=t.kids_size;rw[ZE,zk,zg8z];congr 1;rw[kA];have:∀l:List Tm,Tm.sizes l<=n->l.all (vx q)=(Jf l).all λx=>decide (x.kind≠3)||q x.name:=λl=>by
   induction l with
   |nil=>intro _;rfl
   |cons a l ih =>
    intro hl;simp only[Tm.sizes]at hl;rw[zg8z,Jf,List.all_append,sZ q n a a_,ih a_]
  exact this _ a_
theorem pS(m:Gg)(l:Be)(D6:l.length<=1048576)(fr:Fr)(h:AH)(hl:fr.length=39)(h3:B2 fr 3=sl m 4 (C4 l))(h4:B2 fr 4=.int .i64 0) :
  D7 (lp (A8 (m6 Q) (B1 KA) Bv) (fr,h)) λe B8 h'=>Kp Bv.wr fr B8/\(e=.exit 0/\(l.all λx=>decide (x.kind≠3)||Fs x.name)=true\/e=.ret/\B2 B8 2=.bool false/\(l.all λx=>decide (x.kind≠3)||Fs x.name)=false):=by
 refine E9 rfl fr (λn fr h'=>∃(i:Nat),i+n=l.length/\B2 fr 4=.int .i64 (i:Nat)/\((l.drop i).all (λx=>decide (x.kind≠3)||Fs x.name)=l.all λx=>decide (x.kind≠3)||Fs x.name)) ?_ l.length h ⟨0,a_,h4,rfl⟩;rintro J Φ hJ hΦ n CT H1 K ⟨i,hi,k4,hr⟩;have C6:=K.1.trans hl;have k3:=D4 K 3 h3;clear K;by_cases C2:i<l.length
 .have L4:=J6 i a_;have hx:=Gk C2;rw[zg2z C2,zg8z]at hr;generalize l[i]=x at *
  have hA:=pc_ralg x.name;have hK:=tP x.name;have hcx:=I7 x;by_cases c:x.kind=3
  .have e:(decide (x.kind≠3)||Fs x.name)=(!decide (x.name=bs [120,111,114]\/x.name=bs [122,101,114,111]\/x.name=bs [101,120,112]\/x.name=bs [109,117,108]\/x.name=bs [105,110,118]\/x.name=bs [111,110,101])&&!decide (Gw x.name=3)):=by
    rw[c];simp only[ne_eq,not_true_eq_false,decide_false,zg7z,Fs];rw[zg3z];simp only[decide_eq_true_eq,zf5z,Bool.not_eq_true',decide_eq_false_iff_not,not_or,ne_eq];constructor<;>(rintro h;simp_all)
   rw[e]at hr;generalize decide (x.name=bs [120,111,114]\/x.name=bs [122,101,114,111]\/x.name=bs [101,120,112]\/x.name=bs [109,117,108]\/x.name=bs [105,110,118]\/x.name=bs [111,110,101])=A at hA hr;cases A with
   |true =>
    simp[Bv,C6,k3,k4,C2,L4,hx,c,hA];exact hΦ _ _ _ (.inr ⟨rfl,d_,f_⟩)
   |false =>
    by_cases c3:Gw x.name=3
    .rw[c3]at hK hr;simp[Bv,C6,k3,k4,C2,L4,hx,c,hA,hK];exact hΦ _ _ _ (.inr ⟨rfl,d_,f_⟩)
    .rw[decide_eq_false c3]at hr;simp[Bv,C6,k3,k4,C2,L4,hx,c,hA,hK,c3];exact V6 hJ ⟨i+1,a_,d_,h_⟩
  .have e:(decide (x.kind≠3)||Fs x.name)=true:=by simp[c]
   rw[e,zf6z]at hr;simp[Bv,C6,k3,k4,C2,L4,hx,c];exact V6 hJ ⟨i+1,a_,d_,hr⟩
 .rw[zg4z a_]at hr;simp[Bv,C6,k3,k4,C2];exact hΦ _ _ _ (.inl ⟨rfl,hr.symm⟩)
theorem lX(t:Tm)(hb:t.size<=1048576):pc Q KA [I8 t]=some (.bool (Im t)):=by
 have hV:=Oz t a_;obtain⟨m,hA⟩:=tW _ t (zf0z _) hb;have htc:=G9 t;have Eg:=pS m (OR t) (by rw[WY];omega);unfold Im;rw[sZ Fs _ t (zf0z _)];by_cases c:vE t=0
 .rw[c]at hV;rw[decide_eq_true c,zf6z];refine J0 IJ λfr hl h0=>?_;simp[IJ]at hl h0;simp[IJ,hl,h0,hV,hA,htc];refine D7.mono (Eg _ _ ?_ ?_ ?_) ?_<;>first|(simp[hl,h0];done)|skip
  rintro e B8 h' ⟨K,⟨rfl,he⟩|⟨rfl,h4,he⟩⟩
  .have hl':B8.length=39:=K.1.trans c_;simp only[ne_eq,decide_not]at he;rw[he];simp[hl']
  .simp only[ne_eq,decide_not]at he;rw[he];simp[h4]
 .refine J0 IJ λfr hl h0=>?_;simp[IJ]at hl h0;simp[IJ,hl,h0,hV,c,htc]
end Go.Abs.Q
