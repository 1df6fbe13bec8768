/- A part of the proof. -/
import Derived.Test.YtnnjamknplefbaaGreatDoorTS34
set_option linter.all false
open Nat renaming le_refl->zf0z,sub_self->zt5z
open List renaming getElem?_append_right->zf1z,mem_cons_of_mem->zf2z,length_append->zf4z,mem_cons_self->zf5z,replicate->zf6z,countP_cons->zf8z,mem_append->zf9z,map_cons->zg0z,getElem?_append_left->zg1z,length_cons->zg2z,getElem?_set_ne->zg3z,any_cons->zg4z,mem_cons->zg5z,mem_singleton->zg6z,getElem?_map->zg7z,any_eq_true->zg8z,any_append->zt1z,length_map->zt2z,length_nil->zt3z,map_nil->zt4z
open ByteArray renaming size_append->zf3z
open Bool renaming and_eq_true->zf7z,eq_iff_iff->zt0z
open Prod renaming fst->zg9z
set_option linter.all false
namespace Go.Abs.Q
open Go.Proofs
theorem WW{a:AD}(h:DN a=true):a.size<=24:=by
 unfold DN at h;split at h
 .cases h
 .simp only[zf7z,decide_eq_true_eq]at h;exact h.1.1
theorem mg(s:Int):(Y8 s).length<=5:=by
 unfold Y8;have:∀i:Nat,(HE.getD i []).length<=5:=λi=>by
  match i with
  |0|1|2|3|4|5=>decide
  |i+6=>simp[HE]
 exact this _
theorem WZ:∀(l:CI) (b:Bool),(∀t∈l,(Km t).length+2<=40*t.size)->(Av b l).length<=40*Tm.sizes l
 | [],_,_=>by simp[Av]
 |t::l,b,h=>by
  have h1:=h t zf5z;have h2:=WZ l false λx hx=>h x (zf2z _ hx);rw[Av,Tm.sizes,zf4z,zf4z];have:(if b=true then ([]:List UInt8)else [44,32]).length<=2:=by split<;>simp
  omega
theorem TX:∀(n:Nat) (t:Tm),t.size<=n->U9 t=0->(Km t).length+2<=40*t.size
 |0,t,h,_=>by have:=t.size_pos;omega
 |n+1,t,h,hA=>by
  have hk:=t.kids_size;obtain⟨k,nm,s,m,l⟩:=t;obtain⟨h1,h2,h3⟩:=Kd hA;have hn:=WW h1;simp only[Tm.kids]at hk;have hl:=WZ l true λx hx=>TX n x (by have:=Tm.size_le hx;omega) (JK h2 x hx);have hw:=mg s;have hs:nm.data.toList.length=nm.size:=by simp
  unfold Km;split
  .split<;>simp only[zf4z,zg2z,zt3z]<;>omega
  .split<;>simp only[zf4z,zg2z,zt3z]<;>omega
theorem WY:∀(l:CI),(∀x∈l,Ta x=true)->Tb l=true
 | [],_=>rfl
 |t::l,h=>by rw[Tb,h t zf5z,WY l λx hx=>h x (zf2z _ hx)];rfl
theorem jT:∀(n:Nat) (t:Tm),t.size<=n->U9 t=0->Ta t=true
 |0,t,h,_=>by have:=t.size_pos;omega
 |n+1,t,h,hA=>by
  have hk:=t.kids_size;obtain⟨k,nm,s,m,l⟩:=t;obtain⟨h1,h2,h3⟩:=Kd hA;simp only[Tm.kids]at hk;have hl:=WY l λx hx=>jT n x (by have:=Tm.size_le hx;omega) (JK h2 x hx);unfold Ta;rcases h3 with ⟨q1,q2,q3,_⟩|⟨q1,_⟩
  .rw[if_pos q1];simp[q2,q3]
  .rw[if_neg (by omega)];exact hl
mutual
theorem cJ:∀t:Tm,∃t',cA (U6 t)=some t'/\T3 t'=T3 t
 | .mk k nm s m l=>by
  obtain⟨l',h1,h2⟩:=TV l;refine⟨.mk k nm s (m.1,decide ((if ((G8 l).isEmpty&&!m.2)=true then 0 else 4)=4)) l',?_,by rw[T3,T3,h2]⟩
  unfold U6 sl;rw[cA,h1];by_cases hz:((G8 l).isEmpty&&!m.2)=true
  .rw[if_pos hz];rw[if_pos (.inr ⟨rfl,(zf7z _ _ ▸ hz).1⟩)]
  .rw[if_neg hz];rw[if_pos (.inl rfl)]
theorem TV:∀l:List Tm,∃l',TU (G8 l)=some l'/\Fe l'=Fe l
 | []=>⟨[],rfl,rfl⟩
 |t::l=>by
  obtain⟨t',a1,a2⟩:=cJ t;obtain⟨l',h1,h2⟩:=TV l;exact⟨t'::l',by rw[G8,TU,a1,h1],by rw[Fe,Fe,a2,h2]⟩
end
mutual
theorem Yf:∀t:Tm,Km (T3 t)=Km t
 | .mk k nm s m l=>by rw[T3,Km,Km,cK true l]
theorem cK:∀(b:Bool) (l:CI),Av b (Fe l)=Av b l
 |_,[]=>rfl
 |b,t::l=>by rw[Fe,Av,Av,Yf t,cK false l]
end
mutual
theorem Ol:∀t:Tm,U9 (T3 t)=U9 t
 | .mk k nm s m l=>by
  have hl:(Fe l).length=l.length:=by simp[Nw]
  rw[T3,U9,U9,hl,cE l]
theorem cE:∀l:List Tm,j5 (Fe l)=j5 l
 | []=>rfl
 |t::l=>by rw[Fe,j5,j5,Ol t,cE l]
end
mutual
theorem Ya:∀t:Tm,Hj (T3 t)=Hj t
 | .mk k nm s m l=>by rw[T3,Hj,Hj,bz l]
theorem bz:∀l:List Tm,Gr (Fe l)=Gr l
 | []=>rfl
 |t::l=>by rw[Fe,Gr,Gr,Ya t,bz l]
end
theorem yq{t t':Tm}(h:T3 t=T3 t'):EL t=EL t':=by
 have h1:U9 t=U9 t':=by rw[←Ol t,h,Ol t']
 have h2:Hj t=Hj t':=by rw[←Ya t,h,Ya t']
 have h3:t.size=t'.size:=(Hm _ t (zf0z _)).symm.trans ((congrArg Tm.size h).trans (Hm _ t' (zf0z _)));unfold EL;rw[h1,h2,h3]
theorem eZ{t:Tm}(h:LA t):pc Qf X4 [U6 t]=some (.tup [.str (HD t),.int .i64 0]):=by
 obtain⟨t',h1,h2⟩:=cJ t;have hs:Qf.spec X4=some ML:=by
  show TO X4=some ML;unfold TO;rw[if_pos rfl]
 have hv:=(Kl h.1).1;have hn:U9 t'=0:=by rw[←Ol t',h2,Ol t];exact(FV hv).1
 have hz:t'.size=t.size:=(Hm _ t' (zf0z _)).symm.trans ((congrArg Tm.size h2).trans (Hm _ t (zf0z _)));have hb:wO t'=true:=by
  have hl:=TX _ t' (zf0z _) hn;have:=h.2;unfold wO;rw[yq h2,hv,jT _ t' (zf0z _) hn];simp only[zf7z,decide_eq_true_eq];exact⟨⟨⟨trivial,trivial⟩,by omega⟩,by omega⟩
 have hw:Km t'=Km t:=by rw[←Yf t',h2,Yf t]
 apply QW;unfold Ck;rw[hs];simp only[ML,h1,hb,hw,HD,if_true]
theorem cL{t t':Tm}(h:LA t)(h':LA t')(e:HD t=HD t'):T3 t=T3 t':=by
 refine zA (FV (Kl h.1).1).1 (FV (Kl h'.1).1).1 ?_;have:=congrArg (λb:ByteArray=>b.data.toList) e;simpa[HD]using this
theorem Ri{a b c:AD}(h:a++b=a++c):b=c:=by
 have h1:=congrArg (λx:ByteArray=>x.data.toList) h;simp only[ByteArray.data_append,Array.toList_append]at h1;have h2:=List.append_cancel_left h1;cases b;cases c;simp only[ByteArray.mk.injEq];exact Array.toList_inj.1 h2
theorem FZ.same{D D':PD}(h1:D'.l=D.l)(h2:D'.tys=D.tys)(h3:D'.efs=D.efs){t:Tm}{k:Int}(h:FZ D t k):FZ D' t k:=by
 unfold FZ at *
 rw[h1,h2,h3];exact h
theorem Uy{α:Type}{p q:α->Bool}:∀{l:List α} {x:α},x∈l->q x=true->p x=false->(∀y∈l,p y=true->q y=true)->l.countP p+1<=l.countP q
 |a::l,x,hx,h1,h2,h=>by
  rcases zg5z.1 hx with rfl|hx
  .rw[zf8z,zf8z,if_neg (by simp[h2]),if_pos h1];have:l.countP p<=l.countP q:=List.countP_mono_left λy hy hp=>h y (zf2z _ hy) hp;omega
  .have ih:=Uy hx h1 h2 λy hy hp=>h y (zf2z _ hy) hp;rw[zf8z,zf8z];by_cases hp:p a=true
   .rw[if_pos hp,if_pos (h a zf5z hp)];omega
   .rw[if_neg hp];split<;>omega
theorem TInv.note{A:PA}{pre:AD}{U:CI}{D:PD}(I:TInv A pre D){t:Tm}(ht:LA t)(hU:t∈U){k:Int}(hr:FZ D t k)(hn:MM pre D t=false) :
  TInv A pre {D with kn:=D.kn++[(pre++HD t,k)]}/\Gro pre t.size D {D with kn:=D.kn++[(pre++HD t,k)]}/\n7 U pre {D with kn:=D.kn++[(pre++HD t,k)]}+20<=n7 U pre D:=by
 refine⟨⟨I.ok,I.pk,I.ti,I.ei,λx hx s hs e=>?_,I.rt⟩,⟨rfl,rfl,rfl,rfl,⟨[],by simp⟩,λx hx=>?_⟩,?_⟩
 .rcases zf9z.1 hx with hx|hx
  .exact FZ.same rfl rfl rfl (I.kn x hx s hs e)
  .rw[zg6z.1 hx]at e ⊢;have:=cL ht hs (Ri e);exact FZ.same rfl rfl rfl (hr.er this)
 .rcases zf9z.1 hx with hx|hx
  .exact .inl ⟨x,hx,rfl⟩
  .rw[zg6z.1 hx];exact .inr ⟨t,ht,zf0z _,rfl⟩
 .unfold n7;have:=Uy (p:=λs=>!MM pre {D with kn:=D.kn++[(pre++HD t,k)]} s) (q:=λs=>!MM pre D s) hU (by simp[hn]) (by simp only[MM,zt1z,zg4z];simp[(Hl _ _).2 rfl]) (λy _ hy=>by
   simp only[MM,zt1z,Bool.not_or,zf7z]at hy ⊢;exact hy.1)
  simp only at this ⊢;omega
end Go.Abs.Q
namespace Go.Abs.Q
open Go.Proofs
attribute [local simp] J0 J5 fin M6 M0 Y2 b8
def CmpC(A:PA)(pre:ByteArray)(U:List Tm)(n:Nat):Prop:=∀(t:Tm) (D:PD) (h:AH),t∈U->t.size<=n+1->LA t->PrH A D h->TInv A pre D->n7 U pre D+200*(n+1)<=1000000->t.kind=3->ty D.tys D.efs t=Fd D.efs (ty D.tys D.efs) t ->
 ∃v h',rc Qf N9 [.ptr A.p 0,U6 t] h=some (v,h')/\Nl A pre U (t.size-1) 19 t D h v h'
theorem KK{a b:AD}(h:a.size+b.size<=4611686018427387904):P0 .add (.str a) (.str b)=some (.str (a++b)):=by
 simp only[P0];rw[if_neg];have:IntKind.i64.max=9223372036854775807:=rfl;rw[this];omega
theorem TS(a b:AD):Zs true (.str a) (.str b)=some (SC a b):=by
 have:(a == b)=SC a b:=by
  rw[zt0z,Hl];obtain⟨a⟩:=a;obtain⟨b⟩:=b;show (a == b)=true↔_;rw[beq_iff_eq,ByteArray.mk.injEq]
 simp[Zs,this]
theorem WT(a:AD):∀(l:List ByteArray) (i:Nat),l.any (SC a)=true->∃j,IW true (.str a) (l.map AV.str) i=some (some (i+j))/\l[j]?=some a
 | [],i,h=>by cases h
 |b::l,i,h=>by
  simp only[zg0z,IW,TS];cases hb:SC a b with
  |true=>exact⟨0,rfl,by rw[(Hl _ _).1 hb];rfl⟩
  |false =>
   rw[zg4z,hb,Bool.false_or]at h;obtain⟨j,h1,h2⟩:=WT a l (i+1) h;exact⟨j+1,by simp only[h1];congr 2;omega,h2⟩
theorem Pu(a:AD):∀(l:List ByteArray) (i:Nat),l.any (SC a)=false->IW true (.str a) (l.map AV.str) i=some none
 | [],i,_=>rfl
 |b::l,i,h=>by
  rw[zg4z,Bool.or_eq_false_iff]at h;simp only[zg0z,IW,TS,h.1];exact Pu a l (i+1) h.2
theorem wJ(a b:AD):SC a b=SC b a:=by
 rw[zt0z,Hl,Hl];exact eq_comm
set_option maxHeartbeats 4000000 in
theorem tL(A:PA)(pre:AD)(U:CI)(n:Nat)(hP:∀t,LA t->pc Qf i6 [U6 t]=some (.bool (Qj t)))
  (CC:CmpC A pre U n):Rf A pre U (n+1):=by
 intro t D h hUt hn T9 H I hb;obtain⟨d1,d2,d3,rfl,z1,z2,z3,hI1,hI2,hI3⟩:=I.pk;obtain⟨bx,F⟩:=h;have lp0:=J4 H.bp;have lm0:=J4 H.bm;simp only at lp0 lm0;have hbl:D.l.length<=n7 U (LV d1 d2 d3) D:=by unfold n7;omega
 have hPt:=hP t T9;have hF:=eZ T9;have hs1:=IZ (FU 1);obtain⟨v1,⟨bx1,F1⟩,hc1,k1,D1,rfl,H1,K1,R1⟩:=sO A D ⟨bx++[[.int .i64 t.kind,.str t.name,.int .i64 t.sort,sl t.cm 4 (G8 t.kids)]],F⟩ (H.more _) t (by have:=T9.2;omega) (λx hx=>by have:=(I.ok.ty x hx).2.1;omega) (by have:=I.ok.tl;omega) (by omega);obtain⟨I1,G1,b1,r1⟩:=I.ent (U:=U) R1 T9.1;have q0:bx1[bx.length]?=some [.int .i64 t.kind,.str t.name,.int .i64 t.sort,sl t.cm 4 (G8 t.kids)]:=(Frm.box H K1 (zf0z _) (by simp)).trans (by simp);have fin1:Frm A D.lv ⟨bx,F⟩ D1.lv ⟨bx1,F1⟩:=(Frm.more _ _ _ _ _).trans K1;rcases r1 with ⟨rfl,hent,rfl⟩|⟨hk0,r1⟩
 .have hpu:Qj t=true->ty D1.tys D1.efs t=some (w6 1):=λhp=>by rw[cO,Yg,hent];simp only;rw[if_pos hp]
  cases hp:Qj t with
  |true =>
   rw[hp]at hPt;obtain⟨v3,⟨bx3,F3⟩,hj,k3,D3,rfl,H3,K3,I3,G3,b3,r3⟩:=GR A _ U D1 ⟨bx1,F1⟩ H1 I1 2 t (w6 1) (.vs true 0 []) [] (.inl ⟨false,rfl⟩) (Bg.vs _ _ _ _) (by omega) (λm=>.pub t m hp T9.1) (hpu hp);refine Dc j3 (by simp[I4]) λfr hl ha=>?_;have h0:=ha 0;have h1:=ha 1;clear ha;simp[I4]at hl h0 h1;simp[I4,hl,h0,h1,hc1,q0,hPt,hs1,hj];exact⟨k3,D3,rfl,H3,fin1.trans K3,I3,(G1.trans G3).mono (by omega),by omega,r3⟩
  |false =>
   rw[hp]at hPt;by_cases hk:t.kind=3
   .have hc:ty D1.tys D1.efs t=Fd D1.efs (ty D1.tys D1.efs) t:=by
     rw[cO,Yg,hent];simp only;rw[if_neg (by rw[hp];simp),if_pos hk]
    have DB:decide (t.kind=3)=true:=decide_eq_true hk;have hP1:=H1.bp;simp only[J8]at hP1;have lent:=Ls H1.lt;have lene:=Ls H1.le;rw[zt2z]at lent;rw[zt2z]at lene;have zt:(HD t).size<=10000:=by
     have:=TX _ t (zf0z _) (FV (Kl T9.1).1).1;have:=T9.2;show (Km t).toArray.size<=10000;simp;omega
    have y1:(bs [32]).size=1:=rfl;have A1:=KK (a:=d1) (b:=bs [32]) (by omega);have A2:=KK (a:=d1++bs [32]) (b:=d2) (by simp only[zf3z];omega);have A3:=KK (a:=d1++bs [32]++d2) (b:=bs [32]) (by simp only[zf3z];omega);have A4:=KK (a:=d1++bs [32]++d2++bs [32]) (b:=d3) (by simp only[zf3z];omega);have A5:=KK (a:=d1++bs [32]++d2++bs [32]++d3) (b:=bs [32]) (by simp only[zf3z];omega);have A6:=KK (a:=d1++bs [32]++d2++bs [32]++d3++bs [32]) (b:=HD t) (by simp only[zf3z];omega);have hbm:=H1.bm;simp only at hbm;have hks:∀D:PD,(D.kn.map λx=>AV.str x.1)=(D.kn.map zg9z).map AV.str:=λD=>by rw[List.map_map];rfl
    have hkn:∀D:PD,MM (LV d1 d2 d3) D t=(D.kn.map zg9z).any (SC (LV d1 d2 d3++HD t)):=λD=>by
     unfold MM;rw[List.any_map];congr 1;funext x;exact wJ _ _
    cases hkd:MM (LV d1 d2 d3) D1 t with
    |true =>
     have hkd':=hkd;rw[hkn]at hkd';obtain⟨j,f1,f2⟩:=WT _ _ 0 hkd';rw[Nat.zero_add]at f1;rw[zg7z,Option.map_eq_some_iff]at f2;obtain⟨⟨s,k⟩,f3,f4⟩:=f2;simp only at f4;have hr:=I1.kn (s,k) (List.mem_of_getElem? f3) t T9 f4;have hv:(D1.kn.map λx=>AV.int .i64 x.2)[j]?=some (.int .i64 k):=by rw[zg7z,f3];rfl
     have hM:Ff true true (.int .i64 0) ⟨bx1,F1⟩ (.mp A.bm) (.str (d1++bs [32]++d2++bs [32]++d3++bs [32]++HD t))=some (.tup [.int .i64 k,.bool true],⟨bx1,F1⟩):=by
      have f1':IW true (.str (d1++bs [32]++d2++bs [32]++d3++bs [32]++HD t)) ((D1.kn.map zg9z).map AV.str) 0=some (some j):=f1;simp only[Ff,OE,BQ,hbm,hks,f1',hv];rfl
     refine Dc j3 (by simp[I4]) λfr hl ha=>?_;have h0:=ha 0;have h1:=ha 1;clear ha;simp[I4]at hl h0 h1;simp[I4,hl,h0,h1,hc1,q0,hPt,DB,hF,hP1,hI1,hI2,hI3,A1,A2,A3,A4,A5,A6,lent,lene,hM];exact⟨k,D1,rfl,H1,fin1,I1,G1.mono (by omega),by omega,hr⟩
    |false =>
     have hkd':=hkd;rw[hkn]at hkd';have f1:=Pu _ _ 0 hkd';have hM:Ff true true (.int .i64 0) ⟨bx1,F1⟩ (.mp A.bm) (.str (d1++bs [32]++d2++bs [32]++d3++bs [32]++HD t))=some (.tup [.int .i64 0,.bool false],⟨bx1,F1⟩):=by
      have f1':IW true (.str (d1++bs [32]++d2++bs [32]++d3++bs [32]++HD t)) ((D1.kn.map zg9z).map AV.str) 0=some none:=f1;simp only[Ff,OE,BQ,hbm,hks,f1'];rfl
     obtain⟨v2,⟨bx2,F2⟩,hc2,k2,D2,rfl,H2,K2,I2,G2,b2,r2⟩:=CC t D1 ⟨bx1,F1⟩ hUt hn T9 H1 I1 (by omega) hk hc;have fin2:Frm A D1.lv ⟨bx,F⟩ D2.lv ⟨bx2,F2⟩:=fin1.trans K2;have hn2:MM (LV d1 d2 d3) D2 t=false:=by
      apply Classical.byContradiction;intro hc';rw[Bool.not_eq_false]at hc';unfold MM at hc';rw[zg8z]at hc';obtain⟨x,hx,e⟩:=hc';rw[Hl]at e;rcases G2.kn x hx with ⟨y,hy,e'⟩|⟨s,y1,y2,y3⟩
      .have:MM (LV d1 d2 d3) D1 t=true:=by
        unfold MM;rw[zg8z];exact⟨y,hy,by rw[e',Hl];exact e⟩
       rw[hkd]at this;cases this
      .have e2:=cL y1 T9 (Ri (y3.symm.trans e));have hz:s.size=t.size:=(Hm _ s (zf0z _)).symm.trans ((congrArg Tm.size e2).trans (Hm _ t (zf0z _)));have:=t.size_pos;omega
     obtain⟨I3,G3,b3⟩:=I2.note T9 hUt r2 hn2;have hbm2:=H2.bm;have hlp2:=J4 H2.bp;have hlm2:=J4 hbm2;simp only at hbm2 hlp2 hlm2;have hkd2:=hn2;rw[hkn]at hkd2;have f2:=Pu _ _ 0 hkd2;have hUp:UQ true ⟨bx2,F2⟩ (.mp A.bm) (.str (d1++bs [32]++d2++bs [32]++d3++bs [32]++HD t)) (.int .i64 k2)=some (B4,⟨bx2.set A.bm [.mbox (((D2.kn++[(LV d1 d2 d3++HD t,k2)]).map λx=>AV.str x.1)) (((D2.kn++[(LV d1 d2 d3++HD t,k2)]).map λx=>AV.int .i64 x.2))],F2⟩):=by
      have f2':IW true (.str (d1++bs [32]++d2++bs [32]++d3++bs [32]++HD t)) (D2.kn.map λx=>AV.str x.1) 0=some none:=by rw[hks];exact f2
      have hz:frz ⟨bx2,F2⟩ false (.int .i64 k2)=some (.int .i64 k2):=rfl;simp only[UQ,lN,hbm2,hz,OE,f2'];simp[LV,AV.isTup]
     have hP2:=H2.bp;simp only[J8]at hP2;have q2:bx2[bx.length]?=some [.int .i64 t.kind,.str t.name,.int .i64 t.sort,sl t.cm 4 (G8 t.kids)]:=(K2.bx _ (by omega) (by omega) (J4 q0)).trans q0;refine Dc j3 (by simp[I4]) λfr hl ha=>?_;have h0:=ha 0;have h1:=ha 1;clear ha;simp[I4]at hl h0 h1;simp[I4,hl,h0,h1,hc1,q0,hPt,DB,hF,hP1,hI1,hI2,hI3,A1,A2,A3,A4,A5,A6,lent,lene,hM,hc2,hP2,hUp];refine⟨k2,{D2 with kn:=D2.kn++[(LV d1 d2 d3++HD t,k2)]},rfl,⟨(zg3z H2.ne.symm).trans H2.bp,?_,H2.ne,H2.f1,H2.f2,H2.nk,H2.tl,H2.el,DD H2.lt rfl,DD H2.le rfl,DD H2.ll rfl,H2.at',H2.ae⟩,fin2.trans ⟨by simp,λj _ hj _=>zg3z (Ne.symm hj),λs ws w hw ha=>⟨DD hw rfl,ha⟩⟩,I3,((G1.trans G2).trans G3).mono (by omega),by omega,FZ.same rfl rfl rfl r2⟩
     have e:=List.getElem?_set_self (l:=bx2) (i:=A.bm) (a:=[.mbox (((D2.kn++[(LV d1 d2 d3++HD t,k2)]).map λx=>AV.str x.1)) (((D2.kn++[(LV d1 d2 d3++HD t,k2)]).map λx=>AV.int .i64 x.2))]) hlm2;simpa using e
   .have Lz:ty D1.tys D1.efs t=none:=by
     rw[cO,Yg,hent];simp only;rw[if_neg (by rw[hp];simp),if_neg hk]
    refine Dc j3 (by simp[I4]) λfr hl ha=>?_;have h0:=ha 0;have h1:=ha 1;clear ha;simp[I4]at hl h0 h1;simp[I4,hl,h0,h1,hc1,q0,hPt,hk];exact⟨-1,D1,rfl,H1,fin1,I1,G1.mono (by omega),by omega,.inl ⟨rfl,Lz⟩⟩
 .refine Dc j3 (by simp[I4]) λfr hl ha=>?_;have h0:=ha 0;have h1:=ha 1;clear ha;simp[I4]at hl h0 h1;simp[I4,hl,h0,h1,hc1,hk0];exact⟨k1,D1,rfl,H1,fin1,I1,G1.mono (by omega),by omega,r1⟩
theorem jV(A:PA)(pre:AD)(U:CI)(hU:ms U)(hP:∀t,LA t->pc Qf i6 [U6 t]=some (.bool (Qj t))):∀n,Rf A pre U n
 |0=>λt D h _ hn _ _ _ _=>by have:=t.size_pos;omega
 |n+1=>tL A pre U n hP λt D h h1 h2 h3 h4 h5 h6 h7 h8=>bX A pre U hU n (jV A pre U hU hP n) t D h h1 h2 h3 h4 h5 h6 h7 h8
mutual
def Qt:Tm->List Tm
 | .mk k nm s m l=>.mk k nm s m l::Oi l
def Oi:List Tm->List Tm
 | []=>[]
 |t::l=>Qt t++Oi l
end
theorem jM(t:Tm):Qt t=t::Oi t.kids:=by cases t;rw[Qt];rfl
mutual
theorem br:∀t:Tm,(Qt t).length=t.size
 | .mk k nm s m l=>by
  have:=WQ l;rw[Qt,zg2z,this];simp only[Tm.size];omega
theorem WQ:∀l:List Tm,(Oi l).length=Tm.sizes l
 | []=>rfl
 |t::l=>by rw[Oi,zf4z,br t,WQ l,Tm.sizes]
end
theorem WR{x:Tm}:∀{l:CI},x∈l->x∈Oi l
 |t::l,h=>by
  rw[Oi,zf9z];rcases zg5z.1 h with rfl|h
  .exact .inl (by rw[jM];exact zf5z)
  .exact .inr (WR h)
mutual
theorem jL:∀t:Tm,ms (Qt t)
 | .mk k nm s m l=>λy hy x hx=>by
  rw[Qt]at hy ⊢;rcases zg5z.1 hy with rfl|hy
  .exact zf2z _ (WR hx)
  .exact zf2z _ (bu l y hy x hx)
theorem bu:∀l:List Tm,ms (Oi l)
 | []=>λy hy=>by cases hy
 |t::l=>λy hy x hx=>by
  rw[Oi,zf9z]at hy ⊢;rcases hy with hy|hy
  .exact .inl (jL t y hy x hx)
  .exact .inr (bu l y hy x hx)
end
theorem mW(t:Tm):t∈Qt t:=by rw[jM];exact zf5z
def ClP(sz:Nat)(xs:List AV)(B:List (List AV))(F:List Fam)(v:AV)(h':AH):Prop :=
 ∃F',h'=⟨B,F'⟩/\(∀BB,He false sz xs v ⟨BB,F'⟩)/\∀(wr:Bool) (s:Nat) (ws:List AV) (w:AV),He wr s ws w ⟨B,F⟩->(∀BB,He wr s ws w ⟨BB,F'⟩)/\Bg v w
theorem Ug(m:HH)(xs:List Tyd)(hx:xs.length<=100000)(B:List (List AV))(F:List Fam) :
  ∃v h',rc Qf S9 [sl m 6 (xs.map p9)] ⟨B,F⟩=some (v,h')/\ClP 6 (xs.map p9) B F v h':=by
 obtain⟨v',F',hap,hl',hfr⟩:=Lt (c:=C2 S9) (sz:=6) (bytes:=88) (xs:=[]) (v:=sl (true,true) 6 []) (x:=sl m 6 (xs.map p9)) (ys:=xs.map p9) (h:=⟨B,F⟩) (.inl ⟨true,rfl⟩) (EH _ _ _ _) (by simp[P7,maxLen];omega);have fin:ClP 6 (xs.map p9) B F v' ⟨B,F'⟩:=⟨F',rfl,hl',λwr s ws w hw=>hfr wr s ws w hw (CQ w _ _ _).symm⟩;clear hl' hfr;simp only at hap;cases xs with
 |nil =>
  obtain⟨m1,m2⟩:=m;cases m2 with
  |false =>
   refine Dc Cu (by simp[O5]) λfr hl ha=>?_;have h0:=ha 0;clear ha;simp[O5]at hl h0;simp[O5,hl,h0,Pg];exact⟨F,rfl,λBB=>.inl ⟨false,rfl⟩,λwr s ws w hw=>⟨λBB=>DD hw rfl,Bg.vs' _ _ _ _⟩⟩
  |true =>
   refine Dc Cu (by simp[O5]) λfr hl ha=>?_;have h0:=ha 0;clear ha;simp[O5]at hl h0;simp only[zt4z]at hap fin;simp[O5,hl,h0,Pg,B2,hap];exact fin
 |cons x xs =>
  refine Dc Cu (by simp[O5]) λfr hl ha=>?_;have h0:=ha 0;clear ha;simp[O5]at hl h0;simp only[zg0z]at hap fin;simp[O5,hl,h0,Pg,B2,hap];exact fin
theorem YM(m:HH)(xs:List Fa)(hx:xs.length<=100000)(B:List (List AV))(F:List Fam) :
  ∃v h',rc Qf U5 [sl m 3 (xs.map Cl)] ⟨B,F⟩=some (v,h')/\ClP 3 (xs.map Cl) B F v h':=by
 obtain⟨v',F',hap,hl',hfr⟩:=Lt (c:=C2 U5) (sz:=3) (bytes:=40) (xs:=[]) (v:=sl (true,true) 3 []) (x:=sl m 3 (xs.map Cl)) (ys:=xs.map Cl) (h:=⟨B,F⟩) (.inl ⟨true,rfl⟩) (EH _ _ _ _) (by simp[P7,maxLen];omega);have fin:ClP 3 (xs.map Cl) B F v' ⟨B,F'⟩:=⟨F',rfl,hl',λwr s ws w hw=>hfr wr s ws w hw (CQ w _ _ _).symm⟩;clear hl' hfr;simp only at hap;cases xs with
 |nil =>
  obtain⟨m1,m2⟩:=m;cases m2 with
  |false =>
   refine Dc Dd (by simp[Q3]) λfr hl ha=>?_;have h0:=ha 0;clear ha;simp[Q3]at hl h0;simp[Q3,hl,h0,Pg];exact⟨F,rfl,λBB=>.inl ⟨false,rfl⟩,λwr s ws w hw=>⟨λBB=>DD hw rfl,Bg.vs' _ _ _ _⟩⟩
  |true =>
   refine Dc Dd (by simp[Q3]) λfr hl ha=>?_;have h0:=ha 0;clear ha;simp[Q3]at hl h0;simp only[zt4z]at hap fin;simp[Q3,hl,h0,Pg,B2,hap];exact fin
 |cons x xs =>
  refine Dc Dd (by simp[Q3]) λfr hl ha=>?_;have h0:=ha 0;clear ha;simp[Q3]at hl h0;simp only[zg0z]at hap fin;simp[Q3,hl,h0,Pg,B2,hap];exact fin
theorem sM{f:FuncId}{s:RSpec}(hc:Q5 f=none)(hs:NG f=some s){args:I7}{h:AH}{v:AV}{h':AH}(hr:s.run (Ax Qf) args h=some (v,h'))(hrst:(C2 f).rst=false:=by rfl):rc Qf f args h=some (v,h'):=by
 have hq:EW Qf (Ax Qf) f args h=some (v,h'):=by
  unfold EW;have e1:Qf.code f=none:=hc;have e2:Qf.rspec f=some s:=hs;rw[e1,e2];exact hr
 have:=jD Qf hq;have e3:(Qf.ctx f).rst=false:=hrst;rw[e3]at this;exact this
theorem sS(n:Nat)(hn:n<=1000000)(h:AH):rc Qf Q2 [sl (true,true) 1 [.int .i64 (-1)],.int .i64 n] h=some (.sl h.fams.length n 0 n,⟨h.boxes,h.fams++[⟨zf6z n (.int .i64 (-1)),1,true⟩]⟩):=by
 refine sM (s:=xb) rfl rfl ?_;change TB [sl (true,true) 1 [.int .i64 (-1)],.int .i64 n] h=_;have hs:sl (true,true) 1 [AV.int .i64 (-1)]=.vs true 1 [.int .i64 (-1)]:=rfl;rw[hs];unfold TB;simp only;rw[if_pos ⟨trivial,by omega,by omega,by decide,by decide⟩];simp
def NewP(g:Tyg)(role bad:Int)(bx:List (List AV))(v:AV)(h':AH):Prop :=
 ∃(A:PA) (D:PD),v=.ptr A.p 0/\A.role=role/\A.blk=0/\A.bad=bad/\PrH A D h'/\D.tys=g.tys/\D.efs=g.effs/\D.ti=zf6z g.tys.length (-1)/\D.ei=zf6z g.effs.length (-1)/\D.l=[]/\D.kn=[] /\
  bx.length<=A.p/\bx.length<=A.bm/\∀j,j<bx.length->h'.boxes[j]?=bx[j]?
set_option maxHeartbeats 4000000 in
theorem YN(g:Tyg)(role bad:Int)(h1:g.tys.length<=1000)(h2:g.effs.length<=1000)(h:AH) :
  ∃v h',rc Qf i7 [Li g,.int .i64 role,.int .i64 bad] h=some (v,h')/\NewP g role bad h.boxes v h':=by
 obtain⟨bx,F⟩:=h;have hb:∃B0,B0=bx++[[sl g.tm 6 (g.tys.map p9),sl g.em 3 (g.effs.map Cl)],[.mbox [] []],[.vs true 0 [],.vs true 0 [],.vs true 0 [],.vs true 0 [],.vs true 0 [],.int .i64 0,.int .i64 role,.int .i64 0,.int .i64 bad,.vs true 0 [],.int .i64 0,.str (bs []),.int .i64 0,.vs true 0 [],.int .i64 0,.vs true 0 [],.int .i64 0,.int .i64 0,.vs true 0 [],.mp (bx.length+1)]]:=⟨_,rfl⟩;obtain⟨B0,hB0⟩:=hb;obtain⟨v1,_,c1,F1,rfl,l1,g1⟩:=Ug g.tm g.tys (by omega) B0 F;obtain⟨v2,_,c2,F2,rfl,l2,g2⟩:=YM g.em g.effs (by omega) B0 F1;subst hB0;have kq:∀(x y:List AV) (F:List Fam),KQ bx.length bx.length [sl g.tm 6 (g.tys.map p9),sl g.em 3 (g.effs.map Cl)] [sl g.tm 6 (g.tys.map p9),sl g.em 3 (g.effs.map Cl)] ⟨bx++[[sl g.tm 6 (g.tys.map p9),sl g.em 3 (g.effs.map Cl)],x,y],F⟩:=λx y F=>by
  have:(bx++[[sl g.tm 6 (g.tys.map p9),sl g.em 3 (g.effs.map Cl)],x,y])[bx.length]?=some [sl g.tm 6 (g.tys.map p9),sl g.em 3 (g.effs.map Cl)]:=by
   rw[zf1z (zf0z _),zt5z];rfl
  exact⟨this,this⟩
 have fa:Fl (KQ bx.length bx.length [sl g.tm 6 (g.tys.map p9),sl g.em 3 (g.effs.map Cl)] [sl g.tm 6 (g.tys.map p9),sl g.em 3 (g.effs.map Cl)]) false 1 (.ptr bx.length 0) (sl g.tm 6 (g.tys.map p9)):=dI (Dx _ _ _) rfl;have fb:Fl (KQ bx.length bx.length [sl g.tm 6 (g.tys.map p9),sl g.em 3 (g.effs.map Cl)] [sl g.tm 6 (g.tys.map p9),sl g.em 3 (g.effs.map Cl)]) false 1 (.ptr bx.length 1) (sl g.em 3 (g.effs.map Cl)):=dI (Dx _ _ _) rfl;have m1:∀b,(AV.mp b).isTup=false:=λ_=>rfl;have m2:∀b,(AV.mp b).cells=[.mp b]:=λ_=>rfl;obtain⟨o1,o2,-,-⟩:=i8 (l1 []);obtain⟨o3,o4,-,-⟩:=i8 (l2 []);have r1:=sS g.tys.length (by omega);have r2:=sS g.effs.length (by omega);refine Dc LY (by simp[BP]) λfr hl ha=>?_;have h0:=ha 0;have h1:=ha 1;have h2:=ha 2;clear ha;simp[BP]at hl h0 h1 h2;simp[BP,hl,h0,h1,h2,B6,C9,m1,m2];refine M3 (λk=>k) (KQ bx.length bx.length [sl g.tm 6 (g.tys.map p9),sl g.em 3 (g.effs.map Cl)] [sl g.tm 6 (g.tys.map p9),sl g.em 3 (g.effs.map Cl)]) [.nil,.nil,.fl,.any,.nil,.fl,.any,.nil,.nil,.nil,.any] 0 (λa b e=>e) rfl (by decide) ?_;simp[BP,hl,h0,h1,h2,kq,fa,fb,c1,c2,o1,o2,o3,o4,B6,C9,B2,r1,r2];obtain⟨t1,t2⟩:=g2 _ _ _ _ (l1 (bx++[[sl g.tm 6 (g.tys.map p9),sl g.em 3 (g.effs.map Cl)],[.mbox [] []],[.vs true 0 [],.vs true 0 [],.vs true 0 [],.vs true 0 [],.vs true 0 [],.int .i64 0,.int .i64 role,.int .i64 0,.int .i64 bad,.vs true 0 [],.int .i64 0,.str (bs []),.int .i64 0,.vs true 0 [],.int .i64 0,.vs true 0 [],.int .i64 0,.int .i64 0,.vs true 0 [],.mp (bx.length+1)]]));have fx:∀(X:List Fam) (j:Nat),j<F2.length->(F2++X)[j]?=F2[j]?:=λX j hj=>zg1z hj;refine⟨⟨bx.length+2,bx.length+1,F2.length,F2.length+1,role,0,bad⟩,⟨v1,v2,.vs true 0 [],g.tys,g.effs,zf6z g.tys.length (-1),zf6z g.effs.length (-1),[],[]⟩,rfl,rfl,rfl,rfl,⟨?_,?_,by simp,λ_=>?_,λ_=>?_,by simp,by simp,by simp,ZS (t1 []) (fx _),ZS (l2 []) (fx _),.inl ⟨false,rfl⟩,Bg.vs' _ _ _ _,Bg.vs' _ _ _ _⟩,rfl,rfl,rfl,rfl,rfl,rfl,by simp,by simp,λj hj=>zg1z hj⟩
 .simp only;rw[zf1z (by omega),show bx.length+2-bx.length=2 by omega];rfl
 .simp only;rw[zf1z (by omega),show bx.length+1-bx.length=1 by omega];rfl
 .simp only;rw[zf1z (zf0z _),zt5z];simp
 .simp only;rw[zf1z (by omega),show F2.length+1-F2.length=1 by omega];simp
end Go.Abs.Q
