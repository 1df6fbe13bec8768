/- A part of the proof. -/
import Derived.Test.YtnnjamknplefbaaGreatDoorTS31
set_option linter.all false
open List renaming getElem?_eq_getElem->zf0z,getElem?_append_left->zf1z,drop_eq_nil_of_le->zf3z,drop_eq_getElem_cons->zf4z,getElem?_eq_some_iff->zf5z,take_succ_eq_append_getElem->zf7z,getElem?_append_right->zf8z,getElem?_set_ne->zg0z,length_pos_iff->zg2z,getElem_mem->zg5z,take_length->zg6z
open Bool renaming false_and->zf2z,true_and->zf6z,not_false->zf9z,not_true->zg1z,and_eq_true->zg4z
open Nat renaming le_refl->zg3z
set_option linter.all false
namespace Go.Abs.Q
open Go.Proofs
attribute [local simp] J0 J5 fin M6 M0 Y2 b8
theorem Um.mono{rule:Int}{l l':List Jdg}(hl:∀(j:Nat) (J:Jdg),l[j]?=some J->l'[j]?=some J){k:Int}{x:Tm}{i:Int}(h:Um rule l k x i):Um rule l' k x i:=by
 obtain⟨j,J,h1,h2,h3⟩:=h;exact⟨j,J,h1,hl j J h2,h3⟩
theorem PartsR.mono{rule:Int}{l l':List Jdg}(hl:∀(j:Nat) (J:Jdg),l[j]?=some J->l'[j]?=some J):∀{ks:List Int} {xs:CI} {is:List Int},PartsR rule l ks xs is->PartsR rule l' ks xs is
 |k::ks,x::xs,i::is,h=>⟨h.1.mono hl,PartsR.mono hl h.2⟩
 | [],[],[],_=>trivial
 | [],[],_::_,h=>h.elim
 | [],_::_,_,h=>h.elim
 |_::_,[],_,h=>h.elim
 |_::_,_::_,[],h=>h.elim
theorem PartsR.snoc{rule:Int}{l:List Jdg}{k:Int}{x:Tm}{i:Int}(h':Um rule l k x i):∀{ks:List Int} {xs:CI} {is:List Int},PartsR rule l ks xs is->PartsR rule l (ks++[k]) (xs++[x]) (is++[i])
 |k::ks,x::xs,i::is,h=>⟨h.1,PartsR.snoc h' h.2⟩
 | [],[],[],_=>⟨h',trivial⟩
 | [],[],_::_,h=>h.elim
 | [],_::_,_,h=>h.elim
 |_::_,[],_,h=>h.elim
 |_::_,_::_,[],h=>h.elim
theorem PartsR.len{rule:Int}{l:List Jdg}:∀{ks:List Int} {xs:CI} {is:List Int},PartsR rule l ks xs is->is.length=xs.length
 |k::ks,x::xs,i::is,h=>by simp[PartsR.len h.2]
 | [],[],[],_=>rfl
 | [],[],_::_,h=>h.elim
 | [],_::_,_,h=>h.elim
 |_::_,[],_,h=>h.elim
 |_::_,_::_,[],h=>h.elim
structure Own (D:PD) (is:List Int) (ov:AV) (h:AH):Prop where
 l:He false 1 (is.map (AV.int .i64)) ov h
 al:Bg D.lv ov
 at':Bg D.tv ov
 ae:Bg D.ev ov
theorem Own.step{A:PA}{pre:AD}{n:Nat}{D D':PD}{is:List Int}{ov:AV}{h h':AH}(O:Own D is ov h)(K:Frm A D.lv h D'.lv h')(G:Gro pre n D D'):Own D' is ov h':=by
 obtain⟨k1,k2⟩:=K.fr _ _ _ O.l O.al;exact⟨k1,k2,by rw[G.tv];exact O.at',by rw[G.ev];exact O.ae⟩
theorem PrH.out{A:PA}{D:PD}{B:List (List AV)}{F:List Fam}(H:PrH A D ⟨B,F⟩){is:List Int}{ov:AV}(O:Own D is ov ⟨B,F⟩){c:Ctx}(hc:c.mutApp=false){x:AV}{ys:I7}(js:List Int)(hy:ys=js.map (AV.int .i64))(hx:elems ⟨B,F⟩ 1 x=some ys)(hb:is.length+js.length<=100000) :
  ∃ov' F',(∀BB,R7 c ⟨BB,F⟩ 1 8 ov x=some (ov',⟨BB,F'⟩))/\(∀BB,Own D (is++js) ov' ⟨BB,F'⟩)/\(∀(s:Nat) (ws:List AV) (w:AV),He false s ws w ⟨B,F⟩->Bg ov w->(∀BB,He false s ws w ⟨BB,F'⟩)/\Bg ov' w)/\(∀BB,PrH A D ⟨BB,F⟩->PrH A D ⟨BB,F'⟩):=by
 subst hy;have h1:He c.mutApp 1 (is.map (AV.int .i64)) ov ⟨B,F⟩:=by rw[hc];exact O.l
 obtain⟨v',F',a1,a2,a3⟩:=Lt (c:=c) (sz:=1) (bytes:=8) h1 hx (by simp[P7,maxLen];omega);rw[hc]at a2;have row:∀{k:Nat} {qs:List Int},qs≠[]->F[k]?=some ⟨qs.map (AV.int .i64),1,true⟩->F'[k]?=some ⟨qs.map (AV.int .i64),1,true⟩:=λ{k qs} s9 hk=>by
  have hL:He true 1 (qs.map (AV.int .i64)) (.sl k (qs.map (AV.int .i64)).length 0 (qs.map (AV.int .i64)).length) ⟨B,F⟩:=.inr ⟨by simpa using s9,k,rfl,hk⟩;obtain⟨h1,_⟩:=a3 _ _ _ _ hL (gN O.l hk _ _ _);rcases h1 []with ⟨b,e⟩|⟨_,q,e,h2⟩
  .cases e
  .cases e;exact h2
 obtain⟨t1,t2⟩:=a3 _ _ _ _ H.lt O.at'.symm;obtain⟨e1,e2⟩:=a3 _ _ _ _ H.le O.ae.symm;obtain⟨l1,l2⟩:=a3 _ _ _ _ H.ll O.al.symm;have key:∀BB,PrH A D ⟨BB,F⟩->PrH A D ⟨BB,F'⟩:=λBB HB=>⟨HB.bp,HB.bm,H.ne,λh=>row h (H.f1 h),λh=>row h (H.f2 h),H.nk,H.tl,H.el,t1 _,e1 _,l1 _,H.at',H.ae⟩;exact⟨v',F',a1,λBB=>⟨by rw[List.map_append];exact a2 BB,l2.symm,t2.symm,e2.symm⟩,λs ws w hw ha=>a3 false s ws w hw ha,key⟩
def KQ(p bp:Nat)(cs cx:List AV)(h:AH):Prop:=h.boxes[p]?=some cs/\h.boxes[bp]?=some cx
theorem dI{p bp:Nat}{cs cx:I7}{i:Nat}{x:AV}(hm:u6 cs=false)(hx:cs[i]?=some x):Fl (KQ p bp cs cx) false 1 (.ptr p i) x:=λh ⟨hk,_⟩=>by
 show (match h.boxes[p]? with|some cs=>if u6 cs then Qm false 1 i cs else P9 false 1 (cs.drop i)|none=>none)=some x
 rw[hk];show (if u6 cs=true then Qm false 1 i cs else P9 false 1 (cs.drop i))=some x
 rw[if_neg (by rw[hm];simp),←hx];simp[P9]
theorem KQ_x{p bp:Nat}{cs cx:I7}{i:Nat}{x:AV}(hm:u6 cx=false)(hx:cx[i]?=some x):Fl (KQ p bp cs cx) false 1 (.ptr bp i) x:=λh ⟨_,hk⟩=>by
 show (match h.boxes[bp]? with|some cs=>if u6 cs then Qm false 1 i cs else P9 false 1 (cs.drop i)|none=>none)=some x
 rw[hk];show (if u6 cx=true then Qm false 1 i cx else P9 false 1 (cx.drop i))=some x
 rw[if_neg (by rw[hm];simp),←hx];simp[P9]
theorem Dr(B:List (List AV))(F:List Fam)(z:AV):AF ⟨B++[[.mbox [.junk] []],[.mbox [.junk] []]],F⟩ 2 z=some (.ptr B.length 0,⟨B++[z.cells,[.mbox [.junk] []]],F⟩):=by
 have h:(B++[[AV.mbox [.junk] []],[AV.mbox [.junk] []]]).length-2=B.length:=by simp
 unfold AF;simp only[h];rw[zf8z (zg3z _),Nat.sub_self];simp[Ak]
theorem Dq(B:List (List AV))(F:List Fam)(y:I7)(z:AV):AF ⟨B++[y,[.mbox [.junk] []]],F⟩ 1 z=some (.ptr (B.length+1) 0,⟨B++[y,z.cells],F⟩):=by
 have h:(B++[y,[AV.mbox [.junk] []]]).length-1=B.length+1:=by simp
 unfold AF;simp only[h];rw[zf8z (by omega),show B.length+1-B.length=1 by omega];simp[Ak]
theorem Bg.vs(v:AV)(f:Bool)(z:Nat)(xs:I7):Bg v (.vs f z xs):=λ_ _ _ _ _ _ _ _ e=>nomatch e
theorem Bg.vs'(v:AV)(f:Bool)(z:Nat)(xs:I7):Bg (.vs f z xs) v:=(Bg.vs v f z xs).symm
set_option maxHeartbeats 4000000 in
theorem eK(A:PA)(pre:AD)(U:CI)(n:Nat)(IH:Rf A pre U n)(bp:Nat)(p:Pyl)(cx:I7)(hcx:cx=[.str p.tag,sl p.pm 1 (p.parts.map (AV.int .i64)),.int .i64 p.goal,sl p.dm 1 (p.data.map (AV.int .i64))])(ml:HH)(l:CI)(pub:Bool)(rule:Int)(hpr:pub=decide (rule=20))(J3:l.length=p.parts.length)(M:Nat)(hx:∀x∈l,x∈U/\x.size<=n/\LA x/\x.size<=M)(hl6:l.length<=6)(D0:PD)(fr:Fr)(h:AH)(k10:C7 fr 10=.vs true 0 [])(hbp:h.boxes[bp]?=some cx)(np:bp≠A.p)(nb:bp≠A.bm)(H0:PrH A D0 h)(I0:TInv A pre D0)(hb:n7 U pre D0+200*n+100<=1000000)(hl:fr.length=86)(h0:C7 fr 0=.ptr A.p 0)(h3:C7 fr 3=.bool pub)(h5:C7 fr 5=.ptr bp 0)(h16:C7 fr 16=sl ml 4 (G8 l))(h17:C7 fr 17=.int .i64 l.length)(h18:C7 fr 18=.int .i64 0) :
  L9 (lp (A8 (Ax Qf) (C2 M9) B5) (fr,h)) λe G6 h'=>Kp B5.wr fr G6/\(∃D':PD,PrH A D' h'/\Frm A D0.lv h D'.lv h'/\TInv A pre D'/\Gro pre M D0 D'/\n7 U pre D'<=n7 U pre D0+2*l.length/\((e=.exit 0/\∃(is:List Int) (ov:AV),C7 G6 10=ov/\Own D' is ov h'/\(∀(s:Nat) (ws:List AV) (w:AV),He false s ws w h->Bg D0.lv w->Bg ov w)/\PartsR rule D'.l p.parts l is/\HA (ty D0.tys D0.efs) pub p.parts l=true)\/(e=.ret/\C7 G6 8=.vs true 0 []/\C7 G6 9=.bool false/\HA (ty D0.tys D0.efs) pub p.parts l=false))):=by
 refine W6 rfl fr (λn fr h'=>∃(i:Nat),i+n=l.length/\C7 fr 18=.int .i64 (i:Nat)/\(∃(D':PD) (is:List Int) (ov:AV),C7 fr 10=ov/\PrH A D' h'/\Frm A D0.lv h D'.lv h'/\TInv A pre D'/\Gro pre M D0 D'/\n7 U pre D'<=n7 U pre D0+2*i/\Own D' is ov h'/\(∀(s:Nat) (ws:List AV) (w:AV),He false s ws w h->Bg D0.lv w->Bg ov w)/\PartsR rule D'.l (p.parts.take i) (l.take i) is/\h'.boxes[bp]?=some cx/\HA (ty D0.tys D0.efs) pub p.parts l=HA (ty D0.tys D0.efs) pub (p.parts.drop i) (l.drop i))) ?_ l.length h ⟨0,by omega,h18,⟨D0,[],_,k10,H0,⟨zg3z _,λ_ _ _ _=>rfl,λ_ _ _ hw ha=>⟨hw,ha⟩⟩,I0,Gro.refl _ _ _,by omega,⟨.inl ⟨false,rfl⟩,Bg.vs _ _ _ _,Bg.vs _ _ _ _,Bg.vs _ _ _ _⟩,λ_ _ _ _ _=>Bg.vs' _ _ _ _,trivial,hbp,rfl⟩⟩;rintro J Φ hJ hΦ n Kr H1 K ⟨i,hi,k18,hr⟩;have L1:=K.1.trans hl;have k0:=S6 K 0 h0;have k3:=S6 K 3 h3;have k5:=S6 K 5 h5;have k16:=S6 K 16 h16;have k17:=S6 K 17 h17;clear K;by_cases G9:i<l.length
 .have AT:=AQ i (by omega);obtain⟨D',is,ov,k10',H',K',I',G',b',O',N',R',q',s'⟩:=hr;obtain⟨bx,F⟩:=H1;have hx1:=l9 (f:=U6) (zf0z G9);rw[←m8]at hx1;obtain⟨xu,xn,xo,xm⟩:=hx l[i] (zg5z G9);have hd1:l.drop i=l[i]::l.drop (i+1):=zf4z G9;have hlt2:i<p.parts.length:=by omega
  have hd2:p.parts.drop i=p.parts[i]::p.parts.drop (i+1):=zf4z hlt2;have ht1:l.take (i+1)=l.take i++[l[i]]:=zf7z G9;have ht2:p.parts.take (i+1)=p.parts.take i++[p.parts[i]]:=zf7z hlt2;have Hq:MB (p.parts.map (AV.int .i64)) i=some (.int .i64 p.parts[i]):=l9 (f:=AV.int .i64) (zf0z hlt2);rw[hd1,hd2,HA]at s';generalize l[i]=x at *
  generalize p.parts[i]=kk at *
  have htc:=EK x;have hag:=Lh x;simp only at q';have lbp:=J4 q';have hP:=H'.bp;simp only[J8]at hP;have lp:=J4 hP;have lm:=J4 H'.bm;simp only at lm;obtain⟨v1,⟨bx1,F1⟩,hc1,k1,D1,rfl,A1,K1,I1,G1,b1,r1⟩:=IH x D' ⟨bx++[[.int .i64 x.kind,.str x.name,.int .i64 x.sort,sl x.cm 4 (G8 x.kids)]],F⟩ xu xn xo (H'.more _) I' (by omega);have q1:bx1[bx.length]?=some [.int .i64 x.kind,.str x.name,.int .i64 x.sort,sl x.cm 4 (G8 x.kids)]:=(Frm.box H' K1 (zg3z _) (by simp)).trans (by simp);have p1:bx1[bp]?=some cx:=(K1.bx bp np nb (by simp;omega)).trans ((zf1z lbp).trans q');have K1':Frm A D0.lv h D1.lv ⟨bx1,F1⟩:=K'.trans ((Frm.more _ _ _ _ _).trans K1);have O1:Own D1 is ov ⟨bx1,F1⟩:=O'.step ((Frm.more _ _ _ _ _).trans K1) G1;have G1':Gro pre M D0 D1:=(G'.trans G1).mono (by omega);have R1:PartsR rule D1.l (p.parts.take i) (l.take i) is:=R'.mono λj J hj=>G1.get hj;rw[←G1'.tys,←G1'.efs]at s';by_cases hk1:k1<0
  .obtain⟨_,Lz⟩:=r1.neg hk1;rw[Lz]at s';simp[B5,L1,k0,k3,k5,k16,k17,k18,G9,AT,hx1,htc,hag,hc1,hk1];exact hΦ _ _ _ ⟨D1,A1,K1',I1,G1',by omega,.inr ⟨rfl,by simp[L1],by simp[L1],by rw[←G1'.tys,←G1'.efs];exact s'⟩⟩
  .have r1':=r1;obtain⟨j,J,rfl,hj,hf,he,hu⟩:=r1.pos hk1;rw[hu]at s';simp only at s';have hk10:¬((j:Int)<0):=by omega
   obtain⟨w1,w2,w3⟩:=I1.props hj hf;have hP1:=A1.bp;have lp1:=J4 hP1;have lbp1:=J4 p1;simp only at lp1;have hxj:(D1.l.map Mc)[j]?=some (Mc J):=by rw[List.getElem?_map,hj];rfl
   have hjl:=(zf5z.1 hj).1;have hxg:∀hh:j<D1.l.length,D1.l[j]=J:=λhh=>by rw[zf0z hh]at hj;exact Option.some.inj hj
   have kq:∀X:List (List AV),KQ A.p bp (J8 A D1.tv D1.ev D1.lv D1.tys.length D1.efs.length) cx ⟨bx1++X,F1⟩:=λX=>⟨(zf1z lp1).trans hP1,(zf1z lbp1).trans p1⟩;have kq':∀(X:List (List AV)) (q:Nat) (Y:List AV),bx1.length<=q->KQ A.p bp (J8 A D1.tv D1.ev D1.lv D1.tys.length D1.efs.length) cx ⟨(bx1++X).set q Y,F1⟩:=λX q Y hq=>⟨(zg0z (by omega)).trans (kq X).1,(zg0z (by omega)).trans (kq X).2⟩;have fl4:Fl (KQ A.p bp (J8 A D1.tv D1.ev D1.lv D1.tys.length D1.efs.length) cx) false 1 (.ptr A.p 4) D1.lv:=dI (Dx _ _ _) rfl;have fl1:Fl (KQ A.p bp (J8 A D1.tv D1.ev D1.lv D1.tys.length D1.efs.length) cx) false 1 (.ptr bp 1) (sl p.pm 1 (p.parts.map (AV.int .i64))):=by subst hcx;exact KQ_x (Dx _ _ _) rfl
   have hs:=IZ (FU kk);have hS:=IZ (iX J.u (w6 kk) w3 (Fs kk));have l4:∀X,U4 ⟨bx1++X,F1⟩ false 1 (.ptr A.p 4)=some D1.lv:=λX=>fl4 _ (kq X);have l1:∀X,U4 ⟨bx1++X,F1⟩ false 1 (.ptr bp 1)=some (sl p.pm 1 (p.parts.map (AV.int .i64))):=λX=>fl1 _ (kq X);have ho:=MH A pre D1 ⟨bx1++[[.int .i64 J.u.kind,sl J.u.m 4 (J.u.ps.map Dp)],[.int .i64 (w6 kk).kind,sl (w6 kk).m 4 ((w6 kk).ps.map Dp)]],F1⟩ (A1.more _) I1 x _ r1';rw[hu]at ho;simp only[NB]at ho;have q1':∀X,(bx1++X)[bx.length]?=some [.int .i64 x.kind,.str x.name,.int .i64 x.sort,sl x.cm 4 (G8 x.kids)]:=λX=>(zf1z (J4 q1)).trans q1;have hil:is.length=i:=by rw[R1.len,List.length_take];omega
   have done:∀(bx3:List (List AV)) (F3:List Fam) (D3:PD) (k:Nat),PrH A D3 ⟨bx3,F3⟩->Frm A D1.lv ⟨bx1,F1⟩ D3.lv ⟨bx3,F3⟩->TInv A pre D3->Gro pre 0 D1 D3->n7 U pre D3<=n7 U pre D1+1->Um rule D3.l kk x (k:Nat)->HA (ty D1.tys D1.efs) pub p.parts l=HA (ty D1.tys D1.efs) pub (p.parts.drop (i+1)) (l.drop (i+1)) ->
     ∃(ov':AV) (F4:List Fam),R7 (C2 M9) ⟨bx3,F3⟩ 1 8 ov (sl (true,true) 1 [.int .i64 (k:Nat)])=some (ov',⟨bx3,F4⟩)/\∃(D':PD) (is:List Int) (ov:AV),ov'=ov/\PrH A D' ⟨bx3,F4⟩/\Frm A D0.lv h D'.lv ⟨bx3,F4⟩/\TInv A pre D'/\Gro pre M D0 D'/\n7 U pre D'<=n7 U pre D0+2*(i+1)/\Own D' is ov ⟨bx3,F4⟩/\(∀(s:Nat) (ws:List AV) (w:AV),He false s ws w h->Bg D0.lv w->Bg ov w)/\PartsR rule D'.l (p.parts.take (i+1)) (l.take (i+1)) is/\bx3[bp]?=some cx/\HA (ty D0.tys D0.efs) pub p.parts l=HA (ty D0.tys D0.efs) pub (p.parts.drop (i+1)) (l.drop (i+1)):=λbx3 F3 D3 k y1 y2 y3 y4 y5 y6 y7=>by
    have O3:=O1.step y2 y4;have K3:=K1'.trans y2;obtain⟨ov',F4,z1,z2,z3,z4⟩:=y1.out O3 (c:=C2 M9) rfl (x:=sl (true,true) 1 [.int .i64 (k:Nat)]) [(k:Int)] rfl rfl (by simp;omega);refine⟨ov',F4,z1 _,D3,is++[(k:Int)],ov',rfl,z4 _ y1,⟨K3.bl,K3.bx,λs ws w hw ha=>?_⟩,y3,(G1'.trans y4).mono (by omega),by omega,z2 _,λs ws w hw ha=>?_,?_,?_,by rw[←G1'.tys,←G1'.efs];exact y7⟩
    .obtain⟨u1,u2⟩:=K3.fr s ws w hw ha;exact⟨(z3 s ws w u1 (N' s ws w hw ha)).1 _,u2⟩
    .obtain⟨u1,u2⟩:=K3.fr s ws w hw ha;exact(z3 s ws w u1 (N' s ws w hw ha)).2
    .rw[ht1,ht2];exact PartsR.snoc y6 (R1.mono λj J hj=>y4.get hj)
    .have:=y2.bx bp np nb lbp1;simp only at this;exact this.trans p1
   rcases q9 A1.ll hxj with hia|⟨q,hia,hq⟩
   .simp only at hia;cases pub with
    |true =>
     have hr20:rule=20:=by simpa using hpr.symm
     cases o:ON J.u with
     |false =>
      rw[o]at ho;have sF:HA (ty D1.tys D1.efs) true p.parts l=false:=by rw[s',o];rfl
      simp[B5,L1,k0,k3,k5,k16,k17,k18,G9,AT,hx1,htc,hag,hc1,hk10];refine M3 (λk=>bx1.length+k) (KQ A.p bp (J8 A D1.tv D1.ev D1.lv D1.tys.length D1.efs.length) cx) [.nil,.nil,.nil,.fl,.nil,.nil,.nil,.rw,.nil,.fl,.nil,.nil,.rw,.pu,.al 0,.al 1,.any,.any] 2 (λa b e=>by omega) rfl (by decide) ?_;simp[B5,L1,k0,k3,k5,k16,k17,k18,G9,AT,kq,kq',fl4,fl1,l4,l1,hia,Fz,Hq,hs,AH.holes,Dw,Dr,Dq,show ∀x,S0 (AV.int .i64 x)=true from λ_=>rfl,ho];exact hΦ _ _ _ ⟨D1,A1.more _,K1'.trans (Frm.more _ _ _ _ _),I1,G1',by omega,.inr ⟨rfl,by simp[L1],by simp[L1],by rw[←G1'.tys,←G1'.efs];exact sF⟩⟩
     |true =>
      rw[o]at ho;obtain⟨ov',F4,e1,D9,is9,ov9,rfl,e2⟩:=done (bx1++[[.int .i64 J.u.kind,sl J.u.m 4 (J.u.ps.map Dp)],[.int .i64 (w6 kk).kind,sl (w6 kk).m 4 ((w6 kk).ps.map Dp)]]) F1 D1 j (A1.more _) (Frm.more _ _ _ _ _) I1 (Gro.refl _ _ _) (by omega) ⟨j,J,rfl,hj,hf,he,λ_=>o,λhh=>absurd hr20 hh⟩ (by rw[s',o];rfl);simp[B5,L1,k0,k3,k5,k16,k17,k18,G9,AT,hx1,htc,hag,hc1,hk10];refine M3 (λk=>bx1.length+k) (KQ A.p bp (J8 A D1.tv D1.ev D1.lv D1.tys.length D1.efs.length) cx) [.nil,.nil,.nil,.fl,.nil,.nil,.nil,.rw,.nil,.fl,.nil,.nil,.rw,.pu,.al 0,.al 1,.any,.any] 2 (λa b e=>by omega) rfl (by decide) ?_;simp[B5,L1,k0,k3,k5,k16,k17,k18,G9,AT,kq,kq',fl4,fl1,l4,l1,hia,Fz,Hq,hs,AH.holes,Dw,Dr,Dq,show ∀x,S0 (AV.int .i64 x)=true from λ_=>rfl,ho,k10',e1,B2,AT];exact EF hJ ⟨i+1,by omega,by simp[L1],D9,is9,ov',by simp[L1],e2⟩
    |false =>
     have hr20:rule≠20:=by simpa using hpr.symm
     cases o:TQ J.u (w6 kk)with
     |false =>
      rw[o]at hS;have sF:HA (ty D1.tys D1.efs) false p.parts l=false:=by rw[s',o];rfl
      simp[B5,L1,k0,k3,k5,k16,k17,k18,G9,AT,hx1,htc,hag,hc1,hk10];refine M3 (λk=>bx1.length+k) (KQ A.p bp (J8 A D1.tv D1.ev D1.lv D1.tys.length D1.efs.length) cx) [.nil,.nil,.nil,.fl,.nil,.nil,.nil,.rw,.nil,.fl,.nil,.nil,.rw,.pu,.al 0,.al 1,.any,.any] 2 (λa b e=>by omega) rfl (by decide) ?_;simp[B5,L1,k0,k3,k5,k16,k17,k18,G9,AT,kq,kq',fl4,fl1,l4,l1,hia,Fz,Hq,hs,AH.holes,Dw,Dr,Dq,show ∀x,S0 (AV.int .i64 x)=true from λ_=>rfl,hS];exact hΦ _ _ _ ⟨D1,A1.more _,K1'.trans (Frm.more _ _ _ _ _),I1,G1',by omega,.inr ⟨rfl,by simp[L1],by simp[L1],by rw[←G1'.tys,←G1'.efs];exact sF⟩⟩
     |true =>
      rw[o]at hS;by_cases s9:J.u.kind=kk/\J.u.ps=[]
      .obtain⟨ov',F4,e1,D9,is9,ov9,rfl,e2⟩:=done (bx1++[[.int .i64 J.u.kind,sl J.u.m 4 (J.u.ps.map Dp)],[.int .i64 (w6 kk).kind,sl (w6 kk).m 4 ((w6 kk).ps.map Dp)]]) F1 D1 j (A1.more _) (Frm.more _ _ _ _ _) I1 (Gro.refl _ _ _) (by omega) ⟨j,J,rfl,hj,hf,he,λhh=>absurd hh hr20,λ_=>s9⟩ (by rw[s',o];rfl);obtain⟨ne1,ne2⟩:=s9;subst ne1;have hd1:decide (J.u.kind=(w6 J.u.kind).kind)=true:=decide_eq_true rfl;have hd2:decide (¬J.u.kind=(w6 J.u.kind).kind)=false:=decide_eq_false (λh=>h rfl);have hd3:decide (J.u.kind≠(w6 J.u.kind).kind)=false:=hd2;have ne5:¬0<J.u.ps.length:=by rw[ne2];simp
       have ne6:(J.u.ps=[])=True:=eq_true ne2;simp[B5,L1,k0,k3,k5,k16,k17,k18,G9,AT,hx1,htc,hag,hc1,hk10];refine M3 (λk=>bx1.length+k) (KQ A.p bp (J8 A D1.tv D1.ev D1.lv D1.tys.length D1.efs.length) cx) [.nil,.nil,.nil,.fl,.nil,.nil,.nil,.rw,.nil,.fl,.nil,.nil,.rw,.pu,.al 0,.al 1,.any,.any] 2 (λa b e=>by omega) rfl (by decide) ?_;simp[B5,L1,k0,k3,k5,k16,k17,k18,G9,AT,kq,kq',fl4,fl1,l4,l1,hia,Fz,Hq,hs,AH.holes,Dw,Dr,Dq,show ∀x,S0 (AV.int .i64 x)=true from λ_=>rfl,hS,k10',e1,B2,AT,ne5,hd1,hd2,hd3];exact EF hJ ⟨i+1,by omega,by simp[L1],D9,is9,ov',by simp[L1],e2⟩
      .have hvk:Qu (w6 kk)=0:=by
        unfold TQ at o;simp only[zg4z,decide_eq_true_eq]at o;exact o.1.2
       have hbl:D1.l.length<=n7 U pre D1:=by unfold n7;omega
       obtain⟨mj,v3,⟨bx3,F3⟩,hjj,rfl,lv3,H3,K3⟩:=Ig A D1 ⟨bx1++[[.int .i64 J.u.kind,sl J.u.m 4 (J.u.ps.map Dp)],[.int .i64 (w6 kk).kind,sl (w6 kk).m 4 ((w6 kk).ps.map Dp)]],F1⟩ (A1.more _) 22 x (w6 kk) (sl (true,true) 1 [.int .i64 (j:Nat)]) [(j:Int)] (.inl ⟨true,rfl⟩) (CQ _ _ _ _) (by omega);obtain⟨I3,G3⟩:=I1.add lv3 (.one 22 x (w6 kk) mj j J hj hf xo.1 hvk (Fs kk) (.inr (.inr ⟨rfl,he,o⟩)));obtain⟨ov',F4,e1,D9,is9,ov9,rfl,e2⟩:=done bx3 F3 _ D1.l.length H3 ((Frm.more _ _ _ _ _).trans K3) I3 G3 (by rw[EJ];omega) ⟨_,_,rfl,PD.add_get _ _ _,rfl,rfl,λhh=>absurd hh hr20,λ_=>⟨rfl,rfl⟩⟩ (by rw[s',o];rfl);by_cases ne1:J.u.kind=kk
       .have ne2:J.u.ps≠[]:=λe=>s9 ⟨ne1,e⟩;subst ne1;have hd1:decide (J.u.kind=(w6 J.u.kind).kind)=true:=decide_eq_true rfl;have hd2:decide (¬J.u.kind=(w6 J.u.kind).kind)=false:=decide_eq_false (λh=>h rfl);have hd3:decide (J.u.kind≠(w6 J.u.kind).kind)=false:=hd2;have ne3:0<J.u.ps.length:=zg2z.2 ne2;simp[B5,L1,k0,k3,k5,k16,k17,k18,G9,AT,hx1,htc,hag,hc1,hk10];refine M3 (λk=>bx1.length+k) (KQ A.p bp (J8 A D1.tv D1.ev D1.lv D1.tys.length D1.efs.length) cx) [.nil,.nil,.nil,.fl,.nil,.nil,.nil,.rw,.nil,.fl,.nil,.nil,.rw,.pu,.al 0,.al 1,.any,.any] 2 (λa b e=>by omega) rfl (by decide) ?_;simp[B5,L1,k0,k3,k5,k16,k17,k18,G9,AT,kq,kq',fl4,fl1,l4,l1,hia,Fz,Hq,hs,AH.holes,Dw,Dr,Dq,show ∀x,S0 (AV.int .i64 x)=true from λ_=>rfl,hS,k10',e1,B2,AT,ne2,ne3,q1',hjj,hd1,hd2,hd3];exact EF hJ ⟨i+1,by omega,by simp[L1],D9,is9,ov',by simp[L1],e2⟩
       .have ne4:¬J.u.kind=(w6 kk).kind:=ne1;simp[B5,L1,k0,k3,k5,k16,k17,k18,G9,AT,hx1,htc,hag,hc1,hk10];refine M3 (λk=>bx1.length+k) (KQ A.p bp (J8 A D1.tv D1.ev D1.lv D1.tys.length D1.efs.length) cx) [.nil,.nil,.nil,.fl,.nil,.nil,.nil,.rw,.nil,.fl,.nil,.nil,.rw,.pu,.al 0,.al 1,.any,.any] 2 (λa b e=>by omega) rfl (by decide) ?_;simp[B5,L1,k0,k3,k5,k16,k17,k18,G9,AT,kq,kq',fl4,fl1,l4,l1,hia,Fz,Hq,hs,AH.holes,Dw,Dr,Dq,show ∀x,S0 (AV.int .i64 x)=true from λ_=>rfl,hS,k10',e1,B2,AT,ne4,q1',hjj];exact EF hJ ⟨i+1,by omega,by simp[L1],D9,is9,ov',by simp[L1],e2⟩
   .simp only at hia hq;cases pub with
    |true =>
     have hr20:rule=20:=by simpa using hpr.symm
     cases o:ON J.u with
     |false =>
      rw[o]at ho;have sF:HA (ty D1.tys D1.efs) true p.parts l=false:=by rw[s',o];rfl
      simp[B5,L1,k0,k3,k5,k16,k17,k18,G9,AT,hx1,htc,hag,hc1,hk10];refine M3 (λk=>bx1.length+k) (KQ A.p bp (J8 A D1.tv D1.ev D1.lv D1.tys.length D1.efs.length) cx) [.nil,.nil,.nil,.fl,.nil,.nil,.nil,.rw,.nil,.fl,.nil,.nil,.rw,.pu,.al 0,.al 1,.any,.any] 2 (λa b e=>by omega) rfl (by decide) ?_;simp[B5,L1,k0,k3,k5,k16,k17,k18,G9,AT,kq,kq',fl4,fl1,l4,l1,hia,hq,hjl,hxg,Fz,Hq,hs,AH.holes,Dw,Dr,Dq,show ∀x,S0 (AV.int .i64 x)=true from λ_=>rfl,ho];exact hΦ _ _ _ ⟨D1,A1.more _,K1'.trans (Frm.more _ _ _ _ _),I1,G1',by omega,.inr ⟨rfl,by simp[L1],by simp[L1],by rw[←G1'.tys,←G1'.efs];exact sF⟩⟩
     |true =>
      rw[o]at ho;obtain⟨ov',F4,e1,D9,is9,ov9,rfl,e2⟩:=done (bx1++[[.int .i64 J.u.kind,sl J.u.m 4 (J.u.ps.map Dp)],[.int .i64 (w6 kk).kind,sl (w6 kk).m 4 ((w6 kk).ps.map Dp)]]) F1 D1 j (A1.more _) (Frm.more _ _ _ _ _) I1 (Gro.refl _ _ _) (by omega) ⟨j,J,rfl,hj,hf,he,λ_=>o,λhh=>absurd hr20 hh⟩ (by rw[s',o];rfl);simp[B5,L1,k0,k3,k5,k16,k17,k18,G9,AT,hx1,htc,hag,hc1,hk10];refine M3 (λk=>bx1.length+k) (KQ A.p bp (J8 A D1.tv D1.ev D1.lv D1.tys.length D1.efs.length) cx) [.nil,.nil,.nil,.fl,.nil,.nil,.nil,.rw,.nil,.fl,.nil,.nil,.rw,.pu,.al 0,.al 1,.any,.any] 2 (λa b e=>by omega) rfl (by decide) ?_;simp[B5,L1,k0,k3,k5,k16,k17,k18,G9,AT,kq,kq',fl4,fl1,l4,l1,hia,hq,hjl,hxg,Fz,Hq,hs,AH.holes,Dw,Dr,Dq,show ∀x,S0 (AV.int .i64 x)=true from λ_=>rfl,ho,k10',e1,B2,AT];exact EF hJ ⟨i+1,by omega,by simp[L1],D9,is9,ov',by simp[L1],e2⟩
    |false =>
     have hr20:rule≠20:=by simpa using hpr.symm
     cases o:TQ J.u (w6 kk)with
     |false =>
      rw[o]at hS;have sF:HA (ty D1.tys D1.efs) false p.parts l=false:=by rw[s',o];rfl
      simp[B5,L1,k0,k3,k5,k16,k17,k18,G9,AT,hx1,htc,hag,hc1,hk10];refine M3 (λk=>bx1.length+k) (KQ A.p bp (J8 A D1.tv D1.ev D1.lv D1.tys.length D1.efs.length) cx) [.nil,.nil,.nil,.fl,.nil,.nil,.nil,.rw,.nil,.fl,.nil,.nil,.rw,.pu,.al 0,.al 1,.any,.any] 2 (λa b e=>by omega) rfl (by decide) ?_;simp[B5,L1,k0,k3,k5,k16,k17,k18,G9,AT,kq,kq',fl4,fl1,l4,l1,hia,hq,hjl,hxg,Fz,Hq,hs,AH.holes,Dw,Dr,Dq,show ∀x,S0 (AV.int .i64 x)=true from λ_=>rfl,hS];exact hΦ _ _ _ ⟨D1,A1.more _,K1'.trans (Frm.more _ _ _ _ _),I1,G1',by omega,.inr ⟨rfl,by simp[L1],by simp[L1],by rw[←G1'.tys,←G1'.efs];exact sF⟩⟩
     |true =>
      rw[o]at hS;by_cases s9:J.u.kind=kk/\J.u.ps=[]
      .obtain⟨ov',F4,e1,D9,is9,ov9,rfl,e2⟩:=done (bx1++[[.int .i64 J.u.kind,sl J.u.m 4 (J.u.ps.map Dp)],[.int .i64 (w6 kk).kind,sl (w6 kk).m 4 ((w6 kk).ps.map Dp)]]) F1 D1 j (A1.more _) (Frm.more _ _ _ _ _) I1 (Gro.refl _ _ _) (by omega) ⟨j,J,rfl,hj,hf,he,λhh=>absurd hh hr20,λ_=>s9⟩ (by rw[s',o];rfl);obtain⟨ne1,ne2⟩:=s9;subst ne1;have hd1:decide (J.u.kind=(w6 J.u.kind).kind)=true:=decide_eq_true rfl;have hd2:decide (¬J.u.kind=(w6 J.u.kind).kind)=false:=decide_eq_false (λh=>h rfl);have hd3:decide (J.u.kind≠(w6 J.u.kind).kind)=false:=hd2;have ne5:¬0<J.u.ps.length:=by rw[ne2];simp
       have ne6:(J.u.ps=[])=True:=eq_true ne2;simp[B5,L1,k0,k3,k5,k16,k17,k18,G9,AT,hx1,htc,hag,hc1,hk10];refine M3 (λk=>bx1.length+k) (KQ A.p bp (J8 A D1.tv D1.ev D1.lv D1.tys.length D1.efs.length) cx) [.nil,.nil,.nil,.fl,.nil,.nil,.nil,.rw,.nil,.fl,.nil,.nil,.rw,.pu,.al 0,.al 1,.any,.any] 2 (λa b e=>by omega) rfl (by decide) ?_;simp[B5,L1,k0,k3,k5,k16,k17,k18,G9,AT,kq,kq',fl4,fl1,l4,l1,hia,hq,hjl,hxg,Fz,Hq,hs,AH.holes,Dw,Dr,Dq,show ∀x,S0 (AV.int .i64 x)=true from λ_=>rfl,hS,k10',e1,B2,AT,ne5,hd1,hd2,hd3];exact EF hJ ⟨i+1,by omega,by simp[L1],D9,is9,ov',by simp[L1],e2⟩
      .have hvk:Qu (w6 kk)=0:=by
        unfold TQ at o;simp only[zg4z,decide_eq_true_eq]at o;exact o.1.2
       have hbl:D1.l.length<=n7 U pre D1:=by unfold n7;omega
       obtain⟨mj,v3,⟨bx3,F3⟩,hjj,rfl,lv3,H3,K3⟩:=Ig A D1 ⟨bx1++[[.int .i64 J.u.kind,sl J.u.m 4 (J.u.ps.map Dp)],[.int .i64 (w6 kk).kind,sl (w6 kk).m 4 ((w6 kk).ps.map Dp)]],F1⟩ (A1.more _) 22 x (w6 kk) (sl (true,true) 1 [.int .i64 (j:Nat)]) [(j:Int)] (.inl ⟨true,rfl⟩) (CQ _ _ _ _) (by omega);obtain⟨I3,G3⟩:=I1.add lv3 (.one 22 x (w6 kk) mj j J hj hf xo.1 hvk (Fs kk) (.inr (.inr ⟨rfl,he,o⟩)));obtain⟨ov',F4,e1,D9,is9,ov9,rfl,e2⟩:=done bx3 F3 _ D1.l.length H3 ((Frm.more _ _ _ _ _).trans K3) I3 G3 (by rw[EJ];omega) ⟨_,_,rfl,PD.add_get _ _ _,rfl,rfl,λhh=>absurd hh hr20,λ_=>⟨rfl,rfl⟩⟩ (by rw[s',o];rfl);by_cases ne1:J.u.kind=kk
       .have ne2:J.u.ps≠[]:=λe=>s9 ⟨ne1,e⟩;subst ne1;have hd1:decide (J.u.kind=(w6 J.u.kind).kind)=true:=decide_eq_true rfl;have hd2:decide (¬J.u.kind=(w6 J.u.kind).kind)=false:=decide_eq_false (λh=>h rfl);have hd3:decide (J.u.kind≠(w6 J.u.kind).kind)=false:=hd2;have ne3:0<J.u.ps.length:=zg2z.2 ne2;simp[B5,L1,k0,k3,k5,k16,k17,k18,G9,AT,hx1,htc,hag,hc1,hk10];refine M3 (λk=>bx1.length+k) (KQ A.p bp (J8 A D1.tv D1.ev D1.lv D1.tys.length D1.efs.length) cx) [.nil,.nil,.nil,.fl,.nil,.nil,.nil,.rw,.nil,.fl,.nil,.nil,.rw,.pu,.al 0,.al 1,.any,.any] 2 (λa b e=>by omega) rfl (by decide) ?_;simp[B5,L1,k0,k3,k5,k16,k17,k18,G9,AT,kq,kq',fl4,fl1,l4,l1,hia,hq,hjl,hxg,Fz,Hq,hs,AH.holes,Dw,Dr,Dq,show ∀x,S0 (AV.int .i64 x)=true from λ_=>rfl,hS,k10',e1,B2,AT,ne2,ne3,q1',hjj,hd1,hd2,hd3];exact EF hJ ⟨i+1,by omega,by simp[L1],D9,is9,ov',by simp[L1],e2⟩
       .have ne4:¬J.u.kind=(w6 kk).kind:=ne1;simp[B5,L1,k0,k3,k5,k16,k17,k18,G9,AT,hx1,htc,hag,hc1,hk10];refine M3 (λk=>bx1.length+k) (KQ A.p bp (J8 A D1.tv D1.ev D1.lv D1.tys.length D1.efs.length) cx) [.nil,.nil,.nil,.fl,.nil,.nil,.nil,.rw,.nil,.fl,.nil,.nil,.rw,.pu,.al 0,.al 1,.any,.any] 2 (λa b e=>by omega) rfl (by decide) ?_;simp[B5,L1,k0,k3,k5,k16,k17,k18,G9,AT,kq,kq',fl4,fl1,l4,l1,hia,hq,hjl,hxg,Fz,Hq,hs,AH.holes,Dw,Dr,Dq,show ∀x,S0 (AV.int .i64 x)=true from λ_=>rfl,hS,k10',e1,B2,AT,ne4,q1',hjj];exact EF hJ ⟨i+1,by omega,by simp[L1],D9,is9,ov',by simp[L1],e2⟩
 .obtain⟨D',is,ov,k10',H',K',I',G',b',O',N',R',q',s'⟩:=hr;have e:i=l.length:=by omega
  subst e;rw[zg6z,J3,zg6z]at R';rw[List.drop_length]at s';simp[B5,L1,k0,k3,k5,k16,k17,k18,G9];refine hΦ _ _ _ ⟨D',H',K',I',G',b',.inl ⟨rfl,is,ov,by simp[L1,k10'],O',N',R',?_⟩⟩;rw[s'];cases p.parts.drop l.length<;>rfl
theorem eL(m m':HH)(l r:List Int)(J3:l.length<=1099511627776)(hlr:l.length=r.length)(fr:Fr)(h:AH)(hl:fr.length=26)(h0:C7 fr 0=sl m 1 (l.map (AV.int .i64)))(h1:C7 fr 1=sl m' 1 (r.map (AV.int .i64)))(h5:C7 fr 5=.int .i64 0) :
  L9 (lp (A8 (Ax Q) (C2 EV) Cb) (fr,h)) λe G6 h'=>Kp Cb.wr fr G6/\(e=.exit 0/\BY (λa b=>decide (a=b)) l r=true\/e=.ret/\C7 G6 4=.bool false/\BY (λa b=>decide (a=b)) l r=false):=by
 refine W6 rfl fr (λn fr h'=>∃(i:Nat),i+n=l.length/\C7 fr 5=.int .i64 (i:Nat)/\(BY (λa b=>decide (a=b)) (l.drop i) (r.drop i)=BY (λa b=>decide (a=b)) l r)) ?_ l.length h ⟨0,by omega,h5,rfl⟩;rintro J Φ hJ hΦ n Kr H1 K ⟨i,hi,k5,hr⟩;have L1:=K.1.trans hl;have k0:=S6 K 0 h0;have k1:=S6 K 1 h1;clear K;by_cases G9:i<l.length
 .have AT:=AQ i (by omega);have Hr:i<r.length:=by omega
  have hx:=l9 (f:=AV.int .i64) (zf0z G9);have hy:=l9 (f:=AV.int .i64) (zf0z Hr);rw[Lw _ G9 Hr]at hr;generalize l[i]=a at *
  generalize r[i]=b at *
  by_cases hb:a=b
  .rw[decide_eq_true hb,zf6z]at hr;simp[Cb,L1,k0,k1,k5,G9,AT,hx,hy,hb];exact EF hJ ⟨i+1,by omega,by simp[L1],hr⟩
  .rw[decide_eq_false hb,zf2z]at hr;simp[Cb,L1,k0,k1,k5,G9,AT,hx,hy,hb];exact hΦ _ _ _ (.inr ⟨rfl,by simp[L1],hr.symm⟩)
 .rw[zf3z (by omega),zf3z (by omega)]at hr;simp[Cb,L1,k0,k1,k5,G9];exact hΦ _ _ _ (.inl ⟨rfl,hr.symm⟩)
theorem bB(m m':HH)(l r:List Int)(J3:l.length<=1099511627776):pc Q EV [sl m 1 (l.map (AV.int .i64)),sl m' 1 (r.map (AV.int .i64))]=some (.bool (decide (l=r))):=by
 rw[←qL];refine Es IB λfr hl h0 h1=>?_;simp[IB]at hl h0 h1;by_cases he:l.length=r.length
 .simp[IB,hl,h0,h1,he];refine L9.mono (eL m m' l r J3 he _ _ ?_ ?_ ?_ ?_) ?_<;>first|(simp[hl,h0,h1,he];done)|skip
  rintro e G6 h' ⟨K,⟨rfl,he⟩|⟨rfl,h4,he⟩⟩
  .have hl':G6.length=26:=K.1.trans (by simp[hl]);simp[hl',he]
  .simp[h4,he]
 .have hf:BY (λa b=>decide (a=b)) l r=false:=by
   cases h:BY (λa b=>decide (a=b)) l r with
   |false=>rfl
   |true=>exact absurd (LC _ h) he
  have he':¬(l.length:Int)=(r.length:Int):=by omega
  simp[IB,hl,h0,h1,he,he',hf]
theorem SW{n:Nat}(hn:2<=n):∀a b:Nat,(if a<2 then a else n+(a-2))=(if b<2 then b else n+(b-2))->a=b:=λa b h=>by
 split at h<;>split at h<;>omega
theorem eM(m m':HH)(l r:List Pyl)(J3:l.length<=1000000)(hlr:l.length=r.length)(hf:∀p∈l,p.parts.length<=1000000/\p.data.length<=1000000)(k k':AV)(fr:Fr)(h:AH)(hB:h.boxes[0]?=some [k,sl m 4 (l.map Dp)]/\h.boxes[1]?=some [k',sl m' 4 (r.map Dp)])(hl:fr.length=67)(h2:C7 fr 2=.ptr 0 0)(h3:C7 fr 3=.ptr 1 0)(h5:C7 fr 5=.int .i64 0) :
  L9 (lp (A8 (Ax Q) (C2 EU) R3) (fr,h)) λe G6 h'=>Kp R3.wr fr G6/\(e=.exit 0/\BY PR l r=true\/e=.ret/\C7 G6 4=.bool false/\BY PR l r=false):=by
 refine W6 rfl fr (λn fr h'=>∃(i:Nat),i+n=l.length/\C7 fr 5=.int .i64 (i:Nat)/\((h'.boxes[0]?=some [k,sl m 4 (l.map Dp)]/\h'.boxes[1]?=some [k',sl m' 4 (r.map Dp)])/\BY PR (l.drop i) (r.drop i)=BY PR l r)) ?_ l.length h ⟨0,by omega,h5,⟨hB,rfl⟩⟩;rintro J Φ hJ hΦ n Kr H1 K ⟨i,hi,k5,hr⟩;have L1:=K.1.trans hl;have k2:=S6 K 2 h2;have k3:=S6 K 3 h3;clear K;by_cases G9:i<l.length
 .have AT:=AQ i (by omega);obtain⟨⟨hb0,hb1⟩,hr⟩:=hr;obtain⟨bx,F⟩:=H1;simp only at hb0 hb1;have Hr:i<r.length:=by omega
  have hx:=l9 (f:=Dp) (zf0z G9);have hy:=l9 (f:=Dp) (zf0z Hr);obtain⟨f1,f2⟩:=hf l[i] (zg5z G9);rw[Lw _ G9 Hr]at hr;generalize l[i]=p at *
  generalize r[i]=q at *
  have hI1:=bB p.pm q.pm p.parts q.parts (by omega);have hI2:=bB p.dm q.dm p.data q.data (by omega);have lb:=(zf5z.1 hb1).1;have u0:∀X:List (List AV),(bx++X)[0]?=some [k,sl m 4 (l.map Dp)]:=λX=>(zf1z (by omega)).trans hb0;have u1:∀X:List (List AV),(bx++X)[1]?=some [k',sl m' 4 (r.map Dp)]:=λX=>(zf1z (by omega)).trans hb1;have hn2:2<=bx.length:=by omega
  have v0:∀(X:List (List AV)) (h:0<(bx++X).length),(bx++X)[0]'h=[k,sl m 4 (l.map Dp)]:=λX h=>by
   have:=u0 X;rw[zf0z h]at this;exact Option.some.inj this
  have v1:∀(X:List (List AV)) (h:1<(bx++X).length),(bx++X)[1]'h=[k',sl m' 4 (r.map Dp)]:=λX h=>by
   have:=u1 X;rw[zf0z h]at this;exact Option.some.inj this
  have hp:PR p q=decide (p.tag=q.tag/\p.goal=q.goal/\p.parts=q.parts/\p.data=q.data):=rfl;rw[hp]at hr;by_cases c1:p.tag=q.tag
  .by_cases c2:p.goal=q.goal
   .by_cases c3:p.parts=q.parts
    .rw[decide_eq_true c3]at hI1;by_cases c4:p.data=q.data
     .rw[decide_eq_true c4]at hI2;rw[decide_eq_true ⟨c1,c2,c3,c4⟩,zf6z]at hr;simp[R3,L1,k2,k3,k5,G9,AT,hb0];refine M3 (λk=>if k<2 then k else bx.length+(k-2)) (λ_=>True) [.nil,.rb 0,.nil,.nil,.rw,.nil,.rb 1,.nil,.nil,.rw,.al 2,.al 3,.sb 2,.sb 3] 2 (SW hn2) rfl (by decide) ?_
      simp[R3,L1,k2,k3,k5,G9,AT,u0,v0,u1,v1,hx,hy,AH.holes,Dw,Dr,Dq,c1,c2,hI1,hI2];exact EF hJ ⟨i+1,by omega,by simp[L1],⟨u0 _,u1 _⟩,hr⟩
     .rw[decide_eq_false c4]at hI2;rw[decide_eq_false (λh=>c4 h.2.2.2),zf2z]at hr;simp[R3,L1,k2,k3,k5,G9,AT,hb0];refine M3 (λk=>if k<2 then k else bx.length+(k-2)) (λ_=>True) [.nil,.rb 0,.nil,.nil,.rw,.nil,.rb 1,.nil,.nil,.rw,.al 2,.al 3,.sb 2,.sb 3] 2 (SW hn2) rfl (by decide) ?_
      simp[R3,L1,k2,k3,k5,G9,AT,u0,v0,u1,v1,hx,hy,AH.holes,Dw,Dr,Dq,c1,c2,hI1,hI2];exact hΦ _ _ _ (.inr ⟨rfl,by simp[L1],hr.symm⟩)
    .rw[decide_eq_false c3]at hI1;rw[decide_eq_false (λh=>c3 h.2.2.1),zf2z]at hr;simp[R3,L1,k2,k3,k5,G9,AT,hb0];refine M3 (λk=>if k<2 then k else bx.length+(k-2)) (λ_=>True) [.nil,.rb 0,.nil,.nil,.rw,.nil,.rb 1,.nil,.nil,.rw,.al 2,.al 3,.sb 2,.sb 3] 2 (SW hn2) rfl (by decide) ?_
     simp[R3,L1,k2,k3,k5,G9,AT,u0,v0,u1,v1,hx,hy,AH.holes,Dw,Dr,Dq,c1,c2,hI1];exact hΦ _ _ _ (.inr ⟨rfl,by simp[L1],hr.symm⟩)
   .rw[decide_eq_false (λh=>c2 h.2.1),zf2z]at hr;simp[R3,L1,k2,k3,k5,G9,AT,hb0];refine M3 (λk=>if k<2 then k else bx.length+(k-2)) (λ_=>True) [.nil,.rb 0,.nil,.nil,.rw,.nil,.rb 1,.nil,.nil,.rw,.al 2,.al 3,.sb 2,.sb 3] 2 (SW hn2) rfl (by decide) ?_
    simp[R3,L1,k2,k3,k5,G9,AT,u0,v0,u1,v1,hx,hy,AH.holes,Dw,Dr,Dq,c1,c2];exact hΦ _ _ _ (.inr ⟨rfl,by simp[L1],hr.symm⟩)
  .rw[decide_eq_false (λh=>c1 h.1),zf2z]at hr;simp[R3,L1,k2,k3,k5,G9,AT,hb0];refine M3 (λk=>if k<2 then k else bx.length+(k-2)) (λ_=>True) [.nil,.rb 0,.nil,.nil,.rw,.nil,.rb 1,.nil,.nil,.rw,.al 2,.al 3,.sb 2,.sb 3] 2 (SW hn2) rfl (by decide) ?_
   simp[R3,L1,k2,k3,k5,G9,AT,u0,v0,u1,v1,hx,hy,AH.holes,Dw,Dr,Dq,c1];exact hΦ _ _ _ (.inr ⟨rfl,by simp[L1],hr.symm⟩)
 .obtain⟨hb,hr⟩:=hr;rw[zf3z (by omega),zf3z (by omega)]at hr;simp[R3,L1,k2,k3,k5,G9,hb.1];exact hΦ _ _ _ (.inl ⟨rfl,hr.symm⟩)
theorem rZ(t u:Typ)(hf:t.ps.length<=1000000/\∀p∈t.ps,p.parts.length<=1000000/\p.data.length<=1000000):pc Q EU [HG t,HG u]=some (.bool (SD t u)):=by
 obtain⟨J3,hf⟩:=hf;unfold SD;refine Es Ft λfr hl h0 h1=>?_;simp[Ft]at hl h0 h1;by_cases c1:t.kind=u.kind
 .by_cases he:t.ps.length=u.ps.length
  .have he':(t.ps.length:Int)=(u.ps.length:Int):=by omega
   simp[Ft,hl,h0,h1,c1,he,he'];refine L9.mono (eM t.m u.m t.ps u.ps J3 he hf (.int .i64 t.kind) (.int .i64 u.kind) _ _ ?_ ?_ ?_ ?_ ?_) ?_<;>first|(simp[hl,h0,h1,he,c1];done)|skip
   rintro e G6 h' ⟨K,⟨rfl,he⟩|⟨rfl,h4,he⟩⟩
   .have hl':G6.length=67:=K.1.trans (by simp[hl]);simp[hl',he]
   .simp[h4,he]
  .have hf:BY PR t.ps u.ps=false:=by
    cases h:BY PR t.ps u.ps with
    |false=>rfl
    |true=>exact absurd (LC _ h) he
   have he':¬(t.ps.length:Int)=(u.ps.length:Int):=by omega
   simp[Ft,hl,h0,h1,c1,he,he',hf]
 .simp[Ft,hl,h0,h1,c1]
def dk(p:Pyl):Bool:=!decide (60<(p.tag.size:Int))&&!decide (12<(p.parts.length:Int))&&!decide (12<(p.data.length:Int))
def Zx(u:Typ):Bool:=!decide (12<(u.ps.length:Int))&&u.ps.all dk
theorem eI(m:HH)(l:List Pyl)(J3:l.length<=1048576)(k0:AV)(fr:Fr)(h:AH)(hB:h.boxes[0]?=some [k0,sl m 4 (l.map Dp)])(hl:fr.length=37)(h1:C7 fr 1=.ptr 0 0)(h3:C7 fr 3=.int .i64 0) :
  L9 (lp (A8 (Ax Q) (C2 Gw) BC) (fr,h)) λe G6 h'=>Kp BC.wr fr G6/\(e=.exit 0/\l.all dk=true\/e=.ret/\C7 G6 2=.bool false/\l.all dk=false):=by
 refine W6 rfl fr (λn fr h'=>∃(i:Nat),i+n=l.length/\C7 fr 3=.int .i64 (i:Nat)/\(h'.boxes[0]?=some [k0,sl m 4 (l.map Dp)]/\(l.drop i).all dk=l.all dk)) ?_ l.length h ⟨0,by omega,h3,⟨hB,rfl⟩⟩;rintro J Φ hJ hΦ n Kr H1 K ⟨i,hi,k3,hr⟩;have L1:=K.1.trans hl;have k1:=S6 K 1 h1;clear K;by_cases G9:i<l.length
 .have AT:=AQ i (by omega);obtain⟨hb,hr⟩:=hr;obtain⟨bx,F⟩:=H1;simp only at hb;have hb':∀X:List (List AV),(bx++X)[0]?=some [k0,sl m 4 (l.map Dp)]:=λX=>(zf1z (zf5z.1 hb).1).trans hb;have hx:=l9 (f:=Dp) (zf0z G9);rw[zf4z G9,List.all_cons]at hr;generalize l[i]=p at *
  have hp:dk p=(!decide (60<(p.tag.size:Int))&&!decide (12<(p.parts.length:Int))&&!decide (12<(p.data.length:Int))):=rfl;rw[hp]at hr;generalize h1:(p.tag.size:Int)=N1 at *
  generalize h2:(p.parts.length:Int)=N2 at *
  generalize h3:(p.data.length:Int)=N3 at *
  by_cases c1:60<N1
  .simp only[c1,decide_true,zg1z,zf2z]at hr;simp[BC,L1,k1,k3,G9,AT,hb,hx,h1,c1];exact hΦ _ _ _ (.inr ⟨rfl,by simp[L1],hr.symm⟩)
  .by_cases c2:12<N2
   .simp only[c1,c2,decide_true,decide_false,zg1z,zf9z,zf6z,zf2z]at hr;simp[BC,L1,k1,k3,G9,AT,hb,hx,h1,h2,c1,c2];exact hΦ _ _ _ (.inr ⟨rfl,by simp[L1],hr.symm⟩)
   .by_cases c3:12<N3
    .simp only[c1,c2,c3,decide_true,decide_false,zg1z,zf9z,zf6z,zf2z]at hr;simp[BC,L1,k1,k3,G9,AT,hb,hx,h1,h2,h3,c1,c2,c3];exact hΦ _ _ _ (.inr ⟨rfl,by simp[L1],hr.symm⟩)
    .simp only[c1,c2,c3,decide_false,zf9z,zf6z]at hr;simp[BC,L1,k1,k3,G9,AT,hb,hx,h1,h2,h3,c1,c2,c3];exact EF hJ ⟨i+1,by omega,by simp[L1],hb' _,hr⟩
 .obtain⟨hb,hr⟩:=hr;rw[zf3z (by omega)]at hr;simp[BC,L1,k1,k3,G9,hb];exact hΦ _ _ _ (.inl ⟨rfl,hr.symm⟩)
theorem rR(u:Typ)(J3:u.ps.length<=1048576):pc Q Gw [HG u]=some (.bool (Zx u)):=by
 unfold Zx;generalize hN:(u.ps.length:Int)=N;refine m6 JN λfr hl h0=>?_;simp[JN]at hl h0;by_cases c1:12<N
 .simp[JN,hl,h0,hN,c1]
 .simp[JN,hl,h0,hN,c1];refine L9.mono (eI u.m u.ps J3 (.int .i64 u.kind) _ _ ?_ ?_ ?_ ?_) ?_<;>first|(simp[hl,h0,hN];done)|skip
  rintro e G6 h' ⟨K,⟨rfl,he⟩|⟨rfl,h4,he⟩⟩
  .have hl':G6.length=37:=K.1.trans (by simp[hl]);simp[hl',he]
  .simp[h4,he]
end Go.Abs.Q
