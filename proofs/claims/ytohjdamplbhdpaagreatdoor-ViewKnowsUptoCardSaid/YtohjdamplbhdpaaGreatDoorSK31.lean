/- A part of the proof. -/
import Derived.Test.YtohjdamplbhdpaaGreatDoorSK30
set_option linter.all false
open List renaming drop_eq_nil_of_le->A0A,length_map->A0B,mem_map_of_mem->A0C,map_cons->A0E,drop_eq_getElem_cons->A0F,getElem?_eq_some_iff->A0G,getElem?_eq_getElem->A0H,getElem_mem->A0I,mem_map->A0J,append_eq_nil_iff->A0K,mem_cons_of_mem->A0L,length_append->A0N,mem_cons_self->A0O,not_mem_nil->A0P,map_map->A0Q
open Nat renaming le_refl->A0D,le_trans->A0R
open Bool renaming false_eq_true->A0M
namespace Go.Abs.Q
open Go.Proofs
attribute [local simp] D9 E4 fin I8 G6 P7 M4 R4 R3
def cB:Tm:=.mk 0 (bs []) 0 (true,false) []
noncomputable def Lq (k:List Tm) (i:Int):List Tm->Option (Int×Tm×Int)
 | []=>none
 |t::l=>if (d9 k t).1≠0 then some (0,cB,(d9 k t).1)else if (d9 k t).2=true then Lq k i l else some (i,t,13)
def Xj (x:Int×Tm×Int):Int×Tm×Int:=(x.1,E8 x.2.1,x.2.2)
theorem Tu {k k':I6} (h:k.map E8=k'.map E8) (i:Int):∀{l l':I6},l.map E8=l'.map E8->(Lq k i l).map Xj=(Lq k' i l').map Xj
 | [],[],_=>rfl
 | [],_::_,e=>by simp at e
 |_::_,[],e=>by simp at e
 |t::l,t'::l',e=>by
  rw[A0E,A0E,List.cons.injEq]at e;have hd:=Pm h e.1;rw[Lq,Lq,hd];split
  .rfl
  .split
   .exact Tu h i e.2
   .simp only[Option.map_some,Xj,e.1]
theorem lC (R kk:I6) (mr mk:J3) (B8:R.length<=1000) (hR:∀x∈R,GoodT x/\x.size<=1000) (hk:∀x∈kk,GoodT x) (HH:kk.length<=10000) (q:Int) (C0 Z SC:G1) (hZ:Z.length=4) (hZm:EA Z=false) (fr:Fr) (h:AH) (B0:List (List AV)) (hB0:h.boxes=C0::Z::SC::B0) (hl:fr.length=83) (h3:A0 fr 3=.ptr 1 0) (h7:A0 fr 7=.int .i64 q) (h9:A0 fr 9=sl mk 4 (A4 kk)) (h56:A0 fr 56=sl mr 4 (A4 R)) (h57:A0 fr 57=.int .i64 R.length) (h58:A0 fr 58=.int .i64 0) :
  B9 (lp (A3 (L5 Q) (E5 Z1) U0) (fr,h)) λe C6 h'=>Kp U0.wr fr C6/\((e=.exit 2/\Lq kk q R=none/\∃B,h'.boxes=C0::Z::SC::B)\/(e=.ret/\∃(a c:Int) (t t':Tm),Lq kk q R=some (a,t',c)/\E8 t=E8 t'/\A0 C6 2=.int .i64 a/\A0 C6 4=.int .i64 c/\∃B,h'.boxes=C0::(B7 t).cells::SC::B)):=by
 refine B5 rfl fr (λn fr h'=>∃(i:Nat),i+n=R.length/\A0 fr 58=.int .i64 (i:Nat)/\(∃B,h'.boxes=C0::Z::SC::B)/\Lq kk q (R.drop i)=Lq kk q R) ?_ R.length h ⟨0,by omega,h58,⟨_,hB0⟩,rfl⟩;rintro J Φ hJ hΦ n E1 H1 K ⟨i,hi,k58,hr⟩;have A6:=K.1.trans hl;have k3:=A9 K 3 h3;have k7:=A9 K 7 h7;have k9:=A9 K 9 h9;have k56:=A9 K 56 h56;have k57:=A9 K 57 h57;clear K;by_cases A7:i<R.length
 .have Q6:=D1 i (by omega);obtain⟨⟨B,hB⟩,hr⟩:=hr;obtain⟨bx,fams⟩:=H1;simp only at hB;subst hB;have hx:=N6 A7;have hZd:Z.drop 4=[]:=A0A (by omega);rw[A0F A7,Lq]at hr;obtain⟨hg,I9⟩:=hR _ (A0I A7);generalize R[i]=t at *
  have hD:=YJ mk kk t hk hg (by omega);generalize hd:d9 kk t=d at *
  obtain⟨de,db⟩:=d;simp only at hD hr;by_cases hde:de=0
  .subst hde;rw[if_neg (by simp)]at hr;cases db with
   |true =>
    simp only[if_true]at hr;simp[U0,A6,k9,k56,k57,k58,A7,Q6,hx,hD];exact G8 hJ ⟨i+1,by omega,by simp[A6],⟨_,rfl⟩,hr⟩
   |false =>
    simp only[A0M,if_false]at hr;obtain⟨m',l',hC,hCe⟩:=SX _ (true,true) [t] (A0D _) (by simp only[Tm.sizes];omega);rw[show A4 [t]=[B7 t] from rfl]at hC;have GI:l'.length=1:=by
     have:=congrArg List.length hCe;rw[E3,E3,A0B,A0B]at this;simpa using this
    obtain⟨t2,rfl⟩:∃t2,l'=[t2]:=by
     match l',GI with
     | [t2],_=>exact⟨t2,rfl⟩
    have he2:E8 t2=E8 t:=by
     rw[E3,E3]at hCe;simpa using hCe
    rw[show A4 [t2]=[B7 t2] from rfl]at hC;simp[U0,A6,k3,k7,k9,k56,k57,k58,A7,hx,hD,A5,hC,hZ,hZm,L9];exact hΦ _ _ _ (.inr ⟨rfl,q,13,t2,t,hr.symm,he2,by simp[A6],by simp[A6],B++[(B7 t).cells],by simp[hZd]⟩)
  .rw[if_pos hde]at hr;simp[U0,A6,k3,k9,k56,k57,k58,A7,hx,hD,hde,D2,E7,hZ,hZm,L9];refine hΦ _ _ _ (.inr ⟨rfl,0,de,cB,cB,hr.symm,rfl,by simp[A6],by simp[A6],B++[(B7 t).cells],?_⟩);simp[cB,Tm.kind,Tm.name,Tm.sort,Tm.cm,Tm.kids,A4,hZd];exact IN 4
 .obtain⟨⟨B,hB⟩,hr⟩:=hr;rw[A0A (by omega),Lq]at hr;simp[U0,A6,k57,k58,A7];exact hΦ _ _ _ (.inl ⟨rfl,hr.symm,B,hB⟩)
open Classical in
noncomputable def Rt (t:Tm):List Tm:=if h:∃R,P8 R (alls [t])then h.choose else []
theorem Tt {t t':Tm} {R:I6} (h:P8 R (alls [t])) (e:E8 t=E8 t'):R.map E8=(Rt t').map E8:=by
 have hx:∃R,P8 R (alls [t']):=⟨R,Ko h (Jl (by simp[e]))⟩;unfold Rt;rw[dif_pos hx];have:=ZG (Ko h (Jl (l:=[t]) (l':=[t']) (by simp[e]))) hx.choose_spec λ_=>Iff.rfl
 rwa [E3,E3]at this
noncomputable def Vi (kf:ByteArray->Nat->List Tm):Nat->List Ste->Int×Tm×Int
 |_,[]=>(0,cB,0)
 |i,s::l=>if (d9 (kf s.frm i) s.msg).1≠0 then (0,cB,(d9 (kf s.frm i) s.msg).1)else if (d9 (kf s.frm i) s.msg).2=true then Vi kf (i+1) l else
  match Lq (kf s.frm i) i (Rt s.msg)with
  |some x=>x
  |none=>Vi kf (i+1) l
theorem kR {kf kf':ByteArray->Nat->List Tm}:∀{l l':List Ste} (i:Nat),(∀s∈l,∀j,j<i+l.length->(kf s.frm j).map E8=(kf' s.frm j).map E8)->l.map KV=l'.map KV->Xj (Vi kf i l)=Xj (Vi kf' i l')
 | [],[],i,_,_=>rfl
 | [],_::_,i,_,e=>by simp at e
 |_::_,[],i,_,e=>by simp at e
 |s::l,s'::l',i,hk,e=>by
  rw[A0E,A0E,List.cons.injEq]at e;obtain⟨e1,e2⟩:=e;unfold KV at e1;injection e1 with a1 a2 a3 a4
  have hki:=hk s A0O i (by simp);have ih:=kR (kf:=kf) (kf':=kf') (l:=l) (l':=l') (i+1) (λx hx j hj=>hk x (A0L _ hx) j (by simp;omega)) e2;have hd:=Pm hki a3;have hsub:(Rt s.msg).map E8=(Rt s'.msg).map E8:=by
   by_cases hx:∃R,P8 R (alls [s.msg])
   .obtain⟨R,hR⟩:=hx;rw[←Tt hR rfl,Tt hR a3]
   .have hx':¬ ∃R,P8 R (alls [s'.msg]):=λ⟨R,hR⟩=>hx ⟨R,Ko hR (Jl (by simp[a3]))⟩;unfold Rt;rw[dif_neg hx,dif_neg hx']
  have hs:=Tu hki (i:Int) hsub;rw[Vi,Vi,←a1,hd];split
  .rfl
  .split
   .exact ih
   .generalize Lq (kf s.frm i) i (Rt s.msg)=o1 at hs;generalize Lq (kf' s.frm i) i (Rt s'.msg)=o2 at hs;cases o1 with
    |none =>
     cases o2 with
     |none=>exact ih
     |some y=>simp at hs
    |some x =>
     cases o2 with
     |none=>simp at hs
     |some y=>simpa using hs
theorem lD (r na:Nar) (F:Fine na) (S:Lens na) (hz:(Z5 na).2=0) (hR:Right na) (he:Pn r=Cn (J8 (B4 na) (G3 na)) na) (C0 Z:G1) (hZ:Z.length=4) (hZm:EA Z=false) (hstl:r.steps.length<=1000) (fr:Fr) (h:AH) (B0:List (List AV)) (hB0:h.boxes=C0::Z::(Ee r na).cells::B0) (hl:fr.length=83) (h3:A0 fr 3=.ptr 1 0) (h5:A0 fr 5=.ptr 2 0) (h27:A0 fr 27=sl r.sm 7 (r.steps.map DY)) (h28:A0 fr 28=.int .i64 r.steps.length) (h29:A0 fr 29=.int .i64 0) :
  B9 (lp (A3 (L5 Q) (E5 Z1) U1) (fr,h)) λe C6 h'=>Kp U1.wr fr C6/\((e=.exit 0/\Vi (λme i=>Ni (true,true) r na me (OQ r.roles me) i) 0 r.steps=(0,cB,0)/\∃B,h'.boxes=C0::Z::(Ee r na).cells::B)\/(e=.ret/\∃(x:Int×Tm×Int) (t:Tm),Xj (Vi (λme i=>Ni (true,true) r na me (OQ r.roles me) i) 0 r.steps)=Xj x/\E8 t=E8 x.2.1/\A0 C6 2=.int .i64 x.1/\A0 C6 4=.int .i64 x.2.2/\∃B,h'.boxes=C0::(B7 t).cells::(Ee r na).cells::B)):=by
 refine B5 rfl fr (λn fr h'=>∃(i:Nat),i+n=r.steps.length/\A0 fr 29=.int .i64 (i:Nat)/\(∃B,h'.boxes=C0::Z::(Ee r na).cells::B)/\Vi (λme i=>Ni (true,true) r na me (OQ r.roles me) i) i (r.steps.drop i)=Vi (λme i=>Ni (true,true) r na me (OQ r.roles me) i) 0 r.steps) ?_ r.steps.length h ⟨0,by omega,h29,⟨_,hB0⟩,rfl⟩;rintro J Φ hJ hΦ n E1 H1 K ⟨i,hi,k29,hr⟩;have A6:=K.1.trans hl;have k3:=A9 K 3 h3;have k5:=A9 K 5 h5;have k27:=A9 K 27 h27;have k28:=A9 K 28 h28;clear K;by_cases A7:i<r.steps.length
 .have Q6:=D1 i (by omega);obtain⟨⟨B,hB⟩,hr⟩:=hr;obtain⟨bx,fams⟩:=H1;simp only at hB;subst hB;have sb:=w8 r na;have hx:=G0 (f:=DY) (A0H A7);have Ow:=A0I A7;rw[A0F A7,Vi]at hr;obtain⟨hmA,hmS⟩:=aM hR he Ow;obtain⟨hsm,-⟩:=HD hR.nar he;obtain⟨e2,e3,e5⟩:=Ej he;have hrl:=hsm.roles;have hfr:r.steps[i].frm∈r.roles:=by
   have hm:KV r.steps[i]∈na.steps.map (Cd (J8 (B4 na) (G3 na))):=by rw[←(i5 he).2.2.2.2.1];exact A0C Ow
   obtain⟨s',hs',e⟩:=A0J.1 hm;unfold KV Cd at e;injection e with e _ _ _
   rw[←e,e2];exact(Ny (hR.steps s' hs')).1
  generalize r.steps[i]=s at *
  obtain⟨x1,x2⟩:=Se hfr;have hrole:=ax r na hrl s.frm;rw[x2]at hrole;obtain⟨mk,hK⟩:=Rj r na F S hz hsm e2 (OQ r.roles s.frm) s.frm x1 i (by omega);have Hr:∀x∈Ni (true,true) r na s.frm (OQ r.roles s.frm) i,GoodT x:=λx hx=>by
   obtain⟨h1,h2⟩:=UY hR he (by rw[←e2];exact hfr) hx;exact h1.good h2
  have HH:=Xs (m:=(true,true)) (me:=s.frm) (role:=OQ r.roles s.frm) (q:=i) hsm;generalize Rx:Ni (true,true) r na s.frm (OQ r.roles s.frm) i=kk at *
  have hD:=YJ mk kk s.msg Hr (hmA.good hmS) (by omega);obtain⟨R,mr,hSub,hSet,hRl⟩:=TE (true,true) [s.msg] (by simp only[Tm.sizes];omega);rw[show A4 [s.msg]=[B7 s.msg] from rfl]at hSub;simp only[Tm.sizes]at hRl;have hRg:=mb hSet hmA hmS;have hse:=Tu (k:=kk) (k':=kk) rfl (i:Int) (Tt hSet rfl);generalize hd:d9 kk s.msg=d at *
  obtain⟨de,db⟩:=d;simp only at hD hr;by_cases hde:de=0
  .subst hde;rw[if_neg (by simp)]at hr;cases db with
   |true =>
    simp only[if_true]at hr;simp[U1,A6,k5,k27,k28,k29,A7,Q6,sb,hx,hrole,hK,hD];exact G8 hJ ⟨i+1,by omega,by simp[A6],⟨B++[(DY s).cells],by rw[sb];simp⟩,hr⟩
   |false =>
    simp only[A0M,if_false]at hr;simp[U1,A6,k5,k27,k28,k29,A7,sb,hx,hrole,hK,hD,A5,hSub];refine B9.mono (lC R kk mr mk (by omega) (λx hx=>by obtain⟨h1,h2⟩:=hRg x hx;exact⟨h1.good h2,by omega⟩) Hr HH (i:Int) C0 Z (Ee r na).cells hZ hZm _ _ (B++[(DY s).cells]) ?_ ?_ ?_ ?_ ?_ ?_ ?_ ?_) ?_<;>first|(simp[A6,k3,sb];done)|skip
    rintro e V8 ⟨bx2,F2⟩ ⟨K,⟨rfl,hn,B2,hB2⟩|⟨rfl,a,c,t,t',hso,het,l2,l4,B2,hB2⟩⟩
    .simp only at hB2;subst hB2;have GI:V8.length=83:=K.1.trans (by simp[A6]);have k29':A0 V8 29=.int .i64 (i:Nat):=A9 K 29 (by simp[k29]);have k3':A0 V8 3=.ptr 1 0:=A9 K 3 (by simp[k3]);have k5':A0 V8 5=.ptr 2 0:=A9 K 5 (by simp[k5]);have k27':=A9 K 27 (by simp[k27]:_=sl r.sm 7 (r.steps.map DY));have k28':=A9 K 28 (by simp[k28]:_=AV.int .i64 r.steps.length);clear K;rw[hn]at hse;have hnone:Lq kk (i:Int) (Rt s.msg)=none:=by
      cases hq:Lq kk (i:Int) (Rt s.msg)with
      |none=>rfl
      |some x=>rw[hq]at hse;simp at hse
     rw[hnone]at hr;simp only at hr;simp[GI,k29',Q6];exact G8 hJ ⟨i+1,by omega,by simp[GI],⟨B2,rfl⟩,hr⟩
    .simp only at hB2;subst hB2;rw[hso]at hse;obtain⟨y,hy,hye⟩:∃y,Lq kk (i:Int) (Rt s.msg)=some y/\Xj (a,t',c)=Xj y:=by
      cases hq:Lq kk (i:Int) (Rt s.msg)with
      |none=>rw[hq]at hse;simp at hse
      |some y=>rw[hq]at hse;exact⟨y,rfl,by simpa using hse⟩
     rw[hy]at hr;simp only at hr;simp;exact hΦ _ _ _ (.inr ⟨rfl,(a,t',c),t,by rw[←hr,hye],het,l2,l4,B2,by simp⟩)
  .rw[if_pos hde]at hr;have hZd:Z.drop 4=[]:=A0A (by omega);simp[U1,A6,k3,k5,k27,k28,k29,A7,sb,hx,hrole,hK,hD,hde,D2,E7,hZ,hZm,L9];refine hΦ _ _ _ (.inr ⟨rfl,(0,cB,de),cB,by rw[←hr],rfl,by simp[A6],by simp[A6],B++[(DY s).cells],?_⟩);simp[cB,Tm.kind,Tm.name,Tm.sort,Tm.cm,Tm.kids,A4,hZd,sb];exact IN 4
 .obtain⟨⟨B,hB⟩,hr⟩:=hr;rw[A0A (by omega),Vi]at hr;simp[U1,A6,k28,k29,A7];exact hΦ _ _ _ (.inl ⟨rfl,hr.symm,B,hB⟩)
noncomputable def RR (n:Nar):Int×Tm×Int :=
 if (Z5 n).2≠0 then (0,E8 cB,(Z5 n).2)else Xj (Vi (λme i=>Pq (J8 (B4 n) (G3 n)) n me (OQ n.roles me) i) 0 (n.steps.map (Cd (J8 (B4 n) (G3 n)))))
theorem UX {f:ByteArray->Int} {n:Nar} {me:I3} {role q:Nat} (hd:GY n=0) {r:Nar} (he:Pn r=Cn f n) (hme:n.roles[role]?=some me):(Pq f n me role q).map E8=Pq f n me role q:=by
 rw[←Oz (m:=(true,true)) hd he hme q,A0Q];congr 1;funext x;exact WL x
theorem pw {l l':List Ste} {f:ByteArray->Int} (h:l.map KV=l'.map (Cd f)):l.map KV=(l'.map (Cd f)).map KV:=by
 have:=congrArg (List.map KV) h;rw[←this,A0Q];congr 1;funext s;simp only[Function.comp,KV,WL s.msg]
theorem nq {r n:Nar} (hR:Right n) (he:Pn r=Cn (J8 (B4 n) (G3 n)) n) (kf:ByteArray->Nat->List Tm) (hk:∀me∈n.roles,∀q,(kf me q).map E8=Pq (J8 (B4 n) (G3 n)) n me (OQ n.roles me) q):Xj (Vi kf 0 r.steps)=Xj (Vi (λme i=>Pq (J8 (B4 n) (G3 n)) n me (OQ n.roles me) i) 0 (n.steps.map (Cd (J8 (B4 n) (G3 n))))):=by
 refine kR 0 (λs hs j _=>?_) (pw (i5 he).2.2.2.2.1);have hm:KV s∈n.steps.map (Cd (J8 (B4 n) (G3 n))):=by rw[←(i5 he).2.2.2.2.1];exact A0C hs
 obtain⟨s',hs',e⟩:=A0J.1 hm;unfold KV Cd at e;injection e with e _ _ _
 have hfr:s.frm∈n.roles:=by rw[←e];exact(Ny (hR.steps s' hs')).1
 rw[hk s.frm hfr j,UX hR.dec he (Se hfr).1]
theorem fS (n:Nar) (F:Fine n) (S:Lens n):∃t,pc Q Z1 [F0 n]=some (.tup [.int .i64 (RR n).1,B7 t,.int .i64 (RR n).2.2])/\E8 t=(RR n).2.1:=by
 suffices hq:∃v,pc Q Z1 [F0 n]=some v/\∃t,v=.tup [.int .i64 (RR n).1,B7 t,.int .i64 (RR n).2.2]/\E8 t=(RR n).2.1 by
  obtain⟨v,h1,t,rfl,h2⟩:=hq;exact⟨t,h1,h2⟩
 obtain⟨r,hO,hE⟩:=YT n F S;have nb:=D8 n;have sb:=w8 r n;have hz4:B7 cB=.agg [.int .i64 0,.str (bs []),.int .i64 0,.vs true 0 []]:=by rw[IN 4];rfl
 by_cases h1:(Z5 n).2=0
 .have he:=hE h1;obtain⟨-,hR⟩:=DB h1;obtain⟨hsm,-⟩:=HD hR.nar he;obtain⟨e2,-,-⟩:=Ej he;rw[h1]at hO;have hX:RR n=Xj (Vi (λme i=>Ni (true,true) r n me (OQ r.roles me) i) 0 r.steps):=by
   unfold RR;rw[if_neg (by simp[h1])];refine(nq hR he _ λme hme q=>?_).symm;rw[e2];exact Oz hR.dec he (Se hme).1 q
  rw[hX];refine HL AK λΨ hΨ fr hl h0=>?_;simp[AK]at hl h0;simp[AK,hl,h0,nb,sb,hO];refine B9.mono (lD r n F S h1 hR he (F0 n).cells [.int .i64 0,.str (bs []),.int .i64 0,.vs true 0 []] rfl rfl hsm.steps _ _ [] ?_ ?_ ?_ ?_ ?_ ?_ ?_) ?_<;>first|(simp[hl,nb,sb];done)|skip
  rintro e E1 ⟨bx,F1⟩ ⟨K,⟨rfl,hn,B2,hB2⟩|⟨rfl,x,t,hx,het,l2,l4,B2,hB2⟩⟩
  .simp only at hB2;subst hB2;have A6:E1.length=83:=K.1.trans (by simp[hl]);have k3':A0 E1 3=.ptr 1 0:=A9 K 3 (by simp[hl]);rw[hn]at hΨ;simp[A6,k3',D2,E7,L9];exact hΨ _ ⟨cB,by rw[hz4];rfl,rfl⟩
  .simp only at hB2;subst hB2;have A6:E1.length=83:=K.1.trans (by simp[hl]);have k3':A0 E1 3=.ptr 1 0:=A9 K 3 (by simp[hl]);rw[hx]at hΨ;simp[l2,l4,k3'];exact hΨ _ ⟨t,rfl,het⟩
 .have hX:RR n=(0,E8 cB,(Z5 n).2):=by unfold RR;rw[if_pos h1]
  rw[hX];generalize (Z5 n).2=e at *
  have P1:=h1;refine HL AK λΨ hΨ fr hl h0=>?_;simp[AK]at hl h0;simp[AK,hl,h0,nb,sb,hO,P1,D2,E7,L9];exact hΨ _ ⟨cB,by rw[hz4];rfl,rfl⟩
end Go.Abs.Q
namespace Go.Abs
def ZC (L:Nat) (wr:Bool) (sz:Nat) (xs:List AV) (v:AV) (h:AH):Prop:=(xs.length<=1/\∃b,v=sl (true,b) sz xs)\/(xs≠[]/\∃k,L<=k/\v=.sl k xs.length 0 xs.length/\h.fams[k]?=some ⟨xs,sz,wr⟩)
theorem ZC.a {L:Nat} {wr:Bool} {sz:Nat} {xs:G1} {v:AV} {h:AH} (hg:ZC L wr sz xs v h):Ie wr sz xs v h:=by
 rcases hg with hg|⟨h1,k,_,h2,h3⟩
 .exact .inl hg.2
 .exact .inr ⟨h1,k,h2,h3⟩
theorem Oa {L:Nat} {wr:Bool} {sz:Nat} {xs:G1} {v:AV} {h h':AH} (hg:ZC L wr sz xs v h) (e:h'.fams=h.fams):ZC L wr sz xs v h':=by
 rcases hg with hg|⟨h1,k,h0,h2,h3⟩
 .exact .inl hg
 .exact .inr ⟨h1,k,h0,h2,by rw[e];exact h3⟩
theorem ZC.mono {L L':Nat} {wr:Bool} {sz:Nat} {xs:G1} {v:AV} {h:AH} (hg:ZC L wr sz xs v h) (hL:L'<=L):ZC L' wr sz xs v h:=by
 rcases hg with hg|⟨h1,k,h0,h2,h3⟩
 .exact .inl hg
 .exact .inr ⟨h1,k,by omega,h2,h3⟩
theorem qi {L:Nat} {wr:Bool} {sz:Nat} {xs:G1} {v:AV} {h h':AH} (hg:ZC L wr sz xs v h) (e:∀j,j<h.fams.length->h'.fams[j]?=h.fams[j]?):ZC L wr sz xs v h':=by
 rcases hg with hg|⟨h1,k,h0,h2,h3⟩
 .exact .inl hg
 .exact .inr ⟨h1,k,h0,h2,by rw[e _ (A0G.1 h3).1];exact h3⟩
theorem nH {c:Ctx} {L sz bytes:Nat} {xs ys:G1} {v x:AV} {h:AH} (hL:L<=h.fams.length) (hg:ZC L c.mutApp sz xs v h) (hx:y8 h sz x=some ys) (hb:(xs.length+ys.length)*bytes<=H6/\xs.length+ys.length<=maxLen) :
  ∃v' F',N1 c h sz bytes v x=some (v',⟨h.boxes,F'⟩)/\ZC L c.mutApp sz (xs++ys) v' ⟨h.boxes,F'⟩/\L<=F'.length/\∀j,j<L->F'[j]?=h.fams[j]?:=by
 rcases hg with ⟨hx1,b,rfl⟩|⟨P1,k,hk0,rfl,hk⟩
 .simp only[sl,N1,hx];by_cases hy:ys.length=0
  .rw[if_pos hy];have:ys=[]:=List.eq_nil_of_length_eq_zero hy;subst this;exact⟨_,h.fams,rfl,.inl ⟨by simpa using hx1,b,by simp[sl]⟩,hL,λ_ _=>rfl⟩
  .rw[if_neg hy];have hc:((if (xs.isEmpty&&!b)=true then 0 else sz)=sz\/xs.length=0)/\(xs.length+ys.length)*bytes<=H6/\xs.length+ys.length<=maxLen:=by
    refine⟨?_,hb⟩;cases xs with
    |nil=>exact .inr rfl
    |cons a l=>exact .inl rfl
   rw[if_pos hc];refine⟨_,_,rfl,.inr ⟨by intro e;rw[A0K]at e;rw[e.2]at hy;exact hy rfl,h.fams.length,hL,by rw[A0N],by simp⟩,by simp;omega,λj hj=>List.getElem?_append_left (by omega)⟩
 .simp only[N1,hx,hk];rw[if_pos ⟨trivial,trivial,by omega,hb.1,hb.2⟩];have HH:=(A0G.1 hk).1;refine⟨_,_,rfl,.inr ⟨by intro e;rw[A0K]at e;exact P1 e.1,k,hk0,by rw[A0N],by simp[HH]⟩,by simpa using hL,λj hj=>?_⟩;exact List.getElem?_set_ne (by omega)
end Go.Abs
namespace Go.Abs.Q
open Go.Proofs
attribute [local simp] D9 E4 fin I8 G6 P7 M4 R4 R3
noncomputable def MA (k:List Tm):Nat->Tm->List Tm
 |0,_=>[]
 |n+1,t =>
  if Ew t (bs [112,97,105,114])=true then MA k n (O8 t 0)++MA k n (O8 t 1)
  else if Ew t (bs [115,105,103,110])=true then MA k n (O8 t 0)
  else if Ew t (bs [101,110,99])=true then (if (d9 k (O8 t 1)).2=true then MA k n (O8 t 0)else [t])
  else if Ew t (bs [97,101,110,99])=true then (if (d9 k (O8 (O8 t 1) 0)).2=true then MA k n (O8 t 0)else if (d9 k (O8 t 0)).2=true then []else [t])
  else if Ew t (bs [104,97,115,104])=true then (if (d9 k (O8 t 0)).2=true then []else [t])else []
def WA (t:Tm):Prop:=∀x∈GW t,Ew x (bs [97,101,110,99])=true->Ew (O8 x 1) (bs [112,107])=true
theorem WA.kid {t x:Tm} (h:WA t) (hx:x∈t.kids):WA x:=λy hy=>h y (by
 rw[Cp,K6];exact A0L _ (List.mem_flatMap.2 ⟨x,hx,hy⟩))
theorem WA.root {t:Tm} (h:WA t):Ew t (bs [97,101,110,99])=true->Ew (O8 t 1) (bs [112,107])=true:=h t (by rw[Cp];exact A0O)
theorem YQ (m:J3) (k:I6) (t:Tm) (hk:∀x∈k,GoodT x) (ht:GoodT t) (HH:k.length<=1048576):pc Q Iw [sl m 4 (A4 k),B7 t]=some (.bool (d9 k t).2):=by
 have hD:=YJ m k t hk ht HH;have hT:(d9 k t).2=true->(d9 k t).1=0:=λh=>(gZ h).1;generalize d9 k t=d at *
 obtain⟨e,b⟩:=d;simp only at hD hT;cases b with
 |false =>
  refine O2 JP λfr hl h0 h1=>?_;simp[JP]at hl h0 h1;simp[JP,hl,h0,h1,hD]
 |true =>
  have hT0:=hT rfl;subst hT0;refine O2 JP λfr hl h0 h1=>?_;simp[JP]at hl h0 h1;simp[JP,hl,h0,h1,hD]
theorem ZL:bs [112,97,105,114]≠bs [115,105,103,110]/\bs [112,97,105,114]≠bs [101,110,99]/\bs [112,97,105,114]≠bs [97,101,110,99]/\bs [112,97,105,114]≠bs [104,97,115,104]/\bs [115,105,103,110]≠bs [112,97,105,114]/\bs [115,105,103,110]≠bs [101,110,99]/\bs [115,105,103,110]≠bs [97,101,110,99]/\bs [115,105,103,110]≠bs [104,97,115,104]/\bs [101,110,99]≠bs [112,97,105,114]/\bs [101,110,99]≠bs [115,105,103,110]/\bs [101,110,99]≠bs [97,101,110,99]/\bs [101,110,99]≠bs [104,97,115,104]/\bs [97,101,110,99]≠bs [112,97,105,114]/\bs [97,101,110,99]≠bs [115,105,103,110]/\bs [97,101,110,99]≠bs [101,110,99]/\bs [97,101,110,99]≠bs [104,97,115,104]/\bs [104,97,115,104]≠bs [112,97,105,114]/\bs [104,97,115,104]≠bs [115,105,103,110]/\bs [104,97,115,104]≠bs [101,110,99]/\bs [104,97,115,104]≠bs [97,101,110,99]:=by decide
theorem jL (m:J3) (k:I6) (hk:∀x∈k,GoodT x) (HH:k.length<=1048576):∀(N:Nat) (t:Tm),t.size<=N->Io t->WA t->t.size<=40->∀h:AH,
  ∃v h',rc Q Q0 [sl m 4 (A4 k),B7 t] h=some (v,h')/\ZC h.fams.length true 4 (A4 (MA k N t)) v h'/\(MA k N t).length<=t.size/\(∃B,h'.boxes=h.boxes++B)/\h.fams.length<=h'.fams.length/\∀j,j<h.fams.length->h'.fams[j]?=h.fams[j]?:=by
 intro N
 induction N with
 |zero=>intro t hs;have:=t.size_pos;omega
 |succ N ih0 =>
  intro t hs hA hE h40 h;have ih:∀(t:Tm),t.size<=N->Io t->WA t->t.size<=40->∀h:AH,∃v F',Ve true h (rc Q Q0 [sl m 4 (A4 k),B7 t] h)=some (v,⟨h.boxes,F'⟩)/\ZC h.fams.length true 4 (A4 (MA k N t)) v ⟨h.boxes,F'⟩/\(MA k N t).length<=t.size/\h.fams.length<=F'.length/\∀j,j<h.fams.length->F'[j]?=h.fams[j]?:=by
   intro t a b c d h;obtain⟨v,h',e1,e2,e3,e4,e5,e6⟩:=ih0 t a b c d h;exact⟨v,h'.fams,RW e1 (Pi e2.a).2.2.2 e4,e2,e3,e5,e6⟩
  clear ih0;have Cq:=(hA.good h40).ok;have hnil:∀X:AH,ZC h.fams.length true 4 (A4 []) (.vs true 0 []) X:=λX=>.inl ⟨by simp,false,rfl⟩;have hone:∀X:AH,ZC h.fams.length true 4 (A4 [t]) (sl (true,true) 4 [B7 t]) X:=λX=>.inl ⟨by simp,true,rfl⟩;have hks:=t.kids_size;have hsp:=t.size_pos;by_cases hK:t.kind=3
  .have hname:∀nm,t.name=nm->Ew t nm=true:=λnm h=>MD.2 ⟨hK,h⟩;have hname':∀nm,t.name≠nm->Ew t nm=false:=λnm h=>by
    cases hq:Ew t nm with
    |false=>rfl
    |true=>exact absurd (MD.1 hq).2 h
   by_cases c1:t.name=bs [112,97,105,114]
   .obtain⟨a,b,OW⟩:=JY Cq (hname _ c1) (.inl rfl);rw[OW]at hks;simp only[Tm.sizes]at hks;have hx0:Jb (A4 t.kids) 0=some (B7 a):=by rw[OW];rfl
    have hx1:Jb (A4 t.kids) 1=some (B7 b):=by rw[OW];rfl
    have hB:MA k (N+1) t=MA k N a++MA k N b:=by rw[MA,if_pos (hname _ c1),O8,O8,OW];rfl
    rw[hB];have am:a∈t.kids:=by rw[OW];simp
    have bm:b∈t.kids:=by rw[OW];simp
    obtain⟨bx,F⟩:=h;obtain⟨va,Fa,a1,a2,a3,a4,a5⟩:=ih a (by omega) (hA.kid am) (hE.kid am) (by omega) ⟨bx++[(B7 t).cells],F⟩;obtain⟨vb,Fb,b1,b2,b3,b4,b5⟩:=ih b (by omega) (hA.kid bm) (hE.kid bm) (by omega) ⟨bx++[(B7 t).cells],Fa⟩;simp only at a4 a5 b4 b5;have a2':ZC F.length true 4 (A4 (MA k N a)) va ⟨bx++[(B7 t).cells],Fb⟩:=qi a2 b5;obtain⟨vc,Fc,p1,p2,p3,p4⟩:=nH (c:=E5 Q0) (bytes:=56) (h:=⟨bx++[(B7 t).cells],Fb⟩) (show F.length<=_ by simp only;omega) a2' (gA (b2.mono a4).a _) (by simp only[H6,maxLen,D6,A0B];omega);rw[show A4 (MA k N a)++A4 (MA k N b)=A4 (MA k N a++MA k N b) from by simp[D6]]at p2;simp only at p1;simp only[L0,hK,c1]at a1 b1 p1;refine Gh E6 λfr hl h0 h1=>?_;simp[E6]at hl h0 h1;simp[E6,hl,h0,h1,hK,c1,hx0,hx1,a1,b1,p1];exact⟨Oa p2 rfl,by omega,p3,λj hj=>(p4 j hj).trans ((b5 j (by omega)).trans (a5 j hj))⟩
   by_cases c2:t.name=bs [115,105,103,110]
   .obtain⟨a,b,OW⟩:=JY Cq (hname _ c2) (.inr (.inr (.inr (.inl rfl))));rw[OW]at hks;simp only[Tm.sizes]at hks;have hx0:Jb (A4 t.kids) 0=some (B7 a):=by rw[OW];rfl
    have hB:MA k (N+1) t=MA k N a:=by rw[MA,hname' _ c1,hname _ c2,O8,OW];rfl
    rw[hB];have am:a∈t.kids:=by rw[OW];simp
    obtain⟨bx,F⟩:=h;obtain⟨va,Fa,a1,a2,a3,a4,a5⟩:=ih a (by omega) (hA.kid am) (hE.kid am) (by omega) ⟨bx++[(B7 t).cells],F⟩;simp only at a4 a5;simp only[L0,hK,c2]at a1;refine Gh E6 λfr hl h0 h1=>?_;simp[E6]at hl h0 h1;simp[E6,hl,h0,h1,ZL,hK,c2,hx0,a1];exact⟨Oa a2 rfl,by omega,a4,a5⟩
   by_cases c3:t.name=bs [101,110,99]
   .have hag:AV.agg [.int .i64 3,.str (bs [101,110,99]),.int .i64 t.sort,sl t.cm 4 (A4 t.kids)]=B7 t:=by rw[←hK,←c3];cases t;rfl
    obtain⟨a,b,OW⟩:=JY Cq (hname _ c3) (.inr (.inl rfl));rw[OW]at hks;simp only[Tm.sizes]at hks;have hx0:Jb (A4 t.kids) 0=some (B7 a):=by rw[OW];rfl
    have hx1:Jb (A4 t.kids) 1=some (B7 b):=by rw[OW];rfl
    have hB:MA k (N+1) t=if (d9 k b).2=true then MA k N a else [t]:=by rw[MA,hname' _ c1,hname' _ c2,hname _ c3,O8,O8,OW];rfl
    rw[hB];have am:a∈t.kids:=by rw[OW];simp
    have bm:b∈t.kids:=by rw[OW];simp
    have hC:=YQ m k b hk ((hA.kid bm).good (by omega)) HH;obtain⟨bx,F⟩:=h;obtain⟨va,Fa,a1,a2,a3,a4,a5⟩:=ih a (by omega) (hA.kid am) (hE.kid am) (by omega) ⟨bx++[(B7 t).cells],F⟩;simp only at a4 a5;simp only[L0,hK,c3]at a1;cases hd:(d9 k b).2 with
    |true =>
     rw[hd]at hC;rw[if_pos rfl];refine Gh E6 λfr hl h0 h1=>?_;simp[E6]at hl h0 h1;simp[E6,hl,h0,h1,ZL,hK,c3,hx0,hx1,hC,a1];exact⟨Oa a2 rfl,by omega,a4,a5⟩
    |false =>
     rw[hd]at hC;rw[if_neg (by simp)];refine Gh E6 λfr hl h0 h1=>?_;simp[E6]at hl h0 h1;simp[E6,hl,h0,h1,ZL,hK,c3,hx1,hC,hag,A5];exact⟨hone _,by omega⟩
   by_cases c4:t.name=bs [97,101,110,99]
   .have hag:AV.agg [.int .i64 3,.str (bs [97,101,110,99]),.int .i64 t.sort,sl t.cm 4 (A4 t.kids)]=B7 t:=by rw[←hK,←c4];cases t;rfl
    obtain⟨a,b,OW⟩:=JY Cq (hname _ c4) (.inr (.inr (.inl rfl)));rw[OW]at hks;simp only[Tm.sizes]at hks;have am:a∈t.kids:=by rw[OW];simp
    have bm:b∈t.kids:=by rw[OW];simp
    have hb:=hE.root (hname _ c4);rw[show O8 t 1=b from by rw[O8,OW];rfl]at hb;obtain⟨p1,p2⟩:=MD.1 hb;have hbok:=((hA.kid bm).good (by omega)).ok;obtain⟨c,hc⟩:=hbok.one p1 (by rw[p2];exact .inl rfl);have hsz2:=b.kids_size;rw[hc]at hsz2;simp only[Tm.sizes]at hsz2;have hx0:Jb (A4 t.kids) 0=some (B7 a):=by rw[OW];rfl
    have hx1:Jb (A4 t.kids) 1=some (B7 b):=by rw[OW];rfl
    have hy0:Jb (A4 b.kids) 0=some (B7 c):=by rw[hc];rfl
    have hB:MA k (N+1) t=if (d9 k c).2=true then MA k N a else if (d9 k a).2=true then []else [t]:=by rw[MA,hname' _ c1,hname' _ c2,hname' _ c3,hname _ c4,O8,O8,OW,O8];simp only[List.getD_cons_succ,List.getD_cons_zero,hc];rfl
    rw[hB];have hC:=YQ m k c hk (((hA.kid bm).kid (by rw[hc];simp)).good (by omega)) HH;have hC2:=YQ m k a hk ((hA.kid am).good (by omega)) HH;obtain⟨bx,F⟩:=h;obtain⟨va,Fa,a1,a2,a3,a4,a5⟩:=ih a (by omega) (hA.kid am) (hE.kid am) (by omega) ⟨bx++[(B7 t).cells],F⟩;simp only at a4 a5;simp only[L0,hK,c4]at a1;cases hd:(d9 k c).2 with
    |true =>
     rw[hd]at hC;rw[if_pos rfl];refine Gh E6 λfr hl h0 h1=>?_;simp[E6]at hl h0 h1;simp[E6,hl,h0,h1,ZL,hK,c4,hx0,hx1,hy0,hC,a1];exact⟨Oa a2 rfl,by omega,a4,a5⟩
    |false =>
     rw[hd]at hC;rw[if_neg (by simp)];cases hd2:(d9 k a).2 with
     |true =>
      rw[hd2]at hC2;rw[if_pos rfl];refine Gh E6 λfr hl h0 h1=>?_;simp[E6]at hl h0 h1;simp[E6,hl,h0,h1,ZL,hK,c4,hx0,hx1,hy0,hC,hC2];exact hnil _
     |false =>
      rw[hd2]at hC2;rw[if_neg (by simp)];refine Gh E6 λfr hl h0 h1=>?_;simp[E6]at hl h0 h1;simp[E6,hl,h0,h1,ZL,hK,c4,hx0,hx1,hy0,hC,hC2,hag,A5];exact⟨hone _,by omega⟩
   by_cases c5:t.name=bs [104,97,115,104]
   .have hag:AV.agg [.int .i64 3,.str (bs [104,97,115,104]),.int .i64 t.sort,sl t.cm 4 (A4 t.kids)]=B7 t:=by rw[←hK,←c5];cases t;rfl
    obtain⟨a,OW⟩:=Cq.one hK (by rw[c5];exact .inr (.inl rfl));rw[OW]at hks;simp only[Tm.sizes]at hks;have hx0:Jb (A4 t.kids) 0=some (B7 a):=by rw[OW];rfl
    have hB:MA k (N+1) t=if (d9 k a).2=true then []else [t]:=by rw[MA,hname' _ c1,hname' _ c2,hname' _ c3,hname' _ c4,hname _ c5,O8,OW];rfl
    rw[hB];have am:a∈t.kids:=by rw[OW];simp
    have hC:=YQ m k a hk ((hA.kid am).good (by omega)) HH;cases hd:(d9 k a).2 with
    |true =>
     rw[hd]at hC;rw[if_pos rfl];refine Gh E6 λfr hl h0 h1=>?_;simp[E6]at hl h0 h1;simp[E6,hl,h0,h1,ZL,hK,c5,hx0,hC];exact hnil _
    |false =>
     rw[hd]at hC;rw[if_neg (by simp)];refine Gh E6 λfr hl h0 h1=>?_;simp[E6]at hl h0 h1;simp[E6,hl,h0,h1,ZL,hK,c5,hx0,hC,hag,A5];exact⟨hone _,by omega⟩
   have hB:MA k (N+1) t=[]:=by rw[MA,hname' _ c1,hname' _ c2,hname' _ c3,hname' _ c4,hname' _ c5];rfl
   rw[hB];refine Gh E6 λfr hl h0 h1=>?_;simp[E6]at hl h0 h1;simp[E6,hl,h1,hK,c1,c2,c3,c4,c5];exact hnil _
  .obtain⟨bx,F⟩:=h;have hB:MA k (N+1) t=[]:=by
    have hn:∀nm,Ew t nm=false:=λnm=>by simp[Ew,hK]
    rw[MA];simp[hn]
   rw[hB];refine Gh E6 λfr hl h0 h1=>?_;simp[E6]at hl h0 h1;simp[E6,hl,h1,hK];exact hnil _
end Go.Abs.Q
namespace Go.Abs.Q
open Go.Proofs
attribute [local simp] D9 E4 fin I8 G6 P7 M4 R4 R3
theorem mN (h:AH) (b:Bool) (xs:G1) (hx:xs.length<=1):rc Q D5 [sl (true,b) 4 xs,.fn C2 []] h=some (C3,h):=by
 refine MN (s:=XD 4) rfl rfl ?_;show (if xs.length<=1 then some (C3,h)else none)=_
 rw[if_pos hx]
theorem bJ (g:FuncId) (h:AH) (b:Bool) (xs:G1) (hx:xs.length<=1):rc Q D0 [sl (true,b) 4 xs,.fn g []] h=some (sl (true,b) 4 xs,h):=by
 suffices hq:∃v h',rc Q D0 [sl (true,b) 4 xs,.fn g []] h=some (v,h')/\(v=sl (true,b) 4 xs/\h'=h) by
  obtain⟨v,h',h1,rfl,rfl⟩:=hq;exact h1
 have h2:(xs.length:Int)<2:=by omega
 refine Gh H5 λfr hl h0 h1=>?_;simp[H5]at hl h0 h1;simp[H5,hl,h0,h2]
theorem WE (l:I6) (h:l.length<=1):P8 l l:=by
 refine⟨?_,λ_=>Iff.rfl⟩
 match l,h with
 | [],_=>exact List.Pairwise.nil
 | [a],_=>exact List.pairwise_singleton _ _
theorem wK (g:FuncId) (L:Nat) (l:I6) (v:AV) (B:List (List AV)) (F:List Fam) (hg:ZC L true 4 (A4 l) v ⟨B,F⟩) (hcm:∀l':List Tm,(∀x∈l',x∈l)->Sm g l') (I9:∀t∈l,t.size<=1099511627776) (B8:l.length<=1048576) :
  ∃F1 v2 F2 R,Ve true ⟨B,F⟩ (rc Q D5 [v,.fn C2 []] ⟨B,F⟩)=some (C3,⟨B,F1⟩)/\rc Q D0 [v,.fn g []] ⟨B,F1⟩=some (v2,⟨B,F2⟩)/\P8 R l/\(∀x∈R,x∈l)/\R.length<=l.length/\v2.isTup=false/\v2.cells=[v2]/\∃m,Cs ⟨B,F2⟩ v2=some (sl m 4 (A4 R)):=by
 rcases hg with ⟨hx,b,rfl⟩|⟨P1,k,hk0,rfl,hk⟩
 .have A6:l.length<=1:=by simpa using hx
  exact⟨F,_,F,l,by rw[mN _ _ _ hx];exact vP _ _,bJ _ _ _ _ hx,WE l A6,λ_ h=>h,A0D _,rfl,rfl,(true,b),rfl⟩
 .have hne':l≠[]:=by rintro rfl;exact P1 rfl
  have HH:=I2 hk;have hlv:(A4 l).length=l.length:=by simp
  obtain⟨l',hp,hsort,hS⟩:=Rl k ⟨B,F⟩ l hk hne' I9 (by omega);have hl':l'.length=l.length:=hp.length_eq;have hcm:=hcm l' (λx hx=>hp.mem_iff.1 hx);obtain⟨Z,hZ,hZR,hK⟩:=LN g l' hcm k ⟨B,F.set k ⟨A4 l',4,true⟩⟩ (by simp only at HH;simp[HH]) (by omega);obtain⟨s1,s2,s3⟩:=NY l' hsort;rw[hl']at hK hZ;generalize R0 l'=R at *
  simp only[List.set_set]at hK hS HH;have e1:(A4 Z).length=l.length:=by rw[D6,A0B,hZ]
  have e2:(A4 Z).take R.length=A4 R:=by rw[←XK,hZR]
  have e3:R.length<=l.length:=by omega
  rw[hlv];refine⟨_,_,_,R,by rw[hS];exact ku _ _ _,hK,⟨s1.1,λe=>(s1.2 e).trans (by simp only[A0J,hp.mem_iff])⟩,λx hx=>hp.mem_iff.1 (s2 x hx),e3,rfl,rfl,(false,true),?_⟩;rw[Jt,Cr];simp[HH,e1,e2,e3]
theorem aX (a b:Tm) (h:a.size<=1099511627776) (h':b.size<=1099511627776):pc Q Ae [B7 a,B7 b]=some (.bool (decide (H7 a b=0))):=by
 have hC:=m9 _ a b (A0D _) h h';refine O2 Dt λfr hl h0 h1=>?_;simp[Dt]at hl h0 h1;simp[Dt,hl,h0,h1,hC]
noncomputable def qp (k:List Tm) (t:Tm):List Tm:=MA k t.size t
theorem qr (k:I6):∀(N:Nat) (t:Tm),∀x∈MA k N t,x.size<=t.size:=by
 intro N
 induction N with
 |zero=>intro t x hx;exact absurd hx A0P
 |succ N ih =>
  intro t x hx;have hkid:∀i,(O8 t i).size<=t.size:=λi=>by
   unfold O8;rw[List.getD_eq_getElem?_getD];cases h:t.kids[i]? with
   |none=>have:=t.size_pos;simp[jd,Tm.size,Tm.sizes];omega
   |some y=>have h1:=Tm.size_le (List.mem_of_getElem? h);have h2:=t.kids_size;simp only[Option.getD_some];omega
  have h0:∀i,∀x∈MA k N (O8 t i),x.size<=t.size:=λi x hx=>A0R (ih _ x hx) (hkid i);have h1:∀x∈[t],x.size<=t.size:=λx hx=>by rw[List.mem_singleton.1 hx];exact A0D _
  have h2:∀x∈([]:List Tm),x.size<=t.size:=λx hx=>absurd hx A0P;rw[MA]at hx
  repeat' split at hx
  all_goals first|exact h0 _ x hx|exact h1 x hx|exact h2 x hx|skip
  rcases List.mem_append.1 hx with hx|hx<;>exact h0 _ x hx
theorem dY (r n:Nar) (F:Fine n) (S:Lens n) (hz:(Z5 n).2=0) (hR:Right n) (he:Pn r=Cn (J8 (B4 n) (G3 n)) n) (i:Nat) (hi:i<r.steps.length) (hAe:WA r.steps[i].msg) :
  ∃m R,pc Q W7 [Ee r n,.int .i64 (i:Nat)]=some (sl m 4 (A4 R))/\P8 R (qp (Ni (true,true) r n r.steps[i].to (OQ r.roles r.steps[i].to) (i+1)) r.steps[i].msg)/\Tm.sizes R<=10000/\R.length<=40:=by
 have sb:=w8 r n;have hx:=G0 (f:=DY) (A0H hi);have Ow:=A0I hi;obtain⟨hmA,hmS⟩:=aM hR he Ow;obtain⟨hsm,-⟩:=HD hR.nar he;obtain⟨e2,e3,e5⟩:=Ej he;have hrl:=hsm.roles;have hstl:=hsm.steps;have hto:r.steps[i].to∈r.roles:=by
  have hm:KV r.steps[i]∈n.steps.map (Cd (J8 (B4 n) (G3 n))):=by rw[←(i5 he).2.2.2.2.1];exact A0C Ow
  obtain⟨s',hs',e⟩:=A0J.1 hm;unfold KV Cd at e;injection e with _ e _ _
  rw[←e,e2];exact(Ny (hR.steps s' hs')).2.1
 generalize r.steps[i]=s at *
 obtain⟨x1,x2⟩:=Se hto;have hrole:=ax r n hrl s.to;rw[x2]at hrole;obtain⟨mk,hK⟩:=Rj r n F S hz hsm e2 (OQ r.roles s.to) s.to x1 (i+1) (by omega);have Hr:∀x∈Ni (true,true) r n s.to (OQ r.roles s.to) (i+1),GoodT x:=λx hx=>by
  obtain⟨h1,h2⟩:=UY hR he (by rw[←e2];exact hto) hx;exact h1.good h2
 have HH:=Xs (m:=(true,true)) (me:=s.to) (role:=OQ r.roles s.to) (q:=i+1) hsm;generalize Rx:Ni (true,true) r n s.to (OQ r.roles s.to) (i+1)=kk at *
 obtain⟨v,h',b1,b2,b3,⟨B,b4⟩,-⟩:=jL mk kk Hr (by omega) _ s.msg (A0D _) hmA hAe hmS ⟨[(Ee r n).cells,(DY s).cells],[]⟩;have b5:=RW b1 (Pi b2.a).2.2.2 ⟨B,b4⟩;obtain⟨bx,Fb⟩:=h';have I9:∀t∈MA kk s.msg.size s.msg,t.size<=40:=λt ht=>A0R (qr kk _ _ t ht) hmS;obtain⟨F1,v2,F2,R,c1,c2,c3,c4,c5,c6,c7,m,c8⟩:=wK Ae _ _ v [(Ee r n).cells,(DY s).cells] Fb (Oa b2 rfl) (λl' hl'=>⟨rfl,λa ha b hb=>aX a b (by have:=I9 a (hl' a ha);omega) (by have:=I9 b (hl' b hb);omega)⟩) (λt ht=>by have:=I9 t ht;omega) (by omega)
 suffices hq:∃w,pc Q W7 [Ee r n,.int .i64 (i:Nat)]=some w/\w=sl m 4 (A4 R) by
  obtain⟨w,hw,rfl⟩:=hq;exact⟨m,R,hw,c3,by have:=bX λx hx=>I9 x (c4 x hx);have:R.length*40<=40*40:=Nat.mul_le_mul_right 40 (by omega);omega,by omega⟩
 have hw:=D1 i (by omega);rw[show ((i+1:Nat):Int)=(i:Int)+1 from by omega]at hK;have ss:(DY s).cells=[.str s.frm,.str s.to,.int .i64 s.msg.kind,.str s.msg.name,.int .i64 s.msg.sort,sl s.msg.cm 4 (A4 s.msg.kids),.int .i64 s.line]:=by
  show [.str s.frm,.str s.to]++(B7 s.msg).cells++[.int .i64 s.line]=_;rw[L0];rfl
 simp only[sb,ss]at b5 c1 c2 c8;refine Qp FY λΨ hΨ fr hl h0 h1=>?_;simp[FY]at hl h0 h1;simp[FY,hl,h0,h1,sb,hx,hw,hrole,hK,b5,c1,c2,c8];exact hΨ _ rfl
end Go.Abs.Q
