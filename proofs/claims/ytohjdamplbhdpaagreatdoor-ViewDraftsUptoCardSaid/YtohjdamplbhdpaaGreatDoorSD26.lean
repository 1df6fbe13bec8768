/- A part of the proof. -/
import Derived.Test.YtohjdamplbhdpaaGreatDoorSD25
import Derived.KernelRfl
import Derived.Shelf.SlSortCmp.NoneTotal
import Derived.Test.YtohjdamplbhdpaaGreatDoorProg
set_option linter.all false
open List renaming getElem?_eq_getElem->oD,take_succ_eq_append_getElem->xX,length_singleton->xY,length_map->xZ,map_append->xa,length_append->xb,getElem?_eq_some_iff->xc,append_eq_nil_iff->xd,take_of_length_le->xe,length_filter_le->xf,mem_singleton->xg,mem_append->xi,all_cons->xj,map_cons->xk,map_nil->xl
open Bool renaming eq_iff_iff->xh
open Nat renaming le_refl->xm
namespace Go.Abs.Q
open Go.Proofs
attribute [local simp] D1 D4 fin I2 G0 K7 I3 N4 O5
theorem cA {S U T:I1} (hC:ClS S U T) (Cr:∀u∈U,P3 T u=true\/Dc T u=false) {e:Tm} (h:Kn S U e):e∈T.map D2:=by
 induction h with
 |base e h=>exact hC.sub e h
 |step T0 _ u hu hs ih =>
  rcases Cr u hu with h|h
  .exact f8.1 h
  .rw[Sn ih hs]at h;cases h
theorem ZZ (m mu:J0) (S U:I1) (hb:S.length+U.length<=524288) (hS:d9 S) (hSo:∀x∈S,OkT x) (hU:∀x∈U,OkT x) :
  ∃(R:List Tm) (m':Bool×Bool),pc Q U6 [sl m 4 (A4 S),sl mu 4 (A4 U)]=some (sl m' 4 (A4 R))/\d9 R/\(∀x∈R,OkT x)/\R.length<=1048576/\∀e,e∈R.map D2↔Kn S U e:=by
 suffices h:∃v,pc Q U6 [sl m 4 (A4 S),sl mu 4 (A4 U)]=some v/\∃q:List Tm×(Bool×Bool),v=sl q.2 4 (A4 q.1)/\d9 q.1/\(∀x∈q.1,OkT x)/\q.1.length<=1048576/\∀e,e∈q.1.map D2↔Kn S U e by
  obtain⟨v,h1,q,rfl,h2⟩:=h;exact⟨q.1,q.2,h1,h2⟩
 have hunk:Ye S U<=U.length:=xf _ _;have h0C:ClS S U S:=⟨hS,hSo,λe he=>.base e he,λe he=>he,by omega⟩;refine TT Bq λΨ hΨ fr hl h0 h1=>?_;simp[Bq]at hl h0 h1;simp[Bq];refine(C3 (Ψ:=λe D3 h'=>e=.exit 0/\∃(T:List Tm) (mT:Bool×Bool),A0 D3 0=sl mT 4 (A4 T)/\ClS S U T/\∀u∈U,P3 T u=true\/Dc T u=false) rfl _
  (λn D3 h'=>∃(T:List Tm) (mT:Bool×Bool) (c:Bool),A0 D3 0=sl mT 4 (A4 T)/\A0 D3 5=.bool c/\ClS S U T/\(c=true/\n=Ye T U+1\/c=false/\∀u∈U,P3 T u=true\/Dc T u=false)) ?_ (Ye S U+1) _
  ⟨S,m,true,by simp[h0],by simp[hl],h0C,.inl ⟨rfl,rfl⟩⟩).mono ?_
 .rintro J Φ hJ hΦ n H0 H1 K ⟨T,mT,c,k0,k5,hC,hc⟩;have B5:H0.length=29:=K.1.trans (by simp[hl]);have k1:=A5 K 1 (by simp[h1]:_=sl mu 4 (A4 U));clear K h0 h1;rcases hc with ⟨rfl,rfl⟩|⟨rfl,Cr⟩
  .simp[Aj,B5,k5,k1];refine C8.mono (dB mu S U T (by omega) hU hC _ _ ⟨mT,?_⟩ ?_ ?_ ?_ ?_ ?_) ?_<;>first|(simp[B5,k0];done)|skip
   rintro e Cq h2 ⟨K,rfl,T',mT',c,k0',k5',hC',hc'⟩;simp;rcases hc' with ⟨rfl,A7⟩|⟨rfl,rfl,Cr⟩
   .exact⟨Ye T' U+1,by omega,hJ _ _ _ ⟨T',mT',true,k0',k5',hC',.inl ⟨rfl,rfl⟩⟩⟩
   .exact⟨0,by omega,hJ _ _ _ ⟨T',mT',false,k0',k5',hC',.inr ⟨rfl,Cr⟩⟩⟩
  .simp[Aj,B5,k5];exact hΦ _ _ _ ⟨rfl,T,mT,by simp[k0],hC,Cr⟩
 .rintro e H0 Jp ⟨K,rfl,T,mT,k0,hC,Cr⟩;have B5:H0.length=29:=K.1.trans (by simp[hl]);simp[B5,k0];exact hΨ _ ⟨(T,mT),rfl,hC.srt,hC.ok,by have:=hC.len;change T.length<=_;omega,λe=>⟨hC.kn e,cA hC Cr⟩⟩
theorem OL {S S' U U':I1} (hS:∀e,e∈S.map D2->e∈S'.map D2) (hU:∀e,e∈U.map D2->e∈U'.map D2) {e:Tm} (h:Kn S U e):Kn S' U' e:=by
 induction h with
 |base e h=>exact .base e (hS e h)
 |step T _ u hu hs ih =>
  obtain⟨u',hu',e⟩:=List.mem_map.1 (hU _ (List.mem_map_of_mem hu));rw[←e];refine .step T ih u' hu' ?_;have e1:QL u'=QL u:=by
   obtain⟨q1,q2,q3,-⟩:=JC e;unfold QL;rw[q1,q2,q3]
  have e2:Cn T u'=Cn T u:=by
   obtain⟨q1,q2,-,q4⟩:=JC e;unfold Cn GF;rw[q1,q2];congr 1;have:∀l l':List Tm,H3 l=H3 l'->l.all (P3 T)=l'.all (P3 T):=by
    intro l
    induction l with
    |nil=>intro l' h;cases l' with
     |nil=>rfl
     |cons a l'=>simp[H3]at h
    |cons a l ih=>intro l' h;cases l' with
     |nil=>simp[H3]at h
     |cons b l' =>
      simp only[H3,List.cons.injEq]at h;rw[xj,xj,Qr h.1,ih _ h.2]
   exact this _ _ q4
  have e3:Hs T u'=Hs T u:=by
   unfold Hs;congr 1;funext t;unfold IP;rw[Qo (a:=M3 t 0) rfl e,Qo (a:=M3 t 1) rfl e]
  unfold Dc at hs ⊢;rw[e1,e2,e3];exact hs
def Nf (k:List Tm) (t:Tm):Prop:=Kn k (alls (k++[t])) (D2 t)
open Classical in
noncomputable def mL (k:List Tm) (t:Tm) (n:Nat):AV:=if 60<k.length\/200<n then .tup [.bool false,.int .i64 3]else .tup [.bool (decide (Nf k t)),.int .i64 0]
open Classical in
theorem Va (m:J0) (k:I1) (t:Tm) (hk:∀x∈k,GoodT x) (ht:GoodT t) (CF:k.length<=1048576) :
  ∃U:List Tm,pc Q O0 [sl m 4 (A4 k),B8 t]=some (mL k t U.length)/\(k.length<=60->O1 U (alls (k++[t]))):=by
 obtain⟨U,mu,hU,hU2⟩:=Xt m (true,true) k [t] hk (λx hx=>by rw[xg.1 hx];exact ht) CF (xm _);rw[show A4 [t]=[B8 t] from rfl]at hU;refine⟨U,?_,λh=>(hU2 h).1⟩;unfold il at hU;unfold mL;by_cases hc:60<k.length\/200<U.length
 .rw[if_pos hc]at hU ⊢;refine R9 S0 λfr hl h0 h1=>?_;simp[S0]at hl h0 h1;simp[S0,hl,h0,h1,hU,A3]
 .rw[if_neg hc]at hU ⊢;obtain⟨ID,-⟩:=hU2 (by omega);have LP:∀x∈k++[t],OkT x:=λx hx=>by
   rcases xi.1 hx with h|h
   .exact(hk x h).ok
   .rw[xg.1 h];exact ht.ok
  have hUo:=OkT.set ID (OkT.alls LP);obtain⟨S,ms,hS,hSset,hSsub,hSl⟩:=Xq m k (λx hx=>by have:=(hk x hx).size;omega) CF;obtain⟨R,mr,hC,hRs,hRo,hRl,hRk⟩:=ZZ ms mu S U (by omega) hSset.1 (λx hx=>(hk x (hSsub x hx)).ok) hUo;have hH:=GX mr R t hRs (by omega) (λx hx=>by have:=(hRo x hx).size;omega) (by have:=ht.size;omega);have he:P3 R t=decide (Nf k t):=by
   rw[xh,f8,hRk,decide_eq_true_iff];exact⟨OL (λe=>(hSset.2 e).1) (λe=>(ID.2 e).1),OL (λe=>(hSset.2 e).2) (λe=>(ID.2 e).2)⟩
  rw[he]at hH;generalize decide (Nf k t)=b at *
  refine R9 S0 λfr hl h0 h1=>?_;simp[S0]at hl h0 h1;simp[S0,hl,h0,h1,hU,hS,hC,hH,A3]
end Go.Abs.Q
namespace Go.Abs
def In (wr:Bool) (sz:Nat) (xs:List AV) (v:AV) (h:AH):Prop:=(∃b,v=sl (true,b) sz xs)\/(xs≠[]/\∃k,v=.sl k xs.length 0 xs.length/\h.fams[k]?=some ⟨xs,sz,wr⟩)
theorem aF (wr:Bool) (sz:Nat) (h:AH):In wr sz [] (.vs true 0 []) h:=.inl ⟨false,by simp[sl]⟩
theorem ei (wr:Bool) (sz:Nat) (xs:E5) (b:Bool) (h:AH):In wr sz xs (sl (true,b) sz xs) h:=.inl ⟨b,rfl⟩
theorem P5 {wr:Bool} {sz:Nat} {xs:E5} {v:AV} {h h':AH} (hg:In wr sz xs v h) (e:h'.fams=h.fams):In wr sz xs v h':=by
 rcases hg with hg|⟨h1,k,h2,h3⟩
 .exact .inl hg
 .exact .inr ⟨h1,k,h2,by rw[e];exact h3⟩
theorem OM {c:Ctx} {sz bytes:Nat} {xs ys:E5} {v x:AV} {h:AH} (hg:In c.mutApp sz xs v h) (hx:elems h sz x=some ys) (hb:(xs.length+ys.length)*bytes<=G5/\xs.length+ys.length<=maxLen) :
  ∃v' F',L5 c h sz bytes v x=some (v',⟨h.boxes,F'⟩)/\In c.mutApp sz (xs++ys) v' ⟨h.boxes,F'⟩/\∀j,j<h.fams.length->(∀n o l,v≠.sl j n o l)->F'[j]?=h.fams[j]?:=by
 rcases hg with ⟨b,rfl⟩|⟨M8,k,rfl,hk⟩
 .simp only[sl,L5,hx];by_cases hy:ys.length=0
  .rw[if_pos hy];have:ys=[]:=List.eq_nil_of_length_eq_zero hy;subst this;exact⟨_,h.fams,rfl,.inl ⟨b,by simp[sl]⟩,λ_ _ _=>rfl⟩
  .rw[if_neg hy];have hc:((if (xs.isEmpty&&!b)=true then 0 else sz)=sz\/xs.length=0)/\(xs.length+ys.length)*bytes<=G5/\xs.length+ys.length<=maxLen:=by
    refine⟨?_,hb⟩;cases xs with
    |nil=>exact .inr rfl
    |cons a l=>exact .inl rfl
   rw[if_pos hc];refine⟨_,_,rfl,.inr ⟨by intro e;rw[xd]at e;rw[e.2]at hy;exact hy rfl,h.fams.length,by rw[xb],by simp⟩,λj hj _=>List.getElem?_append_left hj⟩
 .simp only[L5,hx,hk];rw[if_pos ⟨trivial,trivial,by omega,hb.1,hb.2⟩];have CF:=(xc.1 hk).1;refine⟨_,_,rfl,.inr ⟨by intro e;rw[xd]at e;exact M8 e.1,k,by rw[xb],by simp[CF]⟩,λj hj hv=>?_⟩;have:k≠j:=λe=>hv _ _ _ (by rw[e]);exact List.getElem?_set_ne this
theorem Qk {wr:Bool} {sz:Nat} {xs:E5} {v:AV} {h:AH} (hg:In wr sz xs v h):∃m:Bool×Bool,∀(B:List (List AV)) (am:Bool),(am||!wr)=true->frz ⟨B,h.fams⟩ am v=some (sl m sz xs)/\y5 ⟨B,h.fams⟩ am v=some (sl m sz xs):=by
 rcases hg with ⟨b,rfl⟩|⟨M8,k,rfl,hk⟩
 .exact⟨(true,b),λB am _=>⟨rfl,rfl⟩⟩
 .have he:xs.isEmpty=false:=by cases xs with
   |nil=>exact absurd rfl M8
   |cons a l=>rfl
  refine⟨(false,true),λB am ha=>?_⟩;have:y5 ⟨B,h.fams⟩ am (.sl k xs.length 0 xs.length)=some (sl (false,true) sz xs):=by
   simp only[y5,hk];rw[if_pos ⟨trivial,by omega,ha⟩];simp[sl,he]
  exact⟨this,this⟩
theorem ON {wr:Bool} {sz:Nat} {xs:E5} {v:AV} {h:AH} (hg:In wr sz xs v h):∃m:Bool×Bool,∀B:List (List AV),Bj ⟨B,h.fams⟩ v=some (sl m sz xs):=by
 obtain⟨m,hm⟩:=Qk hg;refine⟨m,λB=>?_⟩;have:=(hm B true rfl).1;rcases hg with ⟨b,rfl⟩|⟨_,k,rfl,_⟩<;>exact this
theorem RH {sz:Nat} {xs:E5} {v:AV} {h:AH} (hg:In false sz xs v h) (B:List (List AV)):tame ⟨B,h.fams⟩ v=true:=by
 rcases hg with ⟨b,rfl⟩|⟨M8,k,rfl,hk⟩
 .rfl
 .show (match h.fams[k]? with|some f=>!f.wr|none=>false)=true
  rw[hk];rfl
theorem Js {wr:Bool} {sz:Nat} {xs:E5} {v:AV} {h:AH} (hg:In wr sz xs v h):v.isTup=false/\v.cells=[v]/\CG [v]=false/\KF v=true:=by
 rcases hg with ⟨b,rfl⟩|⟨_,k,rfl,_⟩<;>exact⟨rfl,rfl,rfl,rfl⟩
theorem jE {wr:Bool} {sz:Nat} {xs:E5} {v:AV} {h:AH} (hg:In wr sz xs v h) (h':AH):Pf h' v=some (.int .i64 xs.length,h'):=by
 rcases hg with ⟨b,rfl⟩|⟨_,k,rfl,_⟩<;>rfl
theorem Ta {wr:Bool} {sz:Nat} {xs:E5} {v:AV} {h:AH} (hg:In wr sz xs v h) (B:List (List AV)):elems ⟨B,h.fams⟩ sz v=some xs:=by
 rcases hg with ⟨b,rfl⟩|⟨M8,k,rfl,hk⟩
 .exact O4 _ _ _ _
 .simp[elems,hk]
theorem Rm {h h':AH} {v:AV} {r:Option (AV×AH)} (hr:r=some (v,h')) (hv:KF v=true) (hb:∃B,h'.boxes=h.boxes++B):UJ true h r=some (v,⟨h.boxes,h'.fams⟩):=by
 obtain⟨B,hB⟩:=hb;obtain⟨bx,F⟩:=h';simp only at hB;subst hB;rw[hr];exact rn h v B F hv
end Go.Abs
namespace Go.Abs.Q
open Go.Proofs
attribute [local simp] D1 D4 fin I2 G0 K7 I3 N4 O5
def Jt (l:List Tm) (t:Tm):List Tm:=if l.any (λu=>HN t u)=true then l else l++[t]
theorem WV (l:I1) (t:Tm):(Jt l t).length<=l.length+1/\l.length<=(Jt l t).length:=by
 unfold Jt;split
 .omega
 .rw[xb];simp
theorem WW {l:I1} {t x:Tm} (h:x∈Jt l t):x∈l\/x=t:=by
 unfold Jt at h;split at h
 .exact .inl h
 .rcases xi.1 h with h|h
  .exact .inl h
  .exact .inr (by simpa using h)
theorem jL (l:I1) (t:Tm):(l.any λu=>HN t u)=P3 l t:=by
 unfold P3;congr 1;funext u;unfold HN;rw[xh,decide_eq_true_iff,decide_eq_true_iff,AC,AC];exact⟨Eq.symm,Eq.symm⟩
open Classical in
noncomputable def Lj (l:List Tm) (t:Tm):List Tm:=if t∈l then l else l++[t]
theorem jK (l:I1) (t:Tm):(Jt l t).map D2=Lj (l.map D2) (D2 t):=by
 unfold Jt Lj;rw[jL];by_cases h:P3 l t=true
 .rw[if_pos h,if_pos (f8.1 h)]
 .rw[if_neg h,if_neg (λk=>h (f8.2 k)),xa];rfl
theorem kQ (t u:Tm) (ht:t.size<=1099511627776) (hu:u.size<=1099511627776):pc Q Hq [B8 u,.pv (B8 t).cells]=some (.bool (HN t u)):=by
 have hC:=Z3 _ t u (xm _) ht hu;refine R9 LL λfr hl h0 h1=>?_;simp[LL]at hl h0 h1;simp[LL,hl,h0,h1,hC,HN]
theorem iI (G2:I1) (v:AV) (h:AH) (hg:In false 4 (A4 G2) v h) (t:Tm) (hl:G2.length<=1048576) (hs:∀x∈G2,x.size<=1099511627776) (ht:t.size<=1099511627776) :
  ∃v' h',rc Q U1 [v,B8 t] h=some (v',h')/\In false 4 (A4 (Jt G2 t)) v' h'/\∃B,h'.boxes=h.boxes++B:=by
 obtain⟨m,hf⟩:=Qk hg;have htm:=RH hg;have hC:=Ot m G2 Hq [.pv (B8 t).cells] (λu=>HN t u) rfl hl (λh x=>by simp) (λh=>rfl) rfl (λx hx=>kQ t x ht (hs x hx));obtain⟨bx,F⟩:=h;have hF:=λB=>(hf B true rfl).1;simp only at hF htm;have e2:A4 (G2++[t])=A4 G2++[B8 t]:=EA G2 t;have hap:∀B,∃v' F',L5 (G8 U1) ⟨B,F⟩ 4 56 v (sl (true,true) 4 [B8 t])=some (v',⟨B,F'⟩)/\In false 4 (A4 G2++[B8 t]) v' ⟨B,F'⟩:=λB=>by
  obtain⟨v',F',a1,a2,_⟩:=OM (c:=G8 U1) (bytes:=56) (x:=sl (true,true) 4 [B8 t]) (ys:=[B8 t]) (h:=⟨B,F⟩) (P5 hg rfl) (O4 _ _ _ _) (by simp only[G5,maxLen,D7,xZ,xY];omega);exact⟨v',F',a1,a2⟩
 obtain⟨va,Fa,ha,hLa⟩:=hap (bx++[[.rbox (B8 t).cells]]);simp only[H4]at hC;unfold Jt;cases hb:G2.any (λu=>HN t u)with
 |true =>
  rw[hb]at hC;simp only[if_true];refine FM Gj λfr hl h0 h1=>?_;simp[Gj]at hl h0 h1;simp[Gj,hl,h0,h1,Ai,hF,htm,hC];exact P5 hg rfl
 |false =>
  rw[hb]at hC;simp only[Bool.false_eq_true,if_false];rw[e2];simp only[H4]at ha hLa;refine FM Gj λfr hl h0 h1=>?_;simp[Gj]at hl h0 h1;simp[Gj,hl,h0,h1,Ai,hF,htm,hC,A3,ha];exact hLa
theorem Oy (G2:I1) (v:AV) (h:AH) (hg:In false 4 (A4 G2) v h) (t:Tm) (hl:G2.length<=1048576) (hs:∀x∈G2,x.size<=1099511627776) (ht:t.size<=1099511627776) :
  ∃v' F',UJ true h (rc Q U1 [v,B8 t] h)=some (v',⟨h.boxes,F'⟩)/\In false 4 (A4 (Jt G2 t)) v' ⟨h.boxes,F'⟩:=by
 obtain⟨v',h',h1,h2,h3⟩:=iI G2 v h hg t hl hs ht;exact⟨v',h'.fams,Rm h1 (Js h2).2.2.2 h3,P5 h2 rfl⟩
end Go.Abs.Q
namespace Go.Abs.Q
open Go.Proofs
attribute [local simp] D1 D4 fin I2 G0 K7 I3 N4 O5
def HM (a:ByteArray):Tm:=.mk 2 a 1 (true,false) []
theorem lz (a:H6):AV.agg [.int .i64 2,.str a,.int .i64 1,sl (true,false) 4 []]=B8 (HM a):=by simp[HM,B8,A4]
def Y3 (nm:ByteArray) (m:Bool×Bool) (l:List Tm):Tm:=.mk 3 nm 0 m l
theorem fD (nm:H6) (m:J0) (l:I1):AV.agg [.int .i64 3,.str nm,.int .i64 0,sl m 4 (A4 l)]=B8 (Y3 nm m l):=rfl
theorem SH (a:H6):pc Q Dt [.str a]=some (B8 (HM a)):=by
 rw[←lz];refine N0 LM λfr hl h0=>?_;simp[LM]at hl h0;simp[LM,hl,h0,D0,E7];exact Db _ rfl _ _
theorem SI (nm:H6) (m:J0) (l:I1):pc Q r6 [.str nm,sl m 4 (A4 l)]=some (B8 (Y3 nm m l)):=by
 rw[←fD];refine R9 OE λfr hl h0 h1=>?_;simp[OE]at hl h0 h1;simp[OE,hl,h0,h1,D0,E7]
theorem VY (a:H6) (s:Int):pc Q FX [.str a,.int .i64 s]=some (B8 (.mk 2 a s (true,false) [])):=by
 have e:B8 (.mk 2 a s (true,false) [])=.agg [.int .i64 2,.str a,.int .i64 s,sl (true,false) 4 []]:=by simp[B8,A4]
 rw[e];refine R9 LF λfr hl h0 h1=>?_;simp[LF]at hl h0 h1;simp[LF,hl,h0,h1,D0,E7];exact Db _ rfl _ _
theorem QN (m:J0) (l:I1) (C2:l.length<=1048576) (IH:∀t∈l,∃(m':J0) (l':I1),pc Q S5 [sl t.cm 4 (A4 t.kids)]=some (sl m' 4 (A4 l'))/\H3 l'=H3 t.kids) (fr:Fr) (h:AH) (h3:A0 fr 3=.vs true 0 []) (hl:fr.length=24) (h7:A0 fr 7=sl m 4 (A4 l)) (h8:A0 fr 8=.int .i64 l.length) (h9:A0 fr 9=.int .i64 0) :
  C8 (lp (A1 (Q8 Q) (G8 S5) Cm) (fr,h)) λe D3 h'=>Kp Cm.wr fr D3/\e=.exit 0/\∃(done:List Tm),In false 4 (A4 done) (A0 D3 3) h'/\H3 done=H3 l:=by
 refine C3 rfl fr (λn fr h'=>∃(i:Nat),i+n=l.length/\A0 fr 9=.int .i64 (i:Nat)/\(∃(v:AV) (done:List Tm),A0 fr 3=v/\In false 4 (A4 done) v h'/\H3 done=H3 (l.take i)/\done.length=i)) ?_ l.length h ⟨0,by omega,h9,_,[],h3,aF _ _ _,by simp[H3],rfl⟩;rintro J Φ hJ hΦ n H0 H1 K ⟨i,hi,k9,hr⟩;have B5:=K.1.trans hl;have k7:=A5 K 7 h7;have k8:=A5 K 8 h8;clear K;by_cases A7:i<l.length
 .have V9:=E6 i (by omega);obtain⟨v,done,k3,hg,hd,EF⟩:=hr;obtain⟨bx,fams⟩:=H1;have hx:=U2 A7;obtain⟨m',l',hI,hI2⟩:=IH l[i] (List.getElem_mem A7);generalize hs:l[i]=s at *
  have hc:D2 (.mk s.kind s.name s.sort m' l')=D2 s:=by
   obtain⟨k,nm,so,ms,ks⟩:=s;simp only[Tm.kind,Tm.name,Tm.sort,Tm.kids,D2]at hI2 ⊢;rw[hI2]
  have e2:H3 (done++[.mk s.kind s.name s.sort m' l'])=H3 (l.take (i+1)):=by
   rw[xX A7,E4,xa,←E4,hd,E4,E4,xa,xk,xl,xk,xl,hc,hs]
  have ha:∀B,∃v' F',L5 (G8 S5) ⟨B,fams⟩ 4 56 v (sl (true,true) 4 [B8 (.mk s.kind s.name s.sort m' l')])=some (v',⟨B,F'⟩)/\In false 4 (A4 (done++[.mk s.kind s.name s.sort m' l'])) v' ⟨B,F'⟩:=λB=>by
   obtain⟨v',F',a1,a2,-⟩:=OM (c:=G8 S5) (bytes:=56) (x:=sl (true,true) 4 [B8 (.mk s.kind s.name s.sort m' l')]) (ys:=[B8 (.mk s.kind s.name s.sort m' l')]) (h:=⟨B,fams⟩) (P5 hg rfl) (O4 _ _ _ _) (by simp only[G5,maxLen,D7,xZ,xY];omega);rw[EA];exact⟨v',F',a1,a2⟩
  obtain⟨v',F',ha1,ha2⟩:=ha (bx++[(B8 s).cells,[.int .i64 s.kind,.str s.name,.int .i64 s.sort,sl m' 4 (A4 l')]]);simp only[←tX,H4]at ha1 ha2;clear hs hd hc hg;simp[Cm,B5,k7,k8,k9,A7,V9,k3,hx,hI,A3,ha1];exact O9 hJ ⟨i+1,by omega,by simp[B5],_,_,rfl,by simp[B5];exact ha2,e2,by simp[EF]⟩
 .obtain⟨v,done,k3,hg,hd,EF⟩:=hr;rw[xe (by omega)]at hd;simp[Cm,B5,k8,k9,A7];exact hΦ _ _ _ ⟨rfl,done,by simp[k3];exact P5 hg rfl,hd⟩
theorem UV:∀(N:Nat) (m:J0) (l:I1),Tm.sizes l<=N->Tm.sizes l<=1048576->∃(m':J0) (l':I1),pc Q S5 [sl m 4 (A4 l)]=some (sl m' 4 (A4 l'))/\H3 l'=H3 l:=by
 intro N
 induction N with
 |zero =>
  intro m l h _;have hl0:l=[]:=by
   cases l with
   |nil=>rfl
   |cons a l=>have:=a.size_pos;simp only[Tm.sizes]at h;omega
  subst hl0
  suffices hq:∃v,pc Q S5 [sl m 4 (A4 [])]=some v/\∃q:(Bool×Bool)×List Tm,v=sl q.1 4 (A4 q.2)/\H3 q.2=H3 [] by
   obtain⟨v,h1,q,rfl,h2⟩:=hq;exact⟨q.1,q.2,h1,h2⟩
  refine Ja Cy λΨ hΨ fr hl h0=>?_;simp[Cy]at hl h0;simp[Cy,hl,h0];refine C8.mono (QN m [] (by simp) (λt ht=>nomatch ht) _ _ ?_ ?_ ?_ ?_ ?_) ?_<;>first|(simp[hl];done)|skip
  rintro e H0 ⟨bx,F⟩ ⟨K,rfl,done,hg,hd⟩;have B5:H0.length=24:=K.1.trans (by simp[hl]);obtain⟨m',hf⟩:=ON hg;simp only at hf;simp[B5,hf];exact hΨ _ ⟨(m',done),rfl,hd⟩
 |succ N IH =>
  intro m l h hb;have C2:=Tm.length_le l
  suffices hq:∃v,pc Q S5 [sl m 4 (A4 l)]=some v/\∃q:(Bool×Bool)×List Tm,v=sl q.1 4 (A4 q.2)/\H3 q.2=H3 l by
   obtain⟨v,h1,q,rfl,h2⟩:=hq;exact⟨q.1,q.2,h1,h2⟩
  refine Ja Cy λΨ hΨ fr hl h0=>?_;simp[Cy]at hl h0;simp[Cy,hl,h0];refine C8.mono (QN m l (by omega) (λt ht=>?_) _ _ ?_ ?_ ?_ ?_ ?_) ?_<;>first|(simp[hl];done)|skip
  .have h1:=Tm.size_le ht;have h2:=t.kids_size;exact IH t.cm t.kids (by omega) (by omega)
  rintro e H0 ⟨bx,F⟩ ⟨K,rfl,done,hg,hd⟩;have B5:H0.length=24:=K.1.trans (by simp[hl]);obtain⟨m',hf⟩:=ON hg;simp only at hf;simp[B5,hf];exact hΨ _ ⟨(m',done),rfl,hd⟩
def Dx (r n:Nar):AV:=.agg ((X7 r).cells++(X7 n).cells)
theorem BK (r n:Nar):(Dx r n).cells=[.str r.name,sl r.rm 1 (r.roles.map .str),sl r.fm 3 (r.fresh.map Gq),sl r.tm 1 (r.tags.map .str),sl r.sm 7 (r.steps.map Ci),sl r.gm 5 (r.goals.map DP),.str n.name,sl n.rm 1 (n.roles.map .str),sl n.fm 3 (n.fresh.map Gq),sl n.tm 1 (n.tags.map .str),sl n.sm 7 (n.steps.map Ci),sl n.gm 5 (n.goals.map DP)]:=rfl
@[simp] theorem wS (r n:Nar):AV.agg [.str r.name,sl r.rm 1 (r.roles.map .str),sl r.fm 3 (r.fresh.map Gq),sl r.tm 1 (r.tags.map .str),sl r.sm 7 (r.steps.map Ci),sl r.gm 5 (r.goals.map DP),.str n.name,sl n.rm 1 (n.roles.map .str),sl n.fm 3 (n.fresh.map Gq),sl n.tm 1 (n.tags.map .str),sl n.sm 7 (n.steps.map Ci),sl n.gm 5 (n.goals.map DP)]=Dx r n:=rfl
@[simp] theorem tC (r n:Nar):(Dx r n).isTup=false:=rfl
@[simp] theorem wT (h:AH) (am:Bool) (r n:Nar):frz h am (Dx r n)=some (Dx r n):=rfl
@[simp] theorem uo (h:AH) (r n:Nar):tame h (Dx r n)=true:=rfl
@[simp] theorem pf (h:AH) (n:Nar):Bj h (X7 n)=some (X7 n):=rfl
theorem iK:AV.agg [.str (bs []),sl (true,false) 1 [],sl (true,false) 1 [],sl (true,false) 1 [],sl (true,false) 1 [],sl (true,false) 1 [],.str (bs []),sl (true,false) 1 [],sl (true,false) 1 [],sl (true,false) 1 [],sl (true,false) 1 [],sl (true,false) 1 []]=Dx iz iz:=by
 simp[Dx,X7,iz,sl]
theorem Vi (n:Nar) (F:Fine n) (S:Lens n):∃r,pc Q HG [X7 n]=some (.tup [Dx r n,.int .i64 (Ae n).2])/\((Ae n).2=0->Oc r=DA (G3 (B4 n) (D6 n)) n):=by
 obtain⟨r,hR,hE⟩:=ZW n F S;refine⟨r,?_,hE⟩;have nb:=Y6 n;have rb:=Y6 r;have sb:=BK r n;generalize (Ae n).2=e at *
 generalize (Ae n).1=e1 at *
 refine N0 Ml λfr hl h0=>?_;simp[Ml]at hl h0;simp[Ml,hl,h0,nb,rb,sb,hR,D0,E7,I6]
def Sw (n:Nar) (role step:Int):Int:=if (Ae n).2≠0 then (Ae n).2 else if role<0\/(n.roles.length:Int)<=role\/step<0\/(n.steps.length:Int)<step then 7 else 0
theorem WY {n:Nar} {role step:Int} (h:Sw n role step=0):(Ae n).2=0/\0<=role/\role.toNat<n.roles.length/\0<=step/\step.toNat<=n.steps.length:=by
 unfold Sw at h;split at h
 .rename_i h1;exact absurd h h1
 .rename_i h1;split at h
  .omega
  .rename_i h2;have Jp:(Ae n).2=0:=by
    apply Classical.byContradiction;exact h1
   omega
theorem AE {r n:Nar} {f:ByteArray->Int} (h:Oc r=DA f n):r.name=n.name/\r.roles=n.roles/\r.fresh=n.fresh/\r.tags=n.tags/\r.steps.map LX=n.steps.map (DB f)/\r.goals.map lO=n.goals.map (YR f):=by
 unfold Oc DA at h;injection h with h1 h2 h3 h4 h5 h6 h7 h8 h9 h10 h11
 exact⟨h1,h3,h5,h7,h9,h11⟩
theorem lW (n:Nar) (F:Fine n) (S:Lens n) (role step:Int):∃r n',pc Q NE [X7 n,.int .i64 role,.int .i64 step]=some (.tup [Dx r n',.int .i64 (Sw n role step)])/\(Sw n role step=0->n'=n/\Oc r=DA (G3 (B4 n) (D6 n)) n):=by
 obtain⟨r,hR,hE⟩:=Vi n F S;have nb:=Y6 n;have sb:=BK r n;have sn:=iK;have e0:∀k,sl (true,false) k []=sl (true,false) 1 []:=λk=>Db _ rfl _ _;by_cases h1:(Ae n).2=0
 .have hrl:=(AE (hE h1)).2.1;have cZ:r.steps.length=n.steps.length:=by
   have:=congrArg List.length (AE (hE h1)).2.2.2.2.1;simpa using this
  rw[h1]at hR;by_cases h2:role<0\/(n.roles.length:Int)<=role\/step<0\/(n.steps.length:Int)<step
  .have ha:Sw n role step=7:=by unfold Sw;rw[if_neg (by simp[h1]),if_pos h2]
   rw[ha];refine⟨iz,iz,?_,λh=>by omega⟩;rw[←iK];rw[←hrl,←cZ]at h2;by_cases q1:role<0
   .refine JZ S1 λfr hl h0 h1 h2=>?_;simp[S1]at hl h0 h1 h2;simp[S1,hl,h0,h1,nb,sb,hR,q1,D0,E7,I6]
   .by_cases q2:(r.roles.length:Int)<=role
    .refine JZ S1 λfr hl h0 h1 h2=>?_;simp[S1]at hl h0 h1 h2;simp[S1,hl,h0,h1,nb,sb,hR,q1,q2,D0,E7,I6]
    .by_cases q3:step<0
     .refine JZ S1 λfr hl h0 h1 h2=>?_;simp[S1]at hl h0 h1 h2;simp[S1,hl,h0,h1,h2,nb,sb,hR,q1,q2,q3,D0,E7,I6]
     .have q4:(r.steps.length:Int)<step:=by omega
      refine JZ S1 λfr hl h0 h1 h2=>?_;simp[S1]at hl h0 h1 h2;simp[S1,hl,h0,h1,h2,nb,sb,hR,q1,q2,q3,q4,D0,E7,I6]
  .have ha:Sw n role step=0:=by unfold Sw;rw[if_neg (by simp[h1]),if_neg h2]
   rw[ha];refine⟨r,n,?_,λ_=>⟨rfl,hE h1⟩⟩;rw[←hrl,←cZ]at h2;have q1:¬role<0:=λh=>h2 (.inl h);have q2:¬(r.roles.length:Int)<=role:=λh=>h2 (.inr (.inl h));have q3:¬step<0:=λh=>h2 (.inr (.inr (.inl h)));have q4:¬(r.steps.length:Int)<step:=λh=>h2 (.inr (.inr (.inr h)));refine JZ S1 λfr hl h0 h1 h2=>?_;simp[S1]at hl h0 h1 h2;simp[S1,hl,h0,h1,h2,nb,sb,hR,q1,q2,q3,q4,I6]
 .have ha:Sw n role step=(Ae n).2:=by unfold Sw;rw[if_pos h1]
  rw[ha];refine⟨iz,iz,?_,λh=>absurd h h1⟩;rw[←iK];generalize (Ae n).2=e at *
  have M8:=h1;refine JZ S1 λfr hl h0 h1 h2=>?_;simp[S1]at hl h0 h1 h2;simp[S1,hl,h0,nb,sb,hR,M8,D0,E7,I6]
def GO (me:ByteArray) (l:List Fre):List Tm:=(l.filter λf=>decide (f.role=me)).map λf=>.mk 2 f.name f.sort (true,false) []
theorem fb (me:H6) (l:List Fre) (f:Fre):GO me (l++[f])=GO me l++(if f.role=me then [.mk 2 f.name f.sort (true,false) []]else []):=by
 unfold GO;rw[List.filter_append,xa];congr 1;by_cases h:f.role=me<;>simp[h]
theorem Of (me:H6) (l:List Fre):(GO me l).length<=l.length:=by
 unfold GO;rw[xZ];exact xf _ _
theorem cQ {me:H6} {l:List Fre} {i:Nat} (h:i<l.length):GO me (l.take (i+1))=GO me (l.take i)++(if l[i].role=me then [.mk 2 l[i].name l[i].sort (true,false) []]else []):=by
 rw[xX h,fb]
theorem lD (a:H6) (s:Int):AV.agg [.int .i64 2,.str a,.int .i64 s,sl (true,false) 1 []]=B8 (.mk 2 a s (true,false) []):=by
 rw[Db (true,false) rfl 1 4];simp[B8,A4]
theorem XS (na:Nar) (hfl:na.fresh.length<=1048576) (role:Nat) (me:H6) (hme:Ir (na.roles.map AV.str) role=some (.str me)) (fr:Fr) (h:AH) (B0:List (List AV)) (hB0:h.boxes=(X7 na).cells::B0) (h7:A0 fr 7=.vs true 0 []) (hl:fr.length=53) (h1:A0 fr 1=.int .i64 role) (h2:A0 fr 2=.ptr 0 0) (h29:A0 fr 29=sl na.fm 3 (na.fresh.map Gq)) (h30:A0 fr 30=.int .i64 na.fresh.length) (h31:A0 fr 31=.int .i64 0) :
  C8 (lp (A1 (Q8 Q) (G8 Ct) At) (fr,h)) λe D3 h'=>Kp At.wr fr D3/\e=.exit 0/\In false 4 (A4 (GO me na.fresh)) (A0 D3 7) h':=by
 refine C3 rfl fr (λn fr h'=>∃(i:Nat),i+n=na.fresh.length/\A0 fr 31=.int .i64 (i:Nat)/\(∃(B:List (List AV)) (v:AV),A0 fr 7=v/\h'.boxes=(X7 na).cells::B/\In false 4 (A4 (GO me (na.fresh.take i))) v h')) ?_ na.fresh.length h ⟨0,by omega,h31,_,_,h7,hB0,aF _ _ _⟩;rintro J Φ hJ hΦ n H0 H1 K ⟨i,hi,k31,hr⟩;have B5:=K.1.trans hl;have k1:=A5 K 1 h1;have k2:=A5 K 2 h2;have k29:=A5 K 29 h29;have k30:=A5 K 30 h30;clear K;by_cases A7:i<na.fresh.length
 .have V9:=E6 i (by omega);obtain⟨B,v,k7,hB,hg⟩:=hr;obtain⟨bx,fams⟩:=H1;simp only at hB;subst hB;have hx:=H8 (f:=Gq) (oD A7);have C2:=Of me (na.fresh.take i);rw[List.length_take]at C2;have Cf:=cQ (me:=me) A7;have nb:=Y6 na;generalize na.fresh[i]=f at *
  by_cases hf:f.role=me
  .rw[if_pos hf]at Cf;obtain⟨v',F',ha1,ha2,-⟩:=OM (c:=G8 Ct) (bytes:=56) (x:=sl (true,true) 4 [B8 (.mk 2 f.name f.sort (true,false) [])]) (ys:=[B8 (.mk 2 f.name f.sort (true,false) [])]) (h:=⟨(X7 na).cells::(B++[(Gq f).cells]),fams⟩) (P5 hg rfl) (O4 _ _ _ _) (by simp only[G5,maxLen,D7,xZ,xY];omega);rw[←EA,←Cf]at ha2;rw[←lD]at ha1;simp only[Oe,nb,hf]at ha1 ha2;simp[At,B5,k1,k2,k29,k30,k31,A7,V9,k7,hx,nb,hme,hf,D0,E7,A3,ha1];exact O9 hJ ⟨i+1,by omega,by simp[B5],_,_,rfl,rfl,by simp[B5];exact ha2⟩
  .rw[if_neg hf,List.append_nil]at Cf;rw[←Cf]at hg;simp[At,B5,k1,k2,k29,k30,k31,A7,V9,hx,nb,hme,hf];exact O9 hJ ⟨i+1,by omega,by simp[B5],_,_,rfl,rfl,by simp[k7];exact P5 hg rfl⟩
 .obtain⟨B,v,k7,hB,hg⟩:=hr;rw[xe (by omega)]at hg;simp[At,B5,k30,k31,A7];exact hΦ _ _ _ ⟨rfl,by simp[k7];exact P5 hg rfl⟩
theorem dp (n:Nar) (F:Fine n) (S:Lens n) (hz:(Ae n).2=0) (role:Nat) (me:H6) (hme:n.roles[role]?=some me):∃m,pc Q Ct [X7 n,.int .i64 (role:Nat)]=some (sl m 4 (A4 (GO me n.fresh))):=by
 suffices hq:∃v,pc Q Ct [X7 n,.int .i64 (role:Nat)]=some v/\∃m:Bool×Bool,v=sl m 4 (A4 (GO me n.fresh)) by
  obtain⟨v,h1,m,rfl⟩:=hq;exact⟨m,h1⟩
 have hC:=QT n F S.names;rw[hz]at hC;have hfl:n.fresh.length<=1048576:=by have:=S.names;omega
 have nb:=Y6 n;have A7:=(xc.1 hme).1;have hme':Ir (n.roles.map AV.str) role=some (.str me):=H8 hme;have q1:¬((role:Int)<0):=by omega
 have q2:¬((n.roles.length:Int)<=(role:Int)):=by omega
 generalize (Ae n).1=e1 at *
 refine TT Jk λΨ hΨ fr hl h0 h1=>?_;simp[Jk]at hl h0 h1;simp[Jk,hl,h0,h1,hC,nb,q1,q2];refine C8.mono (XS n hfl role me hme' _ _ [] ?_ ?_ ?_ ?_ ?_ ?_ ?_ ?_) ?_<;>first|(simp[hl,h1,nb];done)|skip
 rintro e H0 ⟨bx,F1⟩ ⟨K,rfl,hg⟩;have B5:H0.length=53:=K.1.trans (by simp[hl]);obtain⟨m',hf⟩:=ON hg;simp only at hf;simp[B5,hf];exact hΨ _ ⟨m',rfl⟩
end Go.Abs.Q
namespace Go.Abs.Q
open Go.Proofs
open Go.Proofs.YtohjdamplbhdpaaGreatDoor (Rows.uptoBulk Rows.uptoBulkAll)
theorem cp {α:Type}:∀{l:List α},l.length=4->∃a b c d,l=[a,b,c,d]
 | [a,b,c,d],_=>⟨a,b,c,d,rfl⟩
theorem OB {P:Program} {w:World} {t:TypeId} {H:Type} {enc:TypeId×Value->H} {fs:Array Field} {n:Nat} {cs:List Value} {x:DataW H×List MemPlace} (ht:P.underlying t=some (.struct fs)) {c:Nat} (hc:P.cellsOf t=c)
  (h:DataW.trod enc P w 0 (λ_=>true) true n t cs=some x) :
  ∃(m:Nat) (xs:List (DataW H×List MemPlace)),n=m+1/\cs.length=c/\xs.length=fs.size/\x.1=.agg (xs.map (·.1))/\∀(i:Nat) (f:Field),fs[i]?=some f->∃y,xs[i]?=some y/\DataW.trod enc P w 0 (λ_=>true) true m f.type ((cs.drop f.offset).take (P.cellsOf f.type))=some y:=by
 obtain⟨xs,m,rfl,rfl,h1,h2,h3⟩:=DataW.trod_struct ht h;refine⟨m,xs,rfl,by omega,h2,rfl,λi f hi=>?_⟩;have A7:i<fs.size:=(Array.getElem?_eq_some_iff.1 hi).1;have:=h3 i f hi;rw[oD (by omega)]at this;exact⟨xs[i],oD _,this⟩
variable {w:World}
theorem ib {α:Type} {f:α->Nat} (h:∀a,1<=f a):∀l:List α,l.length<=(l.map f).sum
 | []=>by simp
 |a::l=>by have:=h a;have:=ib h l;simp;omega
theorem bX {α:Type} {f:α->Nat} {a:α}:∀{l:List α},a∈l->f a<=(l.map f).sum
 |b::l,h=>by
  rcases List.mem_cons.1 h with rfl|h
  .simp
  .have:=bX (f:=f) h;simp;omega
end Go.Abs.Q
namespace Go.Proofs
open Go.Shelf
def Tryz.sortLays_ren:Go.Shelf.Ren:=⟨fun|6=>96|15=>133|14=>132|28=>185|29=>186|20=>177|21=>178|22=>179|23=>180|24=>181|25=>182|26=>183|27=>184|46=>237|47=>238|48=>239|49=>240|50=>241|57=>295|n=>n,fun|22=>30|24=>32|25=>79|3=>3|39=>150|0=>0|53=>189|55=>191|4=>4|46=>183|45=>182|50=>144|5=>5|9=>9|66=>215|70=>219|76=>263|77=>264|n=>n,fun|n=>n⟩
theorem Tryz.sortLays:Go.Proofs.SlLaysF0.n6 Tryz.prog Tryz.sortLays_ren:={
 mixed:=by kernel_rfl
 f6:=⟨Tryz.f96.name,by decide,Tryz.func96.trans (congrArg some (by kernel_rfl))⟩
 f14:=⟨Tryz.f132.name,by decide,Tryz.func132.trans (congrArg some (by kernel_rfl))⟩
 f15:=Tryz.func133.trans (congrArg some (by kernel_rfl))
 f20:=⟨Tryz.f177.name,by decide,Tryz.func177.trans (congrArg some (by kernel_rfl))⟩
 f21:=⟨Tryz.f178.name,by decide,Tryz.func178.trans (congrArg some (by kernel_rfl))⟩
 f22:=⟨Tryz.f179.name,by decide,Tryz.func179.trans (congrArg some (by kernel_rfl))⟩
 f23:=⟨Tryz.f180.name,by decide,Tryz.func180.trans (congrArg some (by kernel_rfl))⟩
 f24:=⟨Tryz.f181.name,by decide,Tryz.func181.trans (congrArg some (by kernel_rfl))⟩
 f25:=⟨Tryz.f182.name,by decide,Tryz.func182.trans (congrArg some (by kernel_rfl))⟩
 f26:=⟨Tryz.f183.name,by decide,Tryz.func183.trans (congrArg some (by kernel_rfl))⟩
 f27:=⟨Tryz.f184.name,by decide,Tryz.func184.trans (congrArg some (by kernel_rfl))⟩
 f28:=Tryz.func185.trans (congrArg some (by kernel_rfl))
 f29:=Tryz.func186.trans (congrArg some (by kernel_rfl))
 f46:=⟨Tryz.f237.name,by decide,Tryz.func237.trans (congrArg some (by kernel_rfl))⟩
 f47:=Tryz.func238.trans (congrArg some (by kernel_rfl))
 f48:=Tryz.func239.trans (congrArg some (by kernel_rfl))
 f49:=⟨Tryz.f240.name,by decide,Tryz.func240.trans (congrArg some (by kernel_rfl))⟩
 f50:=⟨Tryz.f241.name,by decide,Tryz.func241.trans (congrArg some (by kernel_rfl))⟩
 f57:=⟨Tryz.f295.name,by decide,Tryz.func295.trans (congrArg some (by kernel_rfl))⟩
 t0:=Tryz.underlying0
 a0:=Tryz.isAgg0
 z0:=Tryz.sizeOf0
 v0:=Tryz.zeroValue0
 t3:=Tryz.underlying3
 a3:=Tryz.isAgg3
 z3:=Tryz.sizeOf3
 v3:=Tryz.zeroValue3
 t4:=Tryz.underlying4
 a4:=Tryz.isAgg4
 z4:=Tryz.sizeOf4
 v4:=Tryz.zeroValue4
 t5:=Tryz.underlying5
 a5:=Tryz.isAgg5
 z5:=Tryz.sizeOf5
 v5:=Tryz.zeroValue5
 t9:=Tryz.underlying9
 a9:=Tryz.isAgg9
 z9:=Tryz.sizeOf9
 v9:=Tryz.zeroValue9
 t22:=Tryz.underlying30
 a22:=Tryz.isAgg30
 z22:=Tryz.sizeOf30
 v22:=Tryz.zeroValue30
 t25:=Tryz.underlying79
 a25:=Tryz.isAgg79
 z25:=Tryz.sizeOf79
 v25:=Tryz.zeroValue79
 t39:=Tryz.underlying150
 a39:=Tryz.isAgg150
 z39:=Tryz.sizeOf150
 v39:=Tryz.zeroValue150
 t45:=Tryz.underlying182
 a45:=Tryz.isAgg182
 z45:=Tryz.sizeOf182
 v45:=Tryz.zeroValue182
 t46:=Tryz.underlying183
 a46:=Tryz.isAgg183
 z46:=Tryz.sizeOf183
 v46:=Tryz.zeroValue183
 t50:=Tryz.underlying144
 a50:=Tryz.isAgg144
 z50:=Tryz.sizeOf144
 v50:=Tryz.zeroValue144
 t53:=Tryz.underlying189
 a53:=Tryz.isAgg189
 z53:=Tryz.sizeOf189
 v53:=Tryz.zeroValue189
 t55:=Tryz.underlying191
 a55:=Tryz.isAgg191
 z55:=Tryz.sizeOf191
 v55:=Tryz.zeroValue191
 t66:=Tryz.underlying215
 a66:=Tryz.isAgg215
 z66:=Tryz.sizeOf215
 v66:=Tryz.zeroValue215
 t70:=Tryz.underlying219
 a70:=Tryz.isAgg219
 z70:=Tryz.sizeOf219
 v70:=Tryz.zeroValue219
 t76:=Tryz.underlying263
 a76:=Tryz.isAgg263
 z76:=Tryz.sizeOf263
 v76:=Tryz.zeroValue263
 t77:=Tryz.underlying264
 a77:=Tryz.isAgg264
 z77:=Tryz.sizeOf264
 v77:=Tryz.zeroValue264}
end Go.Proofs
