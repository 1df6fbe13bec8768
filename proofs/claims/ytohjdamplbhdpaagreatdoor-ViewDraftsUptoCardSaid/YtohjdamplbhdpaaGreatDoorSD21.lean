/- A part of the proof. -/
import Derived.Test.YtohjdamplbhdpaaGreatDoorSD20
set_option linter.all false
open List renaming getElem?_append_left->oD,length_append->xX,getElem_mem->xZ,length_filter_le->xb,take_append_drop->xc,getElem?_set_ne->xd,flatMap_append->xe,getElem_of_mem->xf,mem_cons->xh,append_assoc->xi,any_eq_true->xj,length_cons->xk,length_drop->xl,length_take->xm,length_map->xo,map_append->xp,mem_append->xq,take_of_length_le->xr,mem_of_mem_drop->xt,filter_append->xu,flatMap_cons->xw,mem_flatMap->xy,map_cons->xz,length->yA
open Nat renaming le_refl->xY,lt_or_eq_of_le->xg
open Option renaming bind_some->xa
open Bool renaming eq_iff_iff->xn
namespace Go.Abs.Q
open Go.Proofs
attribute [local simp] D1 D4 fin I2 G0 K7 I3
mutual
def EH:Tm->List Tm
 | .mk k nm s m l=>.mk k nm s m l::alls l
def alls:List Tm->List Tm
 | []=>[]
 |t::l=>EH t++alls l
end
theorem AY (t:Tm):EH t=t::alls t.kids:=by cases t;rfl
theorem I9 (l:I1):alls l=l.flatMap EH:=by
 induction l with
 |nil=>rfl
 |cons t l ih=>rw[alls,ih,xw]
theorem Tg {l:I1} {i:Nat} (h:i<l.length):alls (l.take (i+1))=alls (l.take i)++EH l[i]:=by
 rw[List.take_succ_eq_append_getElem h,I9,I9,xe,xw,List.flatMap_nil,List.append_nil]
mutual
theorem OV:∀t:Tm,(EH t).length=t.size
 | .mk _ _ _ _ l=>by
  have:=Cc l;simp only[EH,Tm.size,xk];omega
theorem Cc:∀l:List Tm,(alls l).length=Tm.sizes l
 | []=>rfl
 |t::l=>by
  have:=OV t;have:=Cc l;simp only[alls,Tm.sizes,xX];omega
end
theorem Tf:∀(n:Nat) (t:Tm),t.size<=n->∀x∈EH t,x.size<=t.size:=by
 intro n
 induction n with
 |zero=>intro t h;have:=t.size_pos;omega
 |succ n ih =>
  intro t hn x hx;rw[AY]at hx;rcases xh.1 hx with rfl|hx
  .exact xY _
  .have K3:=t.kids_size;rw[I9]at hx;obtain⟨y,hy,hx⟩:=xy.1 hx;have h1:=Tm.size_le hy;have:=ih y (by omega) x hx;omega
def Gy (L:Nat) (h h':AH):Prop:=h.boxes.length<=h'.boxes.length/\∀j,L<=j->j<h.boxes.length->h'.boxes[j]?=h.boxes[j]?
theorem Gy.trans {L:Nat} {a b c:AH} (h:Gy L a b) (k:Gy L b c):Gy L a c :=
 ⟨Nat.le_trans h.1 k.1,λj h1 h2=>(k.2 j h1 (Nat.lt_of_lt_of_le h2 h.1)).trans (h.2 j h1 h2)⟩
theorem Gy.refl (L:Nat) (a:AH):Gy L a a:=⟨xY _,λ_ _ _=>rfl⟩
theorem Gy.push (L:Nat) (a:AH) (c:E5):Gy L a ⟨a.boxes++[c],a.fams⟩ :=
 ⟨by simp,λj _ h=>by simp[oD h]⟩
structure Vis (g:FuncId) (caps:List AV) (p:Tm->Bool) (L:Nat) (I:List Tm->AH->Prop):Prop where
 raw:C4 g=true
 rawv:GC X8=true
 noB:Bf g=false
 keep:∀G2 h c,L<=h.boxes.length->I G2 h->I G2 ⟨h.boxes++[c],h.fams⟩
 call:∀(x:Tm) (G2:List Tm) (h:AH),G2.length<1099511627776->L<=h.boxes.length->I G2 h ->
  ∃v h',rc Q g (B8 x::caps) h=some (v,h')/\I (G2++[x].filter p) h'/\Gy L h h'
theorem dK {g:FuncId} {caps:E5} {p:Tm->Bool} {L:Nat} {I:List Tm->AH->Prop} (V:Vis g caps p L I) (m:J0) (l:I1) (G2:I1) (C2:G2.length+Tm.sizes l<=1099511627776)
  (IH:∀t∈l,∀(G2:List Tm) (h:AH),G2.length+t.size<=1099511627776->L<=h.boxes.length->I G2 h->∃v h',rc Q X8 [B8 t,.fn g caps] h=some (v,h')/\I (G2++(EH t).filter p) h'/\Gy L h h')
  (fr:Fr) (h:AH) (hL:L<=h.boxes.length) (hI:I G2 h) (hl:fr.length=20) (h1:A0 fr 1=.fn g caps) (h10:A0 fr 10=sl m 4 (A4 l)) (h11:A0 fr 11=.int .i64 l.length) (h12:A0 fr 12=.int .i64 0) :
  C8 (lp (A1 (Q8 Q) (G8 X8) Ee) (fr,h)) λe D3 h'=>Kp Ee.wr fr D3/\e=.exit 0/\I (G2++(alls l).filter p) h'/\Gy L h h':=by
 have hll:=Tm.length_le l;refine C3 rfl fr (λn fr h'=>∃i:Nat,i+n=l.length/\A0 fr 12=.int .i64 (i:Nat)/\I (G2++(alls (l.take i)).filter p) h'/\Gy L h h') ?_ l.length h ⟨0,by omega,h12,by simpa[alls]using hI,Gy.refl _ _⟩;rintro J Φ hJ hΦ n H0 H1 K ⟨i,hi,k12,hI',hK⟩;have B5:=K.1.trans hl;have k1:=A5 K 1 h1;have k10:=A5 K 10 h10;have k11:=A5 K 11 h11;clear K;by_cases A7:i<l.length
 .have V9:=E6 i (by omega);have hx:=U2 A7;have hat:=Tg A7;have hb:(G2++(alls (l.take i)).filter p).length+l[i].size<=1099511627776:=by
   have a1:=xb p (alls (l.take i));have a2:=Cc (l.take (i+1));rw[hat,xX,OV]at a2;have a3:Tm.sizes (l.take (i+1))<=Tm.sizes l:=by
    have e:=congrArg yA (congrArg alls (xc (i+1) l));rw[I9,I9,xe,xX,←I9,←I9,←I9,Cc,Cc,Cc]at e;omega
   simp only[xX];omega
  obtain⟨v,⟨B',F'⟩,hc,hI2,hK2⟩:=IH l[i] (xZ A7) _ ⟨H1.boxes++[(B8 l[i]).cells],H1.fams⟩ hb (by simp only[xX];have:=hK.1;omega) (V.keep _ _ _ (by have:=hK.1;omega) hI');rw[xi,←xu,←hat]at hI2;have hK3:=(hK.trans (Gy.push L H1 (B8 l[i]).cells)).trans hK2;clear hat hb hI' IH;generalize l[i]=s at *
  obtain⟨B,F⟩:=H1;simp only[H4]at hc;simp[Ee,B5,k1,k10,k11,k12,A7,hx,hc,V9];exact O9 hJ ⟨i+1,by omega,by simp[B5],hI2,hK3⟩
 .rw[xr (by omega)]at hI';simp[Ee,B5,k11,k12,A7];exact hΦ _ _ _ ⟨rfl,hI',hK⟩
theorem bN {g:FuncId} {caps:E5} {p:Tm->Bool} {L:Nat} {I:List Tm->AH->Prop} (V:Vis g caps p L I) :
  ∀(n:Nat) (t:Tm),t.size<=n->∀(G2:List Tm) (h:AH),G2.length+t.size<=1099511627776->L<=h.boxes.length->I G2 h ->
   ∃v h',rc Q X8 [B8 t,.fn g caps] h=some (v,h')/\I (G2++(EH t).filter p) h'/\Gy L h h':=by
 intro n
 induction n with
 |zero=>intro t h;have:=t.size_pos;omega
 |succ n ih =>
  intro t hn G2 h hb hL hI;have K3:=t.kids_size;obtain⟨B,F⟩:=h;simp only at hL;obtain⟨v1,⟨B1,F1⟩,hc1,hI1,hk1⟩:=V.call t G2 ⟨B++[(B8 t).cells],F⟩ (by omega) (by simp only[xX];omega) (V.keep _ ⟨B,F⟩ _ hL hI);have hk2:=(Gy.push L ⟨B,F⟩ (B8 t).cells).trans hk1;have hown:B1[B.length]?=some (B8 t).cells:=by
   rw[hk1.2 B.length hL (by simp)];simp
  have hl0:(G2++[t].filter p).length+Tm.sizes t.kids<=1099511627776:=by
   have:=xb p [t];simp only[xX,List.length_singleton]at this ⊢;omega
  have Pc:=dK V t.cm t.kids _ hl0 (λt' ht'=>ih t' (by have:=Tm.size_le ht';omega));clear ih hb hn hl0;have hraw:=V.raw;have hrv:=V.rawv;have hnb:=V.noB;simp only[H4]at hc1 hown;rw[show (EH t).filter p=[t].filter p++(alls t.kids).filter p from by rw[AY,←xu];rfl,←xi];refine FM Mj λfr hl h0 h1=>?_;simp[Mj]at hl h0 h1;simp[Mj,hl,h0,h1,hc1,hraw,hrv,hnb,hown];refine C8.mono (Pc _ _ ?_ hI1 ?_ ?_ ?_ ?_ ?_) ?_<;>first|(simp[hl,h1];done)|skip
  .have:=hk2.1;simp only at this ⊢;omega
  rintro e H0 Jp ⟨K,rfl,hI2,hk3⟩;simp;exact⟨by rw[←xi];exact hI2,hk2.trans hk3⟩
def WH (sz:Nat) (G2:List AV) (v:AV) (h:AH):Prop:=(G2=[]/\v=.vs true 0 [])\/(G2≠[]/\∃k,v=.sl k G2.length 0 G2.length/\h.fams[k]?=some ⟨G2,sz,true⟩)
theorem WK {sz:Nat} {G2:E5} {v:AV} {h:AH} (hg:WH sz G2 v h):∃k,bg k sz G2 v h:=by
 rcases hg with ⟨rfl,rfl⟩|⟨M8,k,rfl,hk⟩
 .exact⟨0,.inl ⟨rfl,false,Fk sz⟩⟩
 .exact⟨k,.inr ⟨M8,rfl,hk⟩⟩
theorem Jr {sz:Nat} {G2:E5} {v:AV} {h h':AH} (hg:WH sz G2 v h) (e:h'.fams=h.fams):WH sz G2 v h':=by
 rcases hg with hg|⟨h1,k,h2,h3⟩
 .exact .inl hg
 .exact .inr ⟨h1,k,h2,by rw[e];exact h3⟩
theorem KU {sz:Nat} {G2:E5} {v:AV} {h:AH} (hg:WH sz G2 v h):v.isTup=false/\v.cells=[v]/\CG [v]=false:=by
 rcases hg with ⟨_,rfl⟩|⟨_,k,rfl,_⟩<;>exact⟨rfl,rfl,rfl⟩
theorem WI {sz:Nat} {G2:E5} {v:AV} {h:AH} (hg:WH sz G2 v h) (h':AH):Pf h' v=some (.int .i64 G2.length,h'):=by
 rcases hg with ⟨rfl,rfl⟩|⟨M8,k,rfl,hk⟩<;>rfl
theorem WJ {c:Ctx} {sz bytes:Nat} {G2:E5} {v z:AV} {h:AH} (hg:WH sz G2 v h) (hm:c.mutApp=true) (m:J0)
  (hb:(G2.length+1)*bytes<=140737488355328) (hb':G2.length<=1099511627776):∃k F,L5 c h sz bytes v (sl m sz [z])=some (.sl k (G2.length+1) 0 (G2.length+1),⟨h.boxes,F⟩)/\F[k]?=some ⟨G2++[z],sz,true⟩/\k<F.length /\
   (∀x,(G2++[z]).set G2.length x=G2++[x])/\∀x B,WH sz (G2++[x]) (.sl k (G2.length+1) 0 (G2.length+1)) ⟨B,F.set k ⟨G2++[x],sz,true⟩⟩:=by
 have hr:(G2.length+1)*bytes<=G5/\G2.length+1<=maxLen:=by simp only[G5,maxLen];omega
 rcases hg with ⟨rfl,rfl⟩|⟨M8,k,rfl,hk⟩
 .rw[aJ,O4,xa,if_neg (by simp),if_pos (by simpa using hr),hm];exact⟨h.fams.length,_,rfl,by simp,by simp,by simp,λx B=>.inr ⟨by simp,_,rfl,by simp⟩⟩
 .have CE:=J1 hk;rw[RN,O4,xa,hk,xa,if_pos ⟨rfl,rfl,by omega,by simpa using hr⟩];exact⟨k,_,rfl,by simp[CE],by simpa using CE,by simp,λx B=>.inr ⟨by simp,k,by simp,by simp[CE]⟩⟩
def aB (b:Nat) (G2:List Tm) (h:AH):Prop:=∃v,h.boxes[b]?=some [v]/\WH 4 (A4 G2) v h
@[simp] theorem mA (cs ds:E5):(AV.agg cs).reform ds=some (.agg ds):=rfl
@[simp] theorem uv (h:AH) (n k m i q sz:Nat) (v:AV):Sm h n (.ep k m i q sz) v=if KA v then ((h.fams[k]?).bind λf =>
  if f.xs.length=m/\f.sz=sz/\f.wr=true then
   (f.xs[i]?).bind λx=>(frz h false v).bind λu=>if u.cells.length=n/\q+n<=x.cells.length then
    (x.reform (I6 x.cells q u.cells)).map λy=>{h with fams:=h.fams.set k {f with xs:=f.xs.set i y}} else none
  else none).map (λh'=>(A9,h'))else none:=by
 have e:Es h n v k m i q sz=((h.fams[k]?).bind λf =>
  if f.xs.length=m/\f.sz=sz/\f.wr=true then
   (f.xs[i]?).bind λx=>(frz h false v).bind λu=>if u.cells.length=n/\q+n<=x.cells.length then
    (x.reform (I6 x.cells q u.cells)).map λy=>{h with fams:=h.fams.set k {f with xs:=f.xs.set i y}} else none
  else none):=by
  simp only[Es];cases h.fams[k]? with
  |none=>rfl
  |some f =>
   simp only[xa];split
   .cases f.xs[i]? with
    |none=>rfl
    |some x=>cases frz h false v<;>rfl
   .rfl
 rw[←e];simp only[Sm];split
 .cases Es h n v k m i q sz<;>rfl
 .rfl
@[simp] theorem tL (h:AH) (n:Nat) (v:AV) (b off:Nat):Sl h n (.ptr b off) v=(h.boxes[b]?).bind λcs=>if CG cs=false/\v.isTup=false/\v.cells.length=n/\off+n<=cs.length then some (A9,{h with boxes:=h.boxes.set b (I6 cs off v.cells)})else none:=by
 simp only[Sl];cases h.boxes[b]?<;>rfl
theorem bb:B8 Yl=AV.agg [.int .i64 0,.str (bs []),.int .i64 0,sl (true,false) 1 []]:=rfl
theorem aY:KA (AV.agg [.int .i64 0,.str (bs []),.int .i64 0,.vs true 0 []])=true:=rfl
theorem Vz (b:Nat):Vis W7 [.ptr b 0] (λ_=>true) (b+1) (aB b) where
 raw:=rfl
 rawv:=rfl
 noB:=rfl
 keep:=by
  rintro G2 h c hL ⟨v,h1,h2⟩;exact⟨v,by rw[oD (by omega)];exact h1,Jr h2 rfl⟩
 call:=by
  rintro x G2 ⟨B,F⟩ hb hL ⟨v,hv,hg⟩;simp only at hv hL;have hbl:=J1 hv;have hal:(A4 G2).length=G2.length:=by rw[D7,xo]
  obtain⟨k,F',ha,hk,CF,ID,hG⟩:=WJ (c:=G8 W7) (bytes:=56) (z:=B8 Yl) (Jr (h':=⟨B++[(B8 x).cells],F⟩) hg rfl) rfl (true,true) (by omega) (by omega);obtain⟨c1,c2,c3⟩:=KU hg;have C2:=WI hg;have hG2:=hG (B8 x);have hs2:=ID (B8 x);rw[hal]at ha hG2 hs2 C2;simp only[H4,bb]at ha hk hs2;have hq:(B++[[AV.int .i64 x.kind,.str x.name,.int .i64 x.sort,sl x.cm 4 (A4 x.kids)]])[b]?=some [v]:=by rw[oD hbl];exact hv
  refine FM Ft λfr hl h0 h1=>?_;simp[Ft]at hl h0 h1;have hlt1:(G2.length:Int)<(G2.length:Int)+1:=by omega
  simp[Ft,hl,h0,h1,hq,C2,ha,hk,c3,aY,A3,hbl,hal,hlt1];refine⟨⟨_,?_,by rw[EA];exact hG2 _⟩,?_,λj hj hj2=>?_⟩
  .simp[oD,hbl]
  .simp
  .simp only at hj2 ⊢;rw[oD (by simpa using hj2),xd (by omega)]
def lr (a b:Nat) (kd:Int) (G2:List Tm) (h:AH):Prop:=h.boxes[a]?=some [.int .i64 kd]/\aB b G2 h
theorem Zx (a b:Nat) (La:a<b) (kd:Int):Vis q9 [.ptr a 0,.ptr b 0] (λx=>decide (x.kind=kd)) (b+1) (lr a b kd) where
 raw:=rfl
 rawv:=rfl
 noB:=rfl
 keep:=by
  rintro G2 h c hL ⟨h0,v,h1,h2⟩;exact⟨by rw[oD (by omega)];exact h0,v,by rw[oD (by omega)];exact h1,Jr h2 rfl⟩
 call:=by
  rintro x G2 ⟨B,F⟩ hb hL ⟨hkd,v,hv,hg⟩;simp only at hv hL hkd;have hbl:=J1 hv;have hal:(A4 G2).length=G2.length:=by rw[D7,xo]
  have hq:(B++[[AV.int .i64 x.kind,.str x.name,.int .i64 x.sort,sl x.cm 4 (A4 x.kids)]])[b]?=some [v]:=by rw[oD hbl];exact hv
  have hq2:(B++[[AV.int .i64 x.kind,.str x.name,.int .i64 x.sort,sl x.cm 4 (A4 x.kids)]])[a]?=some [.int .i64 kd]:=by rw[oD (by omega)];exact hkd
  by_cases hc:x.kind=kd
  .subst hc;obtain⟨k,F',ha,hk,CF,ID,hG⟩:=WJ (c:=G8 q9) (bytes:=56) (z:=B8 Yl) (Jr (h':=⟨B++[(B8 x).cells],F⟩) hg rfl) rfl (true,true) (by omega) (by omega);obtain⟨c1,c2,c3⟩:=KU hg;have C2:=WI hg;have hG2:=hG (B8 x);have hs2:=ID (B8 x);rw[hal]at ha hG2 hs2 C2;simp only[H4,bb]at ha hk hs2;have hlt1:(G2.length:Int)<(G2.length:Int)+1:=by omega
   refine kr Ax λfr hl h0 h1 h2=>?_;simp[Ax]at hl h0 h1 h2;simp[Ax,hl,h0,h1,h2,hq,hq2,C2,ha,hk,c3,aY,A3,hbl,hal,hlt1];refine⟨⟨?_,_,?_,by rw[EA];exact hG2 _⟩,?_,λj hj hj2=>?_⟩
   .simp only;rw[oD (by simp;omega),xd (by omega)];exact hkd
   .simp[oD,hbl]
   .simp
   .simp only at hj2 ⊢;rw[oD (by simpa using hj2),xd (by omega)]
  .refine kr Ax λfr hl h0 h1 h2=>?_;simp[Ax]at hl h0 h1 h2;simp[Ax,hl,h0,h1,hq2,hc];exact⟨⟨hq2,v,hq,Jr hg rfl⟩,Gy.push _ ⟨B,F⟩ _⟩
theorem TH (m:J0) (l:I1) (C2:Tm.sizes l<=1099511627776) (fr:Fr) (h:AH) (hh:h.boxes=[[.vs true 0 []]]) (hl:fr.length=18)
  (h3:A0 fr 3=.ptr 0 0) (h6:A0 fr 6=sl m 4 (A4 l)) (h7:A0 fr 7=.int .i64 l.length) (h8:A0 fr 8=.int .i64 0) :
  C8 (lp (A1 (Q8 Q) (G8 q8) BP) (fr,h)) λe D3 h'=>Kp BP.wr fr D3/\e=.exit 0/\aB 0 (alls l) h':=by
 have hll:=Tm.length_le l;refine C3 rfl fr (λn fr h'=>∃i:Nat,i+n=l.length/\A0 fr 8=.int .i64 (i:Nat)/\aB 0 (alls (l.take i)) h'/\1<=h'.boxes.length) ?_ l.length h ⟨0,by omega,h8,⟨_,by rw[hh];rfl,.inl ⟨rfl,rfl⟩⟩,by rw[hh];simp⟩;rintro J Φ hJ hΦ n H0 H1 K ⟨i,hi,k8,hI,hB⟩;have B5:=K.1.trans hl;have k3:=A5 K 3 h3;have k6:=A5 K 6 h6;have k7:=A5 K 7 h7;clear K;by_cases A7:i<l.length
 .have V9:=E6 i (by omega);have hx:=U2 A7;have hat:=Tg A7;have hV:=Vz 0;have hb:(alls (l.take i)).length+l[i].size<=1099511627776:=by
   have a2:=Cc (l.take (i+1));rw[hat,xX,OV]at a2;have a3:Tm.sizes (l.take (i+1))<=Tm.sizes l:=by
    have e:=congrArg yA (congrArg alls (xc (i+1) l));rw[I9,I9,xe,xX,←I9,←I9,←I9,Cc,Cc,Cc]at e;omega
   omega
  obtain⟨v,⟨B',F'⟩,hc,hI2,hK2⟩:=bN hV _ l[i] (xY _) _ ⟨H1.boxes++[(B8 l[i]).cells],H1.fams⟩ hb (by simp) (hV.keep _ _ _ hB hI);rw[List.filter_eq_self.2 (λ_ _=>rfl),←hat]at hI2;have hB2:1<=B'.length:=by have:=hK2.1;simp at this;omega
  clear hat hb hI hV hK2;generalize l[i]=s at *
  obtain⟨B,F⟩:=H1;simp only[H4]at hc;simp[BP,B5,k3,k6,k7,k8,A7,hx,hc,V9];exact O9 hJ ⟨i+1,by omega,by simp[B5],hI2,hB2⟩
 .rw[xr (by omega)]at hI;simp[BP,B5,k7,k8,A7];exact hΦ _ _ _ ⟨rfl,hI⟩
theorem QQ (m:J0) (l:I1) (C2:Tm.sizes l<=1099511627776) :
  ∃(R:List Tm) (m':Bool×Bool),pc Q q8 [sl m 4 (A4 l)]=some (sl m' 4 (A4 R))/\O1 R (alls l)/\R.length<=Tm.sizes l:=by
 suffices h:∃v,pc Q q8 [sl m 4 (A4 l)]=some v/\∃q:List Tm×(Bool×Bool),v=sl q.2 4 (A4 q.1)/\O1 q.1 (alls l)/\q.1.length<=Tm.sizes l by
  obtain⟨v,h1,q,rfl,h2⟩:=h;exact⟨q.1,q.2,h1,h2⟩
 refine Ja HV λΨ hΨ fr hl h0=>?_;simp[HV]at hl h0;simp[HV,hl,h0];refine C8.mono (TH m l C2 _ _ ?_ ?_ ?_ ?_ ?_ ?_) ?_<;>first|(simp[hl];done)|skip
 rintro e H0 ⟨B,F⟩ ⟨K,rfl,v,hv,hg⟩;simp only at hv;obtain⟨c1,c2,c3⟩:=KU hg;obtain⟨k,hrow⟩:=WK hg;have hal:=Cc l;obtain⟨v',⟨B',F'⟩,R,ho,hb,ID,hRl,f1,f2,mm,f3⟩:=ST k (alls l) v ⟨B,F⟩ hrow (λt ht=>by
  rw[I9]at ht;obtain⟨y,hy,ht⟩:=xy.1 ht;have:=Tf _ y (xY _) t ht;have:=Tm.size_le hy;omega) (by omega)
 simp only at hb;subst hb;have M7:H0.length=18:=K.1.trans (by simp[hl]);have QI:A0 H0 3=.ptr 0 0:=A5 K 3 (by simp[hl]);clear K;simp[M7,QI,hv,c3,ho,f3];exact hΨ _ ⟨(R,mm),rfl,ID,by simpa[hal]using hRl⟩
theorem kP (t:Tm) (C2:t.size<=1099511627776) :
  ∃(R:List Tm) (m':Bool×Bool),pc Q MH [B8 t]=some (sl m' 4 (A4 R))/\O1 R ((EH t).filter λx=>decide (x.kind=1)):=by
 have hofk:∃(R:List Tm) (m':Bool×Bool),pc Q EY [B8 t,.int .i64 1]=some (sl m' 4 (A4 R))/\O1 R ((EH t).filter λx=>decide (x.kind=1)):=by
  suffices h:∃v,pc Q EY [B8 t,.int .i64 1]=some v/\∃q:List Tm×(Bool×Bool),v=sl q.2 4 (A4 q.1)/\O1 q.1 ((EH t).filter λx=>decide (x.kind=1)) by
   obtain⟨v,h1,q,rfl,h2⟩:=h;exact⟨q.1,q.2,h1,h2⟩
  have hV:=Zx 1 2 (by omega) 1;obtain⟨w,⟨B,F⟩,hc,⟨_,v,hv,hg⟩,hK2⟩:=bN hV _ t (xY _) [] ⟨[(B8 t).cells,[.int .i64 1],[.vs true 0 []]],[]⟩ (by simpa using C2) (by simp) ⟨rfl,_,rfl,.inl ⟨rfl,rfl⟩⟩;rw[List.nil_append]at hg;simp only at hv;obtain⟨c1,c2,c3⟩:=KU hg;obtain⟨k,hrow⟩:=WK hg;have hal:=OV t;have hfl:=xb (λx:Tm=>decide (x.kind=1)) (EH t);obtain⟨v',⟨B',F'⟩,R,ho,hb,ID,hRl,f1,f2,mm,f3⟩:=ST k _ v ⟨B,F⟩ hrow (λx hx=>by
   have:=Tf _ t (xY _) x (List.mem_filter.1 hx).1;omega) (by omega)
  simp only at hb;subst hb;simp only[H4]at hc;refine TT Jn λΨ hΨ fr hl h0 h1=>?_;simp[Jn]at hl h0 h1;simp[Jn,hl,h0,h1,hc,hv,c3,ho,f3];exact hΨ _ ⟨(R,mm),rfl,ID⟩
 obtain⟨R,m',h1,h2⟩:=hofk;refine⟨R,m',?_,h2⟩;refine N0 Mg λfr hl h0=>?_;simp[Mg]at hl h0;simp[Mg,hl,h0,h1]
def P3 (l:List Tm) (t:Tm):Bool:=l.any λx=>HN x t
theorem f8 {l:I1} {t:Tm}:P3 l t=true↔D2 t∈l.map D2:=by
 simp only[P3,xj,HN,decide_eq_true_eq,List.mem_map,AC]
theorem bk {R l:I1} (h:O1 R l) (t:Tm):P3 R t=P3 l t:=by
 rw[xn,f8,f8];exact h.2 _
theorem Qr {l:I1} {t t':Tm} (h:D2 t=D2 t'):P3 l t=P3 l t':=by
 rw[xn,f8,f8,h]
theorem ii (a b:I1):A4 (a++b)=A4 a++A4 b:=by simp[D7]
def rL (t:Tm):Bool:=((EH t).filter λx=>decide (x.kind=1)).isEmpty
theorem bo {R l:I1} (h:O1 R l):R.length=0↔l.isEmpty=true:=by
 have h2:=h.2;rw[List.isEmpty_iff];constructor
 .intro e;have:R=[]:=List.eq_nil_of_length_eq_zero e;subst this;cases l with
  |nil=>rfl
  |cons a l=>exact absurd ((h2 (D2 a)).2 (by simp)) (by simp)
 .rintro rfl;cases R with
  |nil=>rfl
  |cons a l=>exact absurd ((h2 (D2 a)).1 (by simp)) (by simp)
theorem WZ (a:Nat):D5 .shr (.int .u64 (a:Int)) (.int .u64 1)=some (.int .u64 ((a / 2:Nat):Int)):=by
 have e:Int.fdiv (a:Int) (2 ^ (min (1:Int).toNat IntKind.u64.bits))=((a / 2:Nat):Int):=by
  rw[show min (1:Int).toNat IntKind.u64.bits=1 from rfl];rw[Int.fdiv_eq_ediv_of_nonneg _ (by decide)];omega
 simp only[D5];rw[if_pos (by decide),e]
theorem iq {n:Int} (h0:0<=n) (h1:n<=9223372036854775807):IntKind.u64.wrap n=n:=by
 simp only[IntKind.wrap,IntKind.bits,IntKind.signed];simp;omega
def d9 (R:List Tm):Prop:=R.Pairwise λa b=>G9 a b<0
theorem d9.get {R:I1} (h:d9 R) {i j:Nat} (hi:i<R.length) (hj:j<R.length) (hij:i<j):G9 R[i] R[j]<0:=(List.pairwise_iff_getElem.1 h) i j hi hj hij
theorem fj {R:I1} (h:d9 R) (t:Tm) (i:Nat) (h1:∀j (hj:j<R.length),j<i->G9 R[j] t<0) (h2:∀j (hj:j<R.length),i<=j->0<=G9 R[j] t) :
  P3 R t=true↔∃hi:i<R.length,G9 R[i] t=0:=by
 simp only[P3,xj,HN,decide_eq_true_eq];constructor
 .rintro⟨x,hx,hc⟩;obtain⟨j,hj,rfl⟩:=xf hx;have hij:i<=j:=by
   rcases Nat.lt_or_ge j i with q|q
   .have:=h1 j hj q;omega
   .exact q
  refine⟨by omega,?_⟩;rcases xg hij with q|q
  .have a:=h.get (by omega) hj q;have b:=h2 i (by omega) (xY _);have:=gU a (by omega:G9 R[j] t<=0);omega
  .subst q;exact hc
 .rintro⟨hi,hc⟩;exact⟨_,xZ hi,hc⟩
theorem lV (m:J0) (R:I1) (t:Tm) (hR:d9 R) (C2:R.length<=1099511627776) (hs:∀x∈R,x.size<=1099511627776) (ht:t.size<=1099511627776) :
  ∃i:Nat,i<=R.length/\(∀j (hj:j<R.length),j<i->G9 R[j] t<0)/\(∀j (hj:j<R.length),i<=j->0<=G9 R[j] t) /\
   pc Q G4 [sl m 4 (A4 R),B8 t,.fn A8 []]=some (.tup [.int .i64 (i:Nat),.bool (P3 R t)]):=by
 suffices h:∃v,pc Q G4 [sl m 4 (A4 R),B8 t,.fn A8 []]=some v/\∃i:Nat,v=.tup [.int .i64 (i:Nat),.bool (P3 R t)]/\i<=R.length/\(∀j (hj:j<R.length),j<i->G9 R[j] t<0)/\(∀j (hj:j<R.length),i<=j->0<=G9 R[j] t) by
  obtain⟨v,h1,i,rfl,h2,h3,h4⟩:=h;exact⟨i,h2,h3,h4,h1⟩
 refine Xw P0 λΨ hΨ fr hl h0 h1 h2=>?_;simp[P0]at hl h0 h1 h2;simp[P0,hl,h0,h1];refine(C3 (Ψ:=λe D3 h'=>e=.exit 0/\h'=⟨[(B8 t).cells],[]⟩/\∃i:Nat,A0 D3 9=.int .i64 (i:Nat)/\i<=R.length/\(∀j (hj:j<R.length),j<i->G9 R[j] t<0)/\(∀j (hj:j<R.length),i<=j->0<=G9 R[j] t)) rfl _
  (λn D3 h'=>h'=⟨[(B8 t).cells],[]⟩/\∃lo hi:Nat,hi=lo+n/\hi<=R.length/\A0 D3 9=.int .i64 (lo:Nat)/\A0 D3 10=.int .i64 (hi:Nat)/\(∀j (hj:j<R.length),j<lo->G9 R[j] t<0)/\(∀j (hj:j<R.length),hi<=j->0<=G9 R[j] t)) ?_ R.length _
  ⟨by simp,0,R.length,by omega,xY _,by simp[hl],by simp[hl],λj _ h=>absurd h (Nat.not_lt_zero _),λj hj h=>by omega⟩).mono ?_
 .rintro J Φ hJ hΦ n H0 H1 K ⟨rfl,lo,hi,hn,UF,k9,k10,g1,g2⟩;have B5:H0.length=49:=K.1.trans (by simp[hl]);have k0:=A5 K 0 (by simp[h0]:_=sl m 4 (A4 R));have k2:=A5 K 2 (by simp[h2]:_=AV.fn A8 []);have k4:=A5 K 4 (by simp[hl]:_=AV.ptr 0 0);clear K;by_cases A7:0<n
  .have hlti:(lo:Int)<(hi:Int):=by omega
   have hw1:IntKind.i64.wrap ((lo:Int)+(hi:Int))=(lo:Int)+(hi:Int):=M5 (by omega) (by omega);have hw2:IntKind.u64.wrap ((lo:Int)+(hi:Int))=(lo:Int)+(hi:Int):=iq (by omega) (by omega);obtain⟨mid,hmd⟩:∃mid,mid=(lo+hi) / 2:=⟨_,rfl⟩;have hb:=WZ (lo+hi);rw[←hmd,Int.natCast_add]at hb;have hm1:lo<=mid:=by omega
   have hm2:mid<hi:=by omega
   have hw3:IntKind.i64.wrap (mid:Int)=(mid:Int):=M5 (by omega) (by omega);have hw4:=E6 mid (by omega);have hmid:mid<R.length:=by omega
   have hx:=U2 hmid;have hC:=Z3 _ R[mid] t (xY _) (hs _ (xZ hmid)) ht;by_cases hc:G9 R[mid] t<0
   .have g1':∀j (hj:j<R.length),j<mid+1->G9 R[j] t<0:=λj hj hjm=>by
     rcases xg (Nat.le_of_lt_succ hjm)with q|q
     .exact El (hR.get hj hmid q) hc
     .subst q;exact hc
    generalize R[mid]=x at *
    simp[J3,B5,k0,k2,k4,k9,k10,hlti,hw1,hw2,hw3,hw4,hb,hx,hC,hc];exact⟨hi-(mid+1),by omega,hJ _ _ _ ⟨by simp,mid+1,hi,by omega,UF,by simp[B5],by simp[k10],g1',g2⟩⟩
   .have g2':∀j (hj:j<R.length),mid<=j->0<=G9 R[j] t:=λj hj hjm=>by
     rcases xg hjm with q|q
     .rcases Int.lt_or_le (G9 R[j] t) 0 with p|p
      .exact absurd (El (hR.get hmid hj q) p) hc
      .exact p
     .subst q;omega
    generalize R[mid]=x at *
    simp[J3,B5,k0,k2,k4,k9,k10,hlti,hw1,hw2,hw3,hb,hx,hC,hc];exact⟨mid-lo,by omega,hJ _ _ _ ⟨by simp,lo,mid,by omega,by omega,by simp[k9],by simp[B5],g1,g2'⟩⟩
  .have hn0:n=0:=by omega
   have hlh:hi=lo:=by omega
   subst hlh;simp[J3,B5,k9,k10];exact hΦ _ _ _ ⟨rfl,by simp,hi,by simp[k9],UF,g1,g2⟩
 .rintro e H0 Jp ⟨K,rfl,rfl,i,k9,hi,g1,g2⟩;have B5:H0.length=49:=K.1.trans (by simp[hl]);have k0:=A5 K 0 (by simp[h0]:_=sl m 4 (A4 R));have k2:=A5 K 2 (by simp[h2]:_=AV.fn A8 []);have k4:=A5 K 4 (by simp[hl]:_=AV.ptr 0 0);have k8:=A5 K 8 (by simp[hl]:_=AV.int .i64 R.length);clear K;have hh:=fj hR t i g1 g2;by_cases A7:i<R.length
  .have hx:=U2 A7;have hC:=Z3 _ R[i] t (xY _) (hs _ (xZ A7)) ht;have e:decide (G9 R[i] t=0)=P3 R t:=by
    rw[xn,decide_eq_true_iff,hh];exact⟨λh=>⟨A7,h⟩,λ⟨_,h⟩=>h⟩
   simp[B5,k0,k2,k4,k8,k9,A7,hx,hC];exact hΨ _ ⟨i,by rw[e],hi,g1,g2⟩
  .have e:P3 R t=false:=by
    rw[Bool.eq_false_iff];intro h;obtain⟨h,-⟩:=hh.1 h;omega
   simp[B5,k8,k9,A7];exact hΨ _ ⟨i,by rw[e],hi,g1,g2⟩
@[simp] theorem xF (k:IntKind) (i:Int) (b:Bool):(AV.tup [.int k i,.bool b]).scalar=true:=rfl
theorem GX (m:J0) (R:I1) (t:Tm) (hR:d9 R) (C2:R.length<=1099511627776) (hs:∀x∈R,x.size<=1099511627776) (ht:t.size<=1099511627776) :
  pc Q M0 [sl m 4 (A4 R),B8 t]=some (.bool (P3 R t)):=by
 obtain⟨i,-,-,-,hB⟩:=lV m R t hR C2 hs ht;refine R9 EN λfr hl h0 h1=>?_;simp[EN]at hl h0 h1;simp[EN,hl,h0,h1,hB]
def Rh (R:List Tm) (i:Nat) (t:Tm):List Tm:=R.take i++t::R.drop i
theorem YE (m:J0) (xs:E5) (ac:xs.length<=1048576) (h:AH):∃w h',rc Q I4 [sl m 4 xs] h=some (w,h')/\bg h.fams.length 4 xs w h'/\h'.boxes=h.boxes/\∃e,h'.fams=h.fams++e:=by
 have hr:xs.length*56<=G5/\xs.length<=maxLen:=by simp only[G5,maxLen];omega
 suffices hq:∃w h',rc Q I4 [sl m 4 xs] h=some (w,h')/\∀Ψ:AV->AH->Prop,(∀w h',bg h.fams.length 4 xs w h'/\h'.boxes=h.boxes/\(∃e,h'.fams=h.fams++e)->Ψ w h')->Ψ w h' by
  obtain⟨w,h',h1,h2⟩:=hq;exact⟨w,h',h1,h2 _ λ_ _ h=>h⟩
 refine YC V2 λfr hl h0=>?_;simp[V2]at hl h0;by_cases he:xs=[]
 .subst he;obtain⟨m1,m2⟩:=m;cases m2 with
  |false =>
   simp[V2,hl,h0,Nw];exact λΨ hΨ=>hΨ _ _ (.inl ⟨rfl,false,Fk 4⟩) rfl [] (by simp)
  |true =>
   simp[V2,hl,h0,Nw,FQ,A3];exact λΨ hΨ=>hΨ _ _ (.inl ⟨rfl,true,rfl⟩) rfl [] (by simp)
 .have he':xs.isEmpty=false:=by simpa using he
  simp[V2,hl,h0,Nw,he',FQ,A3,he,hr,show TM I4=true from rfl];exact λΨ hΨ=>hΨ _ _ (.inr ⟨he,rfl,by simp⟩) rfl _ rfl
theorem XC (R:I1) (i:Nat) (t:Tm):A4 (Rh R i t)=(A4 R).take i++B8 t::(A4 R).drop i:=by
 rw[Rh,D7,D7,xp,xz,List.map_take,List.map_drop]
theorem fp {R:I1} (hR:d9 R) (t:Tm) {i:Nat} (hi:i<=R.length) (h1:∀j (hj:j<R.length),j<i->G9 R[j] t<0) (h2:∀j (hj:j<R.length),i<=j->0<=G9 R[j] t) (hn:P3 R t=false) :
  d9 (Rh R i t)/\∀e,e∈(Rh R i t).map D2↔e=D2 t\/e∈R.map D2:=by
 have fl:∀x∈R,G9 x t≠0:=by
  intro x hx hc;have:P3 R t=true:=by
   simp only[P3,xj,HN,decide_eq_true_eq];exact⟨x,hx,hc⟩
  rw[this]at hn;cases hn
 have ha:∀x∈R.take i,G9 x t<0:=by
  intro x hx;obtain⟨j,hj,rfl⟩:=xf hx;rw[xm]at hj;rw[List.getElem_take];exact h1 j (by omega) (by omega)
 have hb:∀x∈R.drop i,G9 t x<0:=by
  intro x hx;have hm:=xt hx;obtain⟨j,hj,rfl⟩:=xf hx;rw[xl]at hj;rw[List.getElem_drop]at hm ⊢;have a:=h2 (i+j) (by omega) (by omega);have b:=fl _ hm;exact Jy.1.2 (by omega)
 refine⟨?_,λe=>?_⟩
 .unfold d9 Rh;rw[List.pairwise_append];refine⟨hR.sublist (List.take_sublist i R),List.pairwise_cons.2 ⟨hb,hR.sublist (List.drop_sublist i R)⟩,λx hx y hy=>?_⟩;rcases xh.1 hy with rfl|hy
  .exact ha x hx
  .exact El (ha x hx) (hb y hy)
 .have:e∈R.map D2↔e∈(R.take i).map D2\/e∈(R.drop i).map D2:=by
   rw[←xq,←xp,xc]
  rw[this,Rh,xp,xz,xq,xh];constructor
  .rintro(h|h|h)
   .exact .inr (.inl h)
   .exact .inl h
   .exact .inr (.inr h)
  .rintro(h|h|h)
   .exact .inr (.inl h)
   .exact .inl h
   .exact .inr (.inr h)
theorem XB (K b:Nat) (O:Orc) (args:E5) (h:AH):(cc K b).run O args h=Ke K b args h:=rfl
theorem nW {k:Nat} {xs:E5} {w x:AV} {h:AH} (hg:bg k 4 xs w h) (hx:x.isAgg=true) (i:Nat) (hi:i<=xs.length) (hl:xs.length<=1048576) :
  ∃h' k',rc Q K9 [w,.int .i64 (i:Nat),sl (true,true) 4 [x]] h=some (.sl k' (xs.length+1) 0 (xs.length+1),h')/\h'.boxes=h.boxes/\∃b,h'.fams[k']?=some ⟨xs.take i++x::xs.drop i,4,b⟩:=by
 have e1:sl (true,true) 4 [x]=.vs true 4 [x]:=by simp[sl]
 rcases hg with ⟨rfl,b,rfl⟩|⟨M8,rfl,hk⟩
 .have hi0:i=0:=by simpa using hi
  subst hi0;refine⟨⟨h.boxes,h.fams++[⟨[x],4,true⟩]⟩,h.fams.length,JL (s:=cc 4 56) rfl rfl ?_,rfl,true,by simp⟩;rw[e1];rw[XB];simp only[sl,Ke];rw[if_pos ⟨trivial,hx⟩,if_pos (by decide)];rfl
 .have CF:=J1 hk;refine⟨⟨h.boxes,h.fams.set k ⟨xs.take i++x::xs.drop i,4,true⟩⟩,k,JL (s:=cc 4 56) rfl rfl ?_,rfl,true,by simp[CF]⟩;rw[e1];rw[XB];simp only[Ke,hk];rw[if_pos ⟨trivial,hx⟩,if_pos ⟨trivial,trivial,trivial,List.length_pos_iff.2 M8,trivial,trivial,by omega,by omega,by simp only[G5];omega,by simp only[maxLen];omega⟩];simp
theorem kW (m:J0) (R:I1) (t:Tm) (hR:d9 R) (C2:R.length<=1048576) (hs:∀x∈R,x.size<=1099511627776) (ht:t.size<=1099511627776) (hn:P3 R t=false) :
  ∃(R':List Tm) (m':Bool×Bool),pc Q i5 [sl m 4 (A4 R),B8 t]=some (sl m' 4 (A4 R'))/\d9 R'/\(∀e,e∈R'.map D2↔e=D2 t\/e∈R.map D2)/\(∀x∈R',x=t\/x∈R)/\R'.length=R.length+1:=by
 obtain⟨i,hi,g1,g2,hB⟩:=lV m R t hR (by omega) hs ht;obtain⟨s1,s2⟩:=fp hR t hi g1 g2 hn;rw[hn]at hB;have hlR:(A4 R).length=R.length:=by rw[D7,xo]
 suffices h:∃v,pc Q i5 [sl m 4 (A4 R),B8 t]=some v/\∃q:Bool×Bool,v=sl q 4 (A4 (Rh R i t)) by
  obtain⟨v,h1,q,rfl⟩:=h;refine⟨Rh R i t,q,h1,s1,s2,λx hx=>?_,?_⟩
  .rw[Rh]at hx;rcases xq.1 hx with h|h
   .exact .inr (List.mem_of_mem_take h)
   .rcases xh.1 h with rfl|h
    .exact .inl rfl
    .exact .inr (xt h)
  .rw[Rh,xX,xk,xm,xl];omega
 obtain⟨w,⟨B,F⟩,hC,hg,hb,hf⟩:=YE m (A4 R) (by omega) ⟨[(B8 t).cells],[]⟩;simp only at hb;subst hb;obtain⟨⟨B',F'⟩,k',hI,hb',b,CE⟩:=nW (x:=B8 t) hg (by cases t;rfl) i (by omega) (by omega);simp only at hb';subst hb';rw[hlR]at hI;rw[←XC]at CE;have hz:y5 ⟨[(B8 t).cells],F'⟩ true (.sl k' (R.length+1) 0 (R.length+1))=some (sl (false,true) 4 (A4 (Rh R i t))):=Hj CE (by
  rw[XC,xX,xk,xm,xl,hlR];omega)
 obtain⟨c1,c2,c3⟩:=PS hg;simp only[H4]at hC hI hz;refine TT De λΨ hΨ fr hl h0 h1=>?_;simp[De]at hl h0 h1;simp[De,hl,h0,h1,hB,hC,hI,hz,A3];exact hΨ _ ⟨_,rfl⟩
end Go.Abs.Q
namespace Go.Abs.Q
open Go.Proofs
attribute [local simp] D1 D4 fin I2 G0 K7 I3 N4 O5
def tM:List (ByteArray×Int×Int×Int):=[(bs [112,97,105,114],2,2,1),(bs [101,110,99],2,2,1),(bs [97,101,110,99],2,2,1),(bs [112,107],1,1,1),(bs [115,105,103,110],2,2,1),(bs [104,97,115,104],1,1,1),(bs [120,111,114],2,8,1),(bs [122,101,114,111],0,0,1),(bs [101,120,112],2,2,1),(bs [109,117,108],2,8,1),(bs [105,110,118],1,1,1),(bs [111,110,101],0,0,1),(bs [115,107],1,1,2),(bs [115,104,107],2,2,2),(bs [110,101,119],1,8,2),(bs [102,115,116],1,1,3),(bs [115,110,100],1,1,3),(bs [100,101,99],2,2,3),(bs [97,100,101,99],2,2,3),(bs [111,112,101,110],2,2,3),(bs [114,101,97,100],1,1,3)]
def HK (x:ByteArray×Int×Int×Int):AV:=.agg [.str x.1,.int .i64 x.2.1,.int .i64 x.2.2.1,.int .i64 x.2.2.2]
def zS:ByteArray×Int×Int×Int:=(bs [],0,0,0)
def LY (nm:ByteArray):ByteArray×Int×Int×Int:=(tM.find? λx=>decide (x.1=nm)).getD zS
theorem BY (kd least most:Int) (nm:H6) (G2:E5) (v:AV) (F:List Fam) (hg:Mq 4 G2 v ⟨[[v]],F⟩) (hb:G2.length<=100) :
  ∃(v':AV) (F':List Fam),rc Q P7 [.int .i64 kd,.str nm,.int .i64 least,.int .i64 most,.ptr 0 0] ⟨[[v]],F⟩=some (A9,⟨[[v']],F'⟩)/\Mq 4 (G2++[HK (nm,least,most,kd)]) v' ⟨[[v']],F'⟩:=by
 obtain⟨v',⟨B',F'⟩,ha,g',hb'⟩:=Qj (c:=G8 P7) (bytes:=40) (x:=HK (nm,least,most,kd)) hg rfl (true,true) (by omega) (by omega);simp only at hb';subst hb'
 suffices hq:∃x h',rc Q P7 [.int .i64 kd,.str nm,.int .i64 least,.int .i64 most,.ptr 0 0] ⟨[[v]],F⟩=some (x,h')/\(x=A9/\h'=⟨[[v']],F'⟩) by
  obtain⟨x,h',h1,rfl,rfl⟩:=hq;exact⟨v',F',h1,FN g' rfl⟩
 obtain⟨c1,c2,c3⟩:=Dl hg;obtain⟨c4,c5,c6⟩:=Dl g';simp only[HK]at ha;refine sv MT (by simp[CX]) λfr hl ha=>?_;have h0:=ha 0;have h1:=ha 1;have h2:=ha 2;have h3:=ha 3;have h4:=ha 4;clear ha;simp[CX]at hl h0 h1 h2 h3 h4;simp[CX,hl,h0,h1,h2,h3,h4,c3,c4,c5,ha,A3,D0,E7]
theorem ZX:∃m,pc Q U9 []=some (sl m 4 (tM.map HK)):=by
 suffices h:∃v,pc Q U9 []=some v/\∃q:Bool×Bool,v=sl q 4 (tM.map HK) by
  obtain⟨v,h1,q,rfl⟩:=h;exact⟨q,h1⟩
 have g0:Mq 4 [] (.vs true 0 []) ⟨[[.vs true 0 []]],[]⟩:=OJ _ _;obtain⟨v1,F1,c1,g1⟩:=BY 1 2 2 (bs [112,97,105,114]) _ _ _ g0 (by simp);obtain⟨v2,F2,c2,g2⟩:=BY 1 2 2 (bs [101,110,99]) _ _ _ g1 (by simp);obtain⟨v3,F3,c3,g3⟩:=BY 1 2 2 (bs [97,101,110,99]) _ _ _ g2 (by simp);obtain⟨v4,F4,c4,g4⟩:=BY 1 1 1 (bs [112,107]) _ _ _ g3 (by simp);obtain⟨v5,F5,c5,g5⟩:=BY 1 2 2 (bs [115,105,103,110]) _ _ _ g4 (by simp);obtain⟨v6,F6,c6,g6⟩:=BY 1 1 1 (bs [104,97,115,104]) _ _ _ g5 (by simp);obtain⟨v7,F7,c7,g7⟩:=BY 1 2 8 (bs [120,111,114]) _ _ _ g6 (by simp);obtain⟨v8,F8,c8,g8⟩:=BY 1 0 0 (bs [122,101,114,111]) _ _ _ g7 (by simp);obtain⟨v9,F9,c9,g9⟩:=BY 1 2 2 (bs [101,120,112]) _ _ _ g8 (by simp);obtain⟨v10,F10,c10,g10⟩:=BY 1 2 8 (bs [109,117,108]) _ _ _ g9 (by simp);obtain⟨v11,F11,c11,g11⟩:=BY 1 1 1 (bs [105,110,118]) _ _ _ g10 (by simp);obtain⟨v12,F12,c12,g12⟩:=BY 1 0 0 (bs [111,110,101]) _ _ _ g11 (by simp);obtain⟨v13,F13,c13,g13⟩:=BY 2 1 1 (bs [115,107]) _ _ _ g12 (by simp);obtain⟨v14,F14,c14,g14⟩:=BY 2 2 2 (bs [115,104,107]) _ _ _ g13 (by simp);obtain⟨v15,F15,c15,g15⟩:=BY 2 1 8 (bs [110,101,119]) _ _ _ g14 (by simp);obtain⟨v16,F16,c16,g16⟩:=BY 3 1 1 (bs [102,115,116]) _ _ _ g15 (by simp);obtain⟨v17,F17,c17,g17⟩:=BY 3 1 1 (bs [115,110,100]) _ _ _ g16 (by simp);obtain⟨v18,F18,c18,g18⟩:=BY 3 2 2 (bs [100,101,99]) _ _ _ g17 (by simp);obtain⟨v19,F19,c19,g19⟩:=BY 3 2 2 (bs [97,100,101,99]) _ _ _ g18 (by simp);obtain⟨v20,F20,c20,g20⟩:=BY 3 2 2 (bs [111,112,101,110]) _ _ _ g19 (by simp);obtain⟨v21,F21,c21,g21⟩:=BY 3 1 1 (bs [114,101,97,100]) _ _ _ g20 (by simp);have hg:Mq 4 (tM.map HK) v21 ⟨[[v21]],F21⟩:=g21;clear g0 g1 g2 g3 g4 g5 g6 g7 g8 g9 g10 g11 g12 g13 g14 g15 g16 g17 g18 g19 g20 g21;obtain⟨m,hz⟩:=Yp hg;obtain⟨d1,d2,d3⟩:=Dl hg;refine Ko (C:=Q) ((PR _).trans rfl) ((Lf _).trans Nz) (by simp[ED]) λΨ hΨ fr hl ha=>?_;rw[Tb];clear ha;simp[ED]at hl ;simp[ED,hl,hz,d3,c1,c2,c3,c4,c5,c6,c7,c8,c9,c10,c11,c12,c13,c14,c15,c16,c17,c18,c19,c20,c21];exact hΨ _ ⟨m,rfl⟩
end Go.Abs.Q
