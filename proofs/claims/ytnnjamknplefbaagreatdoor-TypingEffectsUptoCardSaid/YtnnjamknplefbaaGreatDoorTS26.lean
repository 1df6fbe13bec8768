/- A part of the proof. -/
import Derived.Test.YtnnjamknplefbaaGreatDoorTS23
set_option linter.all false
open List renaming getElem?_eq_some_iff->zf0z,getElem?_set_ne->zf1z,append_eq_nil_iff->zf2z,eq_nil_of_length_eq_zero->zf3z,drop_eq_getElem_cons->zf4z,getElem?_eq_getElem->zf5z,length_append->zf6z,drop_eq_nil_of_le->zf7z,getElem?_set_self->zf8z,getElem?_append_left->zf9z,getElem?_of_mem->zg1z,all_cons->zg2z,getElem?_set->zg3z,getElem_mem->zg7z,mem_cons->zt1z
open Bool renaming or_eq_false_iff->zg0z,and_eq_true->zg5z,not_eq_true->zg6z,eq_iff_iff->zg8z,or_eq_true->zg9z,false_or->zt0z
open Nat renaming le_refl->zg4z
set_option linter.all false
namespace Go.Abs.Q
open Go.Proofs
attribute [local simp] J0 J5 fin M6 M0
@[simp]theorem frz_fnp(h:AH)(am:Bool)(f:FuncId)(cs:I7):frz h am (.fn f [.pv cs])=some (.fn f [.pv cs]):=_root_.id rfl
@[simp]theorem tame_fnp(h:AH)(f:FuncId)(cs:I7):tame h (.fn f cs)=true:=_root_.id rfl
def ixB(sz:Nat):RCode:=(.seq (rG [E 9 8 7]) (.seq (.cond (.t 9) .skip (.exit 0)) (.seq (.block 1 (.seq (rG [V 10 8,V 5 10]) (.seq (rG [V 11 1,V 12 0,V 13 5,oI 14 sz 12 13,A 15 sz 14,O 16 (.callv (.t 11) [(.t 15)])]) (.cond (.t 16) (.seq (rG [V 17 5,V 4 17]) .ret) .skip)))) (rG [J 18 8,V 8 18]))))
def zi(sz:Nat):RFunc:=⟨19,[(.tmp 4)],(.seq (rG [C 4 (pI 0)]) (.seq (.seq (rG [V 6 0,N 7 6,C 8 (pI 0)]) (.block 0 (.loop (ixB sz)))) (.seq (rG [C 4 (.int .i64 (-1))]) .ret)))⟩
def lF:RCode:=(.seq (rG [E 9 8 7]) (.seq (.cond (.t 9) .skip (.exit 0)) (.seq (.block 1 (.seq (rG [V 10 8,V 5 10]) (.seq (rG [V 11 1,V 12 0,V 13 5,oI 14 1 12 13,L 15 14,O 16 (.callv (.t 11) [(.t 15)])]) (.cond (.t 16) (.seq (rG [V 17 5,V 4 17]) .ret) .skip)))) (rG [J 18 8,V 8 18]))))
def wa:RFunc:=⟨19,[(.tmp 4)],(.seq (rG [C 4 (pI 0)]) (.seq (.seq (rG [V 6 0,N 7 6,C 8 (pI 0)]) (.block 0 (.loop lF))) (.seq (rG [C 4 (.int .i64 (-1))]) .ret)))⟩
def zT(f:FuncId):RFunc:=⟨9,[(.tmp 4)],(.seq (rG [C 4 (.bool false)]) (.seq (rG [V 5 0,V 6 1,oK 7 f [(.t 5),(.t 6)],O 8 (.bin .geq (.t 7) (.c (pI 0))),V 4 8]) .ret))⟩
section
variable {α:Type} (V:α->AV) (sz:Nat) (p:α->Bool) (f g:FuncId) (caps:List AV) (hr:(C2 f).raw g=false) (m:Bool×Bool) (l:List α) (J3:l.length<=1099511627776) (H:∀a∈l,pc Q g (V a::caps)=some (.bool (p a)))
include hr J3 H
theorem aZ(hV:∀a,∃cs,V a=.agg cs/\cs.length=sz/\cs.all AV.flat=true)(hcf:caps.all S0=true)(fr:Fr)(h:AH)(hl:fr.length=19)(h0:C7 fr 0=sl m sz (l.map V))(h1:C7 fr 1=.fn g caps)(h7:C7 fr 7=.int .i64 l.length)(h8:C7 fr 8=.int .i64 0) :
  L9 (lp (A8 (Ax Q) (C2 f) (ixB sz)) (fr,h)) λe G6 h'=>Kp (ixB sz).wr fr G6/\h'=h/\(e=.exit 0/\idx p l=-1\/e=.ret/\C7 G6 4=.int .i64 (idx p l)):=by
 refine W6 rfl fr (λn fr h'=>∃(i:Nat),i+n=l.length/\C7 fr 8=.int .i64 (i:Nat)/\h'=h/\CL p i (l.drop i)=idx p l) ?_ l.length h ⟨0,by omega,h8,rfl,rfl⟩;rintro J Φ hJ hΦ n Kr H1 K ⟨i,hi,k8,rfl,hr'⟩;have L1:=K.1.trans hl;have hwr:(ixB sz).wr=[9,10,5,11,12,13,14,15,16,17,4,18,8]:=rfl;rw[hwr]at K;have k0:=S6 K 0 h0;have k1:=S6 K 1 h1;have k7:=S6 K 7 h7;clear K hwr;by_cases G9:i<l.length
 .have AT:=AQ i (by omega);have hx:=l9 (f:=V) (zf5z G9);have hW:=H l[i] (zg7z G9);rw[zf4z G9]at hr';simp only[CL]at hr';obtain⟨cs,o9,Ev,hcf'⟩:=hV l[i];generalize l[i]=a at *
  rw[o9]at hx hW;have hcc:S0 (.agg cs)=true:=hcf';have hz:j8 H1 true (.agg cs::caps)=some (.agg cs::caps):=FM H1 true (by rw[zg2z,hcc,hcf];rfl);have htk:cs.take sz=cs:=List.take_of_length_le (by omega);have Ju:sz<=cs.length:=by omega
  cases hb:p a with
  |true =>
   rw[hb]at hW;rw[if_pos hb]at hr';simp[ixB,L1,k0,k1,k7,k8,G9,AT,hx,hr,hz,hW,htk,Ju,Ev];exact hΦ _ _ _ ⟨rfl,.inr ⟨rfl,by simp[L1];exact hr'⟩⟩
  |false =>
   rw[hb]at hW;rw[if_neg (by rw[hb];simp)]at hr';simp[ixB,L1,k0,k1,k7,k8,G9,AT,hx,hr,hz,hW,htk,Ju,Ev];exact EF hJ ⟨i+1,by omega,by simp[L1],rfl,hr'⟩
 .rw[zf7z (by omega)]at hr';simp[ixB,L1,k0,k1,k7,k8,G9];exact hΦ _ _ _ ⟨rfl,.inl ⟨rfl,hr'.symm⟩⟩
theorem Sq(hc:Q5 f=some (zi sz))(hs:HC f=none)(hV:∀a,∃cs,V a=.agg cs/\cs.length=sz/\cs.all AV.flat=true)(hcf:caps.all S0=true):pc Q f [sl m sz (l.map V),.fn g caps]=some (.int .i64 (idx p l)):=by
 refine wu hc hs (by simp[zi]) λfr hl ha=>?_;have h0:=ha 0;have h1:=ha 1;clear ha;simp[zi]at hl h0 h1;simp[zi,hl,h0,h1];refine L9.mono (aZ V sz p f g caps hr m l J3 H hV hcf _ _ ?_ ?_ ?_ ?_ ?_) ?_<;>first|(simp[hl,h0,h1];done)|skip
 rintro e G6 h' ⟨K,-,⟨rfl,he⟩|⟨rfl,h4⟩⟩
 .have hl':G6.length=19:=K.1.trans (by simp[hl]);simp[hl',he]
 .simp[h4]
theorem rc_ixG(hc:Q5 f=some (zi sz))(hrst:(C2 f).rst=false)(hV:∀a,∃cs,V a=.agg cs/\cs.length=sz/\cs.all AV.flat=true)(hcf:caps.all S0=true)(h:AH):rc Q f [sl m sz (l.map V),.fn g caps] h=some (.int .i64 (idx p l),h):=by
 suffices hq:∃v h',rc Q f [sl m sz (l.map V),.fn g caps] h=some (v,h')/\(v=.int .i64 (idx p l)/\h'=h) by
  obtain⟨v,h',h1,rfl,rfl⟩:=hq;exact h1
 refine rcQ hc (by simp[zi]) (λfr hl ha=>?_) hrst;have h0:=ha 0;have h1:=ha 1;clear ha;simp[zi]at hl h0 h1;simp[zi,hl,h0,h1];refine L9.mono (aZ V sz p f g caps hr m l J3 H hV hcf _ _ ?_ ?_ ?_ ?_ ?_) ?_<;>first|(simp[hl,h0,h1];done)|skip
 rintro e G6 h' ⟨K,rfl,⟨rfl,he⟩|⟨rfl,h4⟩⟩
 .have hl':G6.length=19:=K.1.trans (by simp[hl]);simp[hl',he]
 .simp[h4]
theorem lK(hV:∀a,(V a).cells=[V a]/\(V a).flat=true/\∀h,frz h true (V a)=some (V a))(hcf:caps.all S0=true)(fr:Fr)(h:AH)(hl:fr.length=19)(h0:C7 fr 0=sl m 1 (l.map V))(h1:C7 fr 1=.fn g caps)(h7:C7 fr 7=.int .i64 l.length)(h8:C7 fr 8=.int .i64 0) :
  L9 (lp (A8 (Ax Q) (C2 f) lF) (fr,h)) λe G6 h'=>Kp lF.wr fr G6/\(e=.exit 0/\idx p l=-1\/e=.ret/\C7 G6 4=.int .i64 (idx p l)):=by
 refine W6 rfl fr (λn fr h'=>∃(i:Nat),i+n=l.length/\C7 fr 8=.int .i64 (i:Nat)/\CL p i (l.drop i)=idx p l) ?_ l.length h ⟨0,by omega,h8,rfl⟩;rintro J Φ hJ hΦ n Kr H1 K ⟨i,hi,k8,hr'⟩;have L1:=K.1.trans hl;have k0:=S6 K 0 h0;have k1:=S6 K 1 h1;have k7:=S6 K 7 h7;clear K;by_cases G9:i<l.length
 .have AT:=AQ i (by omega);have hx:=l9 (f:=V) (zf5z G9);have hW:=H l[i] (zg7z G9);rw[zf4z G9]at hr';simp only[CL]at hr';obtain⟨o9,hcf',hz1⟩:=hV l[i];generalize l[i]=a at *
  have hz:j8 H1 true (V a::caps)=some (V a::caps):=by
   simp only[aJ,hz1,FM H1 true hcf,Option.bind_some,Option.map_some]
  cases hb:p a with
  |true =>
   rw[hb]at hW;rw[if_pos hb]at hr';simp[lF,L1,k0,k1,k7,k8,G9,AT,hx,hr,hz,hW,o9];exact hΦ _ _ _ (.inr ⟨rfl,by simp[L1];exact hr'⟩)
  |false =>
   rw[hb]at hW;rw[if_neg (by rw[hb];simp)]at hr';simp[lF,L1,k0,k1,k7,k8,G9,AT,hx,hr,hz,hW,o9];exact EF hJ ⟨i+1,by omega,by simp[L1],hr'⟩
 .rw[zf7z (by omega)]at hr';simp[lF,L1,k0,k1,k7,k8,G9];exact hΦ _ _ _ (.inl ⟨rfl,hr'.symm⟩)
theorem wx(hc:Q5 f=some wa)(hs:HC f=none)(hV:∀a,(V a).cells=[V a]/\(V a).flat=true/\∀h,frz h true (V a)=some (V a))(hcf:caps.all S0=true):pc Q f [sl m 1 (l.map V),.fn g caps]=some (.int .i64 (idx p l)):=by
 refine wu hc hs (by simp[wa]) λfr hl ha=>?_;have h0:=ha 0;have h1:=ha 1;clear ha;simp[wa]at hl h0 h1;simp[wa,hl,h0,h1];refine L9.mono (lK V p f g caps hr m l J3 H hV hcf _ _ ?_ ?_ ?_ ?_ ?_) ?_<;>first|(simp[hl,h0,h1];done)|skip
 rintro e G6 h' ⟨K,⟨rfl,he⟩|⟨rfl,h4⟩⟩
 .have hl':G6.length=19:=K.1.trans (by simp[hl]);simp[hl',he]
 .simp[h4]
end
theorem eX{α:Type}(p:α->Bool)(l:List α)(f f' g:FuncId)(caps:I7)(X:AV)(hX:∀h,frz h true X=some X)(hc:Q5 f=some (zT f'))(hs:HC f=none)(hr:(C2 f).raw f'=false)(hcf:caps.all AV.flat=true)(HI:pc Q f' [X,.fn g caps]=some (.int .i64 (idx p l))) :
  pc Q f [X,.fn g caps]=some (.bool (l.any p)):=by
 have he:decide (0<=idx p l)=l.any p:=by
  rw[zg8z,decide_eq_true_iff,idx,Kb]
 have hz:∀h,frz h true (.fn g caps)=some (.fn g caps):=λh=>by
  show (if caps.all AV.flat then some (AV.fn g caps)else none)=_
  rw[if_pos hcf]
 refine wu hc hs (by simp[zT]) λfr hl ha=>?_;have h0:=ha 0;have h1:=ha 1;clear ha;simp[zT]at hl h0 h1;simp[zT,hl,h0,h1,hr,hX,hz,HI];exact he
theorem rc_ctG{α:Type}(p:α->Bool)(l:List α)(f f' g:FuncId)(caps:I7)(X:AV)(hc:Q5 f=some (zT f'))(hrst:(C2 f).rst=false)(hr:(C2 f).raw f'=true)(hnb:L3 f'=false)(h:AH)(HI:rc Q f' [X,.fn g caps] h=some (.int .i64 (idx p l),h)) :
  rc Q f [X,.fn g caps] h=some (.bool (l.any p),h):=by
 have he:decide (0<=idx p l)=l.any p:=by
  rw[zg8z,decide_eq_true_iff,idx,Kb]
 suffices hq:∃v h',rc Q f [X,.fn g caps] h=some (v,h')/\(v=.bool (l.any p)/\h'=h) by
  obtain⟨v,h',h1,rfl,rfl⟩:=hq;exact h1
 refine rcQ hc (by simp[zT]) (λfr hl ha=>?_) hrst;have h0:=ha 0;have h1:=ha 1;clear ha;simp[zT]at hl h0 h1;simp[zT,hl,h0,h1,hr,hnb,HI];exact he
end Go.Abs.Q
namespace Go.Abs
def He(wr:Bool)(sz:Nat)(xs:List AV)(v:AV)(h:AH):Prop:=(∃b,v=sl (true,b) sz xs)\/(xs≠[]/\∃k,v=.sl k xs.length 0 xs.length/\h.fams[k]?=some ⟨xs,sz,wr⟩)
theorem nR(wr:Bool)(sz:Nat)(xs:I7)(b:Bool)(h:AH):He wr sz xs (sl (true,b) sz xs) h:=.inl ⟨b,rfl⟩
theorem DD{wr:Bool}{sz:Nat}{xs:I7}{v:AV}{h h':AH}(hg:He wr sz xs v h)(e:h'.fams=h.fams):He wr sz xs v h':=by
 rcases hg with hg|⟨h1,k,h2,h3⟩
 .exact .inl hg
 .exact .inr ⟨h1,k,h2,by rw[e];exact h3⟩
theorem Wq{c:Ctx}{sz bytes:Nat}{xs ys:I7}{v x:AV}{h:AH}(hg:He c.mutApp sz xs v h)(hx:elems h sz x=some ys)(hb:(xs.length+ys.length)*bytes<=P7/\xs.length+ys.length<=maxLen) :
  ∃v' F',R7 c h sz bytes v x=some (v',⟨h.boxes,F'⟩)/\He c.mutApp sz (xs++ys) v' ⟨h.boxes,F'⟩/\∀j,j<h.fams.length->(∀n o l,v≠.sl j n o l)->F'[j]?=h.fams[j]?:=by
 rcases hg with ⟨b,rfl⟩|⟨s9,k,rfl,hk⟩
 .simp only[sl,R7,Z2,hx];by_cases hy:ys.length=0
  .rw[if_pos hy];have:ys=[]:=zf3z hy;subst this;exact⟨_,h.fams,rfl,.inl ⟨b,by simp[sl]⟩,λ_ _ _=>rfl⟩
  .rw[if_neg hy];have hc:((if (xs.isEmpty&&!b)=true then 0 else sz)=sz\/xs.length=0)/\(xs.length+ys.length)*bytes<=P7/\xs.length+ys.length<=maxLen:=by
    refine⟨?_,hb⟩;cases xs with
    |nil=>exact .inr rfl
    |cons a l=>exact .inl rfl
   rw[if_pos hc];refine⟨_,_,rfl,.inr ⟨by intro e;rw[zf2z]at e;rw[e.2]at hy;exact hy rfl,h.fams.length,by rw[zf6z],by simp⟩,λj hj _=>zf9z hj⟩
 .simp only[R7,Z2,hx,hk];rw[if_pos ⟨trivial,trivial,by omega,hb.1,hb.2⟩];have wW:=(zf0z.1 hk).1;refine⟨_,_,rfl,.inr ⟨by intro e;rw[zf2z]at e;exact s9 e.1,k,by rw[zf6z],by simp[wW]⟩,λj hj hv=>?_⟩;have:k≠j:=λe=>hv _ _ _ (by rw[e]);exact zf1z this
theorem Ga{wr:Bool}{sz:Nat}{xs:I7}{v:AV}{h:AH}(hg:He wr sz xs v h):∃m:Bool×Bool,∀(B:List (List AV)) (am:Bool),(am||!wr)=true->frz ⟨B,h.fams⟩ am v=some (sl m sz xs)/\Bo ⟨B,h.fams⟩ am v=some (sl m sz xs):=by
 rcases hg with ⟨b,rfl⟩|⟨s9,k,rfl,hk⟩
 .exact⟨(true,b),λB am _=>⟨rfl,rfl⟩⟩
 .have he:xs.isEmpty=false:=by cases xs with
   |nil=>exact absurd rfl s9
   |cons a l=>rfl
  refine⟨(false,true),λB am ha=>?_⟩;have:Bo ⟨B,h.fams⟩ am (.sl k xs.length 0 xs.length)=some (sl (false,true) sz xs):=by
   simp only[Bo,hk];rw[if_pos ⟨trivial,by omega,ha⟩];simp[sl,he]
  exact⟨this,this⟩
theorem gO{wr:Bool}{sz:Nat}{xs:I7}{v:AV}{h:AH}(hg:He wr sz xs v h):∃m:Bool×Bool,∀B:List (List AV),Dv ⟨B,h.fams⟩ v=some (sl m sz xs):=by
 obtain⟨m,hm⟩:=Ga hg;refine⟨m,λB=>?_⟩;have:=(hm B true rfl).1;rcases hg with ⟨b,rfl⟩|⟨_,k,rfl,_⟩<;>exact this
theorem Nj{sz:Nat}{xs:I7}{v:AV}{h:AH}(hg:He false sz xs v h)(B:List (List AV)):tame ⟨B,h.fams⟩ v=true:=by
 rcases hg with ⟨b,rfl⟩|⟨s9,k,rfl,hk⟩
 .rfl
 .show (match h.fams[k]? with|some f=>!f.wr|none=>false)=true
  rw[hk];rfl
theorem i8{wr:Bool}{sz:Nat}{xs:I7}{v:AV}{h:AH}(hg:He wr sz xs v h):v.isTup=false/\v.cells=[v]/\u6 [v]=false/\JJ v=true:=by
 rcases hg with ⟨b,rfl⟩|⟨_,k,rfl,_⟩<;>exact⟨rfl,rfl,rfl,rfl⟩
theorem Ls{wr:Bool}{sz:Nat}{xs:I7}{v:AV}{h:AH}(hg:He wr sz xs v h)(h':AH):eF h' v=some (.int .i64 xs.length,h'):=by
 rcases hg with ⟨b,rfl⟩|⟨_,k,rfl,_⟩<;>rfl
theorem Uk{wr:Bool}{sz:Nat}{xs:I7}{v:AV}{h:AH}(hg:He wr sz xs v h)(B:List (List AV)):elems ⟨B,h.fams⟩ sz v=some xs:=by
 rcases hg with ⟨b,rfl⟩|⟨s9,k,rfl,hk⟩
 .exact EH _ _ _ _
 .simp[elems,hk]
def Bg(v w:AV):Prop:=∀j n o l n' o' l',v=.sl j n o l->w=.sl j n' o' l'->False
theorem Bg.symm{v w:AV}(h:Bg v w):Bg w v:=λj n o l n' o' l' e e'=>h j n' o' l' n o l e' e
theorem Lt{c:Ctx}{sz bytes:Nat}{xs ys:I7}{v x:AV}{h:AH}(hg:He c.mutApp sz xs v h)(hx:elems h sz x=some ys)(hb:(xs.length+ys.length)*bytes<=P7/\xs.length+ys.length<=maxLen) :
  ∃v' F',(∀BB,R7 c ⟨BB,h.fams⟩ sz bytes v x=some (v',⟨BB,F'⟩))/\(∀BB,He c.mutApp sz (xs++ys) v' ⟨BB,F'⟩)/\∀(wr:Bool) (s:Nat) (ws:List AV) (w:AV),He wr s ws w h->Bg v w->(∀BB,He wr s ws w ⟨BB,F'⟩)/\Bg v' w:=by
 have hx':∀BB,elems ⟨BB,h.fams⟩ sz x=some ys:=λBB=>(KU rfl sz x).trans hx;rcases hg with ⟨b,rfl⟩|⟨s9,k,rfl,hk⟩
 .by_cases hy:ys.length=0
  .have:ys=[]:=zf3z hy;subst this;refine⟨sl (true,b) sz xs,h.fams,λBB=>?_,λBB=>.inl ⟨b,by simp⟩,λwr s ws w hw _=>⟨λBB=>DD hw rfl,λj n o l n' o' l' e=>nomatch e⟩⟩;simp only[sl,R7,Z2,hx' BB];rw[if_pos hy]
  .have hc:((if (xs.isEmpty&&!b)=true then 0 else sz)=sz\/xs.length=0)/\(xs.length+ys.length)*bytes<=P7/\xs.length+ys.length<=maxLen:=by
    refine⟨?_,hb⟩;cases xs with
    |nil=>exact .inr rfl
    |cons a l=>exact .inl rfl
   refine⟨.sl h.fams.length (xs.length+ys.length) 0 (xs.length+ys.length),h.fams++[⟨xs++ys,sz,c.mutApp⟩],λBB=>?_,λBB=>.inr ⟨by intro e;rw[zf2z]at e;rw[e.2]at hy;exact hy rfl,h.fams.length,by rw[zf6z],by simp⟩,λwr s ws w hw _=>?_⟩
   .simp only[sl,R7,Z2,hx' BB];rw[if_neg hy,if_pos hc]
   rcases hw with ⟨b',rfl⟩|⟨hne',k',rfl,DB⟩
   .exact⟨λBB=>.inl ⟨b',rfl⟩,λj n o l n' o' l' _ e=>nomatch e⟩
   .have G9:=(zf0z.1 DB).1;refine⟨λBB=>.inr ⟨hne',k',rfl,by simp only;rw[zf9z G9];exact DB⟩,λj n o l n' o' l' e e'=>?_⟩;cases e;cases e';omega
 .have wW:=(zf0z.1 hk).1;refine⟨.sl k (xs.length+ys.length) 0 (xs.length+ys.length),h.fams.set k ⟨xs++ys,sz,c.mutApp⟩,λBB=>?_,λBB=>.inr ⟨by intro e;rw[zf2z]at e;exact s9 e.1,k,by rw[zf6z],by simp[wW]⟩,λwr s ws w hw hap=>?_⟩
  .simp only[R7,Z2,hx' BB,hk];rw[if_pos ⟨trivial,trivial,by omega,hb.1,hb.2⟩]
  rcases hw with ⟨b',rfl⟩|⟨hne',k',rfl,DB⟩
  .exact⟨λBB=>.inl ⟨b',rfl⟩,λj n o l n' o' l' _ e=>nomatch e⟩
  .have Hq:k≠k':=λe=>hap k _ _ _ _ _ _ rfl (by rw[e]);refine⟨λBB=>.inr ⟨hne',k',rfl,by simp only;rw[zf1z Hq];exact DB⟩,λj n o l n' o' l' e e'=>?_⟩;cases e;cases e';exact Hq rfl
structure GE where
 gr:Bool
 sz:Nat
 xs:List AV
 v:AV
def GE.Ok(h:AH)(e:GE):Prop:=He false e.sz e.xs e.v h\/(e.gr=false/\∃m,e.v=sl m e.sz e.xs)
theorem GE.Ok.lsa{h:AH}{e:GE}(k:e.Ok h)(hg:e.gr=true):He false e.sz e.xs e.v h:=by
 rcases k with k|⟨k,_⟩
 .exact k
 .rw[hg]at k;cases k
structure GLs (h:AH) (l:List GE):Prop where
 ok:∀e∈l,e.Ok h
 ap:∀(i j:Nat) (a b:GE),i≠j->l[i]?=some a->l[j]?=some b->Bg a.v b.v
theorem GE.Ok.fams{h h':AH}{e:GE}(k:e.Ok h)(he:h'.fams=h.fams):e.Ok h':=by
 rcases k with k|k
 .exact .inl (DD k he)
 .exact .inr k
theorem GLs.fams{h h':AH}{l:List GE}(hg:GLs h l)(e:h'.fams=h.fams):GLs h' l:=⟨λx hx=>(hg.ok x hx).fams e,hg.ap⟩
theorem GLs.get{h:AH}{l:List GE}(hg:GLs h l){i:Nat}{e:GE}(hi:l[i]?=some e):e.Ok h:=hg.ok _ (List.mem_of_getElem? hi)
theorem GLs.app{c:Ctx}(hc:c.mutApp=false){h:AH}{l:List GE}(hg:GLs h l){i sz bytes:Nat}{xs ys:I7}{v x:AV}(hi:l[i]?=some ⟨true,sz,xs,v⟩)(hx:elems h sz x=some ys)(hb:(xs.length+ys.length)*bytes<=P7/\xs.length+ys.length<=maxLen) :
  ∃v' F',(∀BB,R7 c ⟨BB,h.fams⟩ sz bytes v x=some (v',⟨BB,F'⟩))/\∀BB,GLs ⟨BB,F'⟩ (l.set i ⟨true,sz,xs++ys,v'⟩):=by
 have h1:He c.mutApp sz xs v h:=by rw[hc];exact(hg.get hi).lsa rfl
 obtain⟨v',F',a1,a2,a3⟩:=Lt h1 hx hb;rw[hc]at a2;have hil:=(zf0z.1 hi).1;have other:∀(j:Nat) (b:GE),j≠i->l[j]?=some b->(∀BB,b.Ok ⟨BB,F'⟩)/\Bg v' b.v:=λj b hj hb'=>by
  have hap:=hg.ap i j _ b (Ne.symm hj) hi hb';rcases hg.get hb' with k|⟨k1,m,k2⟩
  .obtain⟨q1,q2⟩:=a3 _ _ _ _ k hap;exact⟨λBB=>.inl (q1 BB),q2⟩
  .exact⟨λBB=>.inr ⟨k1,m,k2⟩,λ_ _ _ _ _ _ _ _ e=>by rw[k2]at e;cases e⟩
 refine⟨v',F',a1,λBB=>⟨λe he=>?_,λp q a b hpq hp hq=>?_⟩⟩
 .obtain⟨j,hj⟩:=zg1z he;by_cases hij:i=j
  .subst hij;rw[zf8z hil]at hj;cases hj;exact .inl (a2 BB)
  .rw[zf1z hij]at hj;exact(other j e (Ne.symm hij) hj).1 BB
 .by_cases hip:i=p
  .subst hip;rw[zf8z hil]at hp;cases hp;rw[zf1z hpq]at hq;exact(other q b (Ne.symm hpq) hq).2
  .rw[zf1z hip]at hp;by_cases hiq:i=q
   .subst hiq;rw[zf8z hil]at hq;cases hq;exact(other p a (Ne.symm hip) hp).2.symm
   .rw[zf1z hiq]at hq;exact hg.ap p q a b hpq hp hq
theorem CQ(v:AV)(m:HH)(sz:Nat)(xs:I7):Bg v (sl m sz xs):=λ_ _ _ _ _ _ _ _ e=>nomatch e
theorem GLs.lit{h:AH}{l:List GE}(hg:GLs h l)(i sz:Nat)(m:HH)(xs:I7):GLs h (l.set i ⟨false,sz,xs,sl m sz xs⟩):=by
 refine⟨λe he=>?_,λp q a b hpq hp hq=>?_⟩
 .obtain⟨j,hj⟩:=zg1z he;rw[zg3z]at hj;split at hj
  .split at hj
   .cases hj;exact .inr ⟨rfl,m,rfl⟩
   .cases hj
  .exact hg.get hj
 .rw[zg3z]at hp hq;split at hp
  .split at hp
   .cases hp;exact(CQ _ _ _ _).symm
   .cases hp
  .split at hq
   .split at hq
    .cases hq;exact CQ _ _ _ _
    .cases hq
   .exact hg.ap p q a b hpq hp hq
theorem GLs.cons{h:AH}{l:List GE}(hg:GLs h l)(sz:Nat)(b:Bool)(xs:I7):GLs h (⟨true,sz,xs,sl (true,b) sz xs⟩::l):=by
 refine⟨λe he=>?_,λp q a b hpq hp hq=>?_⟩
 .rcases zt1z.1 he with rfl|he
  .exact .inl (.inl ⟨b,rfl⟩)
  .exact hg.ok e he
 .cases p with
  |zero=>cases hp;exact(CQ _ _ _ _).symm
  |succ p =>
   cases q with
   |zero=>cases hq;exact CQ _ _ _ _
   |succ q=>exact hg.ap p q a b (by omega) hp hq
theorem GLs.tail{h:AH}{e:GE}{l:List GE}(hg:GLs h (e::l)):GLs h l:=⟨λx hx=>hg.ok x (List.mem_cons_of_mem _ hx),λi j a b hij hi hj=>hg.ap (i+1) (j+1) a b (by omega) hi hj⟩
theorem GLs.nil(h:AH):GLs h []:=⟨(λ_ he=>nomatch he),λi j a b _ hi=>by simp at hi⟩
theorem GE.Ok.frz{h:AH}{e:GE}(k:e.Ok h):∃m:Bool×Bool,∀(B:List (List AV)) (am:Bool),Go.Abs.frz ⟨B,h.fams⟩ am e.v=some (sl m e.sz e.xs)/\Bo ⟨B,h.fams⟩ am e.v=some (sl m e.sz e.xs):=by
 rcases k with k|⟨_,m,k⟩
 .obtain⟨m,hm⟩:=Ga k;exact⟨m,λB am=>hm B am (by cases am<;>rfl)⟩
 .exact⟨m,λB am=>by rw[k];exact⟨rfl,rfl⟩⟩
theorem GE.Ok.tame{h:AH}{e:GE}(k:e.Ok h)(B:List (List AV)):Go.Abs.tame ⟨B,h.fams⟩ e.v=true:=by
 rcases k with k|⟨_,m,k⟩
 .exact Nj k B
 .rw[k];rfl
theorem GE.Ok.cells{h:AH}{e:GE}(k:e.Ok h):e.v.isTup=false/\e.v.cells=[e.v]:=by
 rcases k with k|⟨_,m,k⟩
 .exact⟨(i8 k).1,(i8 k).2.1⟩
 .rw[k];exact⟨rfl,rfl⟩
theorem GE.Ok.len{h:AH}{e:GE}(k:e.Ok h)(h':AH):eF h' e.v=some (.int .i64 e.xs.length,h'):=by
 rcases k with k|⟨_,m,k⟩
 .exact Ls k h'
 .rw[k];rfl
theorem GE.Ok.elems{h:AH}{e:GE}(k:e.Ok h)(B:List (List AV)):Go.Abs.elems ⟨B,h.fams⟩ e.sz e.v=some e.xs:=by
 rcases k with k|⟨_,m,k⟩
 .exact Uk k B
 .rw[k];exact EH _ _ _ _
theorem GLs.one{h:AH}{sz:Nat}{xs:I7}{v:AV}(hg:He false sz xs v h):GLs h [⟨true,sz,xs,v⟩]:=by
 refine⟨λe he=>?_,λi j a b hij hi hj=>?_⟩
 .rw[List.mem_singleton]at he;subst he;exact .inl hg
 .exfalso
  have h1:=(zf0z.1 hi).1;have h2:=(zf0z.1 hj).1;simp at h1 h2;omega
theorem q9{wr:Bool}{sz:Nat}{xs:I7}{v:AV}{h:AH}(hg:He wr sz xs v h){i:Nat}{x:AV}(hx:xs[i]?=some x) :
  (∀BB,iaA ⟨BB,h.fams⟩ sz v (.int .i64 (i:Nat))=some (.pv x.cells,⟨BB,h.fams⟩))\/∃k,(∀BB,iaA ⟨BB,h.fams⟩ sz v (.int .i64 (i:Nat))=some (.ep k xs.length i 0 sz,⟨BB,h.fams⟩))/\h.fams[k]?=some ⟨xs,sz,wr⟩:=by
 have hi:=(zf0z.1 hx).1;rcases hg with ⟨b,rfl⟩|⟨s9,k,rfl,hk⟩
 .refine .inl λBB=>?_;have hn:MB xs i=some x:=by simp[MB,hx]
  have he:xs.isEmpty=false:=by cases xs with
   |nil=>simp at hi
   |cons a l=>rfl
  simp[hn,he]
 .exact .inr ⟨k,λBB=>by simp[hi],hk⟩
theorem ZS{wr:Bool}{sz:Nat}{xs:I7}{v:AV}{B B':List (List AV)}{F F':List Fam}(h:He wr sz xs v ⟨B,F⟩)(hF:∀j,j<F.length->F'[j]?=F[j]?):He wr sz xs v ⟨B',F'⟩:=by
 rcases h with h|⟨h1,k,h2,h3⟩
 .exact .inl h
 .exact .inr ⟨h1,k,h2,(hF k (zf0z.1 h3).1).trans h3⟩
end Go.Abs
namespace Go.Abs.Q
open Go.Proofs
attribute [local simp] J0 J5 fin M6 M0
mutual
def rawE:Tm->Int
 | .mk k nm s _ l=>if k=1\/s≠0 then 10 else if lexN nm=false then 2 else zp l
def zp:List Tm->Int
 | []=>0
 |t::l=>if rawE t≠0 then rawE t else zp l
end
theorem JK:∀{l:CI},j5 l=0->∀t∈l,U9 t=0
 | [],_,t,ht=>by cases ht
 |b::l,h,t,ht=>by
  simp only[j5]at h;by_cases hb:U9 b=0
  .rw[if_neg (by simp[hb])]at h;rcases zt1z.1 ht with rfl|ht
   .exact hb
   .exact JK h t ht
  .rw[if_pos hb]at h;exact absurd h hb
structure Gol where
 kind:Int
 role:ByteArray
 wth:ByteArray
 dm:Bool×Bool
 data:List Tm
 line:Int
structure Fre where
 role:ByteArray
 name:ByteArray
 sort:Int
structure Ste where
 frm:ByteArray
 to:ByteArray
 msg:Tm
 line:Int
structure Nar where
 name:ByteArray
 rm:Bool×Bool
 roles:List ByteArray
 fm:Bool×Bool
 fresh:List Fre
 tm:Bool×Bool
 tags:List ByteArray
 sm:Bool×Bool
 steps:List Ste
 gm:Bool×Bool
 goals:List Gol
structure Fine (n:Nar):Prop where
 name:n.name.size<=1099511627776
 roles:∀s∈n.roles,s.size<=1099511627776
 rolesL:n.roles.length<=1099511627776
 fresh:∀f∈n.fresh,f.role.size<=1099511627776/\f.name.size<=1099511627776
 freshL:n.fresh.length<=1099511627776
 tags:∀s∈n.tags,s.size<=1099511627776
 tagsL:n.tags.length<=1099511627776
 steps:∀s∈n.steps,s.frm.size<=1099511627776/\s.to.size<=1099511627776/\s.msg.size<=1099511627776
 stepsL:n.steps.length<=1099511627776
 goals:∀g∈n.goals,g.role.size<=1099511627776/\g.wth.size<=1099511627776/\Tm.sizes g.data<=1099511627776
 goalsL:n.goals.length<=1099511627776
end Go.Abs.Q
namespace Go.Abs
section
variable {O:Orc} {c:Ctx} {d:Option Nat} {op:ROp} {D5:List RO} {fr:Fr} {h:AH} {Ψ:Ex->Fr->AH->Prop}
theorem Y2(b:Bool){x y:RCode}:L9 (brn (.bool b) O c x y fr h) Ψ=((b=true->L9 (A8 O c x (fr,h)) Ψ)/\(b=false->L9 (A8 O c y (fr,h)) Ψ)):=by
 cases b<;>simp
end
def Tm.kind:Tm->Int | .mk k _ _ _ _=>k
def Tm.name:Tm->ByteArray | .mk _ n _ _ _=>n
def Tm.sort:Tm->Int | .mk _ _ s _ _=>s
def Tm.cm:Tm->Bool×Bool | .mk _ _ _ m _=>m
def Tm.kids:Tm->List Tm | .mk _ _ _ _ l=>l
@[simp]theorem EK(t:Tm):(U6 t).cells=[.int .i64 t.kind,.str t.name,.int .i64 t.sort,sl t.cm 4 (G8 t.kids)]:=by cases t;rfl
@[simp]theorem Lh(t:Tm):AV.agg [.int .i64 t.kind,.str t.name,.int .i64 t.sort,sl t.cm 4 (G8 t.kids)]=U6 t:=by cases t;rfl
@[simp]theorem tm_isTup(t:Tm):(U6 t).isTup=false:=by cases t;rfl
@[simp]theorem tm_frz(h:AH)(am:Bool)(t:Tm):frz h am (U6 t)=some (U6 t):=by cases t;rfl
@[simp]theorem tm_tame(h:AH)(t:Tm):tame h (U6 t)=true:=by cases t;rfl
@[simp]theorem tm_frzRes(h:AH)(t:Tm):Dv h (U6 t)=some (U6 t):=by cases t;rfl
theorem Tm.kids_size(t:Tm):t.size=1+Tm.sizes t.kids:=by cases t;rfl
@[simp]theorem lenA_vs(h:AH)(f:Bool)(sz:Nat)(xs:I7):eF h (.vs f sz xs)=some (.int .i64 xs.length,h):=rfl
@[simp]theorem boundA_n(fr:Fr):i4 fr none=some none:=rfl
@[simp]theorem boundA_c(fr:Fr)(k:IntKind)(i:Int):i4 fr (some (.c (.int k i)))=some (some i):=rfl
@[simp]theorem boundA_t(fr:Fr)(n:Nat):i4 fr (some (.t n))=(match C7 fr n with | .int _ i=>some (some i)|_=>none):=rfl
namespace Q
end Q
end Go.Abs
namespace Go.Abs.Q
open Go.Proofs
attribute [local simp] J0 J5 fin M6 M0 b8
mutual
def T3:Tm->Tm
 | .mk k nm s _ l=>.mk k nm s (false,false) (Fe l)
def Fe:List Tm->List Tm
 | []=>[]
 |t::l=>T3 t::Fe l
end
theorem Nw(l:CI):Fe l=l.map T3:=by
 induction l with
 |nil=>rfl
 |cons t l ih=>simp[Fe,ih]
theorem Hm:∀(n:Nat) (t:Tm),t.size<=n->(T3 t).size=t.size:=by
 intro n
 induction n with
 |zero=>intro t h;have:=t.size_pos;omega
 |succ n ih =>
  intro t hn;obtain⟨k,nm,s,m,l⟩:=t;have Y3:Tm.size (.mk k nm s m l)=1+Tm.sizes l:=rfl;have:∀l:List Tm,Tm.sizes l<=n->Tm.sizes (Fe l)=Tm.sizes l:=by
   intro l
   induction l with
   |nil=>intro _;rfl
   |cons a l ihl =>
    intro h;simp only[Tm.sizes]at h;simp only[Fe,Tm.sizes,ih a (by omega),ihl (by omega)]
  rw[T3,Tm.size,this l (by omega),Y3]
theorem SE:∀(l:CI),Tm.sizes (Fe l)=Tm.sizes l
 | []=>rfl
 |t::l=>by simp only[Fe,Tm.sizes,Hm _ t (zg4z _),SE l]
theorem aP(l:List UInt8):Op.bytesLess l l=false:=by
 induction l with
 |nil=>rfl
 |cons a l ih=>simp[Op.bytesLess,ih]
theorem kU(a:Int):JS a a=0:=by simp[JS]
theorem kS(a:AD):DF a a=0:=by simp[DF,aP]
theorem vx:∀(n:Nat) (a b:Tm),a.size<=n->T3 a=T3 b->Mp a b=0:=by
 intro n
 induction n with
 |zero=>intro t _ h;have:=t.size_pos;omega
 |succ n ih =>
  intro a b hn he;obtain⟨k,nm,s,m,l⟩:=a;obtain⟨k',nm',s',m',l'⟩:=b;have Y3:Tm.size (.mk k nm s m l)=1+Tm.sizes l:=rfl;simp only[T3,Tm.mk.injEq]at he;obtain⟨rfl,rfl,rfl,_,hl⟩:=he;have h1:Tm.sizes l=Tm.sizes l':=by rw[←SE l,hl,SE]
  have h2:l.length=l'.length:=by
   have:=congrArg List.length hl;simpa[Nw]using this
  have:∀l l':List Tm,Tm.sizes l<=n->Fe l=Fe l'->LE l l'=0:=by
   intro l
   induction l with
   |nil=>intro l' _ h;exact Ux l'
   |cons a l ihl =>
    intro l' hs h;cases l' with
    |nil=>simp[Fe]at h
    |cons b l' =>
     simp only[Fe,List.cons.injEq]at h;simp only[Tm.sizes]at hs;simp[LE,nz,ih a b (by omega) h.1,ihl l' (by omega) h.2]
  simp[Mp,nz,kU,kS,h1,h2,this l l' (by omega) hl]
theorem iO{a b:Int}:nz a b=0↔a=0/\b=0:=by
 unfold nz;split<;>simp_all
theorem kV{a b:Int}:JS a b=0↔a=b:=by
 unfold JS;split
 .constructor<;>intro h<;>omega
 .split<;>constructor<;>intro h<;>omega
theorem kT{a b:AD}:DF a b=0↔a=b:=by
 unfold DF;split
 .rename_i h;constructor
  .intro e;omega
  .intro e;subst e;rw[aP]at h;cases h
 .split
  .rename_i h;simp[(b8 a b).1 h]
  .rename_i h;constructor
   .intro e;omega
   .intro e;exact absurd (by rw[e]) h
theorem wK:∀(n:Nat) (a b:Tm),a.size<=n->Mp a b=0->T3 a=T3 b:=by
 intro n
 induction n with
 |zero=>intro a _ h;have:=a.size_pos;omega
 |succ n ih =>
  intro a b hn h;obtain⟨k,nm,s,m,l⟩:=a;obtain⟨k',nm',s',m',l'⟩:=b;have Y3:Tm.size (.mk k nm s m l)=1+Tm.sizes l:=rfl;simp only[Mp,iO,kV,kT]at h;obtain⟨_,rfl,rfl,rfl,h1,h2⟩:=h;have e1:l.length=l'.length:=by omega
  have:∀l l':List Tm,Tm.sizes l<=n->l.length=l'.length->LE l l'=0->Fe l=Fe l':=by
   intro l
   induction l with
   |nil=>intro l' _ h1 _;rw[zf3z h1.symm]
   |cons a l ihl =>
    intro l' hs h1 h2;cases l' with
    |nil=>simp at h1
    |cons b l' =>
     simp only[Tm.sizes]at hs;simp only[LE,iO]at h2;simp only[Fe,ih a b (by omega) h2.1,ihl l' (by omega) (by simpa using h1) h2.2]
  simp only[T3,this l l' (by omega) e1 h2]
theorem ol{a b:Tm}:Mp a b=0↔T3 a=T3 b:=⟨wK _ a b (zg4z _),vx _ a b (zg4z _)⟩
end Go.Abs.Q
namespace Go.Abs.Q
open Go.Proofs
attribute [local simp] J0 J5 fin M6 M0 Y2 b8
structure Pyl where
 tag:ByteArray
 pm:Bool×Bool
 parts:List Int
 goal:Int
 dm:Bool×Bool
 data:List Int
def Dp(p:Pyl):AV:=.agg [.str p.tag,sl p.pm 1 (p.parts.map (AV.int .i64)),.int .i64 p.goal,sl p.dm 1 (p.data.map (AV.int .i64))]
structure Typ where
 kind:Int
 m:Bool×Bool
 ps:List Pyl
def HG(t:Typ):AV:=.agg [.int .i64 t.kind,sl t.m 4 (t.ps.map Dp)]
structure Tyd where
 t:Tm
 u:Typ
def p9(x:Tyd):AV:=.agg [.int .i64 x.t.kind,.str x.t.name,.int .i64 x.t.sort,sl x.t.cm 4 (G8 x.t.kids),.int .i64 x.u.kind,sl x.u.m 4 (x.u.ps.map Dp)]
structure Fa where
 kind:Int
 goal:Int
 fm:Bool×Bool
 terms:List Tm
def Cl(f:Fa):AV:=.agg [.int .i64 f.kind,.int .i64 f.goal,sl f.fm 4 (G8 f.terms)]
@[simp]theorem Zu(f:Fa):(Cl f).cells=[.int .i64 f.kind,.int .i64 f.goal,sl f.fm 4 (G8 f.terms)]:=rfl
@[simp]theorem fa_agg(f:Fa):AV.agg [.int .i64 f.kind,.int .i64 f.goal,sl f.fm 4 (G8 f.terms)]=Cl f:=rfl
@[simp]theorem cN(t:Typ):(HG t).cells=[.int .i64 t.kind,sl t.m 4 (t.ps.map Dp)]:=rfl
@[simp]theorem tI(t:Typ):AV.agg [.int .i64 t.kind,sl t.m 4 (t.ps.map Dp)]=HG t:=rfl
@[simp]theorem bH(p:Pyl):(Dp p).cells=[.str p.tag,sl p.pm 1 (p.parts.map (AV.int .i64)),.int .i64 p.goal,sl p.dm 1 (p.data.map (AV.int .i64))]:=rfl
@[simp]theorem py_agg(p:Pyl):AV.agg [.str p.tag,sl p.pm 1 (p.parts.map (AV.int .i64)),.int .i64 p.goal,sl p.dm 1 (p.data.map (AV.int .i64))]=Dp p:=rfl
@[simp]theorem py_isTup(p:Pyl):(Dp p).isTup=false:=_root_.id rfl
@[simp]theorem py_flatA(p:Pyl):S0 (Dp p)=true:=_root_.id rfl
@[simp]theorem py_frz(h:AH)(am:Bool)(p:Pyl):frz h am (Dp p)=some (Dp p):=DH h am rfl
@[simp]theorem py_tame(h:AH)(p:Pyl):tame h (Dp p)=true:=_root_.id rfl
@[simp]theorem ty_isTup(p:Typ):(HG p).isTup=false:=_root_.id rfl
@[simp]theorem ty_flatA(p:Typ):S0 (HG p)=true:=_root_.id rfl
@[simp]theorem ty_frz(h:AH)(am:Bool)(p:Typ):frz h am (HG p)=some (HG p):=DH h am rfl
@[simp]theorem ty_tame(h:AH)(p:Typ):tame h (HG p)=true:=_root_.id rfl
@[simp]theorem fa_isTup(p:Fa):(Cl p).isTup=false:=_root_.id rfl
@[simp]theorem fa_flatA(p:Fa):S0 (Cl p)=true:=_root_.id rfl
@[simp]theorem fa_frz(h:AH)(am:Bool)(p:Fa):frz h am (Cl p)=some (Cl p):=DH h am rfl
@[simp]theorem fa_tame(h:AH)(p:Fa):tame h (Cl p)=true:=_root_.id rfl
theorem mh(x:Tyd):(p9 x).cells=(U6 x.t).cells++(HG x.u).cells:=by
 obtain⟨t,u⟩:=x;cases t;rfl
def w6(k:Int):Typ:=⟨k,(true,false),[]⟩
def XV(k:Int):Bool:=decide (k=3\/k=4\/k=5)
theorem wz(k:Int):pc Q JI [.int .i64 k]=some (.bool (XV k)):=by
 refine m6 FW λfr hl h0=>?_;simp[FW]at hl h0;by_cases h3:k=3
 .simp[FW,hl,h0,h3,XV]
 .by_cases h4:k=4
  .simp[FW,hl,h0,h4,XV]
  .by_cases h5:k=5
   .simp[FW,hl,h0,h5,XV]
   .simp[FW,hl,h0,h3,h4,h5,XV]
def iN:Nat->List UInt8->Bool
 |_,[]=>true
 |i,c::r=>(OH c.toNat||(decide (i≠0)&&EG c.toNat))&&iN (i+1) r
theorem af:∀(l:List UInt8) (i:Nat),iN (i+1) l=l.all λc=>EG c.toNat
 | [],_=>rfl
 |c::r,i=>by
  simp only[iN,zg2z,af r (i+1)];cases h:OH c.toNat with
  |true=>simp[EG,h]
  |false=>simp[EG,h]
theorem rA(s:AD):(iN 0 (Jm s)&&(decide (0<s.size)&&decide (s.size<=24)))=DN s:=by
 have hl:=RA s;unfold DN;cases hb:Jm s with
 |nil =>
  rw[hb]at hl;have:¬0<s.size:=by simp at hl;omega
  simp[this]
 |cons c r =>
  rw[hb]at hl;simp only[List.length_cons]at hl;have h0:0<s.size:=by omega
  simp only[iN,af,h0,zg2z];cases h1:OH c.toNat with
  |true =>
   have hp:EG c.toNat=true:=by simp[EG,h1]
   rw[hp];cases r.all (λc=>EG c.toNat)<;>cases decide (s.size<=24)<;>rfl
  |false=>simp
theorem eJ(s:AD)(hs:s.size<=1099511627776)(fr:Fr)(h:AH)(hl:fr.length=59)(h0:C7 fr 0=.str s)(h7:C7 fr 7=.int .i64 s.size)(h8:C7 fr 8=.int .i64 0) :
  L9 (lp (A8 (Ax Q) (C2 EA) O9) (fr,h)) λe G6 h'=>Kp O9.wr fr G6/\(e=.exit 0/\iN 0 (Jm s)=true\/e=.ret/\C7 G6 2=.bool false/\iN 0 (Jm s)=false):=by
 refine W6 rfl fr (λn fr h=>∃i:Nat,i+n=s.size/\C7 fr 8=.int .i64 (i:Nat)/\iN i ((Jm s).drop i)=iN 0 (Jm s)) ?_ s.size h ⟨0,by omega,h8,rfl⟩;rintro J Φ hJ hΦ n Kr Da K ⟨i,hi,k8,hr⟩;have L1:=K.1.trans hl;have k0:=S6 K 0 h0;have k7:=S6 K 7 h7;clear K;have J3:=RA s;by_cases G9:i<s.size
 .have Hr:i<(Jm s).length:=by omega
  have hx:s[i]?=some (Jm s)[i]:=by rw[Wy,zf5z Hr]
  have hw:=AQ i (by omega);rw[zf4z Hr]at hr;simp only[iN]at hr;generalize (Jm s)[i]=c at *
  have ch:s[i]'G9=c:=by rw[getElem?_pos s i G9]at hx;exact Option.some.inj hx
  have fwd:(OH c.toNat||(decide (i≠0)&&EG c.toNat))=true->iN (i+1) ((Jm s).drop (i+1))=iN 0 (Jm s):=λhp=>by rw[hp]at hr;simpa using hr
  have bad:(OH c.toNat||(decide (i≠0)&&EG c.toNat))=false->iN 0 (Jm s)=false:=λhp=>by rw[hp]at hr;simpa using hr.symm
  clear hr;generalize hz:c.toNat=z at *
  have hi0:((i:Int)=0)↔i=0:=by omega
  by_cases hL:OH z=true
  .have f1:=fwd (by rw[hL];rfl);have hcc:(97<=z/\z<=122)\/(65<=z/\z<=90/\¬97<=z):=by
    simp only[OH,zg9z,decide_eq_true_eq]at hL;omega
   rcases hcc with ⟨c1,c2⟩|⟨c1,c2,c3⟩
   .have d1:(97:Int)<=z:=by omega
    have d2:(z:Int)<=122:=by omega
    simp[O9,L1,k0,k7,k8,G9,ch,hz,hw,d1,d2];exact EF hJ ⟨i+1,by omega,by simp[L1],f1⟩
   .have d1:¬(97:Int)<=z:=by omega
    have d2:(z:Int)<=90:=by omega
    have d3:(65:Int)<=z:=by omega
    simp[O9,L1,k0,k7,k8,G9,ch,hz,hw,d1,d2,d3];exact EF hJ ⟨i+1,by omega,by simp[L1],f1⟩
  .have hL':OH z=false:=by simpa using hL
   have nl:¬(97<=z/\z<=122)/\¬(65<=z/\z<=90):=by
    simp only[OH,zg0z,decide_eq_false_iff_not]at hL';exact hL'
   have key:∀b1 b2 b3 b4:Bool,decide ((97:Int)<=z)=b1->decide ((z:Int)<=122)=b2->decide ((65:Int)<=z)=b3->decide ((z:Int)<=90)=b4->(b1&&b2)=false/\(b3&&b4)=false:=by
    rintro _ _ _ _ rfl rfl rfl rfl;constructor
    .rw[←zg6z,zg5z,decide_eq_true_eq,decide_eq_true_eq];omega
    .rw[←zg6z,zg5z,decide_eq_true_eq,decide_eq_true_eq];omega
   by_cases hi00:i=0
   .subst hi00;have b1:=bad (by rw[hL'];rfl);by_cases q1:(97:Int)<=z
    .have q2:¬(z:Int)<=122:=by omega
     have q4:¬(z:Int)<=90:=by omega
     have q3:(65:Int)<=z:=by omega
     simp[O9,L1,k0,k7,k8,G9,ch,hz,hw,q1,q2,q3,q4];exact hΦ _ _ _ (.inr ⟨rfl,by simp[L1],b1⟩)
    .by_cases q3:(65:Int)<=z
     .have q4:¬(z:Int)<=90:=by omega
      simp[O9,L1,k0,k7,k8,G9,ch,hz,hw,q1,q3,q4];exact hΦ _ _ _ (.inr ⟨rfl,by simp[L1],b1⟩)
     .simp[O9,L1,k0,k7,k8,G9,ch,hz,hw,q1,q3];exact hΦ _ _ _ (.inr ⟨rfl,by simp[L1],b1⟩)
   .have hi1:¬(i:Int)=0:=by omega
    have fin1:∀(e1:decide ((z:Int)=95)=decide (z=95)),True:=λ_=>trivial;by_cases hP:EG z=true
    .have f1:=fwd (by rw[hL',hP];simp[hi00]);have hcc:z=95\/z=35\/(48<=z/\z<=57):=by
      simp only[EG,hL',pd,zt0z,zg9z,decide_eq_true_eq]at hP;omega
     by_cases q1:(97:Int)<=z
     .omega
     .rcases hcc with hc|hc|⟨c1,c2⟩
      .have q3:(65:Int)<=z:=by omega
       have q4:¬(z:Int)<=90:=by omega
       have q5:(z:Int)=95:=by omega
       simp[O9,L1,k0,k7,k8,G9,ch,hz,hw,q1,q3,q4,q5,hi00];exact EF hJ ⟨i+1,by omega,by simp[L1],f1⟩
      .have q3:¬(65:Int)<=z:=by omega
       have q5:(z:Int)=35:=by omega
       simp[O9,L1,k0,k7,k8,G9,ch,hz,hw,q1,q3,q5,hi00];exact EF hJ ⟨i+1,by omega,by simp[L1],f1⟩
      .have q3:¬(65:Int)<=z:=by omega
       have q5:¬(z:Int)=95:=by omega
       have q6:¬(z:Int)=35:=by omega
       have q7:¬(z:Int)<48:=by omega
       have q8:¬(57:Int)<(z:Int):=by omega
       simp[O9,L1,k0,k7,k8,G9,ch,hz,hw,q1,q3,q5,q6,q7,q8,hi00];exact EF hJ ⟨i+1,by omega,by simp[L1],f1⟩
    .have hP':EG z=false:=by simpa using hP
     have b1:=bad (by rw[hL',hP'];simp);have hn:z≠95/\z≠35/\¬(48<=z/\z<=57):=by
      simp only[EG,hL',pd,zt0z,zg0z,decide_eq_false_iff_not]at hP';omega
     have q5:¬(z:Int)=95:=by omega
     have q6:¬(z:Int)=35:=by omega
     have q7:(z:Int)<48\/¬(z:Int)<48/\(57:Int)<(z:Int):=by omega
     have lg:((97:Int)<=z/\¬(z:Int)<=122/\(65:Int)<=z/\¬(z:Int)<=90)\/(¬(97:Int)<=z/\(65:Int)<=z/\¬(z:Int)<=90)\/(¬(97:Int)<=z/\¬(65:Int)<=z):=by omega
     rcases q7 with q7|⟨q7,q8⟩<;>rcases lg with ⟨g1,g2,g3,g4⟩|⟨g1,g3,g4⟩|⟨g1,g3⟩
     all_goals
      simp[O9,L1,k0,k7,k8,G9,ch,hz,hw, *]
      try exact hΦ _ _ _ (.inr ⟨rfl,by simp[L1],b1⟩)
 .rw[zf7z (by omega)]at hr;simp[O9,L1,k7,k8,G9];exact hΦ _ _ _ (.inl ⟨rfl,by simpa[iN]using hr.symm⟩)
theorem rV(s:AD)(hs:s.size<=1099511627776):pc Q EA [.str s]=some (.bool (DN s)):=by
 rw[←rA];refine m6 Il λfr hl h0=>?_;simp[Il]at hl h0;simp[Il,hl,h0];refine L9.mono (eJ s hs _ _ ?_ ?_ ?_ ?_) ?_<;>first|(simp[hl,h0];done)|skip
 rintro e G6 h' ⟨K,⟨rfl,he⟩|⟨rfl,h4,he⟩⟩
 .have hl':G6.length=59:=K.1.trans (by simp[hl]);have k0:C7 G6 0=.str s:=S6 K 0 (by simp[hl,h0]);rw[he];by_cases hp:0<s.size
  .simp[hl',k0,hp];omega
  .simp[hl',k0,hp]
 .simp[h4,he]
end Go.Abs.Q
