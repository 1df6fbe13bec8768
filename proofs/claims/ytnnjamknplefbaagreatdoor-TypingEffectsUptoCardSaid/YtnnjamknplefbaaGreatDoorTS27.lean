/- A part of the proof. -/
import Derived.Test.YtnnjamknplefbaaGreatDoorTS26
set_option linter.all false
open List renaming drop_eq_nil_of_le->zf0z,getElem?_eq_getElem->zf1z,drop_eq_getElem_cons->zf2z,getElem_mem->zf3z,take_of_length_le->zf4z,all_cons->zf5z
set_option linter.all false
namespace Go.Abs.Q
open Go.Proofs
attribute [local simp] J0 J5 fin M6 M0 Y2 b8
theorem wZ(a:Int):(AV.int .i64 a).cells=[AV.int .i64 a]/\(AV.int .i64 a).flat=true/\∀h,frz h true (AV.int .i64 a)=some (AV.int .i64 a):=⟨rfl,rfl,λ_=>rfl⟩
theorem rW(d n:Int)(hn0:0<=n)(hn:n<=1000000):pc Q AW [.int .i64 d,.pv [.int .i64 n]]=some (.bool (decide (d<0)||decide (n+1<d))):=by
 have hw:IntKind.i64.wrap (n+1)=n+1:=EX (by omega) (by omega);refine Es Do λfr hl h0 h1=>?_;simp[Do]at hl h0 h1;by_cases hd:d<0
 .simp[Do,hl,h0,h1,hd,hw]
 .simp[Do,hl,h0,h1,hd,hw]
def ia(k:Int):Bool:=decide (k=1\/k=2\/k=6)
def UR(p:Pyl):Bool :=
 !(
  decide ((p.parts.length:Int)<1)||decide (6<(p.parts.length:Int))||decide (p.goal < -1)||decide (7<p.goal)||decide (8<(p.data.length:Int))||(decide (p.goal<0)&&decide (0<(p.data.length:Int)))) &&
  (p.parts.all ia&&!(p.data.any λd=>decide (d<0)||decide ((p.parts.length:Int)+1<d)))
theorem VY(m:HH)(l:List Int)(J3:l.length<=1000000)(fr:Fr)(h:AH)(hl:fr.length=65)(h43:C7 fr 43=sl m 1 (l.map (AV.int .i64)))(h44:C7 fr 44=.int .i64 l.length)(h45:C7 fr 45=.int .i64 0) :
  L9 (lp (A8 (Ax Q) (C2 n9) Z5) (fr,h)) λe G6 h'=>Kp Z5.wr fr G6/\h'=h/\(e=.exit 0/\l.all ia=true\/e=.ret/\C7 G6 2=.bool false/\l.all ia=false):=by
 refine W6 rfl fr (λn fr h'=>∃(i:Nat),i+n=l.length/\C7 fr 45=.int .i64 (i:Nat)/\(h'=h/\(l.drop i).all ia=l.all ia)) ?_ l.length h ⟨0,by omega,h45,⟨rfl,rfl⟩⟩;rintro J Φ hJ hΦ n Kr H1 K ⟨i,hi,k45,hr⟩;have L1:=K.1.trans hl;have k43:=S6 K 43 h43;have k44:=S6 K 44 h44;clear K;by_cases G9:i<l.length
 .have AT:=AQ i (by omega);obtain⟨rfl,hr⟩:=hr;have hx:=l9 (f:=AV.int .i64) (zf1z G9);rw[zf2z G9,zf5z]at hr;generalize l[i]=a at *
  by_cases h1:a=1
  .have h2:ia a=true:=by simp[ia,h1]
   rw[h2]at hr;simp[Z5,L1,k43,k44,k45,G9,AT,hx,h1];exact EF hJ ⟨i+1,by omega,by simp[L1],rfl,by simpa using hr⟩
  .by_cases h2:a=2
   .have h3:ia a=true:=by simp[ia,h2]
    rw[h3]at hr;simp[Z5,L1,k43,k44,k45,G9,AT,hx,h2];exact EF hJ ⟨i+1,by omega,by simp[L1],rfl,by simpa using hr⟩
   .by_cases h3:a=6
    .have h4:ia a=true:=by simp[ia,h3]
     rw[h4]at hr;simp[Z5,L1,k43,k44,k45,G9,AT,hx,h3];exact EF hJ ⟨i+1,by omega,by simp[L1],rfl,by simpa using hr⟩
    .have h4:ia a=false:=by simp[ia,h1,h2,h3]
     rw[h4]at hr;simp[Z5,L1,k43,k44,k45,G9,AT,hx,h1,h2,h3];exact hΦ _ _ _ ⟨rfl,.inr ⟨rfl,by simp[L1],by simpa using hr.symm⟩⟩
 .obtain⟨rfl,hr⟩:=hr;rw[zf0z (by omega)]at hr;simp[Z5,L1,k43,k44,k45,G9];exact hΦ _ _ _ ⟨rfl,.inl ⟨rfl,by simpa using hr.symm⟩⟩
theorem bA(p:Pyl)(hp:p.parts.length<=1000000)(hd:p.data.length<=1000000):pc Q n9 [Dp p]=some (.bool (UR p)):=by
 have hC:=λ(m:Bool×Bool)=>eX (λd=>decide (d<0)||decide ((p.parts.length:Int)+1<d)) p.data Y6 T4 AW [.pv [.int .i64 p.parts.length]] (sl m 1 (p.data.map (AV.int .i64))) (λh=>by simp) IA rfl rfl rfl
  (wx (AV.int .i64) (λd=>decide (d<0)||decide ((p.parts.length:Int)+1<d)) T4 AW [.pv [.int .i64 p.parts.length]] rfl m p.data (by omega) (λa _=>rW a _ (by omega) (by omega)) Jb rfl wZ rfl)
 have hC:=hC p.dm;obtain⟨tag,pm,parts,goal,dm,data⟩:=p;simp only at hp hd hC;generalize hA:data.any (λd=>decide (d<0)||decide ((parts.length:Int)+1<d))=A at hC;have hN0:0<=(parts.length:Int)/\(parts.length:Int)<=1000000:=by omega
 unfold UR;simp only[hA];refine m6 R8 λfr hl h0=>?_;simp[R8,Dp]at hl h0;have key:∀(bd:Bool) (N D:Int),(parts.length:Int)=N->(data.length:Int)=D->(decide (N<1)||decide (6<N)||decide (goal < -1)||decide (7<goal)||decide (8<D)||(decide (goal<0)&&decide (0<D)))=bd->∀b,parts.all ia=b->L9 (A8 (Ax Q) (C2 n9) R8.body (fr,⟨[],[]⟩)) (vI R8.results (.bool (!bd&&(b&&!A)))):=by
  intro bd N D hN hD hbd b hb;rw[hN]at hC;by_cases c1:N<1
  .have hbt:bd=true:=by rw[←hbd];simp[c1]
   rw[hbt];simp[R8,hl,h0,hN,hD,c1]
  by_cases c2:6<N
  .have hbt:bd=true:=by rw[←hbd];simp[c2]
   rw[hbt];simp[R8,hl,h0,hN,hD,c1,c2]
  by_cases c3:goal < -1
  .have hbt:bd=true:=by rw[←hbd];simp[c3]
   rw[hbt];simp[R8,hl,h0,hN,hD,c1,c2,c3]
  by_cases c4:7<goal
  .have hbt:bd=true:=by rw[←hbd];simp[c4]
   rw[hbt];simp[R8,hl,h0,hN,hD,c1,c2,c3,c4]
  by_cases c5:8<D
  .have hbt:bd=true:=by rw[←hbd];simp[c5]
   rw[hbt];simp[R8,hl,h0,hN,hD,c1,c2,c3,c4,c5]
  by_cases c6:goal<0
  .by_cases c7:0<D
   .have hbt:bd=true:=by rw[←hbd];simp[c6,c7]
    rw[hbt];simp[R8,hl,h0,hN,hD,c1,c2,c3,c4,c5,c6,c7]
   .have hbt:bd=false:=by rw[←hbd];simp[c1,c2,c3,c4,c5,c6,c7]
    rw[hbt];simp[R8,hl,h0,hN,hD,c1,c2,c3,c4,c5,c6,c7];refine L9.mono (VY pm parts (by omega) _ _ ?_ ?_ ?_ ?_) ?_<;>first|(simp[hl,h0,hN];done)|skip
    rintro e G6 h' ⟨K,rfl,⟨rfl,he⟩|⟨rfl,h4,he⟩⟩
    .have hl':G6.length=65:=K.1.trans (by simp[hl]);have k1:C7 G6 1=.ptr 0 0:=S6 K 1 (by simp[hl,h0]);have k3:C7 G6 3=.ptr 1 0:=S6 K 3 (by simp[hl,h0]);rw[←hb,he];simp[hl',k1,k3,p8,hC,hN,show ∀k,(AV.int .i64 k).flat=true from λ_=>rfl]
    .rw[←hb,he];simp[h4]
  .have hbt:bd=false:=by rw[←hbd];simp[c1,c2,c3,c4,c5,c6]
   rw[hbt];simp[R8,hl,h0,hN,hD,c1,c2,c3,c4,c5,c6];refine L9.mono (VY pm parts (by omega) _ _ ?_ ?_ ?_ ?_) ?_<;>first|(simp[hl,h0,hN];done)|skip
   rintro e G6 h' ⟨K,rfl,⟨rfl,he⟩|⟨rfl,h4,he⟩⟩
   .have hl':G6.length=65:=K.1.trans (by simp[hl]);have k1:C7 G6 1=.ptr 0 0:=S6 K 1 (by simp[hl,h0]);have k3:C7 G6 3=.ptr 1 0:=S6 K 3 (by simp[hl,h0]);rw[←hb,he];simp[hl',k1,k3,p8,hC,hN,show ∀k,(AV.int .i64 k).flat=true from λ_=>rfl]
   .rw[←hb,he];simp[h4]
 exact key _ _ _ rfl rfl rfl _ rfl
def leS(a b:ByteArray):Bool:=Op.bytesLess a.toList b.toList||a.toList == b.toList
theorem Za(a b:AD):P0 .leq (.str a) (.str b)=some (.bool (leS a b)):=rfl
def vZ:ByteArray->List Pyl->Int
 |_,[]=>0
 |last,p::r=>if DN p.tag=false then 2 else if UR p=false then 7 else if leS p.tag last=true then 5 else vZ p.tag r
def Qu(t:Typ):Int :=
 if t.kind<1\/6<t.kind then 10 else if XV t.kind=false/\0<(t.ps.length:Int)then 1 else if 8<(t.ps.length:Int)then 3 else vZ (bs []) t.ps
def Fb(t:Typ):Prop:=t.ps.length<=1000000/\∀p∈t.ps,p.tag.size<=1099511627776/\p.parts.length<=1000000/\p.data.length<=1000000
theorem QQ(m:HH)(l:List Pyl)(J3:l.length<=1000000)(hf:∀p∈l,p.tag.size<=1099511627776/\p.parts.length<=1000000/\p.data.length<=1000000)(fr:Fr)(h:AH)(h3:C7 fr 3=.str (bs []))(hl:fr.length=55)(h32:C7 fr 32=sl m 4 (l.map Dp))(h33:C7 fr 33=.int .i64 l.length)(h34:C7 fr 34=.int .i64 0) :
  L9 (lp (A8 (Ax Q) (C2 Bz) o7) (fr,h)) λe G6 h'=>Kp o7.wr fr G6/\(e=.exit 1/\vZ (bs []) l=0\/e=.ret/\C7 G6 2=.int .i64 (vZ (bs []) l)):=by
 refine W6 rfl fr (λn fr h'=>∃(i:Nat),i+n=l.length/\C7 fr 34=.int .i64 (i:Nat)/\(∃last,C7 fr 3=.str last/\vZ last (l.drop i)=vZ (bs []) l)) ?_ l.length h ⟨0,by omega,h34,⟨_,h3,rfl⟩⟩;rintro J Φ hJ hΦ n Kr H1 K ⟨i,hi,k34,hr⟩;have L1:=K.1.trans hl;have k32:=S6 K 32 h32;have k33:=S6 K 33 h33;clear K;by_cases G9:i<l.length
 .have AT:=AQ i (by omega);obtain⟨last,k3,hr⟩:=hr;obtain⟨B,F⟩:=H1;have hx:=l9 (f:=Dp) (zf1z G9);obtain⟨f1,f2,f3⟩:=hf l[i] (zf3z G9);rw[zf2z G9]at hr;simp only[vZ]at hr;generalize l[i]=p at *
  have hN:=rV p.tag f1;have hM:=bA p f2 f3;have hc:=bH p;have hg:=py_agg p;by_cases c1:DN p.tag=false
  .rw[if_pos c1]at hr;rw[c1]at hN;simp[o7,L1,k32,k33,k34,G9,AT,hx,k3,hN];exact hΦ _ _ _ (.inr ⟨rfl,by simp[L1];exact hr⟩)
  .have c1':DN p.tag=true:=by simpa using c1
   rw[if_neg c1]at hr;rw[c1']at hN;by_cases c2:UR p=false
   .rw[if_pos c2]at hr;rw[c2]at hM;simp[o7,L1,k32,k33,k34,G9,AT,hx,k3,hN,hM];exact hΦ _ _ _ (.inr ⟨rfl,by simp[L1];exact hr⟩)
   .have c2':UR p=true:=by simpa using c2
    rw[if_neg c2]at hr;rw[c2']at hM;cases c3:leS p.tag last with
    |true =>
     rw[if_pos c3]at hr;simp[o7,L1,k32,k33,k34,G9,AT,hx,k3,hN,hM,Za,c3];exact hΦ _ _ _ (.inr ⟨rfl,by simp[L1];exact hr⟩)
    |false =>
     rw[if_neg (by rw[c3];simp)]at hr;simp[o7,L1,k32,k33,k34,G9,AT,hx,k3,hN,hM,Za,c3];exact EF hJ ⟨i+1,by omega,by simp[L1],p.tag,by simp[L1],hr⟩
 .obtain⟨last,k3,hr⟩:=hr;rw[zf0z (by omega)]at hr;simp[o7,L1,k32,k33,k34,G9];exact hΦ _ _ _ (.inl ⟨rfl,by simpa[vZ]using hr.symm⟩)
theorem Pj(t:Typ)(hf:Fb t):pc Q Bz [HG t]=some (.int .i64 (Qu t)):=by
 obtain⟨k,m,ps⟩:=t;obtain⟨J3,hf⟩:=hf;simp only at J3 hf;have hK:=wz k;unfold Qu;simp only;refine m6 Ay λfr hl h0=>?_;simp[Ay,HG]at hl h0;generalize hN:(ps.length:Int)=N;by_cases c1:k<1
 .rw[if_pos (.inl c1)];simp[Ay,hl,h0,c1]
 .by_cases c2:6<k
  .rw[if_pos (.inr c2)];simp[Ay,hl,h0,c1,c2]
  .rw[if_neg (by omega)];by_cases c3:XV k=false
   .rw[c3]at hK;by_cases c4:0<N
    .rw[if_pos ⟨c3,c4⟩];simp[Ay,hl,h0,c1,c2,hK,hN,c4]
    .rw[if_neg (by omega)];have c5:¬8<N:=by omega
     rw[if_neg c5];simp[Ay,hl,h0,c1,c2,hK,hN,c4,c5];refine L9.mono (QQ m ps J3 hf _ _ ?_ ?_ ?_ ?_ ?_) ?_<;>first|(simp[hl,h0,hN];done)|skip
     rintro e G6 h' ⟨K,⟨rfl,he⟩|⟨rfl,h4⟩⟩
     .have hl':G6.length=55:=K.1.trans (by simp[hl]);rw[he];simp[hl']
     .simp[h4]
   .have c3':XV k=true:=by simpa using c3
    rw[c3']at hK;rw[if_neg (by intro h;exact c3 h.1)];by_cases c5:8<N
    .rw[if_pos c5];simp[Ay,hl,h0,c1,c2,hK,hN,c5]
    .rw[if_neg c5];simp[Ay,hl,h0,c1,c2,hK,hN,c5];refine L9.mono (QQ m ps J3 hf _ _ ?_ ?_ ?_ ?_ ?_) ?_<;>first|(simp[hl,h0,hN];done)|skip
     rintro e G6 h' ⟨K,⟨rfl,he⟩|⟨rfl,h4⟩⟩
     .have hl':G6.length=55:=K.1.trans (by simp[hl]);rw[he];simp[hl']
     .simp[h4]
end Go.Abs.Q
namespace Go.Abs
def LPK(step:St->Option (Ex×St))(Ψ:Ex->Fr->AH->Prop):Ex->Fr->AH->Prop
 | .normal,fr,h=>L9 (lp step (fr,h)) Ψ
 |e,fr,h=>Ψ e fr h
@[simp]theorem LPK_n(step:St->Option (Ex×St))(Ψ:Ex->Fr->AH->Prop)(fr:Fr)(h:AH):LPK step Ψ .normal fr h=L9 (lp step (fr,h)) Ψ:=_root_.id rfl
@[simp]theorem LPK_e(step:St->Option (Ex×St))(Ψ:Ex->Fr->AH->Prop)(i:Nat)(fr:Fr)(h:AH):LPK step Ψ (.exit i) fr h=Ψ (.exit i) fr h:=_root_.id rfl
@[simp]theorem LPK_r(step:St->Option (Ex×St))(Ψ:Ex->Fr->AH->Prop)(fr:Fr)(h:AH):LPK step Ψ .ret fr h=Ψ .ret fr h:=_root_.id rfl
theorem BJ{step:St->Option (Ex×St)}{fr:Fr}{h:AH}{Ψ:Ex->Fr->AH->Prop}(H:L9 (step (fr,h)) (LPK step Ψ)):L9 (lp step (fr,h)) Ψ:=by
 cases hs:step (fr,h)with
 |none=>rw[hs]at H;exact H.elim
 |some x =>
  obtain⟨e,G6,h'⟩:=x;rw[hs]at H;cases e with
  |normal =>
   change L9 (lp step (G6,h')) Ψ at H;cases hl:lp step (G6,h')with
   |none=>rw[hl]at H;exact H.elim
   |some y =>
    rw[zl hs hl];rw[hl]at H;exact H
  |exit i=>rw[iK hs];exact H
  |ret=>rw[qt hs];exact H
end Go.Abs
namespace Go.Abs.Q
open Go.Proofs
attribute [local simp] J0 J5 fin M6 M0 Y2 b8
def BY{α:Type}(p:α->α->Bool):List α->List α->Bool
 | [],[]=>true
 |a::l,b::r=>p a b&&BY p l r
 |_,_=>false
theorem LC{α:Type}(p:α->α->Bool):∀{l r:List α},BY p l r=true->l.length=r.length
 | [],[],_=>rfl
 |_::l,_::r,h=>by
  simp only[BY,Bool.and_eq_true]at h;simp[LC p h.2]
 | [],_::_,h=>by cases h
 |_::_,[],h=>by cases h
theorem Lw{α:Type}(p:α->α->Bool){l r:List α}{i:Nat}(h1:i<l.length)(h2:i<r.length):BY p (l.drop i) (r.drop i)=(p l[i] r[i]&&BY p (l.drop (i+1)) (r.drop (i+1))):=by
 rw[zf2z h1,zf2z h2];rfl
def eqB(z:AV):RCode:=(.seq (rG [E 18 17 16]) (.seq (.cond (.t 18) .skip (.exit 0)) (.seq (.block 1 (.seq (rG [V 19 17,oI 20 4 15 17,A 21 4 20,oZ 8 z,V 7 19,oW 4 8 21]) (.seq (rG [V 22 1,V 23 7,oI 24 4 22 23,A 25 4 24,oZ 9 z,oW 4 9 25]) (.seq (rG [V 26 2,A 27 4 8,A 28 4 9,O 29 (.callv (.t 26) [(.t 27),(.t 28)]),oU 30 29]) (.cond (.t 30) (.seq (rG [C 6 (.bool false)]) .ret) .skip))))) (rG [J 31 17,V 17 31]))))
def eqF(z:AV):RFunc:=⟨32,[(.tmp 6)],(.seq (rG [C 6 (.bool false)]) (.seq (.seq (rG [V 10 0,N 11 10,V 12 1,N 13 12,O 14 (.bin .neq (.t 11) (.t 13))]) (.cond (.t 14) (.seq (rG [C 6 (.bool false)]) .ret) .skip)) (.seq (.seq (rG [V 15 0,N 16 15,C 17 (pI 0)]) (.block 0 (.loop (eqB z)))) (.seq (rG [C 6 (.bool true)]) .ret))))⟩
section
variable {α:Type} (V:α->AV) (zs:List AV) (Tt:zs.length=4) (p:α->α->Bool) (f g:FuncId) (hr:(C2 f).raw g=false) (hlay:(C2 f).lay=false) (m m':Bool×Bool) (l r:List α) (J3:l.length<=1099511627776) (hlr:l.length=r.length)
 (hV:∀a,∃cs,V a=.agg cs/\cs.length=4/\cs.all AV.flat=true) (H:∀a∈l,∀b∈r,pc Q g [V a,V b]=some (.bool (p a b)))
include hr J3 H hV Tt hlr hlay
theorem qp(fr:Fr)(h:AH)(hl:fr.length=32)(h1:C7 fr 1=sl m' 4 (r.map V))(h2:C7 fr 2=.fn g [])(h15:C7 fr 15=sl m 4 (l.map V))(h16:C7 fr 16=.int .i64 l.length)(h17:C7 fr 17=.int .i64 0) :
  L9 (lp (A8 (Ax Q) (C2 f) (eqB (.agg zs))) (fr,h)) λe G6 h'=>Kp (eqB (.agg zs)).wr fr G6/\(e=.exit 0/\BY p l r=true\/e=.ret/\C7 G6 6=.bool false/\BY p l r=false):=by
 refine W6 rfl fr (λn fr h'=>∃(i:Nat),i+n=l.length/\C7 fr 17=.int .i64 (i:Nat)/\BY p (l.drop i) (r.drop i)=BY p l r) ?_ l.length h ⟨0,by omega,h17,rfl⟩;rintro J Φ hJ hΦ n Kr H1 K ⟨i,hi,k17,hr'⟩;have L1:=K.1.trans hl;have hwr:(eqB (.agg zs)).wr=[18,19,20,21,8,7,22,23,24,25,9,26,27,28,29,30,6,31,17]:=rfl;rw[hwr]at K;have k1:=S6 K 1 h1;have k2:=S6 K 2 h2;have k15:=S6 K 15 h15;have k16:=S6 K 16 h16;clear K hwr;by_cases G9:i<l.length
 .have AT:=AQ i (by omega);have Hr:i<r.length:=by omega
  have hx:=l9 (f:=V) (zf1z G9);have hy:=l9 (f:=V) (zf1z Hr);have hW:=H l[i] (zf3z G9) r[i] (zf3z Hr);rw[Lw p G9 Hr]at hr';obtain⟨cs,o9,Ev,hcf'⟩:=hV l[i];obtain⟨ds,hds,qd,hdf'⟩:=hV r[i];generalize l[i]=a at *
  generalize r[i]=b at *
  rw[o9]at hx hW;rw[hds]at hy hW;have hc1:S0 (.agg cs)=true:=hcf';have hc2:S0 (.agg ds)=true:=hdf';have hz:∀h,j8 h true [.agg cs,.agg ds]=some [.agg cs,.agg ds]:=λh=>FM h true (by rw[zf5z,hc1,zf5z,hc2];rfl);have e1:cs.take 4=cs:=zf4z (by omega);have e2:ds.take 4=ds:=zf4z (by omega);have e4:zs.drop 4=[]:=zf0z (by omega);have mb:∀X:List AV,X.length=4->u6 X=false:=λX hX=>by
   match X,hX with
   | [_,_,_,_],_=>exact Dx _ _ _
  have m1:=mb zs Tt;have m2:=mb cs Ev;have m3:=mb ds qd;obtain⟨B,F⟩:=H1;have g1:∀X Y:List AV,(B++[X,Y])[B.length]?=some X:=λX Y=>by simp
  have g2:∀X Y:List AV,(B++[X,Y])[B.length+1]?=some Y:=λX Y=>by simp
  have g3:∀X Y Z:List AV,(B++[X,Y]).set (B.length+1) Z=B++[X,Z]:=λX Y Z=>by simp[List.set_append_right]
  cases hb:p a b with
  |true =>
   rw[hb]at hW hr';simp[eqB,L1,k1,k2,k15,k16,k17,G9,AT,hx,hy,hr,hz,hW,e1,e2,e4,Ev,qd,Tt,m1,m2,m3,g1,g2,g3,hlay];exact EF hJ ⟨i+1,by omega,by simp[L1],by simpa using hr'⟩
  |false =>
   rw[hb]at hW hr';simp[eqB,L1,k1,k2,k15,k16,k17,G9,AT,hx,hy,hr,hz,hW,e1,e2,e4,Ev,qd,Tt,m1,m2,m3,g1,g2,g3,hlay];exact hΦ _ _ _ (.inr ⟨rfl,by simp[L1],by simpa using hr'.symm⟩)
 .rw[zf0z (by omega),zf0z (by omega)]at hr';simp[eqB,L1,k16,k17,G9];exact hΦ _ _ _ (.inl ⟨rfl,hr'.symm⟩)
end
theorem rO{α:Type}(V:α->AV)(zs:I7)(Tt:zs.length=4)(p:α->α->Bool)(f g:FuncId)(hc:Q5 f=some (eqF (.agg zs)))(hs:HC f=none)(hr:(C2 f).raw g=false)(hlay:(C2 f).lay=false)(m m':HH)(l r:List α)(J3:l.length<=1099511627776)
  (hV:∀a,∃cs,V a=.agg cs/\cs.length=4/\cs.all AV.flat=true) (H:∀a∈l,∀b∈r,pc Q g [V a,V b]=some (.bool (p a b))):pc Q f [sl m 4 (l.map V),sl m' 4 (r.map V),.fn g []]=some (.bool (BY p l r)):=by
 refine wu hc hs (by simp[eqF]) λfr hl ha=>?_;have h0:=ha 0;have h1:=ha 1;have h2:=ha 2;clear ha;simp[eqF]at hl h0 h1 h2;by_cases he:l.length=r.length
 .simp[eqF,hl,h0,h1,h2,he];refine L9.mono (qp V zs Tt p f g hr hlay m m' l r J3 he hV H _ _ ?_ ?_ ?_ ?_ ?_ ?_) ?_<;>first|(simp[hl,h0,h1,h2,he];done)|skip
  rintro e G6 h' ⟨K,⟨rfl,he⟩|⟨rfl,h4,he⟩⟩
  .have hl':G6.length=32:=K.1.trans (by simp[hl]);simp[hl',he]
  .simp[h4,he]
 .have hf:BY p l r=false:=by
   cases h:BY p l r with
   |false=>rfl
   |true=>exact absurd (LC p h) he
  have he':¬(l.length:Int)=(r.length:Int):=by omega
  simp[eqF,hl,h0,h1,h2,he,he',hf]
theorem qr(m m':HH)(l r:List Int)(J3:l.length<=1099511627776)(hlr:l.length=r.length)(fr:Fr)(h:AH)(hl:fr.length=26)(h0:C7 fr 0=sl m 1 (l.map (AV.int .i64)))(h1:C7 fr 1=sl m' 1 (r.map (AV.int .i64)))(h12:C7 fr 12=.int .i64 l.length)(h13:C7 fr 13=.int .i64 0) :
  L9 (lp (A8 (Ax Q) (C2 u7) j4) (fr,h)) λe G6 h'=>Kp j4.wr fr G6/\(e=.exit 0/\BY (λa b=>decide (a=b)) l r=true\/e=.ret/\C7 G6 4=.bool false/\BY (λa b=>decide (a=b)) l r=false):=by
 refine W6 rfl fr (λn fr h'=>∃(i:Nat),i+n=l.length/\C7 fr 13=.int .i64 (i:Nat)/\(BY (λa b=>decide (a=b)) (l.drop i) (r.drop i)=BY (λa b=>decide (a=b)) l r)) ?_ l.length h ⟨0,by omega,h13,rfl⟩;rintro J Φ hJ hΦ n Kr H1 K ⟨i,hi,k13,hr⟩;have L1:=K.1.trans hl;have k0:=S6 K 0 h0;have k1:=S6 K 1 h1;have k12:=S6 K 12 h12;clear K;by_cases G9:i<l.length
 .have AT:=AQ i (by omega);have Hr:i<r.length:=by omega
  have hx:=l9 (f:=AV.int .i64) (zf1z G9);have hy:=l9 (f:=AV.int .i64) (zf1z Hr);rw[Lw _ G9 Hr]at hr;generalize l[i]=a at *
  generalize r[i]=b at *
  by_cases hb:a=b
  .rw[decide_eq_true hb,Bool.true_and]at hr;simp[j4,L1,k0,k1,k12,k13,G9,AT,hx,hy,hb];exact EF hJ ⟨i+1,by omega,by simp[L1],hr⟩
  .rw[decide_eq_false hb,Bool.false_and]at hr;simp[j4,L1,k0,k1,k12,k13,G9,AT,hx,hy,hb];exact hΦ _ _ _ (.inr ⟨rfl,by simp[L1],hr.symm⟩)
 .rw[zf0z (by omega),zf0z (by omega)]at hr;simp[j4,L1,k0,k1,k12,k13,G9];exact hΦ _ _ _ (.inl ⟨rfl,hr.symm⟩)
theorem rP(m m':HH)(l r:List Int)(J3:l.length<=1099511627776):pc Q u7 [sl m 1 (l.map (AV.int .i64)),sl m' 1 (r.map (AV.int .i64))]=some (.bool (BY (λa b=>decide (a=b)) l r)):=by
 refine Es Cx λfr hl h0 h1=>?_;simp[Cx]at hl h0 h1;by_cases he:l.length=r.length
 .simp[Cx,hl,h0,h1,he];refine L9.mono (qr m m' l r J3 he _ _ ?_ ?_ ?_ ?_ ?_) ?_<;>first|(simp[hl,h0,h1,he];done)|skip
  rintro e G6 h' ⟨K,⟨rfl,he⟩|⟨rfl,h4,he⟩⟩
  .have hl':G6.length=26:=K.1.trans (by simp[hl]);simp[hl',he]
  .simp[h4,he]
 .have hf:BY (λa b=>decide (a=b)) l r=false:=by
   cases h:BY (λa b=>decide (a=b)) l r with
   |false=>rfl
   |true=>exact absurd (LC _ h) he
  have he':¬(l.length:Int)=(r.length:Int):=by omega
  simp[Cx,hl,h0,h1,he,he',hf]
theorem qL(l r:List Int):BY (λa b=>decide (a=b)) l r=decide (l=r):=by
 induction l generalizing r with
 |nil=>cases r<;>simp[BY]
 |cons a l ih=>cases r with
  |nil=>simp[BY]
  |cons b r=>simp[BY,ih]
def PR(p q:Pyl):Bool:=decide (p.tag=q.tag/\p.goal=q.goal/\p.parts=q.parts/\p.data=q.data)
def SD(t u:Typ):Bool:=decide (t.kind=u.kind)&&BY PR t.ps u.ps
theorem wy(p q:Pyl)(h1:p.parts.length<=1099511627776)(h2:p.data.length<=1099511627776):pc Q DI [Dp p,Dp q]=some (.bool (PR p q)):=by
 obtain⟨tag,pm,parts,goal,dm,data⟩:=p;obtain⟨tag',pm',parts',goal',dm',data'⟩:=q;have e1:=rP pm pm' parts parts' h1;have e2:=rP dm dm' data data' h2;rw[qL]at e1 e2;unfold PR;simp only;refine Es Be λfr hl h0 h1=>?_;simp[Be,Dp]at hl h0 h1;by_cases c1:tag=tag'
 .by_cases c2:goal=goal'
  .by_cases c3:parts=parts'
   .subst c3;rw[decide_eq_true rfl]at e1;simp[Be,hl,h0,h1,c1,c2,e1,e2]
   .rw[decide_eq_false c3]at e1;simp[Be,hl,h0,h1,c1,c2,c3,e1]
  .simp[Be,hl,h0,h1,c1,c2]
 .simp[Be,hl,h0,h1,c1]
theorem ic(p:Pyl):∃cs,Dp p=.agg cs/\cs.length=4/\cs.all AV.flat=true:=⟨_,rfl,rfl,rfl⟩
theorem pc_leq(t u:Typ)(hf:Fb t):pc Q Ge [HG t,HG u]=some (.bool (SD t u)):=by
 obtain⟨k,m,ps⟩:=t;obtain⟨k',m',ps'⟩:=u;obtain⟨J3,hf⟩:=hf;simp only at J3 hf;have hE:=rO Dp [.str (bs []),.vs true 0 [],pI 0,.vs true 0 []] rfl PR S1 DI HU rfl rfl rfl m m' ps ps' (by omega) ic (λa ha b _=>wy a b (by have:=hf a ha;omega) (by have:=hf a ha;omega));unfold SD;simp only;refine Es Gm λfr hl h0 h1=>?_;simp[Gm,HG]at hl h0 h1;by_cases c1:k=k'
 .simp[Gm,hl,h0,h1,c1,hE]
 .simp[Gm,hl,h0,h1,c1]
theorem yu(t:Typ):∃cs,HG t=.agg cs/\cs.length=2/\cs.all AV.flat=true:=⟨_,rfl,rfl,rfl⟩
theorem rY(x b:Typ)(hf:Fb x):pc Q DS [HG x,.pv (HG b).cells]=some (.bool (SD x b)):=by
 have hE:=pc_leq x b hf;rw[cN];refine Es Jg λfr hl h0 h1=>?_;simp[Jg]at hl h0 h1;simp[Jg,hl,h0,h1,hE]
def abvK(k:Int):Int:=if k=5 then 1 else if k=3\/k=4 then 2 else if k=1\/k=2 then 6 else 0
theorem KF(k:Int):pc Q Ep [.int .i64 k]=some (.int .i64 (abvK k)):=by
 unfold abvK;refine m6 Az λfr hl h0=>?_;simp[Az]at hl h0;by_cases c5:k=5
 .simp[Az,hl,h0,c5]
 .by_cases c3:k=3
  .simp[Az,hl,h0,c3]
  .by_cases c4:k=4
   .simp[Az,hl,h0,c4]
   .by_cases c1:k=1
    .simp[Az,hl,h0,c1]
    .by_cases c2:k=2
     .simp[Az,hl,h0,c2]
     .simp[Az,hl,h0,c1,c2,c3,c4,c5]
def abvs(k:Int):List Int:=if k=5 then [1,6]else if k=3\/k=4 then [2,6]else if k=1\/k=2 then [6]else []
def od(t:Typ):List Typ:=t::(abvs t.kind).map w6
theorem rN(t:Typ)(h1:1<=t.kind)(h6:t.kind<=6):∃m,pc Q Er [HG t]=some (sl m 2 ((od t).map HG)):=by
 obtain⟨k,m,ps⟩:=t;simp only at h1 h6;have a1:=KF 1;have a2:=KF 2;have a3:=KF 3;have a4:=KF 4;have a5:=KF 5;have a6:=KF 6;simp[abvK]at a1 a2 a3 a4 a5 a6;have hk:k=1\/k=2\/k=3\/k=4\/k=5\/k=6:=by omega
 suffices hq:∃r,pc Q Er [HG ⟨k,m,ps⟩]=some r/\∃q:Bool×Bool,r=sl q 2 ((od ⟨k,m,ps⟩).map HG) by
  obtain⟨r,h,q,rfl⟩:=hq;exact⟨q,h⟩
 refine peQ1 BA λΨ hΨ fr hl h0=>?_;simp[BA,HG]at hl h0;rcases hk with rfl|rfl|rfl|rfl|rfl|rfl
 .simp[BA,hl,h0,a1,a2,a3,a4,a5,a6,B2,B6,C9];refine BJ ?_;simp[N4,hl,h0,a1,a2,a3,a4,a5,a6,B2,B6,C9,Fc,P7,maxLen];refine BJ ?_;simp[N4,hl,h0,a1,a2,a3,a4,a5,a6,B2,B6,C9,Fc,P7,maxLen];exact⟨_,rfl,hΨ _ ⟨(false,true),rfl⟩⟩
 .simp[BA,hl,h0,a1,a2,a3,a4,a5,a6,B2,B6,C9];refine BJ ?_;simp[N4,hl,h0,a1,a2,a3,a4,a5,a6,B2,B6,C9,Fc,P7,maxLen];refine BJ ?_;simp[N4,hl,h0,a1,a2,a3,a4,a5,a6,B2,B6,C9,Fc,P7,maxLen];exact⟨_,rfl,hΨ _ ⟨(false,true),rfl⟩⟩
 .simp[BA,hl,h0,a1,a2,a3,a4,a5,a6,B2,B6,C9];refine BJ ?_;simp[N4,hl,h0,a1,a2,a3,a4,a5,a6,B2,B6,C9,Fc,P7,maxLen];refine BJ ?_;simp[N4,hl,h0,a1,a2,a3,a4,a5,a6,B2,B6,C9,Fc,P7,maxLen];refine BJ ?_;simp[N4,hl,h0,a1,a2,a3,a4,a5,a6,B2,B6,C9,Fc,P7,maxLen];exact⟨_,rfl,hΨ _ ⟨(false,true),rfl⟩⟩
 .simp[BA,hl,h0,a1,a2,a3,a4,a5,a6,B2,B6,C9];refine BJ ?_;simp[N4,hl,h0,a1,a2,a3,a4,a5,a6,B2,B6,C9,Fc,P7,maxLen];refine BJ ?_;simp[N4,hl,h0,a1,a2,a3,a4,a5,a6,B2,B6,C9,Fc,P7,maxLen];refine BJ ?_;simp[N4,hl,h0,a1,a2,a3,a4,a5,a6,B2,B6,C9,Fc,P7,maxLen];exact⟨_,rfl,hΨ _ ⟨(false,true),rfl⟩⟩
 .simp[BA,hl,h0,a1,a2,a3,a4,a5,a6,B2,B6,C9];refine BJ ?_;simp[N4,hl,h0,a1,a2,a3,a4,a5,a6,B2,B6,C9,Fc,P7,maxLen];refine BJ ?_;simp[N4,hl,h0,a1,a2,a3,a4,a5,a6,B2,B6,C9,Fc,P7,maxLen];refine BJ ?_;simp[N4,hl,h0,a1,a2,a3,a4,a5,a6,B2,B6,C9,Fc,P7,maxLen];exact⟨_,rfl,hΨ _ ⟨(false,true),rfl⟩⟩
 .simp[BA,hl,h0,a1,a2,a3,a4,a5,a6,B2,B6,C9];refine BJ ?_;simp[N4,hl,h0,a1,a2,a3,a4,a5,a6,B2,B6,C9,Fc,P7,maxLen];exact hΨ _ ⟨(true,true),rfl⟩
def TQ(a b:Typ):Bool:=decide (Qu a=0)&&decide (Qu b=0)&&(od a).any λx=>SD x b
theorem tM{t:Typ}(h:Qu t=0):1<=t.kind/\t.kind<=6:=by
 unfold Qu at h;split at h
 .cases h
 .omega
theorem Fs(k:Int):Fb (w6 k):=⟨Nat.zero_le _,λp hp=>nomatch hp⟩
theorem ch_fin{t:Typ}(h:Fb t):∀x∈od t,Fb x:=λx hx=>by
 rcases List.mem_cons.1 hx with rfl|hx
 .exact h
 .obtain⟨k,_,rfl⟩:=List.mem_map.1 hx;exact Fs k
theorem ch_len(t:Typ):(od t).length<=3:=by
 unfold od abvs;simp only[List.length_cons,List.length_map]
 repeat' split
 all_goals simp
theorem iX(a b:Typ)(ha:Fb a)(hb:Fb b):pc Q Dz [HG a,HG b]=some (.bool (TQ a b)):=by
 have v1:=Pj a ha;have v2:=Pj b hb;unfold TQ;by_cases c1:Qu a=0
 .by_cases c2:Qu b=0
  .obtain⟨k1,k6⟩:=tM c1;obtain⟨m,hC⟩:=rN a k1 k6;have hI:=eX (λx=>SD x b) (od a) X1 S3 DS [.pv (HG b).cells] (sl m 2 ((od a).map HG)) (λh=>by simp) HT rfl rfl rfl
    (Sq HG 2 (λx=>SD x b) S3 DS [.pv (HG b).cells] rfl m (od a) (by have:=ch_len a;omega) (λx hx=>rY x b (ch_fin ha x hx)) Ix rfl yu rfl)
   rw[c1]at v1;rw[c2]at v2;rw[cN]at hI;generalize (od a).any (λx=>SD x b)=A at *
   refine Es Bw λfr hl h0 h1=>?_;simp[Bw]at hl h0 h1;simp[Bw,hl,h0,h1,v1,v2,hC,c1,c2,hI,p8,show ∀k,(AV.int .i64 k).flat=true from λ_=>rfl]
  .rw[c1]at v1;refine Es Bw λfr hl h0 h1=>?_;simp[Bw]at hl h0 h1;simp[Bw,hl,h0,h1,v1,v2,c1,c2]
 .refine Es Bw λfr hl h0 h1=>?_;simp[Bw]at hl h0 h1;simp[Bw,hl,h0,h1,v1,c1]
theorem zx(k:Int):HG (w6 k)=.agg [.int .i64 k,sl (true,false) 1 []]:=rfl
def ON(t:Typ):Bool:=TQ t (w6 1)
theorem rX(t:Typ)(h:Fb t):pc Q Hs [HG t]=some (.bool (ON t)):=by
 have hS:=iX t (w6 1) h (Fs 1);unfold ON;rw[zx]at hS;refine m6 Kn λfr hl h0=>?_;simp[Kn]at hl h0;simp[Kn,hl,h0,hS,B6,C9]
end Go.Abs.Q
namespace Go.Abs.Q
open Go.Proofs
attribute [local simp] J0 J5 fin M6 M0 Y2 b8
theorem GC{sz:Nat}{j6:I7}{v:AV}{h:AH}(hg:Oz sz j6 v h):v.isTup=false/\v.cells=[v]/\u6 [v]=false:=by
 rcases hg with ⟨_,rfl⟩|⟨_,k,rfl,_⟩<;>exact⟨rfl,rfl,rfl⟩
def tab:List (ByteArray×Int×Int×Int):=[(bs [112,97,105,114],2,2,1),(bs [101,110,99],2,2,1),(bs [97,101,110,99],2,2,1),(bs [112,107],1,1,1),(bs [115,105,103,110],2,2,1),(bs [104,97,115,104],1,1,1),(bs [120,111,114],2,8,1),(bs [122,101,114,111],0,0,1),(bs [101,120,112],2,2,1),(bs [109,117,108],2,8,1),(bs [105,110,118],1,1,1),(bs [111,110,101],0,0,1),(bs [115,107],1,1,2),(bs [115,104,107],2,2,2),(bs [110,101,119],1,8,2),(bs [102,115,116],1,1,3),(bs [115,110,100],1,1,3),(bs [100,101,99],2,2,3),(bs [97,100,101,99],2,2,3),(bs [111,112,101,110],2,2,3),(bs [114,101,97,100],1,1,3)]
def GV(x:ByteArray×Int×Int×Int):AV:=.agg [.str x.1,.int .i64 x.2.1,.int .i64 x.2.2.1,.int .i64 x.2.2.2]
def zS:ByteArray×Int×Int×Int:=(bs [],0,0,0)
def Oj(nm:ByteArray):ByteArray×Int×Int×Int:=(tab.find? λx=>decide (x.1=nm)).getD zS
theorem CD(kd least most:Int)(nm:AD)(j6:I7)(v:AV)(F:List Fam)(hg:Oz 4 j6 v ⟨[[v]],F⟩)(hb:j6.length<=100) :
  ∃(v':AV) (F':List Fam),rc Q T5 [.int .i64 kd,.str nm,.int .i64 least,.int .i64 most,.ptr 0 0] ⟨[[v]],F⟩=some (B4,⟨[[v']],F'⟩)/\Oz 4 (j6++[GV (nm,least,most,kd)]) v' ⟨[[v']],F'⟩:=by
 obtain⟨v',⟨B',F'⟩,ha,g',hb'⟩:=Ni (c:=C2 T5) (bytes:=40) (x:=GV (nm,least,most,kd)) hg rfl (true,true) (by omega) (by omega);simp only at hb';subst hb'
 suffices hq:∃x h',rc Q T5 [.int .i64 kd,.str nm,.int .i64 least,.int .i64 most,.ptr 0 0] ⟨[[v]],F⟩=some (x,h')/\(x=B4/\h'=⟨[[v']],F'⟩) by
  obtain⟨x,h',h1,rfl,rfl⟩:=hq;exact⟨v',F',h1,RZ g' rfl⟩
 obtain⟨c1,c2,c3⟩:=GC hg;obtain⟨c4,c5,c6⟩:=GC g';simp only[GV]at ha;refine rcQ LX (by simp[Cy]) λfr hl ha=>?_;have h0:=ha 0;have h1:=ha 1;have h2:=ha 2;have h3:=ha 3;have h4:=ha 4;clear ha;simp[Cy]at hl h0 h1 h2 h3 h4;simp[Cy,hl,h0,h1,h2,h3,h4,c1,c2,c3,c4,c5,c6,ha,B2,B6,C9]
theorem eW:∃m,pc Q X9 []=some (sl m 4 (tab.map GV)):=by
 suffices h:∃v,pc Q X9 []=some v/\∃q:Bool×Bool,v=sl q 4 (tab.map GV) by
  obtain⟨v,h1,q,rfl⟩:=h;exact⟨q,h1⟩
 have g0:Oz 4 [] (.vs true 0 []) ⟨[[.vs true 0 []]],[]⟩:=Qy _ _;obtain⟨v1,F1,c1,g1⟩:=CD 1 2 2 (bs [112,97,105,114]) _ _ _ g0 (by simp);obtain⟨v2,F2,c2,g2⟩:=CD 1 2 2 (bs [101,110,99]) _ _ _ g1 (by simp);obtain⟨v3,F3,c3,g3⟩:=CD 1 2 2 (bs [97,101,110,99]) _ _ _ g2 (by simp);obtain⟨v4,F4,c4,g4⟩:=CD 1 1 1 (bs [112,107]) _ _ _ g3 (by simp);obtain⟨v5,F5,c5,g5⟩:=CD 1 2 2 (bs [115,105,103,110]) _ _ _ g4 (by simp);obtain⟨v6,F6,c6,g6⟩:=CD 1 1 1 (bs [104,97,115,104]) _ _ _ g5 (by simp);obtain⟨v7,F7,c7,g7⟩:=CD 1 2 8 (bs [120,111,114]) _ _ _ g6 (by simp);obtain⟨v8,F8,c8,g8⟩:=CD 1 0 0 (bs [122,101,114,111]) _ _ _ g7 (by simp);obtain⟨v9,F9,c9,g9⟩:=CD 1 2 2 (bs [101,120,112]) _ _ _ g8 (by simp);obtain⟨v10,F10,c10,g10⟩:=CD 1 2 8 (bs [109,117,108]) _ _ _ g9 (by simp);obtain⟨v11,F11,c11,g11⟩:=CD 1 1 1 (bs [105,110,118]) _ _ _ g10 (by simp);obtain⟨v12,F12,c12,g12⟩:=CD 1 0 0 (bs [111,110,101]) _ _ _ g11 (by simp);obtain⟨v13,F13,c13,g13⟩:=CD 2 1 1 (bs [115,107]) _ _ _ g12 (by simp);obtain⟨v14,F14,c14,g14⟩:=CD 2 2 2 (bs [115,104,107]) _ _ _ g13 (by simp);obtain⟨v15,F15,c15,g15⟩:=CD 2 1 8 (bs [110,101,119]) _ _ _ g14 (by simp);obtain⟨v16,F16,c16,g16⟩:=CD 3 1 1 (bs [102,115,116]) _ _ _ g15 (by simp);obtain⟨v17,F17,c17,g17⟩:=CD 3 1 1 (bs [115,110,100]) _ _ _ g16 (by simp);obtain⟨v18,F18,c18,g18⟩:=CD 3 2 2 (bs [100,101,99]) _ _ _ g17 (by simp);obtain⟨v19,F19,c19,g19⟩:=CD 3 2 2 (bs [97,100,101,99]) _ _ _ g18 (by simp);obtain⟨v20,F20,c20,g20⟩:=CD 3 2 2 (bs [111,112,101,110]) _ _ _ g19 (by simp);obtain⟨v21,F21,c21,g21⟩:=CD 3 1 1 (bs [114,101,97,100]) _ _ _ g20 (by simp);have hg:Oz 4 (tab.map GV) v21 ⟨[[v21]],F21⟩:=g21;clear g0 g1 g2 g3 g4 g5 g6 g7 g8 g9 g10 g11 g12 g13 g14 g15 g16 g17 g18 g19 g20 g21;obtain⟨m,hz⟩:=dH hg;obtain⟨d1,d2,d3⟩:=GC hg;refine If (C:=Q) ((PC _).trans rfl) ((Mj _).trans NF) (by simp[Ea]) λΨ hΨ fr hl ha=>?_;rw[Rc];clear ha;simp[Ea]at hl ;simp[Ea,hl,hz,d1,d2,d3,c1,c2,c3,c4,c5,c6,c7,c8,c9,c10,c11,c12,c13,c14,c15,c16,c17,c18,c19,c20,c21];exact hΨ _ ⟨m,rfl⟩
end Go.Abs.Q
