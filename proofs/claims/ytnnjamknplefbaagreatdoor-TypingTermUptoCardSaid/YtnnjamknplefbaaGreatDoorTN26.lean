/- A part of the proof. -/
import Derived.Test.YtnnjamknplefbaaGreatDoorTN25
import Derived.KernelRfl
import Derived.Test.YtnnjamknplefbaaGreatDoorCards
import Derived.Test.YtnnjamknplefbaaGreatDoorTie
import Derived.WalkKit
import Derived.ProofKit
import Derived.OpenShut
import Derived.JoinedCond
import Derived.Deep.DeepHandedRow
import Derived.Lib.LaidTab
set_option linter.all false
open List renaming getElem?_eq_getElem->zf0z,drop_eq_getElem_cons->zf1z,map_cons->zf2z,getElem?_cons_succ->zf3z,getElem?_cons_zero->zf4z,drop_eq_nil_of_le->zf5z,getElem_cons_succ->zf6z,getElem_cons_zero->zf7z,getElem_toArray->zf8z,drop_succ_cons->zf9z,take_succ_cons->zg0z,drop_zero->zg1z,take_zero->zg2z,map_nil->zg3z,sum_cons->zg4z,getElem_mem->zg5z,take_succ_eq_append_getElem->zg6z,getElem?_eq_some_iff->zg7z,take_of_length_le->zg9z,mem_cons->zt0z,flatMap_cons->zt1z,all_eq_true->zt2z,all_cons->zt3z
open Bool renaming and_eq_true->zg8z
set_option linter.all false
namespace Go.Abs.Q
open Go.Proofs
attribute [local simp] E5 E6 fin J4 H8
theorem wn:∀(n:Nat) (t:Tm) (most:Int),t.size<=n->t.size<=1099511627776->most<=9223372036854775807->pc Q Jy [I8 t,.int .i64 most]=some (.int .i64 (cL t most)):=by
 intro n
 induction n with
 |zero=>intro t _ h;have:=t.size_pos;omega
 |succ n ih =>
  intro t most hn hb hm;obtain⟨k,nm,s,m,kids⟩:=t;have X9:Tm.size (.mk k nm s m kids)=1+Tm.sizes kids:=rfl;have D6:=Tm.length_le kids;refine j5 Ho λfr hl h0 h1=>?_;simp[Ho,I8]at hl h0 h1;by_cases h2:most<=0
  .simp[Ho,hl,h0,h1,h2,cL]
  by_cases h3:(40:Int)<nm.size
  .simp[Ho,hl,h0,h1,h2,h3,cL]
  have hw0:IntKind.i64.wrap (most-1)=most-1:=Y8 a_ a_;simp[Ho,hl,h0,h1,h2,h3,hw0];refine(Sq (Ψ:=λe fr h=>fr.length=33/\(e=.exit 0/\B2 fr 1=.int .i64 (UF kids (most-1))\/e=.ret/\B2 fr 4=.int .i64 (-1)/\UF kids (most-1)=-1))
   (λn fr h=>∃i cur,i+n=kids.length/\fr.length=33/\cur<=9223372036854775807/\B2 fr 1=.int .i64 cur/\B2 fr 2=.ptr 0 0/\B2 fr 5=.int .i64 (i:Nat)/\UF (kids.drop i) cur=UF kids (most-1) /\
    h=⟨[[.int .i64 k,.str nm,.int .i64 s,sl m 4 (C4 kids)]],[]⟩) ?_ kids.length _ _ ?_).mono ?_
  .rintro n fr h ⟨i,cur,hi,hl,hcur,h1,h2,h5,hr,rfl⟩;by_cases C2:i<kids.length
   .have hx:KW (C4 kids) i=some (I8 kids[i]):=Ep (by simp[C2]);have s1:=Tm.size_le (zg5z C2);have hT:=ih kids[i] cur a_ a_ hcur;have OK:=nP kids[i] cur;have hw:=J6 i a_;rw[zf1z C2]at hr;simp only[UF]at hr;generalize kids[i]=t at *
    obtain⟨tk,tn,ts,tm,tl⟩:=t;simp only[I8]at hT hx;by_cases hc:cL (Tm.mk tk tn ts tm tl) cur<0
    .rw[if_pos hc]at hr;simp[II,hl,h1,h2,h5,C2,hx,hT,hw,hc];exact hr.symm
    .rw[if_neg hc]at hr;simp[II,hl,h1,h2,h5,C2,hx,hT,hw,hc];refine⟨n-1,a_,i+1,a_,_,?_,rfl,e_,hr⟩;omega
   .have h0:kids.length<=i:=by omega
    rw[zf5z h0]at hr;simp only[UF]at hr;simp[II,hl,h1,h2,h5,C2];exact hr
  .exact⟨0,most-1,a_,c_,a_,c_,c_,c_,rfl,rfl⟩
  .rintro e fr h ⟨hl,⟨rfl,h1⟩|⟨rfl,h4,he⟩⟩
   .simp[hl,h1,cL,h2,h3]
   .simp[hl,h4,he,cL,h2,h3]
theorem A0v(m:Gg)(l:Be)(q most:Int)(h:Tm.sizes l<=1099511627776)(hm:most<=9223372036854775807):pc Q Ol [sl m 4 (C4 l),.int .i64 q,.int .i64 most]=some (.bool (kD l q most)):=by
 have D6:=Tm.length_le l;refine pcQ3 PE λfr hl h0 h1 h2=>?_;simp[PE]at hl h0 h1 h2;by_cases hq:q<l.length
 .simp[PE,hl,h0,h1,hq,kD]
 simp[PE,hl,h0,h1,hq];refine(Sq (Ψ:=λe fr h=>fr.length=26/\(e=.exit 0/\cf l most=true\/e=.ret/\B2 fr 6=.bool false/\cf l most=false))
  (λn fr h=>∃i cur,i+n=l.length/\fr.length=26/\cur<=9223372036854775807/\B2 fr 0=sl m 4 (C4 l)/\B2 fr 2=.int .i64 cur/\B2 fr 7=.int .i64 (i:Nat)/\cf (l.drop i) cur=cf l most) ?_ l.length _ _ ?_).mono ?_
 .rintro n fr h ⟨i,cur,hi,hl,hcur,h0,h2,h7,hr⟩;by_cases C2:i<l.length
  .have hx:KW (C4 l) i=some (I8 l[i]):=Ep (by simp[C2]);have s1:=Tm.size_le (zg5z C2);have hT:=wn _ l[i] cur (Nat.le_refl _) a_ hcur;have OK:=nP l[i] cur;have hw:=J6 i a_;rw[zf1z C2]at hr;simp only[cf]at hr;generalize l[i]=t at *
   obtain⟨tk,tn,ts,tm,tl⟩:=t;simp only[I8]at hT hx;by_cases hc:cL (Tm.mk tk tn ts tm tl) cur<0
   .rw[if_pos hc]at hr;simp[LT,hl,h0,h2,h7,C2,hx,hT,hw,hc];exact hr.symm
   .rw[if_neg hc]at hr;simp[LT,hl,h0,h2,h7,C2,hx,hT,hw,hc];refine⟨n-1,a_,i+1,a_,_,?_,rfl,e_,hr⟩;omega
  .have e0:l.length<=i:=by omega
   rw[zf5z e0]at hr;simp only[cf]at hr;simp[LT,hl,h0,h7,C2];exact hr.symm
 .exact⟨0,most,a_,c_,a_,by simp[h0],by simp[h2],c_,rfl⟩
 .rintro e fr h ⟨hl,⟨rfl,he⟩|⟨rfl,h4,he⟩⟩
  .simp[hl,he,kD,hq]
  .simp[hl,h4,he,kD,hq]
mutual
theorem jb:∀(t:Tm) (m:Int),0<=cL t m->cL t m+t.size<=m
 | .mk _ n _ _ l,m,h=>by
  rw[cL]at h ⊢;by_cases hc:m<=0\/(40:Int)<n.size
  .rw[if_pos hc]at h;omega
  .rw[if_neg hc]at h ⊢;have:=dS l (m-1) h;simp only[Tm.size];omega
theorem dS:∀(l:Be) (m:Int),0<=UF l m->UF l m+Tm.sizes l<=m
 | [],m,_=>by simp[UF,Tm.sizes]
 |t::l,m,h=>by
  rw[UF]at h ⊢;by_cases hc:cL t m<0
  .rw[if_pos hc]at h;omega
  .rw[if_neg hc]at h ⊢;have h1:=jb t m a_;have h2:=dS l (cL t m) h;simp only[Tm.sizes];omega
end
theorem di:∀(l:Be) (m:Int),0<=m->cf l m=true->(Tm.sizes l:Int)<=m
 | [],m,h0,_=>by simp[Tm.sizes];exact h0
 |t::l,m,h0,h=>by
  rw[cf]at h;by_cases hc:cL t m<0
  .rw[if_pos hc]at h;cases h
  .rw[if_neg hc]at h;have h1:=jb t m a_;have h2:=di l (cL t m) a_ h;simp only[Tm.sizes];omega
theorem kF{l:Be}{n m:Int}(hm:0<=m)(h:kD l n m=true):(Tm.sizes l:Int)<=m/\(l.length:Int)<=n:=by
 unfold kD at h;split at h
 .cases h
 .exact⟨di l m hm h,a_⟩
end Go.Abs.Q
namespace Go.Abs.Q
open Go.Proofs
attribute [local simp] E5 E6 fin J4 H8 Q3 S6
structure TygB (g:Tyg):Prop where
 tl:g.tys.length<=1048576
 el:g.effs.length<=1048576
 ty:∀x∈g.tys,x.t.size<=1048576/\x.u.ps.length<=1048576/\∀p∈x.u.ps,p.tag.size<=1048576/\p.parts.length<=1048576/\p.data.length<=1048576
 ef:∀f∈g.effs,Tm.sizes f.terms<=1048576
 ts:(g.tys.map λx=>x.t.size).sum<=1048576
 es:(g.effs.map λf=>Tm.sizes f.terms).sum<=1048576
theorem Tm.sizes_appn(a b:Be):Tm.sizes (a++b)=Tm.sizes a+Tm.sizes b:=by
 induction a with
 |nil=>simp[Tm.sizes]
 |cons t a ih=>simp only[List.cons_append,Tm.sizes,ih];omega
theorem fB(a b:Be):C4 (a++b)=C4 a++C4 b:=by simp[b5]
theorem kl(m:Gg)(l:List Tyd)(D6:l.length<=1048576)(hf:∀x∈l,x.u.ps.length<=1048576)(e1:AV)(fr:Fr)(h:AH)(hB:h.boxes=[[sl m 6 (l.map r8),e1]])(h3:B2 fr 3=.vs true 0 [])(hl:fr.length=67)(h1:B2 fr 1=.ptr 0 0)(h4:B2 fr 4=.int .i64 0) :
  D7 (lp (A8 (m6 Q) (B1 Dt) Gc) (fr,h)) λe B8 h'=>Kp Gc.wr fr B8/\h'.boxes=[[sl m 6 (l.map r8),e1]]/\(e=.exit 0/\TU 4 (C4 (l.map (·.t))) (B2 B8 3) h'/\(l.all λx=>kE x.u)=true\/e=.ret/\B2 B8 2=.bool false):=by
 refine E9 rfl fr (λn fr h'=>∃(i:Nat),i+n=l.length/\B2 fr 4=.int .i64 (i:Nat)/\(∃Y7:List Tm,h'.boxes=[[sl m 6 (l.map r8),e1]]/\TU 4 (C4 Y7) (B2 fr 3) h'/\Y7=(l.take i).map (·.t)/\(l.drop i).all (λx=>kE x.u)=l.all λx=>kE x.u)) ?_ l.length h ⟨0,a_,h4,⟨[],hB,by rw[h3];exact VA 4 _,e_,rfl⟩⟩;rintro J Φ hJ hΦ n CT H1 K ⟨i,hi,k4,hr⟩;have C6:=K.1.trans hl;have k1:=D4 K 1 h1;clear K;by_cases C2:i<l.length
 .have L4:=J6 i a_;obtain⟨Y7,hb,hg,ha,hr⟩:=hr;obtain⟨bx,F⟩:=H1;simp only at hb;subst hb;have hx:=J5 (f:=r8) (zf0z C2);have htk:(l.take (i+1)).map (·.t)=Y7++[l[i].t]:=by rw[ha,zg6z C2,List.map_append];rfl
  have f1:=hf l[i] (zg5z C2);have hal:Y7.length<=1048576:=by rw[ha,List.length_map,List.length_take];omega
  rw[zf1z C2,zt3z]at hr;generalize l[i]=x at *
  have hF:=A02 x.u f1;obtain⟨v',⟨B',F'⟩,hap,Jj,hB'⟩:=Sr (c:=B1 Dt) (bytes:=56) (x:=I8 x.t) hg rfl (true,true) oG oG;simp only at hB';subst hB';have htc:=G9 x.t;have huc:=Ax x.u;simp only[r8]at hx;cases c1:kE x.u with
  |false =>
   rw[c1]at hF;simp[Gc,C6,k1,k4,C2,L4,hx,hF,htc,huc];exact hΦ _ _ _ ⟨rfl,.inr ⟨rfl,d_⟩⟩
  |true =>
   rw[c1]at hF hr;simp[Gc,C6,k1,k4,C2,L4,hx,hF,htc,huc,A9,hap];exact V6 hJ ⟨i+1,a_,d_,Y7++[x.t],rfl,by simp[C6];rw[fB];exact Jj,htk.symm,h_⟩
 .obtain⟨Y7,hb,hg,ha,hr⟩:=hr;obtain⟨bx,F⟩:=H1;simp only at hb;subst hb;rw[zf5z a_]at hr;rw[zg9z a_]at ha;subst ha;simp[Gc,C6,k1,k4,C2];exact hΦ _ _ _ ⟨rfl,.inl ⟨rfl,by simp[C6];exact hg,hr.symm⟩⟩
theorem kr(m:Gg)(l:List Fa)(D6:l.length<=1048576)(acc0:Be)(X9:Tm.sizes acc0+(l.map λf=>Tm.sizes f.terms).sum<=4000000)(e0:AV)(fr:Fr)(h:AH)(hB:h.boxes=[[e0,sl m 3 (l.map Dp)]])(h3:TU 4 (C4 acc0) (B2 fr 3) h)(hl:fr.length=67)(h1:B2 fr 1=.ptr 0 0)(h5:B2 fr 5=.int .i64 0) :
  D7 (lp (A8 (m6 Q) (B1 Dt) Gb) (fr,h)) λe B8 h'=>Kp Gb.wr fr B8/\h'.boxes=[[e0,sl m 3 (l.map Dp)]]/\(e=.exit 2/\TU 4 (C4 (acc0++l.flatMap (·.terms))) (B2 B8 3) h'\/e=.ret/\B2 B8 2=.bool false):=by
 refine E9 rfl fr (λn fr h'=>∃(i:Nat),i+n=l.length/\B2 fr 5=.int .i64 (i:Nat)/\(∃Y7:List Tm,h'.boxes=[[e0,sl m 3 (l.map Dp)]]/\TU 4 (C4 Y7) (B2 fr 3) h'/\Y7=acc0++(l.take i).flatMap (·.terms)/\Tm.sizes Y7+((l.drop i).map λf=>Tm.sizes f.terms).sum<=4000000)) ?_ l.length h ⟨0,a_,h5,⟨acc0,hB,h3,e_,by simpa using X9⟩⟩;rintro J Φ hJ hΦ n CT H1 K ⟨i,hi,k5,hr⟩;have C6:=K.1.trans hl;have k1:=D4 K 1 h1;clear K;by_cases C2:i<l.length
 .have L4:=J6 i a_;obtain⟨Y7,hb,hg,ha,hs⟩:=hr;obtain⟨bx,F⟩:=H1;simp only at hb;subst hb;have hx:=J5 (f:=Dp) (zf0z C2);have htk:acc0++(l.take (i+1)).flatMap (·.terms)=Y7++l[i].terms:=by rw[ha,zg6z C2,List.flatMap_append,List.append_assoc];simp only[zt1z,List.flatMap_nil,List.append_nil]
  rw[zf1z C2,zf2z,zg4z]at hs;generalize l[i]=f at *
  have h1:=Tm.length_le Y7;have h2:=Tm.length_le f.terms;obtain⟨v',⟨B',F'⟩,hap,Jj,hB'⟩:=rZ (c:=B1 Dt) (bytes:=56) (x:=sl f.fm 4 (C4 f.terms)) (ys:=C4 f.terms) hg rfl (W0 _ _ _ _) (by rw[Z9,Z9];simp only[K7,maxLen];omega);simp only at hB';subst hB';simp only[Dp]at hx;generalize hN:(f.terms.length:Int)=N;by_cases c1:12<N
  .simp[Gb,C6,k1,k5,C2,L4,hx,hN,c1];exact hΦ _ _ _ ⟨rfl,.inr ⟨rfl,d_⟩⟩
  .simp[Gb,C6,k1,k5,C2,L4,hx,hN,c1,hap];exact V6 hJ ⟨i+1,a_,d_,Y7++f.terms,rfl,by simp[C6];rw[fB];exact Jj,htk.symm,by rw[Tm.sizes_appn];omega⟩
 .obtain⟨Y7,hb,hg,ha,hs⟩:=hr;obtain⟨bx,F⟩:=H1;simp only at hb;subst hb;rw[zg9z a_]at ha;subst ha;simp[Gb,C6,k1,k5,C2];exact hΦ _ _ _ ⟨rfl,.inl ⟨rfl,by simp[C6];exact hg⟩⟩
theorem eY(l:List Tyd):Tm.sizes (l.map (·.t))=(l.map λx=>x.t.size).sum:=by
 induction l with
 |nil=>rfl
 |cons a l ih=>simp only[zf2z,Tm.sizes,zg4z,ih]
theorem bJ(l:List Fa):Tm.sizes (l.flatMap (·.terms))=(l.map λf=>Tm.sizes f.terms).sum:=by
 induction l with
 |nil=>rfl
 |cons a l ih=>rw[zt1z,Tm.sizes_appn,zf2z,zg4z,ih]
def kC(g:Tyg):Bool:=(g.tys.all λx=>kE x.u)&&kD (g.tys.map (·.t)++g.effs.flatMap (·.terms)) 900 400&&decide (g.tys.length<=90)&&decide (g.effs.length<=70)
theorem vy{g:Tyg}(h:kC g=true):TygFin g:=by
 unfold kC at h;simp only[zg8z,zt2z,decide_eq_true_eq]at h;obtain⟨⟨⟨h1,h2⟩,h3⟩,h4⟩:=h;have h5:=(kF a_ h2).1;rw[Tm.sizes_appn,bJ]at h5;refine⟨a_,a_,λx hx=>⟨?_,?_⟩,λf hf=>?_⟩
 .have h6:=Tm.size_le (List.mem_map.2 ⟨x,hx,rfl⟩:x.t∈g.tys.map (·.t));omega
 .have h6:=h1 x hx;unfold kE ni at h6;simp only[zg8z,zt2z,Bool.not_eq_true',decide_eq_false_iff_not]at h6;refine⟨a_,λp hp=>?_⟩;have:=h6.2 p hp;omega
 .have h6:Tm.sizes f.terms<=(g.effs.map λf=>Tm.sizes f.terms).sum:=by
   have:∀l:List Fa,f∈l->Tm.sizes f.terms<=(l.map λf=>Tm.sizes f.terms).sum:=λl=>by
    induction l with
    |nil=>intro h;cases h
    |cons a l ih =>
     intro h;rw[zf2z,zg4z];rcases zt0z.1 h with rfl|h
     .omega
     .have:=ih h;omega
   exact this _ hf
  omega
theorem A03(g:Tyg)(B:TygB g):∃b,pc Q Dt [EO g]=some (.bool b)/\(b=true->kC g=true):=by
 suffices h:∃r,pc Q Dt [EO g]=some r/\∃b,r=.bool b/\(b=true->kC g=true) by
  obtain⟨r,h1,b,rfl,h2⟩:=h;exact⟨b,h1,h2⟩
 obtain⟨tm,tys,em,effs⟩:=g;have b1:=B.tl;have b2:=B.el;have b3:=B.ts;have b4:=B.es;simp only at b1 b2 b3 b4;refine peQ1 Sh λΨ hΨ fr hl h0=>?_;simp[Sh,EO]at hl h0;simp[Sh,hl,h0];refine D7.mono (kl tm tys b1 (λx hx=>(B.ty x hx).2.1) (sl em 3 (effs.map Dp)) _ _ ?_ ?_ ?_ ?_ ?_) ?_<;>first|(simp[hl,h0];done)|skip
 rintro e B8 ⟨bx,F⟩ ⟨K,hb,⟨rfl,hg,h1⟩|⟨rfl,h4⟩⟩
 .simp only at hb;subst hb;have hl':B8.length=67:=K.1.trans c_;have k1:B2 B8 1=.ptr 0 0:=D4 K 1 oP;simp[hl'];refine D7.mono (kr em effs b2 (tys.map (·.t)) (by rw[eY];omega) (sl tm 6 (tys.map r8)) _ _ ?_ ?_ ?_ ?_ ?_) ?_<;>first|(simp[hl',k1];done)|(simp[hl'];exact hg)|skip
  rintro e Zr ⟨bx,F2⟩ ⟨K2,hb,⟨rfl,hg2⟩|⟨rfl,h4⟩⟩
  .simp only at hb;subst hb;have XI:Zr.length=67:=K2.1.trans (by simp[hl']);have q1:B2 Zr 1=.ptr 0 0:=D4 K2 1 (by simp[hl',k1]);obtain⟨m,hz⟩:=ra hg2;have hF:=A0v m (tys.map (·.t)++effs.flatMap (·.terms)) 900 400 (by rw[Tm.sizes_appn,eY,bJ];omega) f9;generalize hN1:(tys.length:Int)=N1;generalize hN2:(effs.length:Int)=N2;by_cases c1:N1<=90
   .by_cases c2:N2<=70
    .simp[XI,q1,hN1,hN2,c1,c2,hz,hF];refine hΨ _ ⟨_,rfl,λhb=>?_⟩;unfold kC;simp only[zg8z,decide_eq_true_eq];exact⟨⟨⟨h1,hb⟩,a_⟩,a_⟩
    .simp[XI,q1,hN1,hN2,c1,c2];exact hΨ _ ⟨_,rfl,λhb=>by cases hb⟩
   .simp[XI,q1,hN1,hN2,c1];exact hΨ _ ⟨_,rfl,λhb=>by cases hb⟩
  .simp[h4];exact hΨ _ ⟨_,rfl,λhb=>by cases hb⟩
 .simp[h4];exact hΨ _ ⟨_,rfl,λhb=>by cases hb⟩
end Go.Abs.Q
namespace Go.Abs.Q
open Go.Proofs
open Go.Proofs.YtnnjamknplefbaaGreatDoor (Rows.uptoBulk Rows.uptoBulkAll)
theorem yq:Tryz.prog.cellsOf 3=1:=by kernel_rfl
theorem cStr:Tryz.prog.cellsOf 9=1:=by kernel_rfl
theorem cInts:Tryz.prog.cellsOf 44=1:=by kernel_rfl
theorem yt:Tryz.prog.cellsOf 26=1:=by kernel_rfl
theorem sA:Tryz.prog.cellsOf 28=4:=by kernel_rfl
theorem cPay:Tryz.prog.cellsOf 85=4:=by kernel_rfl
theorem cPays:Tryz.prog.cellsOf 32=1:=by kernel_rfl
theorem cType:Tryz.prog.cellsOf 34=2:=by kernel_rfl
theorem yu:Tryz.prog.cellsOf 67=6:=by kernel_rfl
theorem cTypeds:Tryz.prog.cellsOf 22=1:=by kernel_rfl
theorem cFact:Tryz.prog.cellsOf 46=3:=by kernel_rfl
theorem cFacts:Tryz.prog.cellsOf 23=1:=by kernel_rfl
theorem cTyping:Tryz.prog.cellsOf 25=2:=by kernel_rfl
theorem wP{α:Type}:∀{l:List α},l.length=2->∃a b,l=[a,b]
 | [a,b],_=>⟨a,b,rfl⟩
theorem len3{α:Type}:∀{l:List α},l.length=3->∃a b c,l=[a,b,c]
 | [a,b,c],_=>⟨a,b,c,rfl⟩
theorem len4{α:Type}:∀{l:List α},l.length=4->∃a b c d,l=[a,b,c,d]
 | [a,b,c,d],_=>⟨a,b,c,d,rfl⟩
theorem len6{α:Type}:∀{l:List α},l.length=6->∃a b c d e f,l=[a,b,c,d,e,f]
 | [a,b,c,d,e,f],_=>⟨a,b,c,d,e,f,rfl⟩
theorem Kv{P:Program}{w:World}{t:TypeId}{H:Type}{enc:TypeId×Value->H}{fs:Array Field}{n:Nat}{cs:List Value}{x:DataW H×List MemPlace}(ht:P.underlying t=some (.struct fs)){c:Nat}(hc:P.cellsOf t=c)
  (h:DataW.trod enc P w 0 (λ_=>true) true n t cs=some x) :
  ∃(m:Nat) (xs:List (DataW H×List MemPlace)),n=m+1/\cs.length=c/\xs.length=fs.size/\x.1=.agg (xs.map (·.1))/\∀(i:Nat) (f:Field),fs[i]?=some f->∃y,xs[i]?=some y/\DataW.trod enc P w 0 (λ_=>true) true m f.type ((cs.drop f.offset).take (P.cellsOf f.type))=some y:=by
 obtain⟨xs,m,rfl,rfl,h1,h2,h3⟩:=DataW.trod_struct ht h;refine⟨m,xs,rfl,a_,h2,rfl,λi f hi=>?_⟩;have C2:i<fs.size:=(Array.getElem?_eq_some_iff.1 hi).1;have:=h3 i f hi;rw[zf0z a_]at this;exact⟨xs[i],zf0z _,this⟩
theorem CV_app{w:World}{ys ys':b9}{cs cs':List Value}(h:CV w ys cs)(k:CV w ys' cs'):CV w (ys++ys') (cs++cs'):=by
 induction ys generalizing cs with
 |nil =>
  have:cs=[]:=by
   have:=h.1;simpa[DV]using this
  subst this;exact k
 |cons y ys ih =>
  obtain⟨h1,h2⟩:=h;simp only[DV]at h1;obtain⟨u,us,rfl,h3,h4⟩:=h1;have:=ih ⟨h4,λv hv=>h2 v (List.mem_cons_of_mem _ hv)⟩;refine Jk (Wl h3 (h2 u e_)) this
variable {w:World}
theorem ed(l:Be):(l.map Tm.size).sum=Tm.sizes l:=by
 induction l with
 |nil=>rfl
 |cons t l ih=>simp[Tm.sizes,ih]
theorem A0n{α:Type}(l:List α):(l.map λ_=>1).sum=l.length:=by
 induction l with
 |nil=>rfl
 |cons t l ih=>rw[zf2z,zg4z,ih,List.length_cons];omega
theorem iW{α:Type}{f:α->Nat}(h:∀a,1<=f a):∀l:List α,l.length<=(l.map f).sum
 | []=>by simp
 |a::l=>by have:=h a;have:=iW h l;simp;omega
theorem ZF{α:Type}{f:α->Nat}{a:α}:∀{l:List α},a∈l->f a<=(l.map f).sum
 |b::l,h=>by
  rcases zt0z.1 h with rfl|h
  .simp
  .have:=ZF (f:=f) h;simp;omega
theorem aQ:∀n,Oa Tryz.prog w 28 (λt:Tm=>(I8 t).cells) (λ_=>True) Tm.size n:=by
 intro n
 induction n using Nat.strongRecOn with
 |_ n ih =>
  intro H enc cs x hx;obtain⟨m,xs,rfl,IN,sv,hx1,hf⟩:=Kv Tryz.underlying28 sA hx;obtain⟨y0,hy0,h0⟩:=hf 0 _ rfl;obtain⟨y1,hy1,h1⟩:=hf 1 _ rfl;obtain⟨y2,hy2,h2⟩:=hf 2 _ rfl;obtain⟨y3,hy3,h3⟩:=hf 3 _ rfl;clear hf;obtain⟨v0,v1,v2,v3,rfl⟩:=len4 IN;obtain⟨z0,z1,z2,z3,rfl⟩:=len4 sv;simp only[zf4z,zf3z,Option.some.injEq]at hy0 hy1 hy2 hy3;subst hy0 hy1 hy2 hy3;simp only[zf8z,zf7z,zf6z,yq,cStr,yt,zg1z,zf9z,zg0z,zg2z]at h0 h1 h2 h3;obtain⟨k,-,w0,cv0⟩:=Ko (w:=w) Tryz.underlying3 m enc _ _ h0;obtain⟨nm,-,w1,cv1⟩:=eC (w:=w) Tryz.underlying9 m enc _ _ h1;obtain⟨s,-,w2,cv2⟩:=Ko (w:=w) Tryz.underlying3 m enc _ _ h2;cases m with
  |zero=>simp[DataW.trod]at h3
  |succ m =>
   obtain⟨⟨bk,kids⟩,-,w3,cv3⟩:=Jc (w:=w) Tryz.underlying26 sA a_ (ih m a_) enc _ _ h3;refine⟨.mk k nm s (false,bk) kids,trivial,?_,?_⟩
   .rw[hx1];dsimp only at w0 w1 w2 w3;rw[ed]at w3;simp only[Tm.size,zf2z,zg3z,Rows.uptoBulk,Rows.uptoBulkAll];omega
   .dsimp only at cv0 cv1 cv2 cv3;simp only[I8,dW];rw[b5];exact Jk cv0 (Jk cv1 (Jk cv2 cv3))
theorem aP(n:Nat):Oa Tryz.prog w 44 (λys:Bool×List Int=>[sl (false,ys.1) 1 (ys.2.map (AV.int .i64))]) (λ_=>True) (λys=>ys.2.length) n:=by
 intro H enc cs x hx;cases n with
 |zero=>simp[DataW.trod]at hx
 |succ n =>
  obtain⟨ys,-,h1,h2⟩:=Jc (w:=w) (enc:=AV.int .i64) Tryz.underlying44 yq a_ (Ko (w:=w) Tryz.underlying3 n) enc _ _ hx;refine⟨ys,trivial,?_,h2⟩;dsimp only at h1 ⊢;rw[A0n]at h1;omega
def hH(p:Pyl):Nat:=p.tag.size+p.parts.length+p.data.length+1
theorem wi(n:Nat):Oa Tryz.prog w 85 (λf:Pyl=>(Bc f).cells) (λ_=>True) hH n:=by
 intro H enc cs x hx;obtain⟨m,xs,rfl,IN,sv,hx1,hf⟩:=Kv Tryz.underlying85 cPay hx;obtain⟨y0,hy0,h0⟩:=hf 0 _ rfl;obtain⟨y1,hy1,h1⟩:=hf 1 _ rfl;obtain⟨y2,hy2,h2⟩:=hf 2 _ rfl;obtain⟨y3,hy3,h3⟩:=hf 3 _ rfl;clear hf;obtain⟨v0,v1,v2,v3,rfl⟩:=len4 IN;obtain⟨z0,z1,z2,z3,rfl⟩:=len4 sv;simp only[zf4z,zf3z,Option.some.injEq]at hy0 hy1 hy2 hy3;subst hy0 hy1 hy2 hy3;simp only[zf8z,zf7z,zf6z,yq,cStr,cInts,zg1z,zf9z,zg0z,zg2z]at h0 h1 h2 h3;obtain⟨a,-,w0,cv0⟩:=eC (w:=w) Tryz.underlying9 m enc _ _ h0;obtain⟨b,-,w1,cv1⟩:=aP m enc _ _ h1;obtain⟨k,-,w2,cv2⟩:=Ko (w:=w) Tryz.underlying3 m enc _ _ h2;obtain⟨d,-,w3,cv3⟩:=aP m enc _ _ h3;refine⟨⟨a,(false,b.1),b.2,k,(false,d.1),d.2⟩,trivial,?_,Jk cv0 (Jk cv1 (Jk cv2 cv3))⟩;rw[hx1];dsimp only at w0 w1 w2 w3;simp only[hH,zf2z,zg3z,Rows.uptoBulk,Rows.uptoBulkAll];omega
def xt(u:Typ):Nat:=(u.ps.map hH).sum+1
theorem pi(n:Nat):Oa Tryz.prog w 34 (λf:Typ=>(Hn f).cells) (λ_=>True) xt n:=by
 intro H enc cs x hx;obtain⟨m,xs,rfl,IN,sv,hx1,hf⟩:=Kv Tryz.underlying34 cType hx;obtain⟨y0,hy0,h0⟩:=hf 0 _ rfl;obtain⟨y1,hy1,h1⟩:=hf 1 _ rfl;clear hf;obtain⟨v0,v1,rfl⟩:=wP IN;obtain⟨z0,z1,rfl⟩:=wP sv;simp only[zf4z,zf3z,Option.some.injEq]at hy0 hy1;subst hy0 hy1;simp only[zf8z,zf7z,zf6z,yq,cPays,zg1z,zf9z,zg0z,zg2z]at h0 h1;obtain⟨k,-,w0,cv0⟩:=Ko (w:=w) Tryz.underlying3 m enc _ _ h0;cases m with
 |zero=>simp[DataW.trod]at h1
 |succ m =>
  obtain⟨⟨b,ps⟩,-,w1,cv1⟩:=Jc (w:=w) (enc:=Bc) Tryz.underlying32 cPay a_ (wi m) enc _ _ h1;refine⟨⟨k,(false,b),ps⟩,trivial,?_,Jk cv0 cv1⟩;rw[hx1];dsimp only at w0 w1;simp only[xt,zf2z,zg3z,Rows.uptoBulk,Rows.uptoBulkAll];omega
def bY(x:Tyd):Nat:=x.t.size+xt x.u
theorem lN(n:Nat):Oa Tryz.prog w 67 (λf:Tyd=>(r8 f).cells) (λ_=>True) bY n:=by
 intro H enc cs x hx;obtain⟨m,xs,rfl,IN,sv,hx1,hf⟩:=Kv Tryz.underlying67 yu hx;obtain⟨y0,hy0,h0⟩:=hf 0 _ rfl;obtain⟨y1,hy1,h1⟩:=hf 1 _ rfl;clear hf;obtain⟨v0,v1,v2,v3,v4,v5,rfl⟩:=len6 IN;obtain⟨z0,z1,rfl⟩:=wP sv;simp only[zf4z,zf3z,Option.some.injEq]at hy0 hy1;subst hy0 hy1;simp only[zf8z,zf7z,zf6z,sA,cType,zg1z,zf9z,zg0z,zg2z]at h0 h1;obtain⟨t,-,w0,cv0⟩:=aQ m enc _ _ h0;obtain⟨u,-,w1,cv1⟩:=pi m enc _ _ h1;refine⟨⟨t,u⟩,trivial,?_,?_⟩
 .rw[hx1];simp only[bY,zf2z,zg3z,Rows.uptoBulk,Rows.uptoBulkAll];omega
 .show CV w (r8 ⟨t,u⟩).cells _;rw[xr];exact CV_app cv0 cv1
def zp(f:Fa):Nat:=Tm.sizes f.terms+1
theorem ph(n:Nat):Oa Tryz.prog w 46 (λf:Fa=>(Dp f).cells) (λ_=>True) zp n:=by
 intro H enc cs x hx;obtain⟨m,xs,rfl,IN,sv,hx1,hf⟩:=Kv Tryz.underlying46 cFact hx;obtain⟨y0,hy0,h0⟩:=hf 0 _ rfl;obtain⟨y1,hy1,h1⟩:=hf 1 _ rfl;obtain⟨y2,hy2,h2⟩:=hf 2 _ rfl;clear hf;obtain⟨v0,v1,v2,rfl⟩:=len3 IN;obtain⟨z0,z1,z2,rfl⟩:=len3 sv;simp only[zf4z,zf3z,Option.some.injEq]at hy0 hy1 hy2;subst hy0 hy1 hy2;simp only[zf8z,zf7z,zf6z,yq,yt,zg1z,zf9z,zg0z,zg2z]at h0 h1 h2;obtain⟨k,-,w0,cv0⟩:=Ko (w:=w) Tryz.underlying3 m enc _ _ h0;obtain⟨g,-,w1,cv1⟩:=Ko (w:=w) Tryz.underlying3 m enc _ _ h1;cases m with
 |zero=>simp[DataW.trod]at h2
 |succ m =>
  obtain⟨⟨b,ts⟩,-,w2,cv2⟩:=Jc (w:=w) Tryz.underlying26 sA a_ (aQ m) enc _ _ h2;refine⟨⟨k,g,(false,b),ts⟩,trivial,?_,?_⟩
  .rw[hx1];dsimp only at w0 w1 w2;rw[ed]at w2;simp only[zp,zf2z,zg3z,Rows.uptoBulk,Rows.uptoBulkAll];omega
  .dsimp only at cv0 cv1 cv2;rw[←b5]at cv2;exact Jk cv0 (Jk cv1 cv2)
def tygW(g:Tyg):Nat:=(g.tys.map bY).sum+(g.effs.map zp).sum
theorem gf(n:Nat):Oa Tryz.prog w 25 (λg:Tyg=>(EO g).cells) (λ_=>True) tygW n:=by
 intro H enc cs x hx;obtain⟨m,xs,rfl,IN,sv,hx1,hf⟩:=Kv Tryz.underlying25 cTyping hx;obtain⟨y0,hy0,h0⟩:=hf 0 _ rfl;obtain⟨y1,hy1,h1⟩:=hf 1 _ rfl;clear hf;obtain⟨v0,v1,rfl⟩:=wP IN;obtain⟨z0,z1,rfl⟩:=wP sv;simp only[zf4z,zf3z,Option.some.injEq]at hy0 hy1;subst hy0 hy1;simp only[zf8z,zf7z,zf6z,cTypeds,cFacts,zg1z,zf9z,zg0z,zg2z]at h0 h1;cases m with
 |zero=>simp[DataW.trod]at h0
 |succ m =>
  obtain⟨⟨b,ts⟩,-,w0,cv0⟩:=Jc (w:=w) (enc:=r8) Tryz.underlying22 yu a_ (lN m) enc _ _ h0;obtain⟨⟨d,es⟩,-,w1,cv1⟩:=Jc (w:=w) (enc:=Dp) Tryz.underlying23 cFact a_ (ph m) enc _ _ h1;refine⟨⟨(false,b),ts,(false,d),es⟩,trivial,?_,Jk cv0 cv1⟩;rw[hx1];dsimp only at w0 w1;simp only[tygW,zf2z,zg3z,Rows.uptoBulk,Rows.uptoBulkAll];omega
theorem qh{α:Type}{f g:α->Nat}(h:∀a,f a<=g a):∀l:List α,(l.map f).sum<=(l.map g).sum
 | []=>by simp
 |a::l=>by have:=h a;have:=qh h l;simp;omega
theorem A1n{g:Tyg}(h:tygW g<=1048576):TygB g:=by
 have h':(g.tys.map bY).sum+(g.effs.map zp).sum<=1048576:=h;have l1:g.tys.length<=(g.tys.map bY).sum:=iW (λs=>by unfold bY xt;omega) _;have l2:g.effs.length<=(g.effs.map zp).sum:=iW (λs=>by unfold zp;omega) _;have l3:(g.tys.map λx=>x.t.size).sum<=(g.tys.map bY).sum:=qh (λx=>by unfold bY;omega) _;have l4:(g.effs.map λf=>Tm.sizes f.terms).sum<=(g.effs.map zp).sum:=qh (λx=>by unfold zp;omega) _;refine⟨a_,a_,λx hx=>?_,λf hf=>?_,a_,a_⟩
 .have h1:bY x<=(g.tys.map bY).sum:=ZF hx;have e1:bY x=x.t.size+xt x.u:=rfl;have e2:xt x.u=(x.u.ps.map hH).sum+1:=rfl;have h2:x.u.ps.length<=(x.u.ps.map hH).sum:=iW (λs=>by unfold hH;omega) _;refine⟨a_,a_,λp hp=>?_⟩;have h3:hH p<=(x.u.ps.map hH).sum:=ZF hp;have e3:hH p=p.tag.size+p.parts.length+p.data.length+1:=rfl;omega
 .have h1:zp f<=(g.effs.map zp).sum:=ZF hf;have e1:zp f=Tm.sizes f.terms+1:=rfl;omega
end Go.Abs.Q
namespace Go.Abs.Q
open Go.Proofs Go.WideShapes
open Go.Proofs.YtnnjamknplefbaaGreatDoor (Rows.uptoBulk Rows.uptoBulkAll)
variable {w:World}
theorem yJ{w:World}{cs:b9}{us:Array Value}(h:CV w cs us.toList):PV w (okW w) (.agg cs) (.agg us):=by
 simp only[PV];exact⟨us,rfl,h.2,h.1⟩
theorem VZ{P:Program}{W:World}:∀{l:List (String×DataW Unit)} {ps:List MemPlace},DataW.LaidVars P W l ps->∀{n:String} {d:DataW Unit},(n,d)∈l ->
  ∃(g:Nat) (t:TypeId) (cs:Array Value) (fuel:Nat) (p:List MemPlace),P.globalNamed n=some g/\(P.globals[g]?).map (·.type)=some t/\W.var? P n=some cs/\DataW.trod (λ_=>()) P W 0 (λ_=>true) false fuel t cs.toList=some (d,p)
 |(n',d')::l,ps,h,n,d,hm=>by
  obtain⟨g,t,cs,fuel,p,q,h1,h2,h3,h4,h5,_⟩:=h;rcases zt0z.1 hm with e|hm
  .cases e;exact⟨g,t,cs,fuel,p,h1,h2,h3,h4⟩
  .exact VZ h5 hm
theorem cn{W:World}{l:List (String×DataW Unit)}{ps:List MemPlace}(h:DataW.LaidVars Tryz.prog W l ps) (hm:("sealring/term.words",(Go.Proofs.YtnnjamknplefbaaGreatDoor.Rows.laid_sealring_term_words:DataW Unit))∈l):Fo W (okW W):=by
 obtain⟨g,t,cs,fuel,p,h1,h2,h3,h4⟩:=VZ h hm;obtain rfl:g=0:=Option.some.inj ((show Tryz.prog.globalNamed "sealring/term.words"=some 0 by kernel_rfl).symm.trans h1) |>.symm;obtain rfl:t=52:=Option.some.inj ((show (Tryz.prog.globals[0]?).map (·.type)=some 52 by kernel_rfl).symm.trans h2) |>.symm;rcases DataW.trod_slice Tryz.underlying52 h4 with ⟨_,hx⟩|⟨a,len,cap,elems,rest,n,-,Au,hx,-,hlc,hcm,Ry,hrd,-⟩
 .cases hx
 .have hc0:cs[0]?=some (.slice (some a) len cap):=by
   rw[←Array.getElem?_toList,Au];rfl
  have hcell:W.cell? ⟨0,0,none⟩=some (.slice (some a) len cap):=(World.var?_cell h1 h3 0).trans hc0;have hd:elems.map (·.1)=[.lit (.string [97,110,121]),.lit (.string [97,103,101,110,116]),.lit (.string [110,111,110,99,101]),.lit (.string [107,101,121]),.lit (.string [100,97,116,97]),.lit (.string [116,97,103])]:=by
   have:=congrArg Prod.fst hx;unfold Go.Proofs.YtnnjamknplefbaaGreatDoor.Rows.laid_sealring_term_words at this;injection this with e1 e2
   exact e1.symm
  have hl6:len=6:=by
   rw[←Ry];have:=congrArg List.length hd;simpa using this
  intro x hx;unfold su at hx;rw[List.mem_singleton]at hx;subst hx;simp only[PV,CL];refine⟨_,_,rfl,⟨_,World.block_lt_of_cell? _ _ hcell,hcell,rfl,?_⟩,trivial⟩;refine PV_sl (by rw[hl6];rfl) hlc hcm f9 λi x hi=>?_;have hi6:i<6:=by
   have:=(zg7z.1 hi).1;simpa using this
  have hr:=hrd i a_;rw[cStr]at hr;have OK:i<elems.length:=by omega
  rw[zf0z OK]at hr;obtain⟨c,hc1,hc2⟩:=Option.bind_eq_some_iff.1 hr;obtain⟨s,rfl,hs2,-⟩:=DataW.trod_string Tryz.underlying9 hc2;have hdi:(elems.map (·.1))[i]?=some (.lit (.string s.data.toList)):=by
   rw[List.getElem?_map,zf0z OK,hs2];rfl
  rw[hd]at hdi;have hx':x=.str s:=by
   have key:∀b:List UInt8,s.data.toList=b->s=⟨b.toArray⟩:=λb hb=>by
    obtain⟨d⟩:=s;obtain⟨d⟩:=d;simp only at hb;rw[hb]
   match i,hi6 with
   |0,_=>simp at hdi hi;rw[←hi,key _ hdi.symm]
   |1,_=>simp at hdi hi;rw[←hi,key _ hdi.symm]
   |2,_=>simp at hdi hi;rw[←hi,key _ hdi.symm]
   |3,_=>simp at hdi hi;rw[←hi,key _ hdi.symm]
   |4,_=>simp at hdi hi;rw[←hi,key _ hdi.symm]
   |5,_=>simp at hdi hi;rw[←hi,key _ hdi.symm]
  subst hx';exact⟨[.string s],hc1,Wl (by simp[PV]) rfl⟩
end Go.Abs.Q
namespace Go.Proofs.YtnnjamknplefbaaGreatDoor
open Go.ChangeShapes Go.WideShapes Go.ChangeAt Go.RowKit Go.Abs Go.Abs.Q
theorem own:ownKnob Tryz.prog.godebug=none:=by kernel_rfl
theorem laidOut:laidOutB Tryz.prog=true:=by kernel_rfl
def cell1:DataW Unit->List Value
 | .lit (.int k n)=>[.int k n]
 | .lit (.string l)=>[.string ⟨l.toArray⟩]
 |_=>[]
def dV:DataW Unit->List Value
 | .agg l=>l.flatMap cell1
 | .slice l _=>l.flatMap cell1
 |_=>[]
def cell3:DataW Unit->List Value
 | .agg l=>l.flatMap dV
 |_=>[]
def NH(l:List Value):Obj->Obj
 | .cells _ t frozen=>.cells l.toArray t frozen
 |o=>o
noncomputable def XK(os:Os):World :=
 {World.holding Tryz.prog os ⟨#[],#[],[]⟩with heap:=(((((((World.holding Tryz.prog os ⟨#[],#[],[]⟩).heap.modify 5 (NH (dV Rows.laid_math_bits_deBruijn32tab))).modify 6 (NH (dV Rows.laid_math_bits_deBruijn64tab))).modify 2 (NH (dV Rows.laid_internal_strconv_uint64pow10))).modify 4 (NH (cell3 Rows.laid_unicode_utf8_acceptRanges))).modify 3 (NH (dV Rows.laid_unicode_utf8_first))).modify 0 (NH [.slice (some ⟨(World.holding Tryz.prog os ⟨#[],#[],[]⟩).heap.size,0,none⟩) 6 6])).push (.cells (dV Rows.laid_sealring_term_words).toArray 9 (0,0))}
theorem gM{W:World}{l:List (String×DataW Unit)}(h:laidMetH Tryz.prog l W)(hf:(l.filter λx=>x.2.handleName?.isSome)=[]) (hm:("sealring/term.words",(Rows.laid_sealring_term_words:DataW Unit))∈l):Fo W (okW W):=by
 unfold laidMetH at h;rw[hf]at h;obtain⟨ps,hv,_⟩:=h;exact cn hv hm
end Go.Proofs.YtnnjamknplefbaaGreatDoor
namespace Go.Abs.Q
open Go.Proofs
attribute [local simp] E5 E6 fin J4 H8 Q3 S6
theorem xD(k:Int):pc Q LJ [.int .i64 k]=some (.bool (OM k)):=by
 refine J0 Ga λfr hl h0=>?_;simp[Ga]at hl h0;by_cases h3:k=3
 .simp[Ga,hl,h0,h3,OM]
 .by_cases h4:k=4
  .simp[Ga,hl,h0,h4,OM]
  .by_cases h5:k=5
   .simp[Ga,hl,h0,h5,OM]
   .simp[Ga,hl,h0,h3,h4,h5,OM]
theorem A0Y(m:Gg)(l:List Int)(D6:l.length<=1000000)(c0 c2 c3:AV)(fr:Fr)(h:AH)(hB:h.boxes[0]?=some [c0,sl m 1 (l.map (AV.int .i64)),c2,c3])(hl:fr.length=96)(h1:B2 fr 1=.ptr 0 0)(h3:B2 fr 3=.int .i64 0) :
  D7 (lp (A8 (m6 Q) (B1 s7) l6) (fr,h)) λe B8 h'=>Kp l6.wr fr B8/\h'=h/\(e=.exit 0/\l.all XU=true\/e=.ret/\B2 B8 2=.bool false/\l.all XU=false):=by
 refine E9 rfl fr (λn fr h'=>∃(i:Nat),i+n=l.length/\B2 fr 3=.int .i64 (i:Nat)/\(h'=h/\(l.drop i).all XU=l.all XU)) ?_ l.length h ⟨0,a_,h3,⟨rfl,rfl⟩⟩;rintro J Φ hJ hΦ n CT H1 K ⟨i,hi,k3,hr⟩;have C6:=K.1.trans hl;have k1:=D4 K 1 h1;clear K;by_cases C2:i<l.length
 .have L4:=J6 i a_;obtain⟨rfl,hr⟩:=hr;obtain⟨bx,F⟩:=H1;simp only at hB;have hx:=J5 (f:=AV.int .i64) (zf0z C2);rw[zf1z C2,zt3z]at hr;generalize l[i]=a at *
  by_cases h1:a=1
  .have h2:XU a=true:=by simp[XU,h1]
   rw[h2]at hr;simp[l6,C6,k1,k3,C2,L4,hB,hx,h1];exact V6 hJ ⟨i+1,a_,d_,rfl,h_⟩
  .by_cases h2:a=2
   .have h3:XU a=true:=by simp[XU,h2]
    rw[h3]at hr;simp[l6,C6,k1,k3,C2,L4,hB,hx,h2];exact V6 hJ ⟨i+1,a_,d_,rfl,h_⟩
   .by_cases h3:a=6
    .have h4:XU a=true:=by simp[XU,h3]
     rw[h4]at hr;simp[l6,C6,k1,k3,C2,L4,hB,hx,h3];exact V6 hJ ⟨i+1,a_,d_,rfl,h_⟩
    .have h4:XU a=false:=by simp[XU,h1,h2,h3]
     rw[h4]at hr;simp[l6,C6,k1,k3,C2,L4,hB,hx,h1,h2,h3];exact hΦ _ _ _ ⟨rfl,.inr ⟨rfl,d_,f_⟩⟩
 .obtain⟨rfl,hr⟩:=hr;obtain⟨bx,F⟩:=H1;simp only at hB;rw[zf5z a_]at hr;simp[l6,C6,k1,k3,C2,hB];exact hΦ _ _ _ ⟨rfl,.inl ⟨rfl,f_⟩⟩
def Ya(N d:Int):Bool:=decide (d<0)||decide (N+1<d)
theorem A0X(m m':Gg)(l ps:List Int)(D6:l.length<=1000000)(hps:ps.length<=1000000)(c0 c2:AV)(fr:Fr)(h:AH)(hB:h.boxes[0]?=some [c0,sl m' 1 (ps.map (AV.int .i64)),c2,sl m 1 (l.map (AV.int .i64))])(hl:fr.length=96)(h1:B2 fr 1=.ptr 0 0)(h4:B2 fr 4=.int .i64 0) :
  D7 (lp (A8 (m6 Q) (B1 s7) AN) (fr,h)) λe B8 h'=>Kp AN.wr fr B8/\h'=h/\(e=.exit 2/\l.any (Ya ps.length)=false\/e=.ret/\B2 B8 2=.bool false/\l.any (Ya ps.length)=true):=by
 refine E9 rfl fr (λn fr h'=>∃(i:Nat),i+n=l.length/\B2 fr 4=.int .i64 (i:Nat)/\(h'=h/\(l.drop i).any (Ya ps.length)=l.any (Ya ps.length))) ?_ l.length h ⟨0,a_,h4,⟨rfl,rfl⟩⟩;rintro J Φ hJ hΦ n CT H1 K ⟨i,hi,k4,hr⟩;have C6:=K.1.trans hl;have k1:=D4 K 1 h1;clear K;by_cases C2:i<l.length
 .have L4:=J6 i a_;obtain⟨rfl,hr⟩:=hr;obtain⟨bx,F⟩:=H1;simp only at hB;have hx:=J5 (f:=AV.int .i64) (zf0z C2);rw[zf1z C2,List.any_cons]at hr;generalize l[i]=a at *
  generalize hN:(ps.length:Int)=N at *
  have hw:IntKind.i64.wrap (N+1)=N+1:=Y8 a_ a_;by_cases c1:a<0
  .have h2:Ya N a=true:=by simp[Ya,c1]
   rw[h2]at hr;simp[AN,C6,k1,k4,C2,L4,hB,hx,c1];exact hΦ _ _ _ ⟨rfl,.inr ⟨rfl,d_,f_⟩⟩
  .by_cases c2:N+1<a
   .have h2:Ya N a=true:=by simp[Ya,c2]
    rw[h2]at hr;simp[AN,C6,k1,k4,C2,L4,hB,hx,hN,hw,c1,c2];exact hΦ _ _ _ ⟨rfl,.inr ⟨rfl,d_,f_⟩⟩
   .have h2:Ya N a=false:=by simp[Ya,c1,c2]
    rw[h2]at hr;simp[AN,C6,k1,k4,C2,L4,hB,hx,hN,hw,c1,c2];exact V6 hJ ⟨i+1,a_,d_,rfl,h_⟩
 .obtain⟨rfl,hr⟩:=hr;obtain⟨bx,F⟩:=H1;simp only at hB;rw[zf5z a_]at hr;simp[AN,C6,k1,k4,C2,hB];exact hΦ _ _ _ ⟨rfl,.inl ⟨rfl,f_⟩⟩
theorem qK(p:Pyl)(hp:p.parts.length<=1000000)(hd:p.data.length<=1000000):pc Q s7 [Bc p]=some (.bool (TN p)):=by
 obtain⟨tag,pm,parts,goal,dm,data⟩:=p;simp only at hp hd;have hA:data.any (λd=>decide (d<0)||decide ((parts.length:Int)+1<d))=data.any (Ya parts.length):=rfl;unfold TN;simp only[hA];refine J0 R9 λfr hl h0=>?_;simp[R9,Bc]at hl h0;have key:∀(bd:Bool) (N D:Int),(parts.length:Int)=N->(data.length:Int)=D->(decide (N<1)||decide (6<N)||decide (goal < -1)||decide (7<goal)||decide (8<D)||(decide (goal<0)&&decide (0<D)))=bd->∀b,parts.all XU=b->∀A,data.any (Ya parts.length)=A->D7 (A8 (m6 Q) (B1 s7) R9.body (fr,⟨[],[]⟩)) (vH R9.results (.bool (!bd&&(b&&!A)))):=by
  intro bd N D hN hD hbd b hb A hA;have loops:∀(CT:Fr),CT.length=96->B2 CT 1=.ptr 0 0->B2 CT 3=.int .i64 0->D7 (lp (A8 (m6 Q) (B1 s7) l6) (CT,⟨[[.str tag,sl pm 1 (parts.map (AV.int .i64)),.int .i64 goal,sl dm 1 (data.map (AV.int .i64))]],[]⟩)) λe B8 h'=>(B8.length=96/\B2 B8 1=.ptr 0 0/\h'=⟨[[.str tag,sl pm 1 (parts.map (AV.int .i64)),.int .i64 goal,sl dm 1 (data.map (AV.int .i64))]],[]⟩)/\(e=.exit 0/\b=true\/e=.ret/\B2 B8 2=.bool false/\b=false):=λCT q1 q2 q3=>by
   refine D7.mono (A0Y pm parts a_ (.str tag) (.int .i64 goal) (sl dm 1 (data.map (AV.int .i64))) _ _ rfl q1 q2 q3) ?_;rintro e B8 h' ⟨K,rfl,h⟩;rw[hb]at h;exact⟨⟨K.1.trans q1,D4 K 1 q2,rfl⟩,h⟩
  have loops2:∀(CT:Fr),CT.length=96->B2 CT 1=.ptr 0 0->B2 CT 4=.int .i64 0->D7 (lp (A8 (m6 Q) (B1 s7) AN) (CT,⟨[[.str tag,sl pm 1 (parts.map (AV.int .i64)),.int .i64 goal,sl dm 1 (data.map (AV.int .i64))]],[]⟩)) λe B8 h'=>B8.length=96/\(e=.exit 2/\A=false\/e=.ret/\B2 B8 2=.bool false/\A=true):=λCT q1 q2 q3=>by
   refine D7.mono (A0X dm pm data parts a_ a_ (.str tag) (.int .i64 goal) _ _ rfl q1 q2 q3) ?_;rintro e B8 h' ⟨K,rfl,h⟩;rw[hA]at h;exact⟨K.1.trans q1,h⟩
  have tail:bd=false->¬N<1->¬6<N->¬goal < -1->¬7<goal->¬8<D->∀(c6:goal=-1->¬0<D),D7 (A8 (m6 Q) (B1 s7) R9.body (fr,⟨[],[]⟩)) (vH R9.results (.bool (!bd&&(b&&!A)))):=by
   intro hbt c1 c2 c3 c4 c5 c67;rw[hbt];have go:∀CT:Fr,CT.length=96->B2 CT 1=.ptr 0 0->B2 CT 3=.int .i64 0->True:=λ_ _ _ _=>trivial;clear go;by_cases c6:goal=-1
   .have c7:=c67 c6;simp[R9,hl,h0,hN,hD,c1,c2,c3,c4,c5,c6,c7];have e1:(AV.int IntKind.i64 (-1))=.int .i64 goal:=by rw[c6]
    try rw[e1]
    refine D7.mono (loops _ ?_ ?_ ?_) ?_<;>first|(simp[hl,h0];done)|skip
    rintro e B8 h' ⟨⟨q1,q2,rfl⟩,⟨rfl,rfl⟩|⟨rfl,h4,rfl⟩⟩
    .simp[q1];refine D7.mono (loops2 _ ?_ ?_ ?_) ?_<;>first|(simp[q1,q2];done)|skip
     rintro e Zr h2 ⟨q1,⟨rfl,rfl⟩|⟨rfl,h4,rfl⟩⟩
     .simp[q1]
     .simp[h4]
    .simp[h4]
   .simp[R9,hl,h0,hN,hD,c1,c2,c3,c4,c5,c6];refine D7.mono (loops _ ?_ ?_ ?_) ?_<;>first|(simp[hl,h0];done)|skip
    rintro e B8 h' ⟨⟨q1,q2,rfl⟩,⟨rfl,rfl⟩|⟨rfl,h4,rfl⟩⟩
    .simp[q1];refine D7.mono (loops2 _ ?_ ?_ ?_) ?_<;>first|(simp[q1,q2];done)|skip
     rintro e Zr h2 ⟨q1,⟨rfl,rfl⟩|⟨rfl,h4,rfl⟩⟩
     .simp[q1]
     .simp[h4]
    .simp[h4]
  by_cases c1:N<1
  .have hbt:bd=true:=by rw[←hbd];simp[c1]
   rw[hbt];simp[R9,hl,h0,hN,hD,c1]
  by_cases c2:6<N
  .have hbt:bd=true:=by rw[←hbd];simp[c2]
   rw[hbt];simp[R9,hl,h0,hN,hD,c1,c2]
  by_cases c3:goal < -1
  .have hbt:bd=true:=by rw[←hbd];simp[c3]
   rw[hbt];simp[R9,hl,h0,hN,hD,c1,c2,c3]
  by_cases c4:7<goal
  .have hbt:bd=true:=by rw[←hbd];simp[c4]
   rw[hbt];simp[R9,hl,h0,hN,hD,c1,c2,c3,c4]
  by_cases c5:8<D
  .have hbt:bd=true:=by rw[←hbd];simp[c5]
   rw[hbt];simp[R9,hl,h0,hN,hD,c1,c2,c3,c4,c5]
  by_cases c6:goal<0
  .have c6':goal=-1:=by omega
   by_cases c7:0<D
   .have hbt:bd=true:=by rw[←hbd];simp[c6,c7]
    rw[hbt];simp[R9,hl,h0,hN,hD,c1,c2,c3,c4,c5,c6',c7]
   .exact tail (by rw[←hbd];simp[c1,c2,c3,c4,c5,c6,c7]) c1 c2 c3 c4 c5 λ_=>c7
  .exact tail (by rw[←hbd];simp[c1,c2,c3,c4,c5,c6]) c1 c2 c3 c4 c5 λh=>by omega
 exact key _ _ _ rfl rfl rfl _ rfl _ rfl
theorem YC(m:Gg)(l:List Pyl)(D6:l.length<=1000000)(hf:∀p∈l,p.tag.size<=1099511627776/\p.parts.length<=1000000/\p.data.length<=1000000)(c0:AV)(fr:Fr)(h:AH)(hB:h.boxes[0]?=some [c0,sl m 4 (l.map Bc)])(hl:fr.length=60)(h1:B2 fr 1=.ptr 0 0)(h3:B2 fr 3=.int .i64 0) :
  D7 (lp (A8 (m6 Q) (B1 Iw) x8) (fr,h)) λe B8 h'=>Kp x8.wr fr B8/\(e=.exit 0/\nA (bs []) l=0\/e=.ret/\B2 B8 2=.int .i64 (nA (bs []) l)):=by
 refine E9 rfl fr (λn fr h'=>∃(i:Nat),i+n=l.length/\B2 fr 3=.int .i64 (i:Nat)/\(h'.boxes[0]?=some [c0,sl m 4 (l.map Bc)]/\∃last,((i=0/\last=bs [])\/(0<i/\∃q,l[i-1]?=some q/\last=q.tag))/\nA last (l.drop i)=nA (bs []) l)) ?_ l.length h ⟨0,a_,h3,⟨hB,_,.inl ⟨rfl,rfl⟩,rfl⟩⟩;rintro J Φ hJ hΦ n CT H1 K ⟨i,hi,k3,hr⟩;have C6:=K.1.trans hl;have k1:=D4 K 1 h1;clear K;by_cases C2:i<l.length
 .have L4:=J6 i a_;obtain⟨hb,last,hla,hr⟩:=hr;obtain⟨bx,F⟩:=H1;simp only at hb;have hb':∀X:List (List AV),(bx++X)[0]?=some [c0,sl m 4 (l.map Bc)]:=λX=>(List.getElem?_append_left (zg7z.1 hb).1).trans hb;have hg0:∀(X:List (List AV)) (h:0<(bx++X).length),(bx++X)[0]'h=[c0,sl m 4 (l.map Bc)]:=λX h=>by
   have:=hb' X;rw[zf0z h]at this;exact Option.some.inj this
  have hx:=J5 (f:=Bc) (zf0z C2);have hp:=zf0z C2;obtain⟨f1,f2,f3⟩:=hf l[i] (zg5z C2);rw[zf1z C2]at hr;simp only[nA]at hr;generalize l[i]=p at *
  have hN:=eF p.tag;have hM:=qK p f2 f3;have hc:=DI p;have hg:=gz p;by_cases c1:Bq p.tag=false
  .rw[if_pos c1]at hr;rw[c1]at hN;simp[x8,C6,k1,k3,C2,L4,hb,hb',hx,hN];exact hΦ _ _ _ (.inr ⟨rfl,oV⟩)
  .have c1':Bq p.tag=true:=by simpa using c1
   rw[if_neg c1]at hr;rw[c1']at hN;by_cases c2:TN p=false
   .rw[if_pos c2]at hr;rw[c2]at hM;simp[x8,C6,k1,k3,C2,L4,hb,hb',hx,hN,hM];exact hΦ _ _ _ (.inr ⟨rfl,oV⟩)
   .have c2':TN p=true:=by simpa using c2
    rw[if_neg c2]at hr;rw[c2']at hM;rcases hla with ⟨rfl,rfl⟩|⟨hi0,q,hq,rfl⟩
    .have c3:leS p.tag (bs [])=false:=by
      cases hc3:leS p.tag (bs [])with
      |false=>rfl
      |true =>
       exfalso
       unfold leS at hc3;have:p.tag=bs []:=by
        rw[Bool.or_eq_true]at hc3;rcases hc3 with h|h
        .exfalso
         revert h;rw[PB,PB];have:Ht (bs [])=[]:=rfl;rw[this];cases Ht p.tag<;>simp[Op.bytesLess]
        .rw[beq_iff_eq,PB,PB]at h;exact nQ h
       rw[this]at c1';cases c1'
     rw[if_neg (by rw[c3];simp)]at hr;simp[x8,C6,k1,k3,C2,L4,hb,hb',hx,hN,hM,show IntKind.i64.wrap 1=1 from rfl];exact V6 hJ ⟨1,a_,d_,hb' _,_,.inr ⟨a_,p,hp,rfl⟩,hr⟩
    .have hq2:=J5 (f:=Bc) hq;have hi0':(0:Int)<(i:Int):=by omega
     have hw1:IntKind.i64.wrap ((i:Int)-1)=((i-1:Nat):Int):=by
      rw[Y8 a_ a_];omega
     have hlt2:i-1<l.length:=by omega
     generalize hI:i-1=i' at *
     cases c3:leS p.tag q.tag with
     |true =>
      rw[if_pos c3]at hr;simp[x8,C6,k1,k3,C2,L4,hb,hb',hg0,hx,hN,hM,hi0,hi0',hw1,hlt2,hq2,VI,c3];exact hΦ _ _ _ (.inr ⟨rfl,oV⟩)
     |false =>
      rw[if_neg (by rw[c3];simp)]at hr;simp[x8,C6,k1,k3,C2,L4,hb,hb',hg0,hx,hN,hM,hi0,hi0',hw1,hlt2,hq2,VI,c3];exact V6 hJ ⟨i+1,a_,d_,hb' _,_,.inr ⟨a_,p,by simpa using hp,rfl⟩,hr⟩
 .obtain⟨hb,last,hla,hr⟩:=hr;rw[zf5z a_]at hr;simp[x8,C6,k1,k3,C2,hb];exact hΦ _ _ _ (.inl ⟨rfl,by simpa[nA]using hr.symm⟩)
theorem QO(t:Typ)(hf:V7 t):pc Q Iw [Hn t]=some (.int .i64 (KT t)):=by
 obtain⟨k,m,ps⟩:=t;obtain⟨D6,hf⟩:=hf;simp only at D6 hf;have hK:=xD k;unfold KT;simp only;refine J0 Cq λfr hl h0=>?_;simp[Cq,Hn]at hl h0;generalize hN:(ps.length:Int)=N;by_cases c1:k<1
 .rw[if_pos (.inl c1)];simp[Cq,hl,h0,c1]
 .by_cases c2:6<k
  .rw[if_pos (.inr c2)];simp[Cq,hl,h0,c1,c2]
  .rw[if_neg a_];by_cases c3:OM k=false
   .rw[c3]at hK;by_cases c4:0<N
    .rw[if_pos ⟨c3,c4⟩];simp[Cq,hl,h0,c1,c2,hK,hN,c4]
    .rw[if_neg a_];have c5:¬8<N:=by omega
     rw[if_neg c5];simp[Cq,hl,h0,c1,c2,hK,hN,c4,c5];refine D7.mono (YC m ps D6 hf (.int .i64 k) _ _ ?_ ?_ ?_ ?_) ?_<;>first|(simp[hl,h0,hN];done)|skip
     rintro e B8 h' ⟨K,⟨rfl,he⟩|⟨rfl,h4⟩⟩
     .have hl':B8.length=60:=K.1.trans c_;rw[he];simp[hl']
     .simp[h4]
   .have c3':OM k=true:=by simpa using c3
    rw[c3']at hK;rw[if_neg (by intro h;exact c3 h.1)];by_cases c5:8<N
    .rw[if_pos c5];simp[Cq,hl,h0,c1,c2,hK,hN,c5]
    .rw[if_neg c5];simp[Cq,hl,h0,c1,c2,hK,hN,c5];refine D7.mono (YC m ps D6 hf (.int .i64 k) _ _ ?_ ?_ ?_ ?_) ?_<;>first|(simp[hl,h0,hN];done)|skip
     rintro e B8 h' ⟨K,⟨rfl,he⟩|⟨rfl,h4⟩⟩
     .have hl':B8.length=60:=K.1.trans c_;rw[he];simp[hl']
     .simp[h4]
theorem A1O(A:PA)(pre:Al)(U:Be)(n:Nat)(IH:ZP A pre U n)(p:Pyl)(ml:Gg)(l:Be)(pub:Bool)(rule:Int)(hpr:pub=decide (rule=20))(D6:l.length=p.parts.length)(M:Nat)(hx:∀x∈l,x∈U/\x.size<=n/\Ls x/\x.size<=M)(hl6:l.length<=6)
  (D:PD) (h:AH) (H:PrH A D h) (I:TInv A pre D) (hb:Ak U pre D+200*n+100<=1000000) :
  ∃v h',rc Qf L9 [.ptr A.p 0,Bc p,sl ml 4 (C4 l),.bool pub] h=some (v,h')/\∃D':PD,PrH A D' h'/\Frm A D.lv h D'.lv h'/\TInv A pre D'/\Gro pre M D D'/\Ak U pre D'<=Ak U pre D+12 /\
   ((∃(is:List Int) (ov:AV),v=.tup [ov,.bool true]/\Own D' is ov h'/\PartsR rule D'.l p.parts l is/\Ia (ty D.tys D.efs) pub p.parts l=true)\/(v=.tup [.vs true 0 [],.bool false]/\Ia (ty D.tys D.efs) pub p.parts l=false)):=by
 obtain⟨bx,F⟩:=h;have lp:=H5 H.bp;have lm:=H5 H.bm;simp only at lp lm;refine Gm QR (by simp[DS]) λfr hl ha=>?_;have h0:=ha 0;have h1:=ha 1;have h2:=ha 2;have h3:=ha 3;clear ha;simp[DS]at hl h0 h1 h2 h3;simp[DS,hl,h0,h1,h2,h3,h0];refine D7.mono (pG A pre U n IH bx.length p _ rfl ml l pub rule hpr D6 M hx hl6 D _ ⟨bx++[[.str p.tag,sl p.pm 1 (p.parts.map (AV.int .i64)),.int .i64 p.goal,sl p.dm 1 (p.data.map (AV.int .i64))]],F⟩ ?_ e_ a_ a_ (H.more _) I hb ?_ ?_ ?_ ?_ ?_ ?_ ?_) ?_<;>first|(simp[hl,h0,h1,h2,h3];done)|skip
 rintro e CT ⟨bx1,F1⟩ ⟨K,D',A1,K1,I1,G1,b1,hr⟩;have C6:CT.length=86:=K.1.trans c_;have K1':Frm A D.lv ⟨bx,F⟩ D'.lv ⟨bx1,F1⟩:=(Frm.more _ _ _ _ _).trans K1;rcases hr with ⟨rfl,is,ov,e1,O,N,R,s⟩|⟨rfl,e1,e2,s⟩
 .obtain⟨c1,_,_,_⟩:=L5 O.l;simp[C6,e1,c1];exact⟨D',A1,K1',I1,G1,a_,is,O,R,s⟩
 .simp[C6,e1,e2];exact⟨D',A1,K1',I1,G1,a_,s⟩
end Go.Abs.Q
