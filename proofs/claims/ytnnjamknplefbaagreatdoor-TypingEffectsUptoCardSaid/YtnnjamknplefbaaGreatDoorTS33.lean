/- A part of the proof. -/
import Derived.Test.YtnnjamknplefbaaGreatDoorTS32
import Derived.KernelRfl
import Derived.Test.YtnnjamknplefbaaGreatDoorCards
import Derived.Test.YtnnjamknplefbaaGreatDoorTie
import Derived.WalkKit
import Derived.ProofKit
import Derived.OpenShut
import Derived.JoinedCond
import Derived.Deep.DeepHandedRow
import Derived.Lib.LaidTab
set_option linter.all false
open List renaming getElem?_eq_getElem->zf0z,map_cons->zf1z,getElem?_cons_succ->zf2z,getElem?_cons_zero->zf3z,getElem_cons_succ->zf4z,getElem_cons_zero->zf5z,getElem_toArray->zf6z,drop_succ_cons->zf7z,take_succ_cons->zf8z,drop_eq_getElem_cons->zf9z,drop_zero->zg0z,take_zero->zg1z,mem_of_getElem?->zg3z,mem_cons->zg4z,map_nil->zg5z,drop_eq_nil_of_le->zg6z,sum_cons->zg8z,take_succ_eq_append_getElem->zg9z,find?_some->zt0z,getElem_mem->zt1z,take_of_length_le->zt3z,mem_cons_of_mem->zt4z,mem_singleton->zt5z,flatMap_cons->zt7z,getElem?_set->zt8z,all_eq_true->zt9z,length_cons->A0l
open Bool renaming and_eq_true->zg2z,not_eq_true'->zt6z
open Option renaming map_eq_some_iff->zg7z,bind_eq_some_iff->zt2z
set_option linter.all false
namespace Go.Abs.Q
open Go.Proofs
attribute [local simp] J0 J5 fin M6 M0
theorem lT:∀(n:Nat) (t:Tm) (most:Int),t.size<=n->t.size<=1099511627776->most<=9223372036854775807->pc Q EB [U6 t,.int .i64 most]=some (.int .i64 (Ts t most)):=by
 intro n
 induction n with
 |zero=>intro t _ h;have:=t.size_pos;omega
 |succ n ih =>
  intro t most hn hb hm;obtain⟨k,nm,s,m,kids⟩:=t;have Y3:Tm.size (.mk k nm s m kids)=1+Tm.sizes kids:=rfl;have J3:=Tm.length_le kids;refine Es EM λfr hl h0 h1=>?_;simp[EM,U6]at hl h0 h1;by_cases h2:most<=0
  .simp[EM,hl,h0,h1,h2,Ts]
  by_cases h3:(40:Int)<nm.size
  .simp[EM,hl,h0,h1,h2,h3,Ts]
  have hw0:IntKind.i64.wrap (most-1)=most-1:=EX (by omega) (by omega);simp[EM,hl,h0,h1,h2,h3,hw0];refine(Ng (Ψ:=λe fr h=>fr.length=33/\(e=.exit 0/\C7 fr 1=.int .i64 (Mn kids (most-1))\/e=.ret/\C7 fr 4=.int .i64 (-1)/\Mn kids (most-1)=-1))
   (λn fr h=>∃i cur,i+n=kids.length/\fr.length=33/\cur<=9223372036854775807/\C7 fr 1=.int .i64 cur/\C7 fr 2=.ptr 0 0/\C7 fr 5=.int .i64 (i:Nat)/\Mn (kids.drop i) cur=Mn kids (most-1) /\
    h=⟨[[.int .i64 k,.str nm,.int .i64 s,sl m 4 (G8 kids)]],[]⟩) ?_ kids.length _ _ ?_).mono ?_
  .rintro n fr h ⟨i,cur,hi,hl,hcur,h1,h2,h5,hr,rfl⟩;by_cases G9:i<kids.length
   .have hx:MB (G8 kids) i=some (U6 kids[i]):=Gy (by simp[G9]);have s1:=Tm.size_le (zt1z G9);have hT:=ih kids[i] cur (by omega) (by omega) hcur;have Ju:=dS kids[i] cur;have hw:=AQ i (by omega);rw[zf9z G9]at hr;simp only[Mn]at hr;generalize kids[i]=t at *
    obtain⟨tk,tn,ts,tm,tl⟩:=t;simp only[U6]at hT hx;by_cases hc:Ts (Tm.mk tk tn ts tm tl) cur<0
    .rw[if_pos hc]at hr;simp[EY,hl,h1,h2,h5,G9,hx,hT,hw,hc];exact hr.symm
    .rw[if_neg hc]at hr;simp[EY,hl,h1,h2,h5,G9,hx,hT,hw,hc];refine⟨n-1,by omega,i+1,by omega,_,?_,rfl,by simp,hr⟩;omega
   .have h0:kids.length<=i:=by omega
    rw[zg6z h0]at hr;simp only[Mn]at hr;simp[EY,hl,h1,h2,h5,G9];exact hr
  .exact⟨0,most-1,by omega,by simp[hl],by omega,by simp[hl],by simp[hl],by simp[hl],rfl,rfl⟩
  .rintro e fr h ⟨hl,⟨rfl,h1⟩|⟨rfl,h4,he⟩⟩
   .simp[hl,h1,Ts,h2,h3]
   .simp[hl,h4,he,Ts,h2,h3]
theorem rL(m:HH)(l:CI)(q most:Int)(h:Tm.sizes l<=1099511627776)(hm:most<=9223372036854775807):pc Q Gv [sl m 4 (G8 l),.int .i64 q,.int .i64 most]=some (.bool (Zw l q most)):=by
 have J3:=Tm.length_le l;refine pcQ3 JM λfr hl h0 h1 h2=>?_;simp[JM]at hl h0 h1 h2;by_cases hq:q<l.length
 .simp[JM,hl,h0,h1,hq,Zw]
 simp[JM,hl,h0,h1,hq];refine(Ng (Ψ:=λe fr h=>fr.length=26/\(e=.exit 0/\UK l most=true\/e=.ret/\C7 fr 6=.bool false/\UK l most=false))
  (λn fr h=>∃i cur,i+n=l.length/\fr.length=26/\cur<=9223372036854775807/\C7 fr 0=sl m 4 (G8 l)/\C7 fr 2=.int .i64 cur/\C7 fr 7=.int .i64 (i:Nat)/\UK (l.drop i) cur=UK l most) ?_ l.length _ _ ?_).mono ?_
 .rintro n fr h ⟨i,cur,hi,hl,hcur,h0,h2,h7,hr⟩;by_cases G9:i<l.length
  .have hx:MB (G8 l) i=some (U6 l[i]):=Gy (by simp[G9]);have s1:=Tm.size_le (zt1z G9);have hT:=lT _ l[i] cur (Nat.le_refl _) (by omega) hcur;have Ju:=dS l[i] cur;have hw:=AQ i (by omega);rw[zf9z G9]at hr;simp only[UK]at hr;generalize l[i]=t at *
   obtain⟨tk,tn,ts,tm,tl⟩:=t;simp only[U6]at hT hx;by_cases hc:Ts (Tm.mk tk tn ts tm tl) cur<0
   .rw[if_pos hc]at hr;simp[Gn,hl,h0,h2,h7,G9,hx,hT,hw,hc];exact hr.symm
   .rw[if_neg hc]at hr;simp[Gn,hl,h0,h2,h7,G9,hx,hT,hw,hc];refine⟨n-1,by omega,i+1,by omega,_,?_,rfl,by simp,hr⟩;omega
  .have e0:l.length<=i:=by omega
   rw[zg6z e0]at hr;simp only[UK]at hr;simp[Gn,hl,h0,h7,G9];exact hr.symm
 .exact⟨0,most,by omega,by simp[hl],by omega,by simp[h0],by simp[h2],by simp[hl],rfl⟩
 .rintro e fr h ⟨hl,⟨rfl,he⟩|⟨rfl,h4,he⟩⟩
  .simp[hl,he,Zw,hq]
  .simp[hl,h4,he,Zw,hq]
mutual
theorem Zc:∀(t:Tm) (m:Int),0<=Ts t m->Ts t m+t.size<=m
 | .mk _ n _ _ l,m,h=>by
  rw[Ts]at h ⊢;by_cases hc:m<=0\/(40:Int)<n.size
  .rw[if_pos hc]at h;omega
  .rw[if_neg hc]at h ⊢;have:=Uq l (m-1) h;simp only[Tm.size];omega
theorem Uq:∀(l:CI) (m:Int),0<=Mn l m->Mn l m+Tm.sizes l<=m
 | [],m,_=>by simp[Mn,Tm.sizes]
 |t::l,m,h=>by
  rw[Mn]at h ⊢;by_cases hc:Ts t m<0
  .rw[if_pos hc]at h;omega
  .rw[if_neg hc]at h ⊢;have h1:=Zc t m (by omega);have h2:=Uq l (Ts t m) h;simp only[Tm.sizes];omega
end
theorem VH:∀(l:CI) (m:Int),0<=m->UK l m=true->(Tm.sizes l:Int)<=m
 | [],m,h0,_=>by simp[Tm.sizes];exact h0
 |t::l,m,h0,h=>by
  rw[UK]at h;by_cases hc:Ts t m<0
  .rw[if_pos hc]at h;cases h
  .rw[if_neg hc]at h;have h1:=Zc t m (by omega);have h2:=VH l (Ts t m) (by omega) h;simp only[Tm.sizes];omega
theorem Zy{l:CI}{n m:Int}(hm:0<=m)(h:Zw l n m=true):(Tm.sizes l:Int)<=m/\(l.length:Int)<=n:=by
 unfold Zw at h;split at h
 .cases h
 .exact⟨VH l m hm h,by omega⟩
end Go.Abs.Q
namespace Go.Abs.Q
open Go.Proofs
attribute [local simp] J0 J5 fin M6 M0 Y2 b8
structure TygB (g:Tyg):Prop where
 tl:g.tys.length<=1048576
 el:g.effs.length<=1048576
 ty:∀x∈g.tys,x.t.size<=1048576/\x.u.ps.length<=1048576/\∀p∈x.u.ps,p.tag.size<=1048576/\p.parts.length<=1048576/\p.data.length<=1048576
 ef:∀f∈g.effs,Tm.sizes f.terms<=1048576
 ts:(g.tys.map λx=>x.t.size).sum<=1048576
 es:(g.effs.map λf=>Tm.sizes f.terms).sum<=1048576
theorem Tm.sizes_appn(a b:CI):Tm.sizes (a++b)=Tm.sizes a+Tm.sizes b:=by
 induction a with
 |nil=>simp[Tm.sizes]
 |cons t a ih=>simp only[List.cons_append,Tm.sizes,ih];omega
theorem WV(a b:CI):G8 (a++b)=G8 a++G8 b:=by simp[m8]
theorem aW(m:HH)(l:List Tyd)(J3:l.length<=1048576)(hf:∀x∈l,x.u.ps.length<=1048576)(e1:AV)(fr:Fr)(h:AH)(hB:h.boxes=[[sl m 6 (l.map p9),e1]])(h3:C7 fr 3=.vs true 0 [])(hl:fr.length=67)(h1:C7 fr 1=.ptr 0 0)(h4:C7 fr 4=.int .i64 0) :
  L9 (lp (A8 (Ax Q) (C2 Br) DX) (fr,h)) λe G6 h'=>Kp DX.wr fr G6/\h'.boxes=[[sl m 6 (l.map p9),e1]]/\(e=.exit 0/\Oz 4 (G8 (l.map (·.t))) (C7 G6 3) h'/\(l.all λx=>Zx x.u)=true\/e=.ret/\C7 G6 2=.bool false):=by
 refine W6 rfl fr (λn fr h'=>∃(i:Nat),i+n=l.length/\C7 fr 4=.int .i64 (i:Nat)/\(∃j6:List Tm,h'.boxes=[[sl m 6 (l.map p9),e1]]/\Oz 4 (G8 j6) (C7 fr 3) h'/\j6=(l.take i).map (·.t)/\(l.drop i).all (λx=>Zx x.u)=l.all λx=>Zx x.u)) ?_ l.length h ⟨0,by omega,h4,⟨[],hB,by rw[h3];exact Qy 4 _,by simp,rfl⟩⟩;rintro J Φ hJ hΦ n Kr H1 K ⟨i,hi,k4,hr⟩;have L1:=K.1.trans hl;have k1:=S6 K 1 h1;clear K;by_cases G9:i<l.length
 .have AT:=AQ i (by omega);obtain⟨j6,hb,hg,ha,hr⟩:=hr;obtain⟨bx,F⟩:=H1;simp only at hb;subst hb;have hx:=l9 (f:=p9) (zf0z G9);have htk:(l.take (i+1)).map (·.t)=j6++[l[i].t]:=by rw[ha,zg9z G9,List.map_append];rfl
  have f1:=hf l[i] (zt1z G9);have hal:j6.length<=1048576:=by rw[ha,List.length_map,List.length_take];omega
  rw[zf9z G9,List.all_cons]at hr;generalize l[i]=x at *
  have hF:=rR x.u f1;obtain⟨v',⟨B',F'⟩,hap,Kw,hB'⟩:=Ni (c:=C2 Br) (bytes:=56) (x:=U6 x.t) hg rfl (true,true) (by rw[AP];omega) (by rw[AP];omega);simp only at hB';subst hB';have htc:=Lh x.t;have huc:=tI x.u;simp only[p9]at hx;cases c1:Zx x.u with
  |false =>
   rw[c1]at hF;simp[DX,L1,k1,k4,G9,AT,hx,hF,htc,huc];exact hΦ _ _ _ ⟨rfl,.inr ⟨rfl,by simp[L1]⟩⟩
  |true =>
   rw[c1]at hF hr;simp[DX,L1,k1,k4,G9,AT,hx,hF,htc,huc,B2,hap];exact EF hJ ⟨i+1,by omega,by simp[L1],j6++[x.t],rfl,by simp[L1];rw[WV];exact Kw,htk.symm,by simpa using hr⟩
 .obtain⟨j6,hb,hg,ha,hr⟩:=hr;obtain⟨bx,F⟩:=H1;simp only at hb;subst hb;rw[zg6z (by omega)]at hr;rw[zt3z (by omega)]at ha;subst ha;simp[DX,L1,k1,k4,G9];exact hΦ _ _ _ ⟨rfl,.inl ⟨rfl,by simp[L1];exact hg,hr.symm⟩⟩
theorem aX(m:HH)(l:List Fa)(J3:l.length<=1048576)(acc0:CI)(Y3:Tm.sizes acc0+(l.map λf=>Tm.sizes f.terms).sum<=4000000)(e0:AV)(fr:Fr)(h:AH)(hB:h.boxes=[[e0,sl m 3 (l.map Cl)]])(h3:Oz 4 (G8 acc0) (C7 fr 3) h)(hl:fr.length=67)(h1:C7 fr 1=.ptr 0 0)(h5:C7 fr 5=.int .i64 0) :
  L9 (lp (A8 (Ax Q) (C2 Br) DW) (fr,h)) λe G6 h'=>Kp DW.wr fr G6/\h'.boxes=[[e0,sl m 3 (l.map Cl)]]/\(e=.exit 2/\Oz 4 (G8 (acc0++l.flatMap (·.terms))) (C7 G6 3) h'\/e=.ret/\C7 G6 2=.bool false):=by
 refine W6 rfl fr (λn fr h'=>∃(i:Nat),i+n=l.length/\C7 fr 5=.int .i64 (i:Nat)/\(∃j6:List Tm,h'.boxes=[[e0,sl m 3 (l.map Cl)]]/\Oz 4 (G8 j6) (C7 fr 3) h'/\j6=acc0++(l.take i).flatMap (·.terms)/\Tm.sizes j6+((l.drop i).map λf=>Tm.sizes f.terms).sum<=4000000)) ?_ l.length h ⟨0,by omega,h5,⟨acc0,hB,h3,by simp,by simpa using Y3⟩⟩;rintro J Φ hJ hΦ n Kr H1 K ⟨i,hi,k5,hr⟩;have L1:=K.1.trans hl;have k1:=S6 K 1 h1;clear K;by_cases G9:i<l.length
 .have AT:=AQ i (by omega);obtain⟨j6,hb,hg,ha,hs⟩:=hr;obtain⟨bx,F⟩:=H1;simp only at hb;subst hb;have hx:=l9 (f:=Cl) (zf0z G9);have htk:acc0++(l.take (i+1)).flatMap (·.terms)=j6++l[i].terms:=by rw[ha,zg9z G9,List.flatMap_append,List.append_assoc];simp only[zt7z,List.flatMap_nil,List.append_nil]
  rw[zf9z G9,zf1z,zg8z]at hs;generalize l[i]=f at *
  have h1:=Tm.length_le j6;have h2:=Tm.length_le f.terms;obtain⟨v',⟨B',F'⟩,hap,Kw,hB'⟩:=gL (c:=C2 Br) (bytes:=56) (x:=sl f.fm 4 (G8 f.terms)) (ys:=G8 f.terms) hg rfl (EH _ _ _ _) (by rw[AP,AP];simp only[P7,maxLen];omega);simp only at hB';subst hB';simp only[Cl]at hx;generalize hN:(f.terms.length:Int)=N;by_cases c1:12<N
  .simp[DW,L1,k1,k5,G9,AT,hx,hN,c1];exact hΦ _ _ _ ⟨rfl,.inr ⟨rfl,by simp[L1]⟩⟩
  .simp[DW,L1,k1,k5,G9,AT,hx,hN,c1,hap];exact EF hJ ⟨i+1,by omega,by simp[L1],j6++f.terms,rfl,by simp[L1];rw[WV];exact Kw,htk.symm,by rw[Tm.sizes_appn];omega⟩
 .obtain⟨j6,hb,hg,ha,hs⟩:=hr;obtain⟨bx,F⟩:=H1;simp only at hb;subst hb;rw[zt3z (by omega)]at ha;subst ha;simp[DW,L1,k1,k5,G9];exact hΦ _ _ _ ⟨rfl,.inl ⟨rfl,by simp[L1];exact hg⟩⟩
theorem WJ(l:List Tyd):Tm.sizes (l.map (·.t))=(l.map λx=>x.t.size).sum:=by
 induction l with
 |nil=>rfl
 |cons a l ih=>simp only[zf1z,Tm.sizes,zg8z,ih]
theorem TM(l:List Fa):Tm.sizes (l.flatMap (·.terms))=(l.map λf=>Tm.sizes f.terms).sum:=by
 induction l with
 |nil=>rfl
 |cons a l ih=>rw[zt7z,Tm.sizes_appn,zf1z,zg8z,ih]
def VF(g:Tyg):Bool:=(g.tys.all λx=>Zx x.u)&&Zw (g.tys.map (·.t)++g.effs.flatMap (·.terms)) 900 400&&decide (g.tys.length<=90)&&decide (g.effs.length<=70)
theorem VG{g:Tyg}(h:VF g=true):TygFin g:=by
 unfold VF at h;simp only[zg2z,zt9z,decide_eq_true_eq]at h;obtain⟨⟨⟨h1,h2⟩,h3⟩,h4⟩:=h;have h5:=(Zy (by omega) h2).1;rw[Tm.sizes_appn,TM]at h5;refine⟨by omega,by omega,λx hx=>⟨?_,?_⟩,λf hf=>?_⟩
 .have h6:=Tm.size_le (List.mem_map.2 ⟨x,hx,rfl⟩:x.t∈g.tys.map (·.t));omega
 .have h6:=h1 x hx;unfold Zx dk at h6;simp only[zg2z,zt9z,zt6z,decide_eq_false_iff_not]at h6;refine⟨by omega,λp hp=>?_⟩;have:=h6.2 p hp;omega
 .have h6:Tm.sizes f.terms<=(g.effs.map λf=>Tm.sizes f.terms).sum:=by
   have:∀l:List Fa,f∈l->Tm.sizes f.terms<=(l.map λf=>Tm.sizes f.terms).sum:=λl=>by
    induction l with
    |nil=>intro h;cases h
    |cons a l ih =>
     intro h;rw[zf1z,zg8z];rcases zg4z.1 h with rfl|h
     .omega
     .have:=ih h;omega
   exact this _ hf
  omega
theorem rT(g:Tyg)(B:TygB g):∃b,pc Q Br [Li g]=some (.bool b)/\(b=true->VF g=true):=by
 suffices h:∃r,pc Q Br [Li g]=some r/\∃b,r=.bool b/\(b=true->VF g=true) by
  obtain⟨r,h1,b,rfl,h2⟩:=h;exact⟨b,h1,h2⟩
 obtain⟨tm,tys,em,effs⟩:=g;have b1:=B.tl;have b2:=B.el;have b3:=B.ts;have b4:=B.es;simp only at b1 b2 b3 b4;refine peQ1 Lj λΨ hΨ fr hl h0=>?_;simp[Lj,Li]at hl h0;simp[Lj,hl,h0];refine L9.mono (aW tm tys b1 (λx hx=>(B.ty x hx).2.1) (sl em 3 (effs.map Cl)) _ _ ?_ ?_ ?_ ?_ ?_) ?_<;>first|(simp[hl,h0];done)|skip
 rintro e G6 ⟨bx,F⟩ ⟨K,hb,⟨rfl,hg,h1⟩|⟨rfl,h4⟩⟩
 .simp only at hb;subst hb;have hl':G6.length=67:=K.1.trans (by simp[hl]);have k1:C7 G6 1=.ptr 0 0:=S6 K 1 (by simp[hl,h0]);simp[hl'];refine L9.mono (aX em effs b2 (tys.map (·.t)) (by rw[WJ];omega) (sl tm 6 (tys.map p9)) _ _ ?_ ?_ ?_ ?_ ?_) ?_<;>first|(simp[hl',k1];done)|(simp[hl'];exact hg)|skip
  rintro e dp ⟨bx,F2⟩ ⟨K2,hb,⟨rfl,hg2⟩|⟨rfl,h4⟩⟩
  .simp only at hb;subst hb;have dy:dp.length=67:=K2.1.trans (by simp[hl']);have q1:C7 dp 1=.ptr 0 0:=S6 K2 1 (by simp[hl',k1]);obtain⟨m,hz⟩:=gM hg2;have hF:=rL m (tys.map (·.t)++effs.flatMap (·.terms)) 900 400 (by rw[Tm.sizes_appn,WJ,TM];omega) (by decide);generalize hN1:(tys.length:Int)=N1;generalize hN2:(effs.length:Int)=N2;by_cases c1:N1<=90
   .by_cases c2:N2<=70
    .simp[dy,q1,hN1,hN2,c1,c2,hz,hF];refine hΨ _ ⟨_,rfl,λhb=>?_⟩;unfold VF;simp only[zg2z,decide_eq_true_eq];exact⟨⟨⟨h1,hb⟩,by omega⟩,by omega⟩
    .simp[dy,q1,hN1,hN2,c1,c2];exact hΨ _ ⟨_,rfl,λhb=>by cases hb⟩
   .simp[dy,q1,hN1,hN2,c1];exact hΨ _ ⟨_,rfl,λhb=>by cases hb⟩
  .simp[h4];exact hΨ _ ⟨_,rfl,λhb=>by cases hb⟩
 .simp[h4];exact hΨ _ ⟨_,rfl,λhb=>by cases hb⟩
end Go.Abs.Q
namespace Go.Abs.Q
open Go.Proofs
open Go.Proofs.YtnnjamknplefbaaGreatDoor (Rows.uptoBulk Rows.uptoBulkAll)
theorem nv:Tryz.prog.cellsOf 3=1:=by kernel_rfl
theorem cStr:Tryz.prog.cellsOf 9=1:=by kernel_rfl
theorem cInts:Tryz.prog.cellsOf 44=1:=by kernel_rfl
theorem nw:Tryz.prog.cellsOf 26=1:=by kernel_rfl
theorem gb:Tryz.prog.cellsOf 28=4:=by kernel_rfl
theorem cPay:Tryz.prog.cellsOf 85=4:=by kernel_rfl
theorem cPays:Tryz.prog.cellsOf 32=1:=by kernel_rfl
theorem zP:Tryz.prog.cellsOf 34=2:=by kernel_rfl
theorem ny:Tryz.prog.cellsOf 67=6:=by kernel_rfl
theorem vr:Tryz.prog.cellsOf 22=1:=by kernel_rfl
theorem zO:Tryz.prog.cellsOf 46=3:=by kernel_rfl
theorem cFacts:Tryz.prog.cellsOf 23=1:=by kernel_rfl
theorem vu:Tryz.prog.cellsOf 25=2:=by kernel_rfl
theorem lJ{α:Type}:∀{l:List α},l.length=2->∃a b,l=[a,b]
 | [a,b],_=>⟨a,b,rfl⟩
theorem len3{α:Type}:∀{l:List α},l.length=3->∃a b c,l=[a,b,c]
 | [a,b,c],_=>⟨a,b,c,rfl⟩
theorem wd{α:Type}:∀{l:List α},l.length=4->∃a b c d,l=[a,b,c,d]
 | [a,b,c,d],_=>⟨a,b,c,d,rfl⟩
theorem len6{α:Type}:∀{l:List α},l.length=6->∃a b c d e f,l=[a,b,c,d,e,f]
 | [a,b,c,d,e,f],_=>⟨a,b,c,d,e,f,rfl⟩
theorem GU{P:Program}{w:World}{t:TypeId}{H:Type}{enc:TypeId×Value->H}{fs:Array Field}{n:Nat}{cs:List Value}{x:DataW H×List MemPlace}(ht:P.underlying t=some (.struct fs)){c:Nat}(hc:P.cellsOf t=c)
  (h:DataW.trod enc P w 0 (λ_=>true) true n t cs=some x) :
  ∃(m:Nat) (xs:List (DataW H×List MemPlace)),n=m+1/\cs.length=c/\xs.length=fs.size/\x.1=.agg (xs.map (·.1))/\∀(i:Nat) (f:Field),fs[i]?=some f->∃y,xs[i]?=some y/\DataW.trod enc P w 0 (λ_=>true) true m f.type ((cs.drop f.offset).take (P.cellsOf f.type))=some y:=by
 obtain⟨xs,m,rfl,rfl,h1,h2,h3⟩:=DataW.trod_struct ht h;refine⟨m,xs,rfl,by omega,h2,rfl,λi f hi=>?_⟩;have G9:i<fs.size:=(Array.getElem?_eq_some_iff.1 hi).1;have:=h3 i f hi;rw[zf0z (by omega)]at this;exact⟨xs[i],zf0z _,this⟩
theorem A0j{w:World}{ys ys':I7}{cs cs':List Value}(h:CV w ys cs)(k:CV w ys' cs'):CV w (ys++ys') (cs++cs'):=by
 induction ys generalizing cs with
 |nil =>
  have:cs=[]:=by
   have:=h.1;simpa[Aj]using this
  subst this;exact k
 |cons y ys ih =>
  obtain⟨h1,h2⟩:=h;simp only[Aj]at h1;obtain⟨u,us,rfl,h3,h4⟩:=h1;have:=ih ⟨h4,λv hv=>h2 v (zt4z _ hv)⟩;refine FY (Ow h3 (h2 u (by simp))) this
variable {w:World}
theorem WL(l:CI):(l.map Tm.size).sum=Tm.sizes l:=by
 induction l with
 |nil=>rfl
 |cons t l ih=>simp[Tm.sizes,ih]
theorem rE{α:Type}(l:List α):(l.map λ_=>1).sum=l.length:=by
 induction l with
 |nil=>rfl
 |cons t l ih=>rw[zf1z,zg8z,ih,A0l];omega
theorem YZ{α:Type}{f:α->Nat}(h:∀a,1<=f a):∀l:List α,l.length<=(l.map f).sum
 | []=>by simp
 |a::l=>by have:=h a;have:=YZ h l;simp;omega
theorem RU{α:Type}{f:α->Nat}{a:α}:∀{l:List α},a∈l->f a<=(l.map f).sum
 |b::l,h=>by
  rcases zg4z.1 h with rfl|h
  .simp
  .have:=RU (f:=f) h;simp;omega
theorem Si:∀n,JE Tryz.prog w 28 (λt:Tm=>(U6 t).cells) (λ_=>True) Tm.size n:=by
 intro n
 induction n using Nat.strongRecOn with
 |_ n ih =>
  intro H enc cs x hx;obtain⟨m,xs,rfl,Ev,iH,hx1,hf⟩:=GU Tryz.underlying28 gb hx;obtain⟨y0,hy0,h0⟩:=hf 0 _ rfl;obtain⟨y1,hy1,h1⟩:=hf 1 _ rfl;obtain⟨y2,hy2,h2⟩:=hf 2 _ rfl;obtain⟨y3,hy3,h3⟩:=hf 3 _ rfl;clear hf;obtain⟨v0,v1,v2,v3,rfl⟩:=wd Ev;obtain⟨z0,z1,z2,z3,rfl⟩:=wd iH;simp only[zf3z,zf2z,Option.some.injEq]at hy0 hy1 hy2 hy3;subst hy0 hy1 hy2 hy3;simp only[zf6z,zf5z,zf4z,nv,cStr,nw,zg0z,zf7z,zf8z,zg1z]at h0 h1 h2 h3;obtain⟨k,-,w0,cv0⟩:=GQ (w:=w) Tryz.underlying3 m enc _ _ h0;obtain⟨nm,-,w1,cv1⟩:=Vb (w:=w) Tryz.underlying9 m enc _ _ h1;obtain⟨s,-,w2,cv2⟩:=GQ (w:=w) Tryz.underlying3 m enc _ _ h2;cases m with
  |zero=>simp[DataW.trod]at h3
  |succ m =>
   obtain⟨⟨bk,kids⟩,-,w3,cv3⟩:=FS (w:=w) Tryz.underlying26 gb (by omega) (ih m (by omega)) enc _ _ h3;refine⟨.mk k nm s (false,bk) kids,trivial,?_,?_⟩
   .rw[hx1];dsimp only at w0 w1 w2 w3;rw[WL]at w3;simp only[Tm.size,zf1z,zg5z,Rows.uptoBulk,Rows.uptoBulkAll];omega
   .dsimp only at cv0 cv1 cv2 cv3;simp only[U6,Ut];rw[m8];exact FY cv0 (FY cv1 (FY cv2 cv3))
theorem Sh(n:Nat):JE Tryz.prog w 44 (λys:Bool×List Int=>[sl (false,ys.1) 1 (ys.2.map (AV.int .i64))]) (λ_=>True) (λys=>ys.2.length) n:=by
 intro H enc cs x hx;cases n with
 |zero=>simp[DataW.trod]at hx
 |succ n =>
  obtain⟨ys,-,h1,h2⟩:=FS (w:=w) (enc:=AV.int .i64) Tryz.underlying44 nv (by omega) (GQ (w:=w) Tryz.underlying3 n) enc _ _ hx;refine⟨ys,trivial,?_,h2⟩;dsimp only at h1 ⊢;rw[rE]at h1;omega
def Xp(p:Pyl):Nat:=p.tag.size+p.parts.length+p.data.length+1
theorem lR(n:Nat):JE Tryz.prog w 85 (λf:Pyl=>(Dp f).cells) (λ_=>True) Xp n:=by
 intro H enc cs x hx;obtain⟨m,xs,rfl,Ev,iH,hx1,hf⟩:=GU Tryz.underlying85 cPay hx;obtain⟨y0,hy0,h0⟩:=hf 0 _ rfl;obtain⟨y1,hy1,h1⟩:=hf 1 _ rfl;obtain⟨y2,hy2,h2⟩:=hf 2 _ rfl;obtain⟨y3,hy3,h3⟩:=hf 3 _ rfl;clear hf;obtain⟨v0,v1,v2,v3,rfl⟩:=wd Ev;obtain⟨z0,z1,z2,z3,rfl⟩:=wd iH;simp only[zf3z,zf2z,Option.some.injEq]at hy0 hy1 hy2 hy3;subst hy0 hy1 hy2 hy3;simp only[zf6z,zf5z,zf4z,nv,cStr,cInts,zg0z,zf7z,zf8z,zg1z]at h0 h1 h2 h3;obtain⟨a,-,w0,cv0⟩:=Vb (w:=w) Tryz.underlying9 m enc _ _ h0;obtain⟨b,-,w1,cv1⟩:=Sh m enc _ _ h1;obtain⟨k,-,w2,cv2⟩:=GQ (w:=w) Tryz.underlying3 m enc _ _ h2;obtain⟨d,-,w3,cv3⟩:=Sh m enc _ _ h3;refine⟨⟨a,(false,b.1),b.2,k,(false,d.1),d.2⟩,trivial,?_,FY cv0 (FY cv1 (FY cv2 cv3))⟩;rw[hx1];dsimp only at w0 w1 w2 w3;simp only[Xp,zf1z,zg5z,Rows.uptoBulk,Rows.uptoBulkAll];omega
def mi(u:Typ):Nat:=(u.ps.map Xp).sum+1
theorem eQ(n:Nat):JE Tryz.prog w 34 (λf:Typ=>(HG f).cells) (λ_=>True) mi n:=by
 intro H enc cs x hx;obtain⟨m,xs,rfl,Ev,iH,hx1,hf⟩:=GU Tryz.underlying34 zP hx;obtain⟨y0,hy0,h0⟩:=hf 0 _ rfl;obtain⟨y1,hy1,h1⟩:=hf 1 _ rfl;clear hf;obtain⟨v0,v1,rfl⟩:=lJ Ev;obtain⟨z0,z1,rfl⟩:=lJ iH;simp only[zf3z,zf2z,Option.some.injEq]at hy0 hy1;subst hy0 hy1;simp only[zf6z,zf5z,zf4z,nv,cPays,zg0z,zf7z,zf8z,zg1z]at h0 h1;obtain⟨k,-,w0,cv0⟩:=GQ (w:=w) Tryz.underlying3 m enc _ _ h0;cases m with
 |zero=>simp[DataW.trod]at h1
 |succ m =>
  obtain⟨⟨b,ps⟩,-,w1,cv1⟩:=FS (w:=w) (enc:=Dp) Tryz.underlying32 cPay (by omega) (lR m) enc _ _ h1;refine⟨⟨k,(false,b),ps⟩,trivial,?_,FY cv0 cv1⟩;rw[hx1];dsimp only at w0 w1;simp only[mi,zf1z,zg5z,Rows.uptoBulk,Rows.uptoBulkAll];omega
def TZ(x:Tyd):Nat:=x.t.size+mi x.u
theorem ak(n:Nat):JE Tryz.prog w 67 (λf:Tyd=>(p9 f).cells) (λ_=>True) TZ n:=by
 intro H enc cs x hx;obtain⟨m,xs,rfl,Ev,iH,hx1,hf⟩:=GU Tryz.underlying67 ny hx;obtain⟨y0,hy0,h0⟩:=hf 0 _ rfl;obtain⟨y1,hy1,h1⟩:=hf 1 _ rfl;clear hf;obtain⟨v0,v1,v2,v3,v4,v5,rfl⟩:=len6 Ev;obtain⟨z0,z1,rfl⟩:=lJ iH;simp only[zf3z,zf2z,Option.some.injEq]at hy0 hy1;subst hy0 hy1;simp only[zf6z,zf5z,zf4z,gb,zP,zg0z,zf7z,zf8z,zg1z]at h0 h1;obtain⟨t,-,w0,cv0⟩:=Si m enc _ _ h0;obtain⟨u,-,w1,cv1⟩:=eQ m enc _ _ h1;refine⟨⟨t,u⟩,trivial,?_,?_⟩
 .rw[hx1];simp only[TZ,zf1z,zg5z,Rows.uptoBulk,Rows.uptoBulkAll];omega
 .show CV w (p9 ⟨t,u⟩).cells _;rw[mh];exact A0j cv0 cv1
def mv(f:Fa):Nat:=Tm.sizes f.terms+1
theorem Sg(n:Nat):JE Tryz.prog w 46 (λf:Fa=>(Cl f).cells) (λ_=>True) mv n:=by
 intro H enc cs x hx;obtain⟨m,xs,rfl,Ev,iH,hx1,hf⟩:=GU Tryz.underlying46 zO hx;obtain⟨y0,hy0,h0⟩:=hf 0 _ rfl;obtain⟨y1,hy1,h1⟩:=hf 1 _ rfl;obtain⟨y2,hy2,h2⟩:=hf 2 _ rfl;clear hf;obtain⟨v0,v1,v2,rfl⟩:=len3 Ev;obtain⟨z0,z1,z2,rfl⟩:=len3 iH;simp only[zf3z,zf2z,Option.some.injEq]at hy0 hy1 hy2;subst hy0 hy1 hy2;simp only[zf6z,zf5z,zf4z,nv,nw,zg0z,zf7z,zf8z,zg1z]at h0 h1 h2;obtain⟨k,-,w0,cv0⟩:=GQ (w:=w) Tryz.underlying3 m enc _ _ h0;obtain⟨g,-,w1,cv1⟩:=GQ (w:=w) Tryz.underlying3 m enc _ _ h1;cases m with
 |zero=>simp[DataW.trod]at h2
 |succ m =>
  obtain⟨⟨b,ts⟩,-,w2,cv2⟩:=FS (w:=w) Tryz.underlying26 gb (by omega) (Si m) enc _ _ h2;refine⟨⟨k,g,(false,b),ts⟩,trivial,?_,?_⟩
  .rw[hx1];dsimp only at w0 w1 w2;rw[WL]at w2;simp only[mv,zf1z,zg5z,Rows.uptoBulk,Rows.uptoBulkAll];omega
  .dsimp only at cv0 cv1 cv2;rw[←m8]at cv2;exact FY cv0 (FY cv1 cv2)
def tygW(g:Tyg):Nat:=(g.tys.map TZ).sum+(g.effs.map mv).sum
theorem Xh(n:Nat):JE Tryz.prog w 25 (λg:Tyg=>(Li g).cells) (λ_=>True) tygW n:=by
 intro H enc cs x hx;obtain⟨m,xs,rfl,Ev,iH,hx1,hf⟩:=GU Tryz.underlying25 vu hx;obtain⟨y0,hy0,h0⟩:=hf 0 _ rfl;obtain⟨y1,hy1,h1⟩:=hf 1 _ rfl;clear hf;obtain⟨v0,v1,rfl⟩:=lJ Ev;obtain⟨z0,z1,rfl⟩:=lJ iH;simp only[zf3z,zf2z,Option.some.injEq]at hy0 hy1;subst hy0 hy1;simp only[zf6z,zf5z,zf4z,vr,cFacts,zg0z,zf7z,zf8z,zg1z]at h0 h1;cases m with
 |zero=>simp[DataW.trod]at h0
 |succ m =>
  obtain⟨⟨b,ts⟩,-,w0,cv0⟩:=FS (w:=w) (enc:=p9) Tryz.underlying22 ny (by omega) (ak m) enc _ _ h0;obtain⟨⟨d,es⟩,-,w1,cv1⟩:=FS (w:=w) (enc:=Cl) Tryz.underlying23 zO (by omega) (Sg m) enc _ _ h1;refine⟨⟨(false,b),ts,(false,d),es⟩,trivial,?_,FY cv0 cv1⟩;rw[hx1];dsimp only at w0 w1;simp only[tygW,zf1z,zg5z,Rows.uptoBulk,Rows.uptoBulkAll];omega
theorem fM{α:Type}{f g:α->Nat}(h:∀a,f a<=g a):∀l:List α,(l.map f).sum<=(l.map g).sum
 | []=>by simp
 |a::l=>by have:=h a;have:=fM h l;simp;omega
theorem tK{g:Tyg}(h:tygW g<=1048576):TygB g:=by
 have h':(g.tys.map TZ).sum+(g.effs.map mv).sum<=1048576:=h;have l1:g.tys.length<=(g.tys.map TZ).sum:=YZ (λs=>by unfold TZ mi;omega) _;have l2:g.effs.length<=(g.effs.map mv).sum:=YZ (λs=>by unfold mv;omega) _;have l3:(g.tys.map λx=>x.t.size).sum<=(g.tys.map TZ).sum:=fM (λx=>by unfold TZ;omega) _;have l4:(g.effs.map λf=>Tm.sizes f.terms).sum<=(g.effs.map mv).sum:=fM (λx=>by unfold mv;omega) _;refine⟨by omega,by omega,λx hx=>?_,λf hf=>?_,by omega,by omega⟩
 .have h1:TZ x<=(g.tys.map TZ).sum:=RU hx;have e1:TZ x=x.t.size+mi x.u:=rfl;have e2:mi x.u=(x.u.ps.map Xp).sum+1:=rfl;have h2:x.u.ps.length<=(x.u.ps.map Xp).sum:=YZ (λs=>by unfold Xp;omega) _;refine⟨by omega,by omega,λp hp=>?_⟩;have h3:Xp p<=(x.u.ps.map Xp).sum:=RU hp;have e3:Xp p=p.tag.size+p.parts.length+p.data.length+1:=rfl;omega
 .have h1:mv f<=(g.effs.map mv).sum:=RU hf;have e1:mv f=Tm.sizes f.terms+1:=rfl;omega
end Go.Abs.Q
namespace Go.Abs.Q
open Go.Proofs Go.WideShapes
open Go.Proofs.YtnnjamknplefbaaGreatDoor (Rows.uptoBulk Rows.uptoBulkAll)
variable {w:World}
theorem dD{w:World}{cs:I7}{us:Array Value}(h:CV w cs us.toList):PV w (vO w) (.agg cs) (.agg us):=by
 simp only[PV];exact⟨us,rfl,h.2,h.1⟩
theorem OG{P:Program}{W:World}:∀{l:List (String×DataW Unit)} {ps:List MemPlace},DataW.LaidVars P W l ps->∀{n:String} {d:DataW Unit},(n,d)∈l ->
  ∃(g:Nat) (t:TypeId) (cs:Array Value) (fuel:Nat) (p:List MemPlace),P.globalNamed n=some g/\(P.globals[g]?).map (·.type)=some t/\W.var? P n=some cs/\DataW.trod (λ_=>()) P W 0 (λ_=>true) false fuel t cs.toList=some (d,p)
 |(n',d')::l,ps,h,n,d,hm=>by
  obtain⟨g,t,cs,fuel,p,q,h1,h2,h3,h4,h5,_⟩:=h;rcases zg4z.1 hm with e|hm
  .cases e;exact⟨g,t,cs,fuel,p,h1,h2,h3,h4⟩
  .exact OG h5 hm
theorem UM{W:World}{l:List (String×DataW Unit)}{ps:List MemPlace}(h:DataW.LaidVars Tryz.prog W l ps) (hm:("sealring/term.words",(Go.Proofs.YtnnjamknplefbaaGreatDoor.Rows.laid_sealring_term_words:DataW Unit))∈l):DC W (vO W):=by
 obtain⟨g,t,cs,fuel,p,h1,h2,h3,h4⟩:=OG h hm;obtain rfl:g=0:=Option.some.inj ((show Tryz.prog.globalNamed "sealring/term.words"=some 0 by kernel_rfl).symm.trans h1) |>.symm;obtain rfl:t=52:=Option.some.inj ((show (Tryz.prog.globals[0]?).map (·.type)=some 52 by kernel_rfl).symm.trans h2) |>.symm;rcases DataW.trod_slice Tryz.underlying52 h4 with ⟨_,hx⟩|⟨a,len,cap,elems,rest,n,-,o9,hx,-,hlc,hcm,LN,hrd,-⟩
 .cases hx
 .have hc0:cs[0]?=some (.slice (some a) len cap):=by
   rw[←Array.getElem?_toList,o9];rfl
  have hcell:W.cell? ⟨0,0,none⟩=some (.slice (some a) len cap):=(World.var?_cell h1 h3 0).trans hc0;have hd:elems.map (·.1)=[.lit (.string [97,110,121]),.lit (.string [97,103,101,110,116]),.lit (.string [110,111,110,99,101]),.lit (.string [107,101,121]),.lit (.string [100,97,116,97]),.lit (.string [116,97,103])]:=by
   have:=congrArg Prod.fst hx;unfold Go.Proofs.YtnnjamknplefbaaGreatDoor.Rows.laid_sealring_term_words at this;injection this with e1 e2
   exact e1.symm
  have hl6:len=6:=by
   rw[←LN];have:=congrArg List.length hd;simpa using this
  intro x hx;unfold iG at hx;rw[zt5z]at hx;subst hx;simp only[PV,Ae];refine⟨_,_,rfl,⟨_,World.block_lt_of_cell? _ _ hcell,hcell,rfl,?_⟩,trivial⟩;refine zM (by rw[hl6];rfl) hlc hcm (by decide) λi x hi=>?_;have hi6:i<6:=by
   have:=(List.getElem?_eq_some_iff.1 hi).1;simpa using this
  have hr:=hrd i (by omega);rw[cStr]at hr;have Ju:i<elems.length:=by omega
  rw[zf0z Ju]at hr;obtain⟨c,hc1,hc2⟩:=zt2z.1 hr;obtain⟨s,rfl,hs2,-⟩:=DataW.trod_string Tryz.underlying9 hc2;have hdi:(elems.map (·.1))[i]?=some (.lit (.string s.data.toList)):=by
   rw[List.getElem?_map,zf0z Ju,hs2];rfl
  rw[hd]at hdi;have hx':x=.str s:=by
   have key:∀b:List UInt8,s.data.toList=b->s=⟨b.toArray⟩:=λb hb=>by
    obtain⟨d⟩:=s;obtain⟨d⟩:=d;simp only at hb;rw[hb]
   match i,hi6 with
   |0,_=>simp at hdi hi;rw[←hi,key _ hdi.symm]
   |1,_=>simp at hdi hi;rw[←hi,key _ hdi.symm]
   |2,_=>simp at hdi hi;rw[←hi,key _ hdi.symm]
   |3,_=>simp at hdi hi;rw[←hi,key _ hdi.symm]
   |4,_=>simp at hdi hi;rw[←hi,key _ hdi.symm]
   |5,_=>simp at hdi hi;rw[←hi,key _ hdi.symm]
  subst hx';exact⟨[.string s],hc1,Ow (by simp[PV]) rfl⟩
end Go.Abs.Q
namespace Go.Proofs.YtnnjamknplefbaaGreatDoor
open Go.ChangeShapes Go.WideShapes Go.ChangeAt Go.RowKit Go.Abs Go.Abs.Q
theorem own:ownKnob Tryz.prog.godebug=none:=by kernel_rfl
theorem laidOut:laidOutB Tryz.prog=true:=by kernel_rfl
def zQ:DataW Unit->List Value
 | .lit (.int k n)=>[.int k n]
 | .lit (.string l)=>[.string ⟨l.toArray⟩]
 |_=>[]
def Us:DataW Unit->List Value
 | .agg l=>l.flatMap zQ
 | .slice l _=>l.flatMap zQ
 |_=>[]
def cell3:DataW Unit->List Value
 | .agg l=>l.flatMap Us
 |_=>[]
def IG(l:List Value):Obj->Obj
 | .cells _ t frozen=>.cells l.toArray t frozen
 |o=>o
noncomputable def Pc(os:Os):World :=
 {World.holding Tryz.prog os ⟨#[],#[],[]⟩with heap:=(((((((World.holding Tryz.prog os ⟨#[],#[],[]⟩).heap.modify 5 (IG (Us Rows.laid_math_bits_deBruijn32tab))).modify 6 (IG (Us Rows.laid_math_bits_deBruijn64tab))).modify 2 (IG (Us Rows.laid_internal_strconv_uint64pow10))).modify 4 (IG (cell3 Rows.laid_unicode_utf8_acceptRanges))).modify 3 (IG (Us Rows.laid_unicode_utf8_first))).modify 0 (IG [.slice (some ⟨(World.holding Tryz.prog os ⟨#[],#[],[]⟩).heap.size,0,none⟩) 6 6])).push (.cells (Us Rows.laid_sealring_term_words).toArray 9 (0,0))}
theorem XQ{W:World}{l:List (String×DataW Unit)}(h:laidMetH Tryz.prog l W)(hf:(l.filter λx=>x.2.handleName?.isSome)=[]) (hm:("sealring/term.words",(Rows.laid_sealring_term_words:DataW Unit))∈l):DC W (vO W):=by
 unfold laidMetH at h;rw[hf]at h;obtain⟨ps,hv,_⟩:=h;exact UM hv hm
end Go.Proofs.YtnnjamknplefbaaGreatDoor
namespace Go.Abs.Q
open Go.Proofs
attribute [local simp] J0 J5 fin M6 M0 Y2 b8
theorem sP(A:PA)(pre:AD)(U:CI)(n:Nat)(IH:Rf A pre U n)(p:Pyl)(ml:HH)(l:CI)(pub:Bool)(rule:Int)(hpr:pub=decide (rule=20))(J3:l.length=p.parts.length)(M:Nat)(hx:∀x∈l,x∈U/\x.size<=n/\LA x/\x.size<=M)(hl6:l.length<=6)
  (D:PD) (h:AH) (H:PrH A D h) (I:TInv A pre D) (hb:n7 U pre D+200*n+100<=1000000) :
  ∃v h',rc Qf M9 [.ptr A.p 0,Dp p,sl ml 4 (G8 l),.bool pub] h=some (v,h')/\∃D':PD,PrH A D' h'/\Frm A D.lv h D'.lv h'/\TInv A pre D'/\Gro pre M D D'/\n7 U pre D'<=n7 U pre D+12 /\
   ((∃(is:List Int) (ov:AV),v=.tup [ov,.bool true]/\Own D' is ov h'/\PartsR rule D'.l p.parts l is/\HA (ty D.tys D.efs) pub p.parts l=true)\/(v=.tup [.vs true 0 [],.bool false]/\HA (ty D.tys D.efs) pub p.parts l=false)):=by
 obtain⟨bx,F⟩:=h;have lp:=J4 H.bp;have lm:=J4 H.bm;simp only at lp lm;refine Dc KH (by simp[BX]) λfr hl ha=>?_;have h0:=ha 0;have h1:=ha 1;have h2:=ha 2;have h3:=ha 3;clear ha;simp[BX]at hl h0 h1 h2 h3;simp[BX,hl,h0,h1,h2,h3,h0];refine L9.mono (eK A pre U n IH bx.length p _ rfl ml l pub rule hpr J3 M hx hl6 D _ ⟨bx++[[.str p.tag,sl p.pm 1 (p.parts.map (AV.int .i64)),.int .i64 p.goal,sl p.dm 1 (p.data.map (AV.int .i64))]],F⟩ ?_ (by simp) (by omega) (by omega) (H.more _) I hb ?_ ?_ ?_ ?_ ?_ ?_ ?_) ?_<;>first|(simp[hl,h0,h1,h2,h3];done)|skip
 rintro e Kr ⟨bx1,F1⟩ ⟨K,D',A1,K1,I1,G1,b1,hr⟩;have L1:Kr.length=86:=K.1.trans (by simp[hl]);have K1':Frm A D.lv ⟨bx,F⟩ D'.lv ⟨bx1,F1⟩:=(Frm.more _ _ _ _ _).trans K1;rcases hr with ⟨rfl,is,ov,e1,O,N,R,s⟩|⟨rfl,e1,e2,s⟩
 .obtain⟨c1,_,_,_⟩:=i8 O.l;simp[L1,e1,c1];exact⟨D',A1,K1',I1,G1,by omega,is,O,R,s⟩
 .simp[L1,e1,e2];exact⟨D',A1,K1',I1,G1,by omega,s⟩
end Go.Abs.Q
namespace Go.Abs.Q
open Go.Proofs
theorem ph{U:CI}(hU:ms U):∀{n:Nat} {t:Tm} {l:CI},Mq n t=some l->t∈U->LA t->∀x∈l,x∈U/\LA x
 |0,t,l,h,hu,ho,x,hx=>by
  simp only[Mq,Option.some.injEq]at h;subst h;rw[zt5z.1 hx];exact⟨hu,ho⟩
 |n+1,t,l,h,hu,ho,x,hx=>by
  simp only[Mq]at h;split at h
  .rename_i hp;obtain⟨hk,_⟩:=Gd.1 hp;split at h
   .rename_i a b e;rw[zg7z]at h;obtain⟨l',h1,rfl⟩:=h;rcases zg4z.1 hx with rfl|hx
    .exact⟨hU t hu x (by rw[e];simp),(ho.kid hk (x:=x) (by rw[e];simp)).1⟩
    .exact ph hU h1 (hU t hu b (by rw[e];simp)) (ho.kid hk (x:=b) (by rw[e];simp)).1 x hx
   .cases h
  .cases h
theorem wN{U:CI}(hU:ms U){u:Typ}{q:Tm}{p:Pyl}{l:CI}(h:Ny u q=some (p,l))(hu:q∈U)(ho:LA q):∀x∈l,x∈U/\LA x/\x.size<q.size:=λx hx=>by
 obtain⟨_,_,h3,_⟩:=PT h;simp only[Ny,zt2z]at h;obtain⟨nm,h1,p',h2,h4⟩:=h;have hp:Mx q (bs [112,97,105,114])=true:=by
  unfold Kk at h1;split at h1
  .assumption
  .cases h1
 obtain⟨hk,_⟩:=Gd.1 hp;split at h4
 .rename_i a b e;rw[zg7z]at h4;obtain⟨l',h5,h6⟩:=h4;simp only[Prod.mk.injEq]at h6;obtain⟨rfl,rfl⟩:=h6;obtain⟨s1,s2⟩:=ph hU h5 (hU q hu b (by rw[e];simp)) (ho.kid hk (x:=b) (by rw[e];simp)).1 x hx;exact⟨s1,s2,h3 x hx⟩
 .cases h4
theorem jW:∀{l:List Pyl} {last:AD},vZ last l=0->∀p∈l,UR p=true
 |p::r,last,h,x,hx=>by
  unfold vZ at h;by_cases c1:DN p.tag=false
  .rw[if_pos c1]at h;cases h
  .rw[if_neg c1]at h;by_cases c2:UR p=false
   .rw[if_pos c2]at h;cases h
   .rw[if_neg c2]at h;by_cases c3:leS p.tag last=true
    .rw[if_pos c3]at h;cases h
    .rw[if_neg c3]at h;rcases zg4z.1 hx with rfl|hx
     .simpa using c2
     .exact jW h x hx
theorem yy{u:Typ}(h:Qu u=0):∀p∈u.ps,UR p=true:=by
 unfold Qu at h;split at h
 .cases h
 .split at h
  .cases h
  .split at h
   .cases h
   .exact jW h
theorem lP{p:Pyl}(h:UR p=true):1<=p.parts.length/\p.parts.length<=6/\p.data.length<=8/\∀d∈p.data,0<=d/\d<=1000000:=by
 unfold UR at h;simp only[zg2z,zt6z,Bool.or_eq_false_iff,decide_eq_false_iff_not,List.any_eq_false,Bool.or_eq_true,decide_eq_true_eq,not_or]at h;obtain⟨⟨⟨⟨⟨⟨a1,a2⟩,a3⟩,a4⟩,a5⟩,a6⟩,a7,a8⟩:=h;refine⟨by omega,by omega,by omega,λd hd=>?_⟩;have:=a8 d hd;omega
theorem Zn{own l:CI}:∀{ds:List Int} {ts:CI},FX own l ds=some ts->∀x∈ts,x∈own\/x∈l
 | [],ts,h,x,hx=>by
  simp only[FX,Option.some.injEq]at h;subst h;cases hx
 |d::r,ts,h,x,hx=>by
  simp only[FX]at h;split at h
  .cases h
  .split at h
   .rename_i t e;rw[zg7z]at h;obtain⟨ts',h1,rfl⟩:=h;rcases zg4z.1 hx with rfl|hx
    .split at e
     .exact .inl (zg3z e)
     .exact .inr (zg3z e)
    .exact Zn h1 x hx
   .cases h
theorem wn{key x:Tm}(h:LA key)(hx:x∈KD key):LA x:=by
 unfold KD at hx;split at hx
 .rename_i hp;exact(h.kid (Gd.1 hp).1 hx).1
 .split at hx
  .rename_i hp;split at hx
   .rename_i a r e;have:x=a:=by simpa using hx
    subst this;exact(h.kid (Gd.1 hp).1 (x:=x) (by rw[e];simp)).1
   .cases hx
  .cases hx
theorem sd{l:CI}(h:∀x∈l,x.size<=100):Tm.sizes l<=100*l.length:=by
 induction l with
 |nil=>simp[Tm.sizes]
 |cons a l ih =>
  have h1:=h a List.mem_cons_self;have h2:=ih λx hx=>h x (zt4z _ hx);simp only[Tm.sizes,A0l];omega
theorem nZ{l r:CI}:BY VD l r=true↔l.map T3=r.map T3:=by
 induction l generalizing r with
 |nil=>cases r<;>simp[BY]
 |cons a l ih =>
  cases r with
  |nil=>simp[BY]
  |cons b r=>simp[BY,Nv,ih]
theorem Nu{f g:Fa}:JU f g=true↔f.kind=g.kind/\f.goal=g.goal/\f.terms.map T3=g.terms.map T3:=by
 unfold JU;simp only[zg2z,decide_eq_true_eq,nZ,and_assoc]
theorem TInv.eff{A:PA}{pre:AD}{U:CI}{D D':PD}(I:TInv A pre D){f:Fa}{k:Int}(h:EffR A D f k D')(hk:f.kind=2)(hv:∀t∈f.terms,vE t=0)(LN:D.ei.length=D.efs.length) :
  TInv A pre D'/\Gro pre 0 D D'/\n7 U pre D'<=n7 U pre D+1/\((k=-1/\db D.efs f=false)\/(db D.efs f=true/\∃(j:Nat) (J:Jdg),k=(j:Nat)/\D'.l[j]?=some J/\JU J.f f=true)):=by
 rcases h with ⟨rfl,rfl,hn⟩|⟨i,x,k0,hx,hxi,hk0,⟨h0,rfl,rfl⟩|⟨h0,rfl,lv,m,rfl⟩⟩
 .exact⟨I,Gro.refl _ _ _,by omega,.inl ⟨rfl,by unfold db;rw[hn];rfl⟩⟩
 .obtain⟨j,J,y,e1,e2,e3,e4⟩:=I.ei i k hk0 h0;have hxf:JU x f=true:=by have:=zt0z hx;exact this
  rw[hxi]at e3;cases e3;rw[Nu]at e4 hxf;exact⟨I,Gro.refl _ _ _,by omega,.inr ⟨by unfold db;rw[hx];rfl,j,J,e1,e2,Nu.2 ⟨e4.1.symm.trans hxf.1,e4.2.1.symm.trans hxf.2.1,e4.2.2.symm.trans hxf.2.2⟩⟩⟩
 .have hxf:JU x f=true:=by have:=zt0z hx;exact this
  obtain⟨i1,g1⟩:=I.add lv (.eff x f m (zg3z hxi) hxf hk hv);have hb:=EJ U pre D lv ⟨1,A.role,A.blk,A.bad,m,[],zI,w6 0,f⟩;refine⟨⟨i1.ok,i1.pk,i1.ti,λq k' hq DB=>?_,i1.kn,i1.rt⟩,⟨rfl,rfl,rfl,rfl,g1.l,g1.kn⟩,?_,.inr ⟨by unfold db;rw[hx];rfl,D.l.length,_,rfl,PD.add_get D lv _,Nu.2 ⟨rfl,rfl,rfl⟩⟩⟩
  .simp only at hq;rw[zt8z]at hq;split at hq
   .rename_i e;subst e;split at hq
    .cases hq;exact⟨D.l.length,_,x,rfl,PD.add_get D lv _,hxi,hxf⟩
    .cases hq
   .exact i1.ei q k' hq DB
  .have:n7 U pre {D.add lv ⟨1,A.role,A.blk,A.bad,m,[],zI,w6 0,f⟩with ei:=D.ei.set i (D.l.length:Nat)}=n7 U pre (D.add lv ⟨1,A.role,A.blk,A.bad,m,[],zI,w6 0,f⟩):=rfl
   omega
theorem TInv.ent{A:PA}{pre:AD}{U:CI}{D D':PD}(I:TInv A pre D){t:Tm}{k:Int}(h:EntR A D t k D')(hv:vE t=0) :
  TInv A pre D'/\Gro pre 0 D D'/\n7 U pre D'<=n7 U pre D+1/\((k=-1/\XH D.tys t=none/\D'=D)\/(0<=k/\FZ D' t k)):=by
 rcases h with ⟨rfl,rfl,hn⟩|⟨i,x,k0,hx,hxi,hk0,⟨h0,rfl,rfl⟩|⟨h0,rfl,lv,m,rfl⟩⟩
 .exact⟨I,Gro.refl _ _ _,by omega,.inl ⟨rfl,by unfold XH;rw[hn];rfl,rfl⟩⟩
 .obtain⟨j,J,y,e1,e2,e3,e4,e5,e6⟩:=I.ti i k hk0 h0;have hxf:VD x.t t=true:=by have:=zt0z hx;exact this
  rw[hxi]at e3;cases e3;refine⟨I,Gro.refl _ _ _,by omega,.inr ⟨h0,.inr ⟨j,J,e1,e2,e4,e5.trans (Nv.1 hxf),?_⟩⟩⟩;rw[cO,Yg,XH,hx,e6];rfl
 .have hxf:VD x.t t=true:=by have:=zt0z hx;exact this
  obtain⟨i1,g1⟩:=I.add lv (.base x t m (zg3z hxi) hxf hv);have hb:=EJ U pre D lv ⟨1,A.role,A.blk,A.bad,m,[],t,x.u,Kv⟩;refine⟨⟨i1.ok,i1.pk,λq k' hq DB=>?_,i1.ei,i1.kn,i1.rt⟩,⟨rfl,rfl,rfl,rfl,g1.l,g1.kn⟩,?_,.inr ⟨by omega,.inr ⟨D.l.length,_,rfl,PD.add_get D lv _,rfl,rfl,?_⟩⟩⟩
  .simp only at hq;rw[zt8z]at hq;split at hq
   .rename_i e;subst e;split at hq
    .cases hq;exact⟨D.l.length,_,x,rfl,PD.add_get D lv _,hxi,rfl,(Nv.1 hxf).symm,rfl⟩
    .cases hq
   .exact i1.ti q k' hq DB
  .have:n7 U pre {D.add lv ⟨1,A.role,A.blk,A.bad,m,[],t,x.u,Kv⟩with ti:=D.ti.set i (D.l.length:Nat)}=n7 U pre (D.add lv ⟨1,A.role,A.blk,A.bad,m,[],t,x.u,Kv⟩):=rfl
   omega
  .show ty D.tys D.efs t=some x.u;rw[cO,Yg,XH,hx];rfl
end Go.Abs.Q
