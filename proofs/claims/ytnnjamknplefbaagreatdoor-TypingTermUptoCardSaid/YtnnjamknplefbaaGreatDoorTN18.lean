/- A part of the proof. -/
import Derived.Test.YtnnjamknplefbaaGreatDoorTN17
set_option linter.all false
open List renaming eq_nil_of_length_eq_zero->zf0z,drop_eq_getElem_cons->zf1z,getElem?_append_left->zf2z,getElem?_eq_some_iff->zf3z,getElem?_set_ne->zf4z,drop_eq_nil_of_le->zf5z,getElem_mem->zf8z,getElem?_set_self->zf9z,replicate->zg0z,length_nil->zg3z
open Option renaming bind_some->zf6z
open Nat renaming le_refl->zf7z,div->zg1z,beq->zg2z,sub->zg4z
set_option linter.all false
namespace Go.Abs.Q
attribute [local simp] E5 E6 fin J4 H8
def bO(m:Bool×Bool)(l:List ByteArray):AV:=sl m 1 (l.map AV.str)
def Zm(x a:ByteArray):Bool:=decide (x.toList=a.toList)
theorem Vb(m:Gg)(l:List ByteArray)(x:Al)(D6:l.length<=1099511627776)(fr:Fr)(h:AH)(hl:fr.length=19)
  (h0:B2 fr 0=sl m 1 (l.map AV.str)) (h1:B2 fr 1=.str x) (h7:B2 fr 7=.int .i64 l.length) (h8:B2 fr 8=.int .i64 0) :
  D7 (lp (A8 (m6 Q) (B1 BF) Y4) (fr,h)) λe B8 h'=>Kp Y4.wr fr B8/\(e=.exit 0/\idx (Zm x) l=-1\/e=.ret/\B2 B8 4=.int .i64 (idx (Zm x) l)):=by
 refine E9 rfl fr (λn fr h=>∃i,i+n=l.length/\B2 fr 8=.int .i64 (i:Nat)/\EX (Zm x) i (l.drop i)=idx (Zm x) l) ?_ l.length h ⟨0,a_,h8,rfl⟩;rintro J Φ hJ hΦ n CT AQ K ⟨i,hi,k8,hr⟩;have C6:=K.1.trans hl;have k0:=D4 K 0 h0;have k1:=D4 K 1 h1;have k7:=D4 K 7 h7;by_cases C2:i<l.length
 .have hx:=J5 (f:=AV.str) (List.getElem?_eq_getElem C2);have hw:=J6 i a_;rw[zf1z C2]at hr;simp only[EX,Zm,decide_eq_true_eq]at hr;generalize l[i]=a at *
  by_cases hc:x.toList=a.toList
  .rw[if_pos hc]at hr;simp[Y4,C6,k0,k1,k7,k8,C2,hx,hw,hc];exact hΦ _ _ _ (.inr ⟨rfl,oV⟩)
  .rw[if_neg hc]at hr;simp[Y4,C6,k0,k1,k7,k8,C2,hx,hw,hc];exact V6 hJ ⟨i+1,a_,d_,hr⟩
 .rw[zf5z a_]at hr;simp[Y4,C6,k7,k8,C2];exact hΦ _ _ _ (.inl ⟨rfl,hr.symm⟩)
theorem lS(m:Gg)(l:List ByteArray)(x:Al)(D6:l.length<=1099511627776):pc Q BF [bO m l,.str x]=some (.int .i64 (idx (Zm x) l)):=by
 refine j5 Gp λfr hl h0 h1=>?_;simp[Gp,bO]at hl h0 h1;simp[Gp,hl,h0];refine(Vb m l x D6 _ _ c_ oP l_ c_ c_).mono ?_;rintro e B8 h' ⟨K,⟨rfl,he⟩|⟨rfl,h4⟩⟩
 .have hl':B8.length=19:=K.1.trans c_;simp[hl',he]
 .simp[h4]
theorem aX(m:Gg)(l:List ByteArray)(x:Al)(D6:l.length<=1099511627776):pc Q BV [bO m l,.str x]=some (.bool (l.any (Zm x))):=by
 have hI:=lS m l x D6;have he:decide (0<=idx (Zm x) l)=l.any (Zm x):=by
  rw[Bool.eq_iff_iff,decide_eq_true_iff,idx,Qp]
 refine j5 ER λfr hl h0 h1=>?_;simp[ER,bO]at hl h0 h1 hI;simp[ER,hl,h0,h1,hI];exact he
end Go.Abs.Q
namespace Go.Abs.Q
open Go.Proofs
attribute [local simp] E5 E6 fin J4 H8
@[simp]theorem slcA_str(h:AH)(s:Al)(lo hi:Option Int):slcA h 0 (.str s) (some lo) (some hi) (some none) =
  if 0<=lo.getD 0/\lo.getD 0<=hi.getD s.size/\hi.getD s.size<=s.size then some (.str (s.extract (lo.getD 0).toNat (hi.getD s.size).toNat),h)else none:=by
 simp only[slcA,KM];by_cases hc:0<=lo.getD 0/\lo.getD 0<=hi.getD s.size/\hi.getD s.size<=s.size
 .rw[if_pos hc,if_pos ⟨trivial,trivial,hc⟩]
 .rw[if_neg hc,if_neg (λk=>hc ⟨k.2.2.1,k.2.2.2.1,k.2.2.2.2⟩)]
theorem bys_mk(l:List UInt8):Ht ⟨⟨l⟩⟩=l:=rfl
theorem nQ{a b:Al}(h:Ht a=Ht b):a=b:=by
 obtain⟨⟨a⟩⟩:=a;obtain⟨⟨b⟩⟩:=b;simp only[bys_mk]at h;rw[h]
theorem Yt(s:Al)(i j:Nat):Ht (s.extract i j)=((Ht s).take j).drop i:=by
 simp[Ht,List.drop_take]
theorem PB(s:Al):s.toList=Ht s:=Lib.toList_data s
theorem S6(a b:Al):a.toList=b.toList↔a=b:=by
 rw[PB,PB];exact⟨nQ,λh=>by rw[h]⟩
theorem Mg(a b:Al):Zm a b=true↔a=b:=by
 unfold Zm;rw[decide_eq_true_iff,S6]
def TO(a b:ByteArray):Bool:=decide (b.size<=a.size)&&decide ((Ht a).take b.size=Ht b)
theorem dA(a b:Al):pc Q CE [.str a,.str b]=some (.bool (TO a b)):=by
 refine j5 CJ λfr hl h0 h1=>?_;simp[CJ]at hl h0 h1;by_cases h:b.size<=a.size
 .have e:decide ((a.extract 0 b.size).toList=b.toList)=decide ((Ht a).take b.size=Ht b):=by
   rw[PB,PB,Yt,List.drop_zero]
  have hi:(b.size:Int)<=(a.size:Int):=by omega
  simp[CJ,hl,h0,h1,h,hi,AA,e,TO]
 .have hi:¬(b.size:Int)<=(a.size:Int):=by omega
  simp[CJ,hl,h0,h1,h,hi,AA,TO]
def twoB(l:List UInt8):Bool:=decide (l.take 2=[35,35])
def dblB:List UInt8->Bool
 | []=>false
 |c::r=>twoB (c::r)||dblB r
def lexN(s:ByteArray):Bool:=Bq s&&!dblB (Ht s)
def TU(sz:Nat)(Y7:List AV)(v:AV)(h:AH):Prop:=(Y7=[]/\v=.vs true 0 [])\/(Y7≠[]/\∃k,v=.sl k Y7.length 0 Y7.length/\h.fams[k]?=some ⟨Y7,sz,false⟩)
theorem VA(sz:Nat)(h:AH):TU sz [] (.vs true 0 []) h:=.inl ⟨rfl,rfl⟩
theorem Uz{sz:Nat}{Y7:b9}{v:AV}{h h':AH}(hg:TU sz Y7 v h)(e:h'.fams=h.fams):TU sz Y7 v h':=by
 rcases hg with hg|⟨h1,k,h2,h3⟩
 .exact .inl hg
 .exact .inr ⟨h1,k,h2,by rw[e];exact h3⟩
theorem rZ{c:Ctx}{sz bytes:Nat}{Y7 ys:b9}{v x:AV}{h:AH}(hg:TU sz Y7 v h)(hm:c.mutApp=false)(hx:elems h sz x=some ys)
  (hb:(Y7.length+ys.length)*bytes<=K7/\Y7.length+ys.length<=maxLen):∃v' h',N0 c h sz bytes v x=some (v',h')/\TU sz (Y7++ys) v' h'/\h'.boxes=h.boxes:=by
 rcases hg with ⟨rfl,rfl⟩|⟨AS,k,rfl,hk⟩
 .rw[app_nil,hx,zf6z];by_cases hy:ys.length=0
  .rw[if_pos hy];have:ys=[]:=zf0z hy;subst this;exact⟨_,_,rfl,.inl ⟨rfl,rfl⟩,rfl⟩
  .rw[if_neg hy,if_pos (by simpa using hb),hm];refine⟨_,_,rfl,.inr ⟨λe=>hy (by simpa using congrArg List.length e),_,rfl,?_⟩,rfl⟩;simp
 .rw[yf,hx,zf6z,hk,zf6z];rw[if_pos ⟨rfl,rfl,a_,hb⟩];have Ef:k<h.fams.length:=by
   rw[zf3z]at hk;exact hk.1
  refine⟨_,_,rfl,.inr ⟨by simp[AS],k,e_,?_⟩,rfl⟩;simp[Ef]
theorem Sr{c:Ctx}{sz bytes:Nat}{Y7:b9}{v x:AV}{h:AH}(hg:TU sz Y7 v h)(hm:c.mutApp=false)(m:Gg)
  (hb:(Y7.length+1)*bytes<=140737488355328) (hb':Y7.length<=1099511627776):∃v' h',N0 c h sz bytes v (sl m sz [x])=some (v',h')/\TU sz (Y7++[x]) v' h'/\h'.boxes=h.boxes :=
 rZ hg hm (W0 h m sz [x]) (by simp only[K7,maxLen,List.length_singleton];omega)
theorem ra{sz:Nat}{Y7:b9}{v:AV}{h:AH}(hg:TU sz Y7 v h):∃m,frz h true v=some (sl m sz Y7):=by
 rcases hg with ⟨rfl,rfl⟩|⟨AS,k,rfl,hk⟩
 .exact⟨(true,false),by rw[frz_nil];exact congrArg some (qZ _ rfl _ _)⟩
 .refine⟨(false,true),?_⟩;rw[A0B,Sw,hk,zf6z,if_pos ⟨rfl,a_,rfl⟩];simp
theorem nE{sz:Nat}{Y7:b9}{v:AV}{h:AH}(hg:TU sz Y7 v h):∃m,Gj h v=some (sl m sz Y7):=by
 rcases hg with ⟨rfl,rfl⟩|⟨AS,k,rfl,hk⟩
 .exact⟨(true,false),by rw[sl_nil sz];rfl⟩
 .refine⟨(false,true),?_⟩;rw[show Gj h (.sl k Y7.length 0 Y7.length)=Cr h true (.sl k Y7.length 0 Y7.length) from rfl];rw[Sw,hk,zf6z,if_pos ⟨rfl,a_,rfl⟩];simp
structure Tk where
 kind:Int
 text:ByteArray
 num:Int
 str:ByteArray
 line:Int
def GC(k s:Int)(nm:ByteArray)(n:Nat):Int :=
 if (k=1\/k=2)/\(s<0\/5<s\/0<n)\/k=3/\s≠0\/(k≠1/\k≠2/\k≠3)then 1 else if Bq nm=false then 2 else if 8<n then 3 else 0
mutual
def Q7:Tm->Int
 | .mk k nm s _ l=>if GC k s nm l.length≠0 then GC k s nm l.length else W5 l
def W5:List Tm->Int
 | []=>0
 |t::l=>if Q7 t≠0 then Q7 t else W5 l
end
mutual
def JM:Tm->Nat
 | .mk _ _ _ _ l=>Gv l+1
def Gv:List Tm->Nat
 | []=>0
 |t::l=>max (JM t) (Gv l)
end
mutual
theorem zJ:∀t:Tm,JM t<=t.size
 | .mk _ _ _ _ l=>by
  have:=fu l;simp only[JM,Tm.size];omega
theorem fu:∀l:List Tm,Gv l<=Tm.sizes l
 | []=>zf7z _
 |t::l=>by
  have:=zJ t;have:=fu l;simp only[Gv,Tm.sizes];omega
end
def EP(t:Tm):Int:=if Q7 t≠0 then Q7 t else if 400<t.size\/40<JM t then 3 else 0
def cK(p q:Nat)(h h':AH):Prop:=h'.fams=h.fams/\h.boxes.length<=h'.boxes.length/\∀j,j≠p->j≠q->j<h.boxes.length->h'.boxes[j]?=h.boxes[j]?
theorem cK.refl(p q:Nat)(h:AH):cK p q h h:=⟨rfl,zf7z _,λ_ _ _ _=>rfl⟩
theorem cK.trans{p q:Nat}{a b c:AH}(h:cK p q a b)(k:cK p q b c):cK p q a c :=
 ⟨k.1.trans h.1,Nat.le_trans h.2.1 k.2.1,λj h1 h2 h3=>(k.2.2 j h1 h2 (Nat.lt_of_lt_of_le h3 h.2.1)).trans (h.2.2 j h1 h2 h3)⟩
theorem cK.box(p q:Nat)(h:AH)(x:b9):cK p q h ⟨h.boxes++[x],h.fams⟩ :=
 ⟨rfl,e_,λj _ _ h3=>by rw[zf2z h3]⟩
theorem cK.set1{p q:Nat}{h:AH}(x:b9):cK p q h ⟨h.boxes.set p x,h.fams⟩ :=
 ⟨rfl,e_,λj h1 _ _=>by simp only;rw[zf4z (λe=>h1 e.symm)]⟩
theorem cK.set2{p q:Nat}{h:AH}(x:b9):cK p q h ⟨h.boxes.set q x,h.fams⟩ :=
 ⟨rfl,e_,λj _ h2 _=>by simp only;rw[zf4z (λe=>h2 e.symm)]⟩
theorem H5{α:Type}{l:List α}{i:Nat}{x:α}(h:l[i]?=some x):i<l.length:=(zf3z.1 h).1
theorem rcW{f:FuncId}{rf:RFunc}{args:b9}{h:AH}{Φ:AV->AH->Prop}(hc:L3 f=some rf)(hl:args.length<=rf.ntmps)
  (H:∀Ψ:AV->AH->Prop,(∀v h',Φ v h'->Ψ v h')->∀fr:Fr,fr.length=rf.ntmps->(∀i,B2 fr i=args.getD i B9)->D7 (A8 (m6 Q) (B1 f) rf.body (fr,h)) (vJ rf.results Ψ)) (hrst:(B1 f).rst=false:=by rfl):∃v h',rc Q f args h=some (v,h')/\Φ v h' :=
 rcQ hc hl (H Φ λ_ _ h=>h) hrst
theorem jf{h:AH}{p q:Nat}{a d:Int}(hpq:p≠q)(hp:h.boxes[p]?=some [.int .i64 a])(hq:h.boxes[q]?=some [.int .i64 d])(X:b9)(d2:Int) :
  (h.boxes++[X])[p]?=some [.int .i64 a]/\((h.boxes++[X]).set p [.int .i64 (a+1)])[q]?=some [.int .i64 d]/\(((h.boxes++[X]).set p [.int .i64 (a+1)]).set q [.int .i64 d2])[h.boxes.length]?=some X /\
  cK p q h ⟨((h.boxes++[X]).set p [.int .i64 (a+1)]).set q [.int .i64 d2],h.fams⟩/\(((h.boxes++[X]).set p [.int .i64 (a+1)]).set q [.int .i64 d2])[p]?=some [.int .i64 (a+1)]/\(((h.boxes++[X]).set p [.int .i64 (a+1)]).set q [.int .i64 d2])[q]?=some [.int .i64 d2]:=by
 have hpl:=H5 hp;have hql:=H5 hq;refine⟨?_,?_,?_,?_,?_,?_⟩
 .rw[zf2z hpl];exact hp
 .rw[zf4z hpq,zf2z hql];exact hq
 .rw[zf4z a_,zf4z a_];simp
 .exact(cK.box p q h X).trans ((cK.set1 (h:=⟨h.boxes++[X],h.fams⟩) _).trans (cK.set2 (h:=⟨(h.boxes++[X]).set p [.int .i64 (a+1)],h.fams⟩) _))
 .rw[zf4z (λe=>hpq e.symm),zf9z f8]
 .rw[zf9z f8]
theorem Gk{l:Be}{i:Nat}(h:i<l.length):KW (C4 l) i=some (I8 l[i]):=Ep (by simp[h])
def ChkOk(t:Tm):Prop:=∀(lv a d:Int) (p q:Nat) (h:AH),0<=lv->lv+t.size<=4398046511104->0<=a->a+t.size<=4398046511104->p≠q->h.boxes[p]?=some [.int .i64 a]->h.boxes[q]?=some [.int .i64 d] ->
  ∃v h',rc Q Cd [I8 t,.int .i64 lv,.ptr p 0,.ptr q 0] h=some (v,h')/\(v=.int .i64 (Q7 t)/\cK p q h h'/\∃a' d',h'.boxes[p]?=some [.int .i64 a']/\h'.boxes[q]?=some [.int .i64 d']/\(Q7 t=0->a'=a+t.size/\d'=max d (lv+JM t-1)))
theorem ou(m:Gg)(kids:Be)(IH:∀t∈kids,ChkOk t)(lv a d:Int)(p q:Nat)(hlv:0<=lv)(hlv':lv+Tm.sizes kids+1<=4398046511104)(ha0:0<=a)(ha1:a+Tm.sizes kids<=4398046511104)(hpq:p≠q)(D6:kids.length<=4398046511104)
  (fr:Fr) (h:AH) (hl:fr.length=73) (h1:B2 fr 1=.int .i64 lv) (h2:B2 fr 2=.ptr p 0) (h3:B2 fr 3=.ptr q 0) (h57:B2 fr 57=sl m 4 (C4 kids)) (h58:B2 fr 58=.int .i64 kids.length) (h59:B2 fr 59=.int .i64 0) (hp:h.boxes[p]?=some [.int .i64 a]) (hq:h.boxes[q]?=some [.int .i64 d]) :
  D7 (lp (A8 (m6 Q) (B1 Cd) DK) (fr,h)) λe B8 h'=>Kp DK.wr fr B8/\cK p q h h'/\(∃a' d',h'.boxes[p]?=some [.int .i64 a']/\h'.boxes[q]?=some [.int .i64 d']/\(W5 kids=0->a'=a+Tm.sizes kids/\max d' lv=max (max d lv) (lv+Gv kids)/\d<=d')) /\
   (e=.exit 1/\W5 kids=0\/e=.ret/\B2 B8 8=.int .i64 (W5 kids)/\W5 kids≠0):=by
 refine E9 rfl fr (λn fr h'=>∃(i:Nat) (a' d':Int),i+n=kids.length/\B2 fr 59=.int .i64 (i:Nat)/\cK p q h h'/\h'.boxes[p]?=some [.int .i64 a']/\h'.boxes[q]?=some [.int .i64 d']/\a'+Tm.sizes (kids.drop i)=a+Tm.sizes kids/\0<=a'/\d<=d'/\max (max d' lv) (lv+Gv (kids.drop i))=max (max d lv) (lv+Gv kids)/\W5 (kids.drop i)=W5 kids) ?_ kids.length h
  ⟨0,a,d,a_,h59,cK.refl _ _ _,hp,hq,rfl,ha0,a_,rfl,rfl⟩
 rintro J Φ hJ hΦ n CT hh K ⟨i,a',d',hi,k59,hF,kp,kq,X9,ha',hdd,hdm,hr⟩;have C6:=K.1.trans hl;have k1:=D4 K 1 h1;have k2:=D4 K 2 h2;have k3:=D4 K 3 h3;have k57:=D4 K 57 h57;have k58:=D4 K 58 h58;by_cases C2:i<kids.length
 .have hx:=Gk C2;have hw:=J6 i a_;have hwl:IntKind.i64.wrap (lv+1)=lv+1:=Y8 a_ a_;have hI:=IH kids[i] (zf8z C2);rw[zf1z C2]at hr hdm X9;simp only[W5,Gv,Tm.sizes]at hr hdm X9;have hss:Tm.sizes (kids.drop (i+1))+(kids[i]).size<=Tm.sizes kids:=by
   have h1:Tm.sizes (kids.take i++kids.drop i)=Tm.sizes (kids.take i)+Tm.sizes (kids.drop i):=Tm.sizes_append _ _;rw[List.take_append_drop,zf1z C2]at h1;simp only[Tm.sizes]at h1;omega
  generalize kids[i]=t at *
  have hpl:p<hh.boxes.length:=H5 kp;have hql:q<hh.boxes.length:=H5 kq;obtain⟨v,h',yF,rfl,hF',a2,d2,hp2,hq2,hz2⟩:=hI (lv+1) a' d' p q ⟨hh.boxes++[(I8 t).cells],hh.fams⟩ a_ a_ ha' a_ hpq
   (by simp only;rw[zf2z hpl];exact kp) (by simp only;rw[zf2z hql];exact kq)
  have hF2:cK p q h h':=hF.trans ((cK.box p q hh _).trans hF');clear hpl hql kp kq IH hI;obtain⟨tk,tn,ts,tm,tl⟩:=t;simp only[I8,dW]at yF hx;by_cases hz:Q7 (.mk tk tn ts tm tl)=0
  .rw[hz]at yF;obtain⟨rfl,rfl⟩:=hz2 hz;rw[if_neg (by simp[hz])]at hr;simp[DK,C6,k1,k2,k3,k57,k58,k59,C2,hx,hwl,hw,yF];refine⟨n-1,a_,hJ _ _ _ ⟨i+1,_,_,a_,d_,hF2,hp2,hq2,a_,a_,a_,a_,hr⟩⟩
  .rw[if_pos hz]at hr;simp[DK,C6,k1,k2,k3,k57,k58,k59,C2,hx,hwl,yF,hz];refine hΦ _ _ _ ⟨hF2,⟨a2,d2,hp2,hq2,λe=>absurd (hr.trans e) hz⟩,.inr ⟨rfl,by simp[C6,hr],λe=>hz (hr.trans e)⟩⟩
 .rw[zf5z a_]at hr hdm X9;simp only[W5,Gv,Tm.sizes]at hr hdm X9;simp[DK,C6,k58,k59,C2];exact hΦ _ _ _ ⟨hF,⟨a',d',kp,kq,λ_=>⟨a_,a_,hdd⟩⟩,.inl ⟨rfl,hr.symm⟩⟩
theorem A1M:∀(n:Nat) (t:Tm),t.size<=n->ChkOk t:=by
 intro n
 induction n with
 |zero=>intro t h;have:=t.size_pos;omega
 |succ n ih =>
  intro t hn lv a d p q h hlv hlv' ha0 ha1 hpq hp hq;obtain⟨k,nm,s,m,kids⟩:=t;have X9:Tm.size (.mk k nm s m kids)=1+Tm.sizes kids:=rfl;have D6:=Tm.length_le kids;have hN:=ww nm;have hnE:Q7 (.mk k nm s m kids)=if GC k s nm kids.length≠0 then GC k s nm kids.length else W5 kids:=rfl
  have hdE:JM (.mk k nm s m kids)=Gv kids+1:=rfl;have hloop:=λX=>ou m kids (λt ht=>ih t (by have:=Tm.size_le ht;omega)) lv (a+1) X p q hlv a_ a_ a_ hpq a_;rw[X9]at hlv' ha1;rw[X9,hdE];generalize htE:Q7 (.mk k nm s m kids)=te at *
  obtain⟨d2,hd2⟩:∃d2,(if lv > d then lv else d)=d2:=⟨_,rfl⟩
  have hd2':d2=max d lv:=by rw[←hd2];split<;>omega
  obtain⟨g1,g2,g3,g4,g5,g6⟩:=jf hpq hp hq [.int .i64 k,.str nm,.int .i64 s,sl m 4 (C4 kids)] d2;have hpl:p<h.boxes.length:=H5 hp;have hql:q<h.boxes.length:=H5 hq;refine rcW ay (by simp[l9]) λΨ hΨ fr hl ha=>?_;have h0:=ha 0;have h1:=ha 1;have h2:=ha 2;have h3:=ha 3;clear ha;simp[l9,I8]at hl h0 h1 h2 h3;have hw1:IntKind.i64.wrap (a+1)=a+1:=Y8 a_ a_;have hpl':p<h.boxes.length+1:=by omega
  have hql':q<h.boxes.length+1:=by omega
  simp only[gt_iff_lt]at hd2;have bad:∀v,GC k s nm kids.length=v->v≠0->Ψ (.int .i64 v) ⟨((h.boxes++[[.int .i64 k,.str nm,.int .i64 s,sl m 4 (C4 kids)]]).set p [.int .i64 (a+1)]).set q [.int .i64 d2],h.fams⟩:=λv hv h0=>by
   rw[hv,if_pos h0]at hnE;exact hΨ _ _ ⟨by rw[hnE],g4,_,_,g5,g6,λe=>absurd (hnE.symm.trans e) h0⟩
  clear hpl hql hpl' hql' hp hq;obtain⟨_,g3b⟩:=zf3z.1 g3;have hd2m:max d2 lv=d2:=by omega
  have loopFin:GC k s nm kids.length=0->∀B8:Fr,B8.length=73->B2 B8 1=.int .i64 lv->B2 B8 2=.ptr p 0->B2 B8 3=.ptr q 0->B2 B8 57=sl m 4 (C4 kids)->B2 B8 58=.int .i64 kids.length->B2 B8 59=.int .i64 0 ->
    D7 (lp (A8 (m6 Q) (B1 Cd) DK) (B8,⟨((h.boxes++[[.int .i64 k,.str nm,.int .i64 s,sl m 4 (C4 kids)]]).set p [.int .i64 (a+1)]).set q [.int .i64 d2],h.fams⟩)) λe Zr h2 =>
     Zr.length=73/\(e=.exit 1/\Ψ (.int .i64 0) h2\/e=.ret/\B2 Zr 8=.int .i64 te/\Ψ (.int .i64 te) h2):=by
   intro hnz B8 l0 l1 l2 l3 l57 l58 l59;refine(hloop d2 B8 _ l0 l1 l2 l3 l57 l58 l59 g5 g6).mono ?_;rintro e Zr h2 ⟨K,hF,⟨a2,d3,b1,b2,b3⟩,hc⟩;rw[if_neg (by simp[hnz])]at hnE;refine⟨K.1.trans l0,?_⟩;rcases hc with ⟨rfl,hz⟩|⟨rfl,h8,hz⟩
   .refine .inl ⟨rfl,hΨ _ _ ⟨by rw[hnE,hz],g4.trans hF,a2,d3,b1,b2,λ_=>?_⟩⟩;have:=b3 hz;omega
   .rw[←hnE]at hz h8;exact .inr ⟨rfl,h8,hΨ _ _ ⟨rfl,g4.trans hF,a2,d3,b1,b2,λe=>absurd e hz⟩⟩
  by_cases Qo:k=1\/k=2
  .by_cases hs0:s<0
   .have b:=bad 1 (by rw[GC,if_pos (.inl ⟨Qo,.inl hs0⟩)]) a_;rcases Qo with rfl|rfl<;>simp[l9,hl,h0,h1,h2,h3,g1,g2,g3b,hw1,hd2,LY hs0]<;>exact b
   by_cases hs5:5<s
   .have b:=bad 1 (by rw[GC,if_pos (.inl ⟨Qo,.inr (.inl hs5)⟩)]) a_;rcases Qo with rfl|rfl<;>simp[l9,hl,h0,h1,h2,h3,g1,g2,g3b,hw1,hd2,z8 hs0,LY hs5]<;>exact b
   by_cases hk0:kids=[]
   .subst hk0;have hnb:GC k s nm 0=if Bq nm=false then 2 else 0:=by
     rw[GC,if_neg a_,if_neg (show ¬8<0 by omega)]
    cases hn:Bq nm with
    |false =>
     rw[hn]at hN;have b:=bad 2 (by rw[zg3z,hnb,hn];rfl) a_;rcases Qo with rfl|rfl<;>simp[l9,hl,h0,h1,h2,h3,g1,g2,g3b,hw1,hd2,z8 hs0,z8 hs5,hN]<;>exact b
    |true =>
     rw[hn]at hN;have lf:=loopFin (by rw[zg3z,hnb,hn];rfl);clear bad loopFin hloop;rcases Qo with rfl|rfl<;>
     .simp[l9,hl,h0,h1,h2,h3,g1,g2,g3b,hw1,hd2,z8 hs0,z8 hs5,hN];refine D7.mono (lf _ ?_ ?_ ?_ ?_ ?_ ?_ ?_) ?_<;>first|(simp[hl,h1,h2,h3,C4];done)|skip
      rintro e Zr hh2 ⟨l2,⟨rfl,b⟩|⟨rfl,k8,b⟩⟩
      .simp[l2];exact b
      .simp[k8];exact b
   .have V5:0<kids.length:=List.length_pos_iff.2 hk0;have b:=bad 1 (by rw[GC,if_pos (.inl ⟨Qo,.inr (.inr V5)⟩)]) a_;rcases Qo with rfl|rfl<;>simp[l9,hl,h0,h1,h2,h3,g1,g2,g3b,hw1,hd2,z8 hs0,z8 hs5,V5]<;>exact b
  .have k1:¬k=1:=λe=>Qo (.inl e);have k2:¬k=2:=λe=>Qo (.inr e);by_cases k3:k=3
   .subst k3;by_cases hs:s=0
    .subst hs;have hnb:GC 3 0 nm kids.length=if Bq nm=false then 2 else if 8<kids.length then 3 else 0:=by
      rw[GC,if_neg a_]
     cases hn:Bq nm with
     |false =>
      rw[hn]at hN;have b:=bad 2 (by rw[hnb,hn];rfl) a_;simp[l9,hl,h0,h1,h2,h3,g1,g2,g3b,hw1,hd2,hN];exact b
     |true =>
      rw[hn]at hN;by_cases h8:8<kids.length
      .have b:=bad 3 (by rw[hnb,hn,if_neg e_,if_pos h8]) a_;have h8':(8:Int)<(kids.length:Int):=by omega
       simp[l9,hl,h0,h1,h2,h3,g1,g2,g3b,hw1,hd2,hN,h8'];exact b
      .have lf:=loopFin (by rw[hnb,hn,if_neg e_,if_neg h8]);have h8':¬(8:Int)<(kids.length:Int):=by omega
       clear bad loopFin hloop;simp[l9,hl,h0,h1,h2,h3,g1,g2,g3b,hw1,hd2,hN,h8'];refine D7.mono (lf _ ?_ ?_ ?_ ?_ ?_ ?_ ?_) ?_<;>first|(simp[hl,h1,h2,h3];done)|skip
       rintro e Zr hh2 ⟨l2,⟨rfl,b⟩|⟨rfl,k8,b⟩⟩
       .simp[l2];exact b
       .simp[k8];exact b
    .have b:=bad 1 (by rw[GC,if_pos (.inr (.inl ⟨rfl,hs⟩))]) a_;simp[l9,hl,h0,h1,h2,h3,g1,g2,g3b,hw1,hd2,z8 hs];exact b
   .have b:=bad 1 (by rw[GC,if_pos (.inr (.inr ⟨k1,k2,k3⟩))]) a_;simp[l9,hl,h0,h1,h2,h3,g1,g2,g3b,hw1,hd2,z8 k1,z8 k2,z8 k3];exact b
theorem WH(t:Tm)(hb:t.size<=1099511627776):pc Q Mt [I8 t]=some (.int .i64 (EP t)):=by
 obtain⟨v,h',yF,rfl,hF,a',d',b1,b2,hz⟩:=A1M _ t (zf7z _) 1 0 0 1 2 ⟨[(I8 t).cells,[.int .i64 0],[.int .i64 0]],[]⟩ a_ a_ a_ a_ a_ rfl rfl;have V5:=t.size_pos;have hd:JM t<=t.size:=zJ t;have hd1:1<=JM t:=by cases t;simp[JM]
 refine J0 IL λfr hl h0=>?_;have hv:EP t=if Q7 t≠0 then Q7 t else if 400<t.size\/40<JM t then 3 else 0:=rfl
 generalize EP t=v at *
 obtain⟨k,nm,s,m,kids⟩:=t;simp[IL,I8]at hl h0 yF;obtain⟨w1,b1'⟩:=zf3z.1 b1;obtain⟨w2,b2'⟩:=zf3z.1 b2;by_cases hn:Q7 (.mk k nm s m kids)=0
 .obtain⟨rfl,rfl⟩:=hz hn;rw[if_neg (by simp[hn])]at hv;rw[hn]at yF;generalize Tm.size (.mk k nm s m kids)=z at *
  generalize JM (.mk k nm s m kids)=dd at *
  have e1:(0:Int)+(z:Int)=z:=by omega
  have e2:max (0:Int) (1+(dd:Int)-1)=dd:=by omega
  rw[e1]at b1;rw[e2]at b2;by_cases h4:(400:Int)<(z:Int)
  .rw[if_pos (.inl a_)]at hv;subst hv;simp[IL,hl,h0,yF,b1,b2,LY h4]
  .by_cases h5:(40:Int)<(dd:Int)
   .rw[if_pos (.inr a_)]at hv;subst hv;simp[IL,hl,h0,yF,b1,b2,z8 h4,LY h5]
   .rw[if_neg a_]at hv;subst hv;simp[IL,hl,h0,yF,b1,b2,z8 h4,z8 h5]
 .rw[if_pos hn]at hv;rw[←hv]at yF hn;simp[IL,hl,h0,yF,hn]
theorem pc_node(k s:Int)(nm:Al)(m:Gg)(kids:Be):pc Q Mm [I8 (.mk k nm s m kids)]=some (.int .i64 (GC k s nm kids.length)):=by
 have hN:=eF nm;refine J0 S7 λfr hl h0=>?_;simp[S7,I8]at hl h0;generalize hv:GC k s nm kids.length=v;by_cases hbad:(k=1\/k=2)/\(s<0\/5<s\/0<kids.length)\/k=3/\s≠0\/(k≠1/\k≠2/\k≠3)
 .rw[GC,if_pos hbad]at hv;subst hv;rcases hbad with ⟨hk,hc⟩|⟨rfl,hs⟩|⟨k1,k2,k3⟩
  .by_cases hs0:s<0
   .rcases hk with rfl|rfl<;>simp[S7,hl,h0,LY hs0]
   .by_cases hs5:5<s
    .rcases hk with rfl|rfl<;>simp[S7,hl,h0,z8 hs0,LY hs5]
    .have V5:0<kids.length:=by omega
     rcases hk with rfl|rfl<;>simp[S7,hl,h0,z8 hs0,z8 hs5,V5]
  .by_cases hs0:s<0
   .simp[S7,hl,h0,LY hs0]
   .by_cases hs5:5<s
    .simp[S7,hl,h0,z8 hs0,LY hs5]
    .simp[S7,hl,h0,z8 hs0,z8 hs5,z8 hs]
  .simp[S7,hl,h0,z8 k1,z8 k2,z8 k3]
 .rw[GC,if_neg hbad]at hv;have hk:k=1\/k=2\/k=3:=by omega
  have hs0:¬s<0:=by omega
  have hs5:¬5<s:=by omega
  cases hn:Bq nm with
  |false =>
   rw[if_pos hn]at hv;subst hv;rw[hn]at hN;rcases hk with rfl|rfl|rfl
   .have hz:kids=[]:=zf0z a_;subst hz;simp[S7,hl,h0,z8 hs0,z8 hs5,hN]
   .have hz:kids=[]:=zf0z a_;subst hz;simp[S7,hl,h0,z8 hs0,z8 hs5,hN]
   .have hz:s=0:=by omega
    subst hz;simp[S7,hl,h0,hN]
  |true =>
   rw[if_neg (by simp[hn])]at hv;rw[hn]at hN;by_cases h8:8<kids.length
   .rw[if_pos h8]at hv;subst hv;have h8':(8:Int)<(kids.length:Int):=by omega
    rcases hk with rfl|rfl|rfl
    .omega
    .omega
    .have hz:s=0:=by omega
     subst hz;simp[S7,hl,h0,hN,h8']
   .rw[if_neg h8]at hv;subst hv;have h8':¬(8:Int)<(kids.length:Int):=by omega
    rcases hk with rfl|rfl|rfl
    .have hz:kids=[]:=zf0z a_;subst hz;simp[S7,hl,h0,z8 hs0,z8 hs5,hN]
    .have hz:kids=[]:=zf0z a_;subst hz;simp[S7,hl,h0,z8 hs0,z8 hs5,hN]
    .have hz:s=0:=by omega
     subst hz;simp[S7,hl,h0,hN,h8']
theorem oz(B:b9)(m:Gg)(kids:Be)(hB:∃a b c,B=[a,b,c,sl m 4 (C4 kids)])(IH:∀t∈kids,pc Q EI [I8 t]=some (.int .i64 (Q7 t)))(D6:kids.length<=1099511627776)
  (fr:Fr) (h:AH) (hh:h=⟨[B],[]⟩) (hl:fr.length=27) (h1:B2 fr 1=.ptr 0 0) (h4:B2 fr 4=.int .i64 0) :
  D7 (lp (A8 (m6 Q) (B1 EI) Dg) (fr,h)) λe B8 h'=>Kp Dg.wr fr B8/\(e=.exit 0/\W5 kids=0\/e=.ret/\B2 B8 2=.int .i64 (W5 kids)):=by
 obtain⟨b0,b1,b2,rfl⟩:=hB;refine E9 rfl fr (λn fr h'=>∃(i:Nat),i+n=kids.length/\B2 fr 4=.int .i64 (i:Nat)/\h'=⟨[[b0,b1,b2,sl m 4 (C4 kids)]],[]⟩/\W5 (kids.drop i)=W5 kids) ?_ kids.length h ⟨0,a_,h4,hh,rfl⟩;rintro J Φ hJ hΦ n CT AQ K ⟨i,hi,k4,rfl,hr⟩;have C6:=K.1.trans hl;have k1:=D4 K 1 h1;by_cases C2:i<kids.length
 .have hx:=Gk C2;have hw:=J6 i a_;have hI:=IH kids[i] (zf8z C2);rw[zf1z C2]at hr;simp only[W5]at hr;generalize kids[i]=t at *
  obtain⟨tk,tn,ts,tm,tl⟩:=t;simp only[I8]at hI hx;generalize Q7 (.mk tk tn ts tm tl)=e at *
  by_cases hz:e=0
  .rw[if_neg (by simp[hz])]at hr;simp[Dg,C6,k1,k4,C2,hx,hI,hw,hz];exact V6 hJ ⟨i+1,a_,d_,rfl,hr⟩
  .rw[if_pos hz]at hr;simp[Dg,C6,k1,k4,C2,hx,hI,hw,hz];exact hΦ _ _ _ (.inr ⟨rfl,by simp[C6,hr]⟩)
 .rw[zf5z a_]at hr;simp[Dg,C6,k1,k4,C2];exact hΦ _ _ _ (.inl ⟨rfl,hr.symm⟩)
theorem A09:∀(n:Nat) (t:Tm),t.size<=n->t.size<=1099511627776->pc Q EI [I8 t]=some (.int .i64 (Q7 t)):=by
 intro n
 induction n with
 |zero=>intro t h;have:=t.size_pos;omega
 |succ n ih =>
  intro t hn hb;obtain⟨k,nm,s,m,kids⟩:=t;have X9:Tm.size (.mk k nm s m kids)=1+Tm.sizes kids:=rfl;have D6:=Tm.length_le kids;have hN:=pc_node k s nm m kids;have hnE:Q7 (.mk k nm s m kids)=if GC k s nm kids.length≠0 then GC k s nm kids.length else W5 kids:=rfl
  have Eg:=oz [.int .i64 k,.str nm,.int .i64 s,sl m 4 (C4 kids)] m kids ⟨_,_,_,rfl⟩ (λt ht=>ih t (by have:=Tm.size_le ht;omega) (by have:=Tm.size_le ht;omega)) a_;refine gu Yg rfl (by simp[JD]) λfr hl ha=>?_;have h0:=ha 0;clear ha ih;simp[JD,I8]at hl h0 hN;generalize Q7 (.mk k nm s m kids)=v at *
  generalize GC k s nm kids.length=w at *
  by_cases hw:w=0
  .subst hw;rw[if_neg e_]at hnE;simp[JD,hl,h0,hN];refine D7.mono (Eg _ _ rfl ?_ ?_ ?_) ?_<;>first|(simp[hl];done)|skip
   rintro e CT h1 ⟨K,⟨rfl,hz⟩|⟨rfl,k2⟩⟩
   .have C6:CT.length=27:=K.1.trans c_;simp[C6,hnE,hz]
   .simp[k2,hnE]
  .rw[if_pos hw]at hnE;subst hnE;simp[JD,hl,h0,hN,hw]
theorem ot(B:b9)(m:Gg)(kids:Be)(hB:∃a b c,B=[a,b,c,sl m 4 (C4 kids)])(IH:∀t∈kids,pc Q EH [I8 t]=some (.int .i64 (JM t)))(D6:kids.length<=1099511627776)
  (fr:Fr) (h:AH) (hh:h=⟨[B],[]⟩) (hl:fr.length=22) (h1:B2 fr 1=.ptr 0 0) (h3:B2 fr 3=.int .i64 0) (h4:B2 fr 4=.int .i64 0) :
  D7 (lp (A8 (m6 Q) (B1 EH) De) (fr,h)) λe B8 h'=>Kp De.wr fr B8/\e=.exit 0/\B2 B8 3=.int .i64 (Gv kids):=by
 obtain⟨b0,b1,b2,rfl⟩:=hB;refine E9 rfl fr (λn fr h'=>∃(i d:Nat),i+n=kids.length/\B2 fr 4=.int .i64 (i:Nat)/\B2 fr 3=.int .i64 (d:Nat)/\h'=⟨[[b0,b1,b2,sl m 4 (C4 kids)]],[]⟩/\max d (Gv (kids.drop i))=Gv kids) ?_ kids.length h ⟨0,0,a_,h4,h3,hh,e_⟩;rintro J Φ hJ hΦ n CT AQ K ⟨i,d,hi,k4,k3,rfl,hr⟩;have C6:=K.1.trans hl;have k1:=D4 K 1 h1;by_cases C2:i<kids.length
 .have hx:=Gk C2;have hw:=J6 i a_;have hI:=IH kids[i] (zf8z C2);rw[zf1z C2]at hr;simp only[Gv]at hr;generalize kids[i]=t at *
  obtain⟨tk,tn,ts,tm,tl⟩:=t;simp only[I8]at hI hx;generalize JM (.mk tk tn ts tm tl)=e at *
  by_cases hz:(d:Int)<(e:Int)
  .simp[De,C6,k1,k3,k4,C2,hx,hI,hw,hz];exact V6 hJ ⟨i+1,e,a_,d_,d_,rfl,a_⟩
  .simp[De,C6,k1,k3,k4,C2,hx,hI,hw,hz];exact V6 hJ ⟨i+1,d,a_,d_,d_,rfl,a_⟩
 .rw[zf5z a_]at hr;simp only[Gv,Nat.max_zero]at hr;simp[De,C6,k1,k4,C2];exact hΦ _ _ _ ⟨rfl,by rw[←hr];simp[C6,k3]⟩
theorem A0u:∀(n:Nat) (t:Tm),t.size<=n->t.size<=1099511627776->pc Q EH [I8 t]=some (.int .i64 (JM t)):=by
 intro n
 induction n with
 |zero=>intro t h;have:=t.size_pos;omega
 |succ n ih =>
  intro t hn hb;obtain⟨k,nm,s,m,kids⟩:=t;have X9:Tm.size (.mk k nm s m kids)=1+Tm.sizes kids:=rfl;have D6:=Tm.length_le kids;have yE:=fu kids;have hdE:JM (.mk k nm s m kids)=Gv kids+1:=rfl;have Eg:=ot [.int .i64 k,.str nm,.int .i64 s,sl m 4 (C4 kids)] m kids ⟨_,_,_,rfl⟩ (λt ht=>ih t (by have:=Tm.size_le ht;omega) (by have:=Tm.size_le ht;omega)) a_;refine gu Yf rfl (by simp[LS]) λfr hl ha=>?_;have h0:=ha 0;clear ha ih;simp[LS,I8]at hl h0;generalize JM (.mk k nm s m kids)=v at *
  simp[LS,hl,h0];refine D7.mono (Eg _ _ rfl ?_ ?_ ?_ ?_) ?_<;>first|(simp[hl];done)|skip
  rintro e CT h1 ⟨K,rfl,k3⟩;have C6:CT.length=22:=K.1.trans c_;have hw:IntKind.i64.wrap ((Gv kids:Int)+1)=(v:Int):=by rw[Y8 a_ a_];omega
  simp[C6,k3,hw]
theorem RY(t:Tm)(hb:t.size<=1099511627776):pc Q Iu [I8 t]=some (.int .i64 (EP t)):=by
 have hN:=A09 _ t (zf7z _) hb;have hS:=US _ t (zf7z _) hb;have hD:=A0u _ t (zf7z _) hb;refine J0 GY λfr hl h0=>?_;have hv:EP t=if Q7 t≠0 then Q7 t else if 400<t.size\/40<JM t then 3 else 0:=rfl
 generalize EP t=v at *
 generalize Q7 t=w at *
 generalize t.size=z at *
 generalize JM t=dd at *
 obtain⟨k,nm,s,m,kids⟩:=t;simp[GY,I8]at hl h0 hN hS hD;by_cases hn:w=0
 .subst hn;rw[if_neg e_]at hv;by_cases h4:(400:Int)<(z:Int)
  .rw[if_pos (.inl a_)]at hv;subst hv;simp[GY,hl,h0,hN,hS,hD,LY h4]
  .by_cases h5:(40:Int)<(dd:Int)
   .rw[if_pos (.inr a_)]at hv;subst hv;simp[GY,hl,h0,hN,hS,hD,z8 h4,LY h5]
   .rw[if_neg a_]at hv;subst hv;simp[GY,hl,h0,hN,hS,hD,z8 h4,z8 h5]
 .rw[if_pos hn]at hv;subst hv;simp[GY,hl,h0,hN,hn]
end Go.Abs.Q
set_option linter.unusedVariables false
namespace Go.Abs
inductive FT where
 |nil
 |node (l:FT) (v:AV) (r:FT)
def g_nil(_:Nat):AV:=B9
noncomputable def A0C(v:AV)(gl gr:Nat->AV)(n:Nat):AV:=(zg2z (Nat.mod n (nat_lit 2)) (nat_lit 1)).rec (gr (zg4z (zg1z n (nat_lit 2)) (nat_lit 1))) (gl (zg1z n (nat_lit 2)))
noncomputable def ny(_:FT)(v:AV)(_:FT)(gl gr:Nat->AV)(n:Nat):AV:=(zg2z n (nat_lit 0)).rec (A0C v gl gr n) v
noncomputable def FT.get(t:FT):Nat->AV:=t.rec g_nil ny
def p_nil(_:Nat)(_:AV):FT:=.nil
noncomputable def A0s(l:FT)(v:AV)(r:FT)(pl pr:Nat->AV->FT)(n:Nat)(x:AV):FT:=(zg2z (Nat.mod n (nat_lit 2)) (nat_lit 1)).rec (.node l v (pr (zg4z (zg1z n (nat_lit 2)) (nat_lit 1)) x)) (.node (pl (zg1z n (nat_lit 2)) x) v r)
noncomputable def pn(l:FT)(v:AV)(r:FT)(pl pr:Nat->AV->FT)(n:Nat)(x:AV):FT:=(zg2z n (nat_lit 0)).rec (A0s l v r pl pr n x) (.node l x r)
noncomputable def FT.put(t:FT):Nat->AV->FT:=t.rec p_nil pn
noncomputable def Od(k:Nat):Nat->FT:=k.rec (λ_=>.nil) (λ_ b n=>(zg2z n (nat_lit 0)).rec (.node (b (zg1z n (nat_lit 2))) B9 (b (zg1z (zg4z n (nat_lit 1)) (nat_lit 2)))) .nil)
noncomputable def fcL(l:List UInt8):(List UInt8->Option AV)->Option AV:=l.rec (λk=>k []) (λa _ ih k=>ih λl'=>k (a::l'))
def fcS(l:List UInt8):Option AV:=some (.str ⟨⟨l⟩⟩)
noncomputable def qa(H:AH)(sz:Nat)(x:AV)(lo hi mx:Option Int):Option AV :=
 match x with
 | .str s =>
  let l:=lo.getD 0
  let h:=hi.getD s.size
  if sz=0/\mx=none/\0<=l/\l<=h/\h<=s.size then fcL ((s.data.toList.drop l.toNat).take (h.toNat-l.toNat)) fcS else none
 |y=>KM H sz y lo hi mx
def fo(g:Opd->AV)(len:Nat):List (Nat×Nat×Opd)->Option (List (Nat×AV))
 | []=>some []
 |(off,n,x)::rest =>
  if (g x).isTup=false/\(g x).cells.length=n/\off+n<=len then (fo g len rest).map ((off,g x)::·)else none
def Uc(g:Opd->AV)(h:AH)(xs:List AV):List (Nat×Opd)->Option (List AV)
 | []=>some xs
 |(i,x)::rest =>
  match xs[i]?,(frz h false (g x)).or (VX h (g x))with
  |some z,some y=>if y.cells.length=z.cells.length then Uc g h (xs.set i y) rest else none
  |_,_=>none
def fh(g:Opd->AV):Option Opd->Option (Option Int)
 |none=>some none
 |some x=>match g x with | .int _ i=>some (some i)|_=>none
noncomputable def yg(x y:AV):Option AV :=
 match x,y with
 | .int k a,.int k' b=>if k=k' then some (.int k (k.wrap (a+b)))else none
 | .str a,.str b=>if ((a.size+b.size:Nat):Int) > IntKind.i64.max then none else fcL (a.data.toList++b.data.toList) fcS
 |_,_=>none
def b_sub(x y:AV):Option AV :=
 match x,y with
 | .int k a,.int k' b=>if k=k' then some (.int k (k.wrap (a-b)))else none
 |_,_=>none
def b_mul(x y:AV):Option AV :=
 match x,y with
 | .int k a,.int k' b=>if k=k' then some (.int k (k.wrap (a*b)))else none
 |_,_=>none
def b_quo(x y:AV):Option AV :=
 match x,y with
 | .int k a,.int k' b=>if k=k'/\b≠0 then some (.int k (k.wrap (a.tdiv b)))else none
 |_,_=>none
def b_rem(x y:AV):Option AV :=
 match x,y with
 | .int k a,.int k' b=>if k=k'/\b≠0 then some (.int k (a.tmod b))else none
 |_,_=>none
def b_and(x y:AV):Option AV :=
 match x,y with
 | .int k a,.int k' b=>if k=k' then some (.int k (k.wrap (BitVec.ofInt k.bits a &&& BitVec.ofInt k.bits b).toNat))else none
 |_,_=>none
def b_or(x y:AV):Option AV :=
 match x,y with
 | .int k a,.int k' b=>if k=k' then some (.int k (k.wrap (BitVec.ofInt k.bits a ||| BitVec.ofInt k.bits b).toNat))else none
 |_,_=>none
def b_xor(x y:AV):Option AV :=
 match x,y with
 | .int k a,.int k' b=>if k=k' then some (.int k (k.wrap (BitVec.ofInt k.bits a ^^^ BitVec.ofInt k.bits b).toNat))else none
 |_,_=>none
def b_shl(x y:AV):Option AV :=
 match x,y with
 | .int k a,.int k' b=>if 0<=b then some (.int k (k.wrap (a*2 ^ (min b.toNat k.bits))))else none
 |_,_=>none
def b_shr(x y:AV):Option AV :=
 match x,y with
 | .int k a,.int k' b=>if 0<=b then some (.int k (a.fdiv (2 ^ (min b.toNat k.bits))))else none
 |_,_=>none
def yi(_ _:AV):Option AV:=none
def b_eql(x y:AV):Option AV :=
 match x,y with
 | .int k a,.int k' b=>if k=k' then some (.bool (a == b))else none
 | .str a,.str b=>some (.bool (a.toList == b.toList))
 |_,_=>none
def b_neq(x y:AV):Option AV :=
 match x,y with
 | .int k a,.int k' b=>if k=k' then some (.bool (a != b))else none
 | .str a,.str b=>some (.bool !(a.toList == b.toList))
 |_,_=>none
def b_lss(x y:AV):Option AV :=
 match x,y with
 | .int k a,.int k' b=>if k=k' then some (.bool (decide (a<b)))else none
 | .str a,.str b=>some (.bool (Op.bytesLess a.toList b.toList))
 |_,_=>none
def b_leq(x y:AV):Option AV :=
 match x,y with
 | .int k a,.int k' b=>if k=k' then some (.bool (decide (a<=b)))else none
 | .str a,.str b=>some (.bool (Op.bytesLess a.toList b.toList||a.toList == b.toList))
 |_,_=>none
def b_gtr(x y:AV):Option AV :=
 match x,y with
 | .int k a,.int k' b=>if k=k' then some (.bool (decide (a > b)))else none
 | .str a,.str b=>some (.bool !(Op.bytesLess a.toList b.toList||a.toList == b.toList))
 |_,_=>none
def b_geq(x y:AV):Option AV :=
 match x,y with
 | .int k a,.int k' b=>if k=k' then some (.bool (decide (a≥b)))else none
 | .str a,.str b=>some (.bool !(Op.bytesLess a.toList b.toList))
 |_,_=>none
noncomputable def binG(op:BinOp):AV->AV->Option AV:=op.rec yg b_sub b_mul b_quo b_rem b_and b_or b_xor b_shl b_shr yi b_eql b_neq b_lss b_leq b_gtr b_geq
noncomputable def e_mov(x:Opd)(O:Orc)(c:Ctx)(g:Opd->AV)(h:AH):Option (AV×AH):=some (g x,h)
noncomputable def zZ(q:Opd)(a:Opd)(b:Opd)(O:Orc)(c:Ctx)(g:Opd->AV)(h:AH):Option (AV×AH):=match g q with | .bool t=>some (if t then g a else g b,h)|_=>none
noncomputable def zT(x:Opd)(O:Orc)(c:Ctx)(g:Opd->AV)(h:AH):Option (AV×AH):=if (g x).isTup then none else some (.ptr h.boxes.length 0,{h with boxes:=h.boxes++[(g x).cells]})
noncomputable def gC(O:Orc)(c:Ctx)(g:Opd->AV)(h:AH):Option (AV×AH):=some (.mp h.boxes.length,{h with boxes:=h.boxes++[[.mbox [] []]]})
noncomputable def gD(str:Bool)(ok:Bool)(z:AV)(x:Opd)(k:Opd)(O:Orc)(c:Ctx)(g:Opd->AV)(h:AH):Option (AV×AH):=Js str ok z h (g x) (g k)
noncomputable def zY(str:Bool)(x:Opd)(k:Opd)(v:Opd)(O:Orc)(c:Ctx)(g:Opd->AV)(h:AH):Option (AV×AH):=cv str h (g x) (g k) (g v)
noncomputable def gA(z:AV)(O:Orc)(c:Ctx)(g:Opd->AV)(h:AH):Option (AV×AH):=some (.ptr h.boxes.length 0,{h with boxes:=h.boxes++[z.cells]})
noncomputable def XA(r:Nat)(z:AV)(O:Orc)(c:Ctx)(g:Opd->AV)(h:AH):Option (AV×AH):=AW h r z
noncomputable def Yu(z:AV)(parts:List (Nat×Nat×Opd))(O:Orc)(c:Ctx)(g:Opd->AV)(h:AH):Option (AV×AH):=match fo g z.cells.length parts with|some ps=>some (.agg (C0 z.cells ps),h)|none=>none
noncomputable def Rp(n:Nat)(z:AV)(parts:List (Nat×Opd))(O:Orc)(c:Ctx)(g:Opd->AV)(h:AH):Option (AV×AH):=match Uc g h (zg0z n z) parts with|some xs=>some (.vs true z.cells.length xs,h)|none=>none
noncomputable def Pq(n:Nat)(z:AV)(parts:List (Nat×Opd))(O:Orc)(c:Ctx)(g:Opd->AV)(h:AH):Option (AV×AH):=if parts.all (λp=>M9 (g p.2))then (match Uc g h (zg0z n z) parts with|some xs=>some (.vs true z.cells.length xs,h)|none=>none)else none
noncomputable def e_ld(agg:Bool)(n:Nat)(x:Opd)(O:Orc)(c:Ctx)(g:Opd->AV)(h:AH):Option (AV×AH):=match X3 h agg n (g x)with|some v=>some (v,h)|none=>none
noncomputable def zX(agg:Bool)(n:Nat)(x:Opd)(O:Orc)(c:Ctx)(g:Opd->AV)(h:AH):Option (AV×AH):=match g x with | .ep ..=>none|p=>(match X3 h agg n p with|some v=>some (v,h)|none=>none)
noncomputable def e_st(n:Nat)(a:Opd)(x:Opd)(O:Orc)(c:Ctx)(g:Opd->AV)(h:AH):Option (AV×AH):=match DX h n (g x) (g a)with|some h'=>some (B9,XM c.lay h' (g x))|none=>none
noncomputable def zb(n:Nat)(a:Opd)(x:Opd)(O:Orc)(c:Ctx)(g:Opd->AV)(h:AH):Option (AV×AH):=WW h n (g a) (g x)
noncomputable def za(n:Nat)(a:Opd)(x:Opd)(O:Orc)(c:Ctx)(g:Opd->AV)(h:AH):Option (AV×AH):=TP h n (g a) (g x)
noncomputable def e_clr(z:AV)(x:Opd)(O:Orc)(c:Ctx)(g:Opd->AV)(h:AH):Option (AV×AH):=VN h z (g x)
noncomputable def sO(x:Opd)(O:Orc)(c:Ctx)(g:Opd->AV)(h:AH):Option (AV×AH):=match g x with | .pv cs=>some (.pv cs,h) | .ptr b o=>some (.ptr b o,h) | .ep k n i q s=>some (.ep k n i q s,h) | .fn f cs=>some (.fn f cs,h)|_=>none
noncomputable def sL(op:BinOp)(x:Opd)(y:Opd)(O:Orc)(c:Ctx)(g:Opd->AV)(h:AH):Option (AV×AH):=match binG op (g x) (g y)with|some v=>some (v,h)|none=>none
noncomputable def e_beq(neg:Bool)(x:Opd)(y:Opd)(O:Orc)(c:Ctx)(g:Opd->AV)(h:AH):Option (AV×AH):=match g x,g y with | .bool a,.bool b=>some (.bool (if neg then !(a == b)else a == b),h)|_,_=>none
noncomputable def sP(neg:Bool)(x:Opd)(O:Orc)(c:Ctx)(g:Opd->AV)(h:AH):Option (AV×AH):=nqA neg h (g x)
noncomputable def e_un(op:UnOp)(x:Opd)(O:Orc)(c:Ctx)(g:Opd->AV)(h:AH):Option (AV×AH):=match Rv op (g x)with|some v=>some (v,h)|none=>none
noncomputable def zW(k:IntKind)(x:Opd)(O:Orc)(c:Ctx)(g:Opd->AV)(h:AH):Option (AV×AH):=match g x with | .int _ n=>some (.int k (k.wrap n),h)|_=>none
noncomputable def zU(x:Opd)(O:Orc)(c:Ctx)(g:Opd->AV)(h:AH):Option (AV×AH):=ZY h (g x)
noncomputable def zV(f:FuncId)(caps:List Opd)(O:Orc)(c:Ctx)(g:Opd->AV)(h:AH):Option (AV×AH):=if c.ro then (Aw h (caps.map g)).map λp=>(.fn f p.1,p.2)else some (.fn f (caps.map g),h)
noncomputable def XB(z:AV)(bytes:Nat)(l:Opd)(q:Opd)(O:Orc)(c:Ctx)(g:Opd->AV)(h:AH):Option (AV×AH):=
  match g l,g q with
  | .int _ a,.int _ b =>
   if 0<=a/\a<=b/\b*bytes<=K7/\b<=maxLen then
    some (.sl h.fams.length a.toNat 0 a.toNat,{h with fams:=h.fams++[⟨zg0z a.toNat z,z.cells.length,true⟩]})
   else none
  |_,_=>none
noncomputable def e_mkv(z:AV)(bytes:Nat)(l:Opd)(q:Opd)(O:Orc)(c:Ctx)(g:Opd->AV)(h:AH):Option (AV×AH):=pb h z bytes (g l) (g q)
noncomputable def e_mkb(z:AV)(bytes:Nat)(l:Opd)(q:Opd)(O:Orc)(c:Ctx)(g:Opd->AV)(h:AH):Option (AV×AH):=aI h z bytes (g l) (g q)
noncomputable def sS(sz:Nat)(x:Opd)(lo:Option Opd)(hi:Option Opd)(mx:Option Opd)(O:Orc)(c:Ctx)(g:Opd->AV)(h:AH):Option (AV×AH):=
  match fh g lo,fh g hi,fh g mx with
  |some l,some u,some m=>match qa h sz (g x) l u m with|some v=>some (v,h)|none=>none
  |_,_,_=>none
noncomputable def sM(off:Nat)(x:Opd)(O:Orc)(c:Ctx)(g:Opd->AV)(h:AH):Option (AV×AH):=match g x with | .pv cs=>some (.pv (cs.drop off),h) | .ptr b o=>some (.ptr b (o+off),h) | .ep k n i q s=>some (.ep k n i (q+off) s,h)|_=>none
noncomputable def e_fld(agg:Bool)(off:Nat)(n:Nat)(x:Opd)(O:Orc)(c:Ctx)(g:Opd->AV)(h:AH):Option (AV×AH):=match g x with | .agg cs=>(match Q6 agg n (cs.drop off)with|some v=>some (v,h)|none=>none)|_=>none
noncomputable def sN(sz:Nat)(x:Opd)(i:Opd)(O:Orc)(c:Ctx)(g:Opd->AV)(h:AH):Option (AV×AH):=
  match g x,g i with
  | .vs _ z xs,.int _ j=>if 0<=j/\z=sz then (match xs[j.toNat]? with|some e=>some (.pv e.cells,h)|none=>none)else none
  | .sl k n off len,.int _ j=>if 0<=j/\j<len then some (.ep k n (off+j.toNat) 0 sz,h)else none
  | .bsl b s off len,.int _ j=>if 0<=j/\j<len/\s=sz then some (.ptr b (off+j.toNat*sz),h)else none
  |_,_=>none
noncomputable def e_idx(x:Opd)(i:Opd)(O:Orc)(c:Ctx)(g:Opd->AV)(h:AH):Option (AV×AH):=
  match g x,g i with
  | .str s,.int _ j=>if 0<=j then (match s[j.toNat]? with|some b=>some (.int .u8 b.toNat,h)|none=>none)else none
  |_,_=>none
noncomputable def e_ext(x:Opd)(i:Nat)(O:Orc)(c:Ctx)(g:Opd->AV)(h:AH):Option (AV×AH):=match g x with | .tup vs=>(match vs[i]? with|some v=>some (v,h)|none=>none)|_=>none
def e_lenT(x:Opd)(O:Orc)(c:Ctx)(g:Opd->AV)(h:AH):Option (AV×AH):=match g x with | .str s=>some (.int .i64 s.size,h)|_=>none
def e_lenF(x:Opd)(O:Orc)(c:Ctx)(g:Opd->AV)(h:AH):Option (AV×AH):=
  match g x with
  | .vs _ _ xs=>some (.int .i64 xs.length,h)
  | .sl _ _ _ len=>some (.int .i64 len,h)
  | .bsl _ _ _ len=>some (.int .i64 len,h)
  |_=>none
noncomputable def e_len(b:Bool):Opd->Orc->Ctx->(Opd->AV)->AH->Option (AV×AH):=b.rec e_lenF e_lenT
noncomputable def zQ(sz:Nat)(bytes:Nat)(s:Opd)(x:Opd)(O:Orc)(c:Ctx)(g:Opd->AV)(h:AH):Option (AV×AH):=N0 c h sz bytes (g s) (g x)
noncomputable def zR(bytes:Nat)(s:Opd)(x:Opd)(O:Orc)(c:Ctx)(g:Opd->AV)(h:AH):Option (AV×AH):=ZV c h bytes (g s) (g x)
noncomputable def e_max(x:Opd)(y:Opd)(O:Orc)(c:Ctx)(g:Opd->AV)(h:AH):Option (AV×AH):=match g x,g y with | .int k a,.int k' b=>if k=k' then some (.int k (if b > a then b else a),h)else none|_,_=>none
noncomputable def e_min(x:Opd)(y:Opd)(O:Orc)(c:Ctx)(g:Opd->AV)(h:AH):Option (AV×AH):=match g x,g y with | .int k a,.int k' b=>if k=k' then some (.int k (if b<a then b else a),h)else none|_,_=>none
noncomputable def nZ(f:FuncId)(args:List Opd)(O:Orc)(c:Ctx)(g:Opd->AV)(h:AH):Option (AV×AH):=Gu O c f (args.map g) h
noncomputable def gB(x:Opd)(args:List Opd)(O:Orc)(c:Ctx)(g:Opd->AV)(h:AH):Option (AV×AH):=match g x with | .fn f caps=>if c.raw f&&!c.rawv then none else Gu O c f (args.map g++caps) h|_=>none
noncomputable def Mh(o:ROp):Orc->Ctx->(Opd->AV)->AH->Option (AV×AH):=o.rec e_mov zZ zT gC gD zY gA XA Yu Rp Pq e_ld zX e_st zb za e_clr sO sL e_beq sP e_un zW zU zV XB e_mkv e_mkb sS sM e_fld sN e_idx e_ext e_len zQ zR e_max e_min nZ gB
def gT_t(n:Nat)(get:Nat->AV):AV:=get n
def gT_c(v:AV)(_:Nat->AV):AV:=v
noncomputable def gT(get:Nat->AV)(x:Opd):AV:=(x.rec gT_t gT_c:(Nat->AV)->AV) get
noncomputable def UV(t:FT)(d:Option Nat)(v:AV):FT:=d.rec t (λn=>t.put n v)
def ii(t:Nat->AV)(p:Nat×Bool):Option Bool :=
 match t p.1 with
 | .bool b=>some (b == p.2)
 | .tup _=>some false
 |_=>none
noncomputable def LO(t:Nat->AV)(g:Option (Nat×Bool)):Option Bool:=g.rec (some true) (ii t)
abbrev Xo:=FT×AH
abbrev Kc:=Option (Ex×Xo)
def l_nil(_:Orc)(_:Ctx)(t:FT)(h:AH):Option (FT×AH):=some (t,h)
noncomputable def l_one(o:RO)(ih:Orc->Ctx->FT->AH->Option (FT×AH))(O:Orc)(c:Ctx)(t:FT)(r:Option (AV×AH)):Option (FT×AH) :=
 r.rec none (λp=>ih O c (UV t o.dst p.1) p.2)
noncomputable def og(o:RO)(ih:Orc->Ctx->FT->AH->Option (FT×AH))(O:Orc)(c:Ctx)(t:FT)(h:AH)(b:Bool):Option (FT×AH) :=
 b.rec (ih O c (UV t o.dst B9) h) (l_one o ih O c t (Mh o.op O c (gT t.get) h))
noncomputable def oe(o:RO)(_:List RO)(ih:Orc->Ctx->FT->AH->Option (FT×AH))(O:Orc)(c:Ctx)(t:FT)(h:AH):Option (FT×AH) :=
 (LO t.get o.guard).rec none (og o ih O c t h)
noncomputable def cy(l:List RO):Orc->Ctx->FT->AH->Option (FT×AH):=l.rec l_nil oe
structure OrcT where
 pure:FuncId->List AV->Option AV
 raw:FuncId->List AV->AH->Option (AV×AH)
 loop:(Xo->Kc)->Xo->Kc
def OrcT.orc(O:OrcT):Orc:=⟨O.pure,O.raw,λ_ _=>none⟩
abbrev nC:=OrcT->Ctx->Xo->Kc
def nT(_:OrcT)(_:Ctx)(s:Xo):Kc:=some (.normal,s)
def dq(c:Ctx)(g:Opd->AV)(r:ROp)(h h1:AH):Foot:=⟨JR c h.boxes.length g r,if r.writesB c then Lv h.boxes h1.boxes else [],Gl c g r,if r.writesF c then PK h.fams h1.fams else []⟩
def d_nil(_:Orc)(_:Ctx)(t:FT)(h:AH):Option (List Foot×FT×AH):=some ([],t,h)
noncomputable def d_cons(o:RO)(_:List RO)(ih:Orc->Ctx->FT->AH->Option (List Foot×FT×AH))(O:Orc)(c:Ctx)(t:FT)(h:AH):Option (List Foot×FT×AH) :=
 match LO t.get o.guard with
 |some true=>(match Mh o.op O c (gT t.get) h with|some (v,h')=>(ih O c (UV t o.dst v) h').map λp=>(dq c (gT t.get) o.op h h'::p.1,p.2)|none=>none)
 |some false=>(ih O c (UV t o.dst B9) h).map λp=>(Xt c (some false) (gT t.get) o.op h h::p.1,p.2)
 |none=>none
noncomputable def eD(l:List RO):Orc->Ctx->FT->AH->Option (List Foot×FT×AH):=l.rec d_nil d_cons
noncomputable def VM(_:Bool)(ops:List RO)(O:OrcT)(c:Ctx)(s:Xo):Kc:=(cy ops O.orc c s.1 s.2).rec none (λs'=>some (.normal,s'))
noncomputable def c_regd(bs:List Nat)(ops:List RO)(O:OrcT)(c:Ctx)(s:Xo):Kc:=match eD ops O.orc c s.1 (s.2.holes (cN ops))with|some (fs,s')=>if Es bs ops fs then some (.normal,s')else none|none=>none
def je(_ _:RCode)(ea eb:nC)(O:OrcT)(c:Ctx)(s:Xo):Kc:=match ea O c s with|some (.normal,s')=>eb O c s' | r=>r
noncomputable def Za(q:Opd)(_ _:RCode)(ea eb:nC)(O:OrcT)(c:Ctx)(s:Xo):Kc:=match gT s.1.get q with | .bool true=>ea O c s | .bool false=>eb O c s|_=>none
def VL(id:Nat)(_:RCode)(ea:nC)(O:OrcT)(c:Ctx)(s:Xo):Kc:=match ea O c s with|some (.exit id',s')=>if id'=id then some (.normal,s')else some (.exit id',s')|r=>r
def Zb(_:RCode)(ea:nC)(O:OrcT)(c:Ctx)(s:Xo):Kc:=O.loop (ea O c) s
def nS(id:Nat)(_:OrcT)(_:Ctx)(s:Xo):Kc:=some (.exit id,s)
def yx(_:OrcT)(_:Ctx)(s:Xo):Kc:=some (.ret,s)
def yw(_:OrcT)(_:Ctx)(_:Xo):Kc:=none
noncomputable def TX(x:RCode):nC:=x.rec nT VM c_regd je Za VL Zb nS yx yw
noncomputable def Yd(t:FT)(h:AH):List UB->Option (List AV)
 | []=>some []
 | .tmp k::rest=>(Yd t h rest).map (t.get k::·)
 | .cell a agg n::rest=>(X3 h agg n (t.get a)).bind λv=>(Yd t h rest).map (v::·)
noncomputable def Ty(t:FT)(k:Nat):List AV->FT
 | []=>t
 |v::vs=>Ty (t.put k v) (k+1) vs
noncomputable def yl(O:OrcT)(c:Ctx)(rf:RFunc)(args:List AV)(h:AH):Option (AV×AH) :=
 match TX rf.body O c (Ty (Od (Nat.succ (Nat.max rf.ntmps args.length)) (Nat.max rf.ntmps args.length)) 0 args,h)with
 |some (.normal,s)=>(Yd s.1 s.2 rf.results).map λvs=>(J4 vs,s.2)
 |some (.ret,s)=>(Yd s.1 s.2 rf.results).map λvs=>(J4 vs,s.2)
 |_=>none
structure Know where
 pure:FuncId->List AV->Option AV:=λ_ _=>none
 raw:FuncId->List AV->AH->Option (AV×AH):=λ_ _ _=>none
noncomputable def xM(C:Cfg)(O:OrcT)(f:FuncId)(args:List AV)(h:AH):Option (AV×AH) :=
 match C.code f with
 |some rf=>yl O (C.ctx f) rf args h
 |none=>match C.rspec f with|some s=>s.run O.orc args h|none=>none
noncomputable def rawT(C:Cfg)(K:Know)(O:OrcT)(f:FuncId)(args:List AV)(h:AH):Option (AV×AH) :=
 (K.raw f args h).rec (bA (C.ctx f).rst (xM C O f args h)) some
noncomputable def pureU(C:Cfg)(K:Know)(O:OrcT)(f:FuncId)(args:List AV):Option AV :=
 match C.spec f with
 |some s=>s args
 |none=>match xM C O f args AH.empty with|some (r,h)=>Gj h r|none=>none
noncomputable def A1G(C:Cfg)(K:Know)(O:OrcT)(f:FuncId)(args:List AV):Option AV :=
 (K.pure f args).rec (pureU C K O f args) some
def i_zero(_:Xo->Kc)(_:Xo):Kc:=none
def i_succ(_:Nat)(ih:(Xo->Kc)->Xo->Kc)(step:Xo->Kc)(s:Xo):Kc:=match step s with|some (.normal,s')=>ih step s' | r=>r
noncomputable def aC(n:Nat):(Xo->Kc)->Xo->Kc:=n.rec i_zero i_succ
noncomputable def orcT(C:Cfg)(K:Know)(n:Nat):OrcT :=
 n.rec ⟨λ_ _=>none,λ_ _ _=>none,λ_ _=>none⟩ (λn O=>⟨A1G C K O,rawT C K O,aC (n+1)⟩)
end Go.Abs
