/- A part of the proof. -/
import Derived.Test.YtnnjamknplefbaaGreatDoorTS30
set_option linter.all false
open List renaming getElem?_eq_some_iff->zf0z,getElem?_append_left->zf1z,getElem?_map->zf2z,map->zf4z,getElem?_append_right->zf5z,map_cons->zf6z,getElem?_eq_getElem->zf7z,length_singleton->zf8z,length_append->zf9z,length->zg0z
open Nat renaming le_refl->zf3z
open Option renaming bind_some->zg1z,map_some->zg2z
set_option linter.all false
namespace Go.Abs.Q
open Go.Proofs
theorem Nv{a b:Tm}:VD a b=true↔T3 a=T3 b:=by
 unfold VD;rw[decide_eq_true_iff];exact ol
theorem iA{x a b:Tm}(h:T3 a=T3 b):VD x a=VD x b:=by
 rw[Bool.eq_iff_iff,Nv,Nv,h]
theorem JV{a b:Tm}(h:T3 a=T3 b):a.kind=b.kind/\a.name=b.name/\a.sort=b.sort/\a.kids.map T3=b.kids.map T3:=by
 obtain⟨k,nm,s,m,l⟩:=a;obtain⟨k',nm',s',m',l'⟩:=b;simp only[T3,Tm.mk.injEq]at h;rw[Nw,Nw]at h;exact⟨h.1,h.2.1,h.2.2.1,h.2.2.2.2⟩
theorem ST{a b:Tm}(h:T3 a=T3 b)(nm:AD):Mx a nm=Mx b nm:=by
 obtain⟨h1,h2,_⟩:=JV h;unfold Mx;rw[h1,h2]
theorem iM{l l':CI}(h:l.map T3=l'.map T3){a:Tm}(e:l=[a]):∃a',l'=[a']/\T3 a=T3 a':=by
 subst e;cases l' with
 |nil=>simp at h
 |cons a' r =>
  cases r with
  |nil=>exact⟨a',rfl,by simpa using h⟩
  |cons _ _=>simp at h
theorem Xc{l l':CI}(h:l.map T3=l'.map T3){a b:Tm}(e:l=[a,b]):∃a' b',l'=[a',b']/\T3 a=T3 a'/\T3 b=T3 b':=by
 subst e;cases l' with
 |nil=>simp at h
 |cons a' r =>
  cases r with
  |nil=>simp at h
  |cons b' r =>
   cases r with
   |nil=>exact⟨a',b',rfl,by simpa using h⟩
   |cons _ _=>simp at h
theorem xB{a b:Tm}(h:T3 a=T3 b):Qj a=Qj b:=by
 obtain⟨h1,h2,h3,h4⟩:=JV h;have h5:a.kids.length=b.kids.length:=by simpa using congrArg zg0z h4
 unfold Qj;rw[h1,h2,h3,h5]
theorem wD(tys:List Tyd){a b:Tm}(h:T3 a=T3 b):XH tys a=XH tys b:=by
 unfold XH;simp only[iA h]
theorem xp{a b:Tm}(h:T3 a=T3 b):Kk a=Kk b:=by
 unfold Kk;rw[ST h];obtain⟨_,_,_,h4⟩:=JV h;split
 .match ha:a.kids,hb:b.kids with
  | [],[]=>rfl
  | [],y::r'=>rw[ha,hb]at h4;simp at h4
  |x::r,[]=>rw[ha,hb]at h4;simp at h4
  |x::r,y::r' =>
   rw[ha,hb]at h4;simp only[zf6z,List.cons.injEq]at h4;obtain⟨k1,k2,k3,_⟩:=JV h4.1;simp only[k1,k2,k3]
 .rfl
theorem pf:∀(n:Nat) {a b:Tm},T3 a=T3 b->(Mq n a).map (zf4z T3)=(Mq n b).map (zf4z T3)
 |0,a,b,h=>by simp[Mq,h]
 |n+1,a,b,h=>by
  obtain⟨_,_,_,h4⟩:=JV h;simp only[Mq,ST h];split
  .match ha:a.kids,hb:b.kids with
   | [x,y],l' =>
    obtain⟨x',y',e,e1,e2⟩:=Xc h4 ha;rw[hb]at e;subst e;have:=pf n e2;simp only[Option.map_map];have hf:∀(o:Option (List Tm)) (z:Tm),o.map (zf4z T3∘λx=>z::x)=(o.map (zf4z T3)).map (λx=>T3 z::x):=λo z=>by cases o<;>rfl
    rw[hf,hf,this,e1]
   | [],[x,y]=>rw[ha,hb]at h4;simp at h4
   | [_],[x,y]=>rw[ha,hb]at h4;simp at h4
   |_::_::_::_,[x,y]=>rw[ha,hb]at h4;simp at h4
   | [],[]=>rfl
   | [],[_]=>rfl
   | [],_::_::_::_=>rfl
   | [_],[]=>rfl
   | [_],[_]=>rfl
   | [_],_::_::_::_=>rfl
   |_::_::_::_,[]=>rfl
   |_::_::_::_,[_]=>rfl
   |_::_::_::_,_::_::_::_=>rfl
  .rfl
def FitE(o o':Option (Pyl×List Tm)):Prop:=(o=none/\o'=none)\/∃p l l',o=some (p,l)/\o'=some (p,l')/\l.map T3=l'.map T3
theorem wM(u:Typ){a b:Tm}(h:T3 a=T3 b):FitE (Ny u a) (Ny u b):=by
 obtain⟨_,_,_,h4⟩:=JV h;unfold Ny;rw[xp h];cases Kk b with
 |none=>exact .inl ⟨rfl,rfl⟩
 |some nm =>
  simp only[zg1z];cases VJ u nm with
  |none=>exact .inl ⟨rfl,rfl⟩
  |some p =>
   simp only[zg1z]
   match ha:a.kids,hb:b.kids with
   | [x,y],l' =>
    obtain⟨x',y',e,e1,e2⟩:=Xc h4 ha;rw[hb]at e;subst e;have:=pf (p.parts.length-1) e2;simp only;cases h1:Mq (p.parts.length-1) y with
    |none =>
     rw[h1]at this;cases h2:Mq (p.parts.length-1) y' with
     |none=>exact .inl ⟨rfl,rfl⟩
     |some l2=>rw[h2]at this;cases this
    |some l1 =>
     rw[h1]at this;cases h2:Mq (p.parts.length-1) y' with
     |none=>rw[h2]at this;cases this
     |some l2 =>
      rw[h2]at this;exact .inr ⟨p,l1,l2,rfl,rfl,by simpa using this⟩
   | [],[x,y]=>rw[ha,hb]at h4;simp at h4
   | [_],[x,y]=>rw[ha,hb]at h4;simp at h4
   |_::_::_::_,[x,y]=>rw[ha,hb]at h4;simp at h4
   | [],[]=>exact .inl ⟨rfl,rfl⟩
   | [],[_]=>exact .inl ⟨rfl,rfl⟩
   | [],_::_::_::_=>exact .inl ⟨rfl,rfl⟩
   | [_],[]=>exact .inl ⟨rfl,rfl⟩
   | [_],[_]=>exact .inl ⟨rfl,rfl⟩
   | [_],_::_::_::_=>exact .inl ⟨rfl,rfl⟩
   |_::_::_::_,[]=>exact .inl ⟨rfl,rfl⟩
   |_::_::_::_,[_]=>exact .inl ⟨rfl,rfl⟩
   |_::_::_::_,_::_::_::_=>exact .inl ⟨rfl,rfl⟩
theorem iL{l l':CI}(h:l.map T3=l'.map T3)(i:Nat):(l[i]?).map T3=(l'[i]?).map T3:=by
 rw[←zf2z,←zf2z,h]
theorem hH{own own' l l':CI}(ho:own.map T3=own'.map T3)(hl:l.map T3=l'.map T3):∀ds:List Int,(FX own l ds).map (zf4z T3)=(FX own' l' ds).map (zf4z T3)
 | []=>rfl
 |d::r=>by
  have h1:(own=[])=(own'=[]):=by
   have:own.length=own'.length:=by simpa using congrArg zg0z ho
   simp only[←List.length_eq_zero_iff,this]
  have h2:l.length=l'.length:=by simpa using congrArg zg0z hl
  have ih:=hH ho hl r;simp only[FX,h1,h2];split
  .rfl
  .have hg:(if d<2 then own[d.toNat]? else l[(d-2).toNat]?).map T3=(if d<2 then own'[d.toNat]? else l'[(d-2).toNat]?).map T3:=by
    split
    .exact iL ho _
    .exact iL hl _
   revert hg;generalize (if d<2 then own[d.toNat]? else l[(d-2).toNat]?)=A
   generalize (if d<2 then own'[d.toNat]? else l'[(d-2).toNat]?)=B
   intro hg;cases A with
   |none =>
    cases B with
    |none=>rfl
    |some y=>cases hg
   |some x =>
    cases B with
    |none=>cases hg
    |some y =>
     simp only[zg2z,Option.some.injEq]at hg;have hf:∀(o:Option (List Tm)) (z:Tm),(o.map λx=>z::x).map (zf4z T3)=(o.map (zf4z T3)).map (λx=>T3 z::x):=λo z=>by cases o<;>rfl
     simp only[hf,ih,hg]
theorem wm{a b:Tm}(h:T3 a=T3 b):(KD a).map T3=(KD b).map T3:=by
 obtain⟨_,_,_,h4⟩:=JV h;unfold KD;rw[ST h,ST h];split
 .exact h4
 .split
  .match ha:a.kids,hb:b.kids with
   | [],[]=>rfl
   | [],y::r'=>rw[ha,hb]at h4;simp at h4
   |x::r,[]=>rw[ha,hb]at h4;simp at h4
   |x::r,y::r' =>
    rw[ha,hb]at h4;simp only[zf6z,List.cons.injEq]at h4;simp[h4.1]
  .rfl
theorem gQ:∀(x l l':CI),l.map T3=l'.map T3->BY VD x l=BY VD x l'
 | [],[],[],_=>rfl
 | [],[],_::_,h=>by simp at h
 | [],_::_,[],h=>by simp at h
 | [],_::_,_::_,_=>rfl
 |_::_,[],[],_=>rfl
 |_::_,[],_::_,h=>by simp at h
 |_::_,_::_,[],h=>by simp at h
 |x::xs,a::l,b::l',h=>by
  simp only[zf6z,List.cons.injEq]at h;simp only[BY,iA h.1,gQ xs l l' h.2]
theorem wH{x f g:Fa}(h1:f.kind=g.kind)(h2:f.goal=g.goal)(h3:f.terms.map T3=g.terms.map T3):JU x f=JU x g:=by
 unfold JU;rw[h1,h2,gQ _ _ _ h3]
theorem qG(efs:List Fa){f g:Fa}(h1:f.kind=g.kind)(h2:f.goal=g.goal)(h3:f.terms.map T3=g.terms.map T3):db efs f=db efs g:=by
 unfold db;simp only[wH h1 h2 h3]
theorem iT{f:Tm->Option Typ}(hf:∀a b,T3 a=T3 b->f a=f b)(pub:Bool):∀(ks:List Int) (l l':CI),l.map T3=l'.map T3->HA f pub ks l=HA f pub ks l'
 | [],[],[],_=>rfl
 |_,[],_::_,h=>by simp at h
 |_,_::_,[],h=>by simp at h
 | [],_::_,_::_,_=>rfl
 |_::_,[],[],_=>rfl
 |k::ks,a::l,b::l',h=>by
  simp only[zf6z,List.cons.injEq]at h;simp only[HA,hf a b h.1,iT hf pub ks l l' h.2]
theorem aT{efs:List Fa}{f:Tm->Option Typ}(hf:∀a b,T3 a=T3 b->f a=f b){rule:Int}{q q' key key':Tm}{u:Typ}(h:T3 q=T3 q')(hk:T3 key=T3 key'):CS efs f rule q key u=CS efs f rule q' key' u:=by
 unfold CS;rcases wM u h with ⟨e1,e2⟩|⟨p,l,l',e1,e2,e3⟩
 .rw[e1,e2]
 .rw[e1,e2];simp only[iT hf _ _ _ _ e3];congr 1;split
  .have he:=hH (wm hk) e3 p.data;unfold de;cases h1:FX (KD key) l p.data with
   |none =>
    rw[h1]at he;cases h2:FX (KD key') l' p.data with
    |none=>rfl
    |some t2=>rw[h2]at he;cases he
   |some t1 =>
    rw[h1]at he;cases h2:FX (KD key') l' p.data with
    |none=>rw[h2]at he;cases he
    |some t2 =>
     rw[h2]at he;simp only[zg2z,Option.some.injEq]at he;exact qG efs rfl rfl he
  .rfl
theorem vw{efs:List Fa}{f:Tm->Option Typ}(hf:∀a b,T3 a=T3 b->f a=f b){t t':Tm}(h:T3 t=T3 t'):Fd efs f t=Fd efs f t':=by
 obtain⟨_,h2,_,h4⟩:=JV h;unfold Fd;rw[h2]
 match ha:t.kids,hb:t'.kids with
 | [a],l' =>
  obtain⟨a',e,e1⟩:=iM h4 ha;rw[hb]at e;subst e;simp only[hf a a' e1]
 | [a,b],l' =>
  obtain⟨a',b',e,e1,e2⟩:=Xc h4 ha;rw[hb]at e;subst e;have hbo:IR f a b=IR f a' b':=by unfold IR;rw[hf a a' e1,hf b b' e2]
  have hlk:∀k r,My efs f k r a b=My efs f k r a' b':=λk r=>by
   unfold My;rw[hf b b' e2,hbo];simp only[aT hf e1 e2]
  have hse:Lc efs f a b=Lc efs f a' b':=by
   unfold Lc;rw[ST e2];congr 1;obtain⟨_,_,_,k4⟩:=JV e2
   match hc:b.kids,hd:b'.kids with
   | [c],l2 =>
    obtain⟨c',e,e3⟩:=iM k4 hc;rw[hd]at e;subst e;simp only[hf c c' e3,aT hf e1 e3]
   | [],[c']=>rw[hc,hd]at k4;simp at k4
   |_::_::_,[c']=>rw[hc,hd]at k4;simp at k4
   | [],[]=>rfl
   | [],_::_::_=>rfl
   |_::_::_,[]=>rfl
   |_::_::_,_::_::_=>rfl
  simp only[hf a a' e1,hf b b' e2,hlk,hse,hbo]
 | [],[]=>rfl
 | [],_::_=>rw[ha,hb]at h4;simp at h4
 |_::_::_::_,[]=>rfl
 |_::_::_::_,[_]=>rw[ha,hb]at h4;simp at h4
 |_::_::_::_,[_,_]=>rw[ha,hb]at h4;simp at h4
 |_::_::_::_,_::_::_::_=>rfl
theorem tG(tys:List Tyd)(efs:List Fa):∀(n:Nat) (a b:Tm),T3 a=T3 b->jU tys efs n a=jU tys efs n b
 |0,_,_,_=>rfl
 |n+1,a,b,h=>by
  show Yg tys efs (jU tys efs n) a=Yg tys efs (jU tys efs n) b;unfold Yg;rw[wD tys h,xB h,vw (tG tys efs n) h,(JV h).1]
theorem ty_er(tys:List Tyd)(efs:List Fa){a b:Tm}(h:T3 a=T3 b):ty tys efs a=ty tys efs b:=by
 have hs:a.size=b.size:=(Hm _ a (zf3z _)).symm.trans ((congrArg Tm.size h).trans (Hm _ b (zf3z _)));unfold ty;rw[hs];exact tG tys efs _ a b h
end Go.Abs.Q
namespace Go.Abs.Q
open Go.Proofs
attribute [local simp] J0 J5 fin M6 M0 Y2 b8
structure TyOk (tys:List Tyd) (efs:List Fa):Prop where
 tl:tys.length<=1000
 el:efs.length<=1000
 ty:∀x∈tys,vE x.t=0/\x.t.size<=1048576/\Fb x.u/\Qu x.u=0
 ef:∀f∈efs,Tm.sizes f.terms<=1048576/\∀t∈f.terms,vE t=0
def OneR(rule:Int)(t:Tm)(u:Typ)(J:Jdg):Prop :=
 (rule=14/\Mx t (bs [104,97,115,104])=true/\(∃a,t.kids=[a]/\T3 J.t=T3 a)/\u=w6 1) \/
 (rule=15/\Mx t (bs [112,107])=true/\(∃a,t.kids=[a]/\T3 J.t=T3 a)/\((J.u.kind=4/\u=⟨5,J.u.m,J.u.ps⟩)\/(J.u.kind≠4/\ON J.u=true/\u=w6 1))) \/
 (rule=22/\T3 J.t=T3 t/\TQ J.u u=true)
def TwoR(rule:Int)(t:Tm)(u:Typ)(J K:Jdg):Prop :=
 t.kind=3/\(∃a b,t.kids=[a,b]/\T3 J.t=T3 a/\T3 K.t=T3 b) /\
 (
  (rule=13/\t.name=bs [112,97,105,114]/\u=w6 (if (ON J.u&&ON K.u)=true then 1 else 6)) \/
  ((rule=17/\t.name=bs [101,110,99]\/rule=19/\t.name=bs [97,101,110,99]\/rule=21/\t.name=bs [115,105,103,110])/\ON J.u=true/\ON K.u=true/\u=w6 1))
def Um(rule:Int)(l:List Jdg)(k:Int)(x:Tm)(i:Int):Prop:=∃(j:Nat) (J:Jdg),i=(j:Nat)/\l[j]?=some J/\J.f=Kv/\T3 J.t=T3 x/\(rule=20->ON J.u=true)/\(rule≠20->J.u.kind=k/\J.u.ps=[])
def PartsR(rule:Int)(l:List Jdg):List Int->List Tm->List Int->Prop
 |k::ks,x::xs,i::is=>Um rule l k x i/\PartsR rule l ks xs is
 | [],[],[]=>True
 |_,_,_=>False
def wg(rule:Int)(t q key:Tm)(kind:Int):Prop :=
 t.kind=3/\((rule=16/\t.name=bs [101,110,99]/\kind=3/\t.kids=[q,key])\/(rule=20/\t.name=bs [115,105,103,110]/\kind=4/\t.kids=[q,key]) \/
  (rule=18/\t.name=bs [97,101,110,99]/\kind=4/\∃b,t.kids=[q,b]/\Mx b (bs [112,107])=true/\b.kids=[key]))
inductive Rt (A:PA) (tys:List Tyd) (efs:List Fa) (l:List Jdg):Jdg->Prop
 |base (x:Tyd) (t:Tm) (m:Bool×Bool):x∈tys->VD x.t t=true->vE t=0->Rt A tys efs l ⟨1,A.role,A.blk,A.bad,m,[],t,x.u,Kv⟩
 |eff (x f:Fa) (m:Bool×Bool):x∈efs->JU x f=true->f.kind=2->(∀t∈f.terms,vE t=0)->Rt A tys efs l ⟨1,A.role,A.blk,A.bad,m,[],zI,w6 0,f⟩
 |pub (t:Tm) (m:Bool×Bool):Qj t=true->vE t=0->Rt A tys efs l ⟨2,A.role,A.blk,A.bad,m,[],t,w6 1,Kv⟩
 |one (rule:Int) (t:Tm) (u:Typ) (m:Bool×Bool) (i:Nat) (J:Jdg):l[i]?=some J->J.f=Kv->vE t=0->Qu u=0->Fb u->OneR rule t u J->Rt A tys efs l ⟨rule,A.role,A.blk,A.bad,m,[(i:Nat)],t,u,Kv⟩
 |two (rule:Int) (t:Tm) (u:Typ) (m:Bool×Bool) (i k:Nat) (J K:Jdg):l[i]?=some J->J.f=Kv->l[k]?=some K->K.f=Kv->vE t=0->Qu u=0->Fb u->TwoR rule t u J K->Rt A tys efs l ⟨rule,A.role,A.blk,A.bad,m,[(i:Nat),(k:Nat)],t,u,Kv⟩
 |car (rule:Int) (t q key:Tm) (kind:Int) (m:Bool×Bool) (i:Nat) (J:Jdg) (p:Pyl) (parts:List Tm) (is es:List Int):wg rule t q key kind->vE t=0->l[i]?=some J->J.f=Kv->T3 J.t=T3 key->J.u.kind=kind->Ny J.u q=some (p,parts) ->
   PartsR rule l p.parts parts is->(if rule≠18/\0<=p.goal then ∃(k:Nat) (K:Jdg) (ts:List Tm),es=[(k:Int)]/\l[k]?=some K/\de p parts key=some ts/\JU K.f ⟨2,p.goal,(true,false),ts⟩=true else es=[]) ->
   Rt A tys efs l ⟨rule,A.role,A.blk,A.bad,m,(i:Int)::(is++es),t,w6 1,Kv⟩
def LA(t:Tm):Prop:=vE t=0/\t.size<=100
def HD(t:Tm):ByteArray:=⟨(Km t).toArray⟩
def FZ(D:PD)(t:Tm)(k:Int):Prop:=(k=-1/\ty D.tys D.efs t=none)\/∃(j:Nat) (J:Jdg),k=(j:Nat)/\D.l[j]?=some J/\J.f=Kv/\T3 J.t=T3 t/\ty D.tys D.efs t=some J.u
def LV(d1 d2 d3:ByteArray):ByteArray:=d1++bs [32]++d2++bs [32]++d3++bs [32]
def PreOk(A:PA)(pre:ByteArray)(a b:Nat):Prop:=∃d1 d2 d3:ByteArray,pre=LV d1 d2 d3/\d1.size<=100/\d2.size<=100/\d3.size<=100 /\
 pc Qf P6 [.int .i64 A.blk]=some (.str d1)/\pc Qf P6 [.int .i64 a]=some (.str d2)/\pc Qf P6 [.int .i64 b]=some (.str d3)
structure TInv (A:PA) (pre:ByteArray) (D:PD):Prop where
 ok:TyOk D.tys D.efs
 pk:PreOk A pre D.tys.length D.efs.length
 ti:∀(i:Nat) (k:Int),D.ti[i]?=some k->0<=k->∃(j:Nat) (J:Jdg) (x:Tyd),k=(j:Nat)/\D.l[j]?=some J/\D.tys[i]?=some x/\J.f=Kv/\T3 J.t=T3 x.t/\J.u=x.u
 ei:∀(i:Nat) (k:Int),D.ei[i]?=some k->0<=k->∃(j:Nat) (J:Jdg) (x:Fa),k=(j:Nat)/\D.l[j]?=some J/\D.efs[i]?=some x/\JU x J.f=true
 kn:∀x∈D.kn,∀t,LA t->x.1=pre++HD t->FZ D t x.2
 rt:∀(i:Nat) (J:Jdg),D.l[i]?=some J->Rt A D.tys D.efs (D.l.take i) J
def MM(pre:ByteArray)(D:PD)(t:Tm):Bool:=D.kn.any λx=>SC x.1 (pre++HD t)
def n7(U:List Tm)(pre:ByteArray)(D:PD):Nat:=D.l.length+20*(U.countP λt=>!MM pre D t)
structure Gro (pre:ByteArray) (n:Nat) (D D':PD):Prop where
 tys:D'.tys=D.tys
 efs:D'.efs=D.efs
 tv:D'.tv=D.tv
 ev:D'.ev=D.ev
 l:∃r,D'.l=D.l++r
 kn:∀x∈D'.kn,(∃y∈D.kn,y.1=x.1)\/∃s,LA s/\s.size<=n/\x.1=pre++HD s
theorem Gro.refl(pre:AD)(n:Nat)(D:PD):Gro pre n D D:=⟨rfl,rfl,rfl,rfl,⟨[],by simp⟩,λx hx=>.inl ⟨x,hx,rfl⟩⟩
theorem Gro.trans{pre:AD}{n m:Nat}{D D' D'':PD}(a:Gro pre n D D')(b:Gro pre m D' D''):Gro pre (max n m) D D'':=by
 obtain⟨r,hr⟩:=a.l;obtain⟨r',hr'⟩:=b.l;refine⟨b.tys.trans a.tys,b.efs.trans a.efs,b.tv.trans a.tv,b.ev.trans a.ev,⟨r++r',by rw[hr',hr,List.append_assoc]⟩,λx hx=>?_⟩;rcases b.kn x hx with ⟨y,hy,e⟩|⟨s,h1,h2,h3⟩
 .rcases a.kn y hy with ⟨z,hz,e'⟩|⟨s,h1,h2,h3⟩
  .exact .inl ⟨z,hz,e'.trans e⟩
  .exact .inr ⟨s,h1,by omega,e.symm.trans h3⟩
 .exact .inr ⟨s,h1,by omega,h3⟩
theorem Gro.mono{pre:AD}{n m:Nat}{D D':PD}(a:Gro pre n D D')(h:n<=m):Gro pre m D D' :=
 ⟨a.tys,a.efs,a.tv,a.ev,a.l,λx hx=>by
  rcases a.kn x hx with h1|⟨s,h1,h2,h3⟩
  .exact .inl h1
  .exact .inr ⟨s,h1,by omega,h3⟩⟩
theorem Gro.get{pre:AD}{n:Nat}{D D':PD}(a:Gro pre n D D'){j:Nat}{J:Jdg}(h:D.l[j]?=some J):D'.l[j]?=some J:=by
 obtain⟨r,hr⟩:=a.l;rw[hr,zf1z (zf0z.1 h).1];exact h
theorem Gro.res{pre:AD}{n:Nat}{D D':PD}(a:Gro pre n D D'){t:Tm}{k:Int}(h:FZ D t k):FZ D' t k:=by
 unfold FZ at *
 rw[a.tys,a.efs];rcases h with h|⟨j,J,h1,h2,h3⟩
 .exact .inl h
 .exact .inr ⟨j,J,h1,a.get h2,h3⟩
theorem FZ.er{D:PD}{t t':Tm}{k:Int}(h:FZ D t k)(e:T3 t=T3 t'):FZ D t' k:=by
 unfold FZ at *
 rw[←ty_er _ _ e,←e];exact h
theorem TInv.add{A:PA}{pre:AD}{D:PD}(I:TInv A pre D)(lv:AV){j:Jdg}(hj:Rt A D.tys D.efs D.l j):TInv A pre (D.add lv j)/\Gro pre 0 D (D.add lv j):=by
 have G:Gro pre 0 D (D.add lv j):=⟨rfl,rfl,rfl,rfl,⟨[j],rfl⟩,λx hx=>.inl ⟨x,hx,rfl⟩⟩;refine⟨⟨I.ok,I.pk,λi k h h0=>?_,λi k h h0=>?_,λx hx t ht e=>G.res (I.kn x hx t ht e),λi J h=>?_⟩,G⟩
 .obtain⟨n,J,x,h1,h2,h3⟩:=I.ti i k h h0;exact⟨n,J,x,h1,G.get h2,h3⟩
 .obtain⟨n,J,x,h1,h2,h3⟩:=I.ei i k h h0;exact⟨n,J,x,h1,G.get h2,h3⟩
 .show Rt A D.tys D.efs ((D.l++[j]).take i) J;have h':(D.l++[j])[i]?=some J:=h;by_cases hi:i<D.l.length
  .rw[List.take_append_of_le_length (by omega)];rw[zf1z hi]at h';exact I.rt i J h'
  .have G9:=(zf0z.1 h').1;simp only[zf9z,zf8z]at G9;have e:i=D.l.length:=by omega
   subst e;rw[zf5z (zf3z _),Nat.sub_self]at h';simp only[List.getElem?_cons_zero,Option.some.injEq]at h';subst h';rw[List.take_left];exact hj
theorem EJ(U:CI)(pre:AD)(D:PD)(lv:AV)(j:Jdg):n7 U pre (D.add lv j)=n7 U pre D+1:=by
 unfold n7;have:∀t,MM pre (D.add lv j) t=MM pre D t:=λ_=>rfl;simp only[this];simp only[PD.add,zf9z,zf8z];omega
theorem PD.add_get(D:PD)(lv:AV)(j:Jdg):(D.add lv j).l[D.l.length]?=some j:=by simp[PD.add]
theorem Rt.props{A:PA}{tys:List Tyd}{efs:List Fa}{l:List Jdg}{J:Jdg}(ok:TyOk tys efs)(h:Rt A tys efs l J)(hf:J.f=Kv):vE J.t=0/\Qu J.u=0/\Fb J.u:=by
 have s1:Qu (w6 1)=0:=by decide
 cases h with
 |base x t m h1 h2 h3=>exact⟨h3,(ok.ty x h1).2.2.2,(ok.ty x h1).2.2.1⟩
 |eff x f m h1 h2 h3 h4 =>
  simp only at hf;rw[hf]at h3;cases h3
 |pub t m h1 h2=>exact⟨h2,s1,Fs 1⟩
 |one rule t u m i J h1 h2 h3 h4 h5 h6=>exact⟨h3,h4,h5⟩
 |two rule t u m i k J K h1 h2 h3 h4 h5 h6 h7 h8=>exact⟨h5,h6,h7⟩
 |car rule t q key kind m i J p parts is es h1 h2=>exact⟨h2,s1,Fs 1⟩
theorem TInv.props{A:PA}{pre:AD}{D:PD}(I:TInv A pre D){j:Nat}{J:Jdg}(h:D.l[j]?=some J)(hf:J.f=Kv):vE J.t=0/\Qu J.u=0/\Fb J.u:=(I.rt j J h).props I.ok hf
theorem MH(A:PA)(pre:AD)(D:PD)(h:AH)(H:PrH A D h)(I:TInv A pre D)(t:Tm)(k:Int)(hr:FZ D t k) :
  rc Qf K7 [.ptr A.p 0,.int .i64 k] h=some (.bool (NB (ty D.tys D.efs t)),h):=by
 suffices hq:∃v h',rc Qf K7 [.ptr A.p 0,.int .i64 k] h=some (v,h')/\v=.bool (NB (ty D.tys D.efs t))/\h'=h by
  obtain⟨v,h',h1,rfl,rfl⟩:=hq;exact h1
 obtain⟨bx,F⟩:=h;have hP:=H.bp;simp only[J8]at hP;rcases hr with ⟨rfl,hn⟩|⟨j,J,rfl,hj,hf,he,hu⟩
 .rw[hn];refine Dc Cw (by simp[O7]) λfr hl ha=>?_;have h0:=ha 0;have h1:=ha 1;clear ha;simp[O7]at hl h0 h1;simp[O7,hl,h0,h1,hP,NB]
 .rw[hu];have hO:=IZ (rX J.u (I.props hj hf).2.2);have hx:(D.l.map Mc)[j]?=some (Mc J):=by rw[zf2z,hj];rfl
  have hjl:=(zf0z.1 hj).1;have hxg:∀hh:j<D.l.length,D.l[j]=J:=λhh=>by rw[zf7z hh]at hj;exact Option.some.inj hj
  have h0:(0:Int)<=(j:Int):=by omega
  rcases q9 H.ll hx with hia|⟨q,hia,hq⟩
  .simp only at hia;refine Dc Cw (by simp[O7]) λfr hl ha=>?_;have h0:=ha 0;have h1:=ha 1;clear ha;simp[O7]at hl h0 h1;simp[O7,hl,h0,h1,hP,NB,hia,hO,Fz,h0]
  .simp only at hia hq;refine Dc Cw (by simp[O7]) λfr hl ha=>?_;have h0:=ha 0;have h1:=ha 1;clear ha;simp[O7]at hl h0 h1;simp[O7,hl,h0,h1,hP,NB,hia,hq,hO,Fz,h0,hjl,hxg]
theorem GR(A:PA)(pre:AD)(U:CI)(D:PD)(h:AH)(H:PrH A D h)(I:TInv A pre D)(rule:Int)(t:Tm)(u:Typ)(av:AV)(args:List Int)(ha:He false 1 (args.map (AV.int .i64)) av h)(hap:Bg D.lv av)(hl:n7 U pre D<=1000000)
  (hR:∀m,Rt A D.tys D.efs D.l ⟨rule,A.role,A.blk,A.bad,m,args,t,u,Kv⟩) (hty:ty D.tys D.efs t=some u) :
  ∃v h',rc Qf G4 [.ptr A.p 0,.int .i64 rule,U6 t,HG u,av] h=some (v,h')/\∃(k:Int) (D':PD),v=.int .i64 k/\PrH A D' h'/\Frm A D.lv h D'.lv h'/\TInv A pre D'/\Gro pre 0 D D'/\n7 U pre D'=n7 U pre D+1/\FZ D' t k:=by
 have hb:D.l.length<=n7 U pre D:=by unfold n7;omega
 obtain⟨m,v,h',h1,h2,lv,h3,h4⟩:=Ig A D h H rule t u av args ha hap (by omega);obtain⟨i1,i2⟩:=I.add lv (hR m);exact⟨v,h',h1,_,_,h2,h3,h4,i1,i2,EJ _ _ _ _ _,.inr ⟨_,_,rfl,PD.add_get _ _ _,rfl,rfl,hty⟩⟩
def Nl(A:PA)(pre:ByteArray)(U:List Tm)(n c:Nat)(t:Tm)(D:PD)(h:AH)(v:AV)(h':AH):Prop :=
 ∃(k:Int) (D':PD),v=.int .i64 k/\PrH A D' h'/\Frm A D.lv h D'.lv h'/\TInv A pre D'/\Gro pre n D D'/\n7 U pre D'<=n7 U pre D+c/\FZ D' t k
def Rf(A:PA)(pre:ByteArray)(U:List Tm)(n:Nat):Prop:=∀(t:Tm) (D:PD) (h:AH),t∈U->t.size<=n->LA t->PrH A D h->TInv A pre D->n7 U pre D+200*n<=1000000 ->
 ∃v h',rc Qf H8 [.ptr A.p 0,U6 t] h=some (v,h')/\Nl A pre U t.size 1 t D h v h'
def ms(U:List Tm):Prop:=∀t∈U,∀x∈t.kids,x∈U
theorem Uz:∀{l:CI} {x:Tm},x∈l->Hj x<=Gr l
 |t::l,x,hx=>by
  unfold Gr;rcases List.mem_cons.1 hx with rfl|hx
  .omega
  .have:=Uz hx;omega
theorem Kl{t:Tm}(h:vE t=0):EL t=0/\Ov t=0:=by
 unfold vE at h;have h1:EL t=0:=by
  apply Classical.byContradiction;intro hc;rw[if_pos hc]at h;exact hc h
 rw[if_neg (by simp[h1])]at h;exact⟨h1,h⟩
theorem FV{t:Tm}(h:EL t=0):U9 t=0/\t.size<=400/\Hj t<=40:=by
 unfold EL at h;have h1:U9 t=0:=by
  apply Classical.byContradiction;intro hc;rw[if_pos hc]at h;exact hc h
 rw[if_neg (by simp[h1])]at h;by_cases hc:400<t.size\/40<Hj t
 .rw[if_pos hc]at h;cases h
 .exact⟨h1,by omega,by omega⟩
theorem vE_kid{t x:Tm}(h:vE t=0)(hk:t.kind=3)(hx:x∈t.kids):vE x=0/\x.size<t.size:=by
 have hs:=Tm.size_le hx;have DB:=t.kids_size;obtain⟨h1,h2⟩:=Kl h;obtain⟨h3,h4,h5⟩:=FV h1;have h6:=(NK h2 hk).2.2 x hx;have h7:U9 x=0:=by
  obtain⟨k,nm,s,m,l⟩:=t;exact JK (Kd h3).2.1 x hx
 have h8:Hj x<=Hj t:=by
  obtain⟨k,nm,s,m,l⟩:=t;have:=Uz hx;simp only[Tm.kids]at this;have e:Hj (.mk k nm s m l)=Gr l+1:=by rw[Hj]
  omega
 refine⟨?_,by omega⟩;unfold vE;have h9:EL x=0:=by
  unfold EL;rw[if_neg (by simp[h7]),if_neg (by omega)]
 rw[if_neg (by simp[h9])];exact h6
theorem LA.kid{t x:Tm}(h:LA t)(hk:t.kind=3)(hx:x∈t.kids):LA x/\x.size<t.size:=by
 obtain⟨h1,h2⟩:=vE_kid h.1 hk hx;exact⟨⟨h1,by have:=h.2;omega⟩,h2⟩
theorem LA.th{t:Tm}(h:LA t):Ov t=0:=(Kl h.1).2
theorem Frm.box{A:PA}{D:PD}{lv':AV}{bx bx':List (List AV)}{F F':List Fam}{X:List (List AV)}(H:PrH A D ⟨bx,F⟩)(K:Frm A D.lv ⟨bx++X,F⟩ lv' ⟨bx',F'⟩){j:Nat}(h1:bx.length<=j)(h2:j<bx.length+X.length):bx'[j]?=X[j-bx.length]?:=by
 have lp:=J4 H.bp;have lm:=J4 H.bm;simp only at lp lm;have:=K.bx j (by omega) (by omega) (by simp;omega);simp only at this;rw[this,zf5z h1]
end Go.Abs.Q
namespace Go.Abs.Q
open Go.Proofs
attribute [local simp] J0 J5 fin M6 M0 Y2 b8
set_option maxHeartbeats 1000000 in
theorem xa(A:PA)(pre:AD)(U:CI)(hU:ms U)(n:Nat)(IH:Rf A pre U n)(t:Tm)(D:PD)(h:AH)(ht:t∈U)(hn:t.size<=n+1)(T9:LA t)(H:PrH A D h)(I:TInv A pre D)(hb:n7 U pre D+200*(n+1)<=1000000)
  (hp:Mx t (bs [112,97,105,114])=true) (hc:ty D.tys D.efs t=Fd D.efs (ty D.tys D.efs) t) :
  ∃v h',rc Qf X3 [.ptr A.p 0,U6 t] h=some (v,h')/\Nl A pre U (t.size-1) 3 t D h v h':=by
 obtain⟨hk,hnm⟩:=Gd.1 hp;have hth:=T9.th;obtain⟨a,b,e,ea,eb⟩:=ME hth hp;obtain⟨oa,sa⟩:=T9.kid hk (x:=a) (by rw[e];simp);obtain⟨ob,sb⟩:=T9.kid hk (x:=b) (by rw[e];simp);have n0:MB (G8 t.kids) 0=some (U6 a):=by rw[e];rfl
 have n1:MB (G8 t.kids) 1=some (U6 b):=by rw[e];rfl
 have o9:∀f,Fd D.efs f t=(match f a with|some u=>(match f b with|some v=>some (w6 (if (ON u&&ON v)=true then 1 else 6))|none=>none)|none=>none):=λf=>by
  unfold Fd;rw[e];simp only[hnm,if_true];cases f a<;>cases f b<;>rfl
 rw[o9]at hc;obtain⟨bx,F⟩:=h;have hP:=H.bp;simp only[J8]at hP;have lp:=J4 hP;obtain⟨v1,⟨bx1,F1⟩,hc1,k1,D1,rfl,H1,K1,I1,G1,b1,r1⟩:=IH a D ⟨bx++[[.int .i64 t.kind,.str t.name,.int .i64 t.sort,sl t.cm 4 (G8 t.kids)]],F⟩ (hU t ht a (by rw[e];simp)) (by omega) oa (H.more _) I (by omega);have q1:bx1[bx.length]?=some [.int .i64 t.kind,.str t.name,.int .i64 t.sort,sl t.cm 4 (G8 t.kids)]:=(Frm.box H K1 (zf3z _) (by simp)).trans (by simp);by_cases hk1:k1<0
 .have Lz:ty D.tys D.efs a=none:=by
   rcases r1 with ⟨_,hn⟩|⟨j,J,e1,_⟩
   .rw[G1.tys,G1.efs]at hn;exact hn
   .omega
  refine Dc m7 (by simp[I8]) λfr hl ha=>?_;have h0:=ha 0;have h1:=ha 1;clear ha;simp[I8]at hl h0 h1;simp[I8,hl,h0,h1,n0,hc1,hk1];exact⟨-1,D1,rfl,H1,(Frm.more _ _ _ _ _).trans K1,I1,G1.mono (by omega),by omega,.inl ⟨rfl,by rw[G1.tys,G1.efs,hc,Lz]⟩⟩
 .obtain⟨v2,⟨bx2,F2⟩,hc2,k2,D2,rfl,H2,K2,I2,G2,b2,r2⟩:=IH b D1 ⟨bx1,F1⟩ (hU t ht b (by rw[e];simp)) (by omega) ob H1 I1 (by omega);have l1:=J4 q1;have lp1:=J4 H1.bp;have lm1:=J4 H1.bm;have lm:=J4 H.bm;simp only at lp1 lm1 lm;have q2:bx2[bx.length]?=some [.int .i64 t.kind,.str t.name,.int .i64 t.sort,sl t.cm 4 (G8 t.kids)]:=(K2.bx _ (by omega) (by omega) l1).trans q1;by_cases hk2:k2<0
  .have Lz:ty D.tys D.efs b=none:=by
    rcases r2 with ⟨_,hn⟩|⟨j,J,e1,_⟩
    .rw[G2.tys,G2.efs,G1.tys,G1.efs]at hn;exact hn
    .omega
   refine Dc m7 (by simp[I8]) λfr hl ha=>?_;have h0:=ha 0;have h1:=ha 1;clear ha;simp[I8]at hl h0 h1;simp[I8,hl,h0,h1,n0,n1,hc1,hk1,hc2,hk2,q1];exact⟨-1,D2,rfl,H2,((Frm.more _ _ _ _ _).trans K1).trans K2,I2,(G1.trans G2).mono (by omega),by omega,.inl ⟨rfl,by rw[G2.tys,G2.efs,G1.tys,G1.efs,hc,Lz];cases ty D.tys D.efs a<;>rfl⟩⟩
  .have r1':=G2.res r1;obtain⟨j1,J1,rfl,hj1,hf1,he1,hu1⟩:∃(j:Nat) (J:Jdg),k1=(j:Nat)/\D2.l[j]?=some J/\J.f=Kv/\T3 J.t=T3 a/\ty D2.tys D2.efs a=some J.u:=by
    rcases r1' with ⟨e,_⟩|h
    .omega
    .exact h
   obtain⟨j2,J2,rfl,hj2,hf2,he2,hu2⟩:∃(j:Nat) (J:Jdg),k2=(j:Nat)/\D2.l[j]?=some J/\J.f=Kv/\T3 J.t=T3 b/\ty D2.tys D2.efs b=some J.u:=by
    rcases r2 with ⟨e,_⟩|h
    .omega
    .exact h
   have ho1:=λX=>MH A pre D2 ⟨bx2++X,F2⟩ (H2.more X) I2 a _ r1';have ho2:=λX=>MH A pre D2 ⟨bx2++X,F2⟩ (H2.more X) I2 b _ r2;rw[hu1]at ho1;rw[hu2]at ho2;simp only[NB]at ho1 ho2;have hty:∀x:Typ,x=w6 (if (ON J1.u&&ON J2.u)=true then 1 else 6)->ty D2.tys D2.efs t=some x:=λx hx=>by
    rw[G2.tys,G2.efs,G1.tys,G1.efs]at hu1 hu2 ⊢;rw[hc,hu1,hu2,hx]
   have hR:∀(x:Typ) (m:Bool×Bool),x=w6 (if (ON J1.u&&ON J2.u)=true then 1 else 6)->Rt A D2.tys D2.efs D2.l ⟨13,A.role,A.blk,A.bad,m,[(j1:Int),(j2:Int)],t,x,Kv⟩:=λx m hx =>
    .two 13 t x m j1 j2 J1 J2 hj1 hf1 hj2 hf2 T9.1 (by subst hx;split<;>decide) (by subst hx;exact Fs _) ⟨hk,⟨a,b,e,he1,he2⟩,.inl ⟨rfl,hnm,hx⟩⟩
   have fin2:∀X,Frm A D.lv ⟨bx,F⟩ D2.lv ⟨bx2++X,F2⟩:=λX=>(((Frm.more _ _ _ _ _).trans K1).trans K2).trans (Frm.more _ _ _ _ _);have hs6:=IZ (FU 6);have hs1:=IZ (FU 1);have q2':∀X,(bx2++X)[bx.length]?=some [.int .i64 t.kind,.str t.name,.int .i64 t.sort,sl t.cm 4 (G8 t.kids)]:=λX=>(zf1z (J4 q2)).trans q2;by_cases ho:(ON J1.u&&ON J2.u)=true
   .rw[Bool.and_eq_true]at ho;rw[ho.1]at ho1;rw[ho.2]at ho2;obtain⟨v3,⟨bx3,F3⟩,hj,k3,D3,rfl,H3,K3,I3,G3,b3,r3⟩:=GR A pre U D2 ⟨bx2++[[.int .i64 (w6 1).kind,sl (w6 1).m 4 ((w6 1).ps.map Dp)]],F2⟩ (H2.more _) I2 13 t (w6 1) (sl (true,true) 1 [.int .i64 j1,.int .i64 j2]) [(j1:Int),(j2:Int)] (.inl ⟨true,rfl⟩) (CQ _ _ _ _) (by omega) (λm=>hR _ m (by rw[ho.1,ho.2];rfl)) (hty _ (by rw[ho.1,ho.2];rfl));refine Dc m7 (by simp[I8]) λfr hl ha=>?_;have h0:=ha 0;have h1:=ha 1;clear ha;simp[I8]at hl h0 h1;simp[I8,hl,h0,h1,n0,n1,hc1,hk1,hc2,hk2,q1,q2',ho1,ho2,hs6,hs1,hj,B2];exact⟨k3,D3,rfl,H3,(fin2 _).trans K3,I3,((G1.trans G2).trans G3).mono (by omega),by omega,r3⟩
   .obtain⟨v3,⟨bx3,F3⟩,hj,k3,D3,rfl,H3,K3,I3,G3,b3,r3⟩:=GR A pre U D2 ⟨bx2++[[.int .i64 (w6 6).kind,sl (w6 6).m 4 ((w6 6).ps.map Dp)]],F2⟩ (H2.more _) I2 13 t (w6 6) (sl (true,true) 1 [.int .i64 j1,.int .i64 j2]) [(j1:Int),(j2:Int)] (.inl ⟨true,rfl⟩) (CQ _ _ _ _) (by omega) (λm=>hR _ m (by rw[if_neg ho])) (hty _ (by rw[if_neg ho]));cases o1:ON J1.u with
    |false =>
     rw[o1]at ho1;refine Dc m7 (by simp[I8]) λfr hl ha=>?_;have h0:=ha 0;have h1:=ha 1;clear ha;simp[I8]at hl h0 h1;simp[I8,hl,h0,h1,n0,n1,hc1,hk1,hc2,hk2,q1,q2',ho1,ho2,hs6,hs1,hj,B2];exact⟨k3,D3,rfl,H3,(fin2 _).trans K3,I3,((G1.trans G2).trans G3).mono (by omega),by omega,r3⟩
    |true =>
     rw[o1]at ho1;have o2:ON J2.u=false:=by simpa[o1]using ho
     rw[o2]at ho2;refine Dc m7 (by simp[I8]) λfr hl ha=>?_;have h0:=ha 0;have h1:=ha 1;clear ha;simp[I8]at hl h0 h1;simp[I8,hl,h0,h1,n0,n1,hc1,hk1,hc2,hk2,q1,q2',ho1,ho2,hs6,hs1,hj,B2];exact⟨k3,D3,rfl,H3,(fin2 _).trans K3,I3,((G1.trans G2).trans G3).mono (by omega),by omega,r3⟩
end Go.Abs.Q
namespace Go.Abs.Q
open Go.Proofs
attribute [local simp] J0 J5 fin M6 M0 Y2 b8
theorem FZ.neg{D:PD}{t:Tm}{k:Int}(h:FZ D t k)(hk:k<0):k=-1/\ty D.tys D.efs t=none:=by
 rcases h with h|⟨j,J,e,_⟩
 .exact h
 .omega
theorem FZ.pos{D:PD}{t:Tm}{k:Int}(h:FZ D t k)(hk:¬k<0):∃(j:Nat) (J:Jdg),k=(j:Nat)/\D.l[j]?=some J/\J.f=Kv/\T3 J.t=T3 t/\ty D.tys D.efs t=some J.u:=by
 rcases h with ⟨e,_⟩|h
 .omega
 .exact h
theorem yz{u:Typ}(h:Qu u=0)(hk:u.kind=4):Qu ⟨5,u.m,u.ps⟩=0:=by
 unfold Qu at *
 rw[hk]at h;simpa[XV]using h
set_option maxHeartbeats 1000000 in
theorem rc_key(A:PA)(pre:AD)(U:CI)(hU:ms U)(n:Nat)(IH:Rf A pre U n)(t:Tm)(D:PD)(h:AH)(ht:t∈U)(hn:t.size<=n+1)(T9:LA t)(H:PrH A D h)(I:TInv A pre D)(hb:n7 U pre D+200*(n+1)<=1000000)
  (hp:Mx t (bs [112,107])=true) (hc:ty D.tys D.efs t=Fd D.efs (ty D.tys D.efs) t) :
  ∃v h',rc Qf Z1 [.ptr A.p 0,U6 t] h=some (v,h')/\Nl A pre U (t.size-1) 2 t D h v h':=by
 obtain⟨hk,hnm⟩:=Gd.1 hp;have hth:=T9.th;obtain⟨h1,_,_⟩:=NK hth hk;obtain⟨a,e⟩:=Xf (.inl hnm) h1;obtain⟨oa,sa⟩:=T9.kid hk (x:=a) (by rw[e];simp);have n0:MB (G8 t.kids) 0=some (U6 a):=by rw[e];rfl
 have o9:∀f,Fd D.efs f t=(match f a with|some u=>if u.kind=4 then some ⟨5,u.m,u.ps⟩else if ON u=true then some (w6 1)else none|none=>none):=λf=>by
  unfold Fd;rw[e];simp only;rw[if_neg (by rw[hnm];decide),if_pos hnm];cases f a<;>rfl
 rw[o9]at hc;obtain⟨bx,F⟩:=h;have hP:=H.bp;simp only[J8]at hP;have lp:=J4 hP;obtain⟨v1,⟨bx1,F1⟩,hc1,k1,D1,rfl,H1,K1,I1,G1,b1,r1⟩:=IH a D ⟨bx++[[.int .i64 t.kind,.str t.name,.int .i64 t.sort,sl t.cm 4 (G8 t.kids)]],F⟩ (hU t ht a (by rw[e];simp)) (by omega) oa (H.more _) I (by omega);have q1:bx1[bx.length]?=some [.int .i64 t.kind,.str t.name,.int .i64 t.sort,sl t.cm 4 (G8 t.kids)]:=(Frm.box H K1 (zf3z _) (by simp)).trans (by simp);by_cases hk1:k1<0
 .obtain⟨_,Lz⟩:=r1.neg hk1;rw[G1.tys,G1.efs]at Lz;refine Dc V0 (by simp[E9]) λfr hl ha=>?_;have h0:=ha 0;have h1:=ha 1;clear ha;simp[E9]at hl h0 h1;simp[E9,hl,h0,h1,n0,hc1,hk1];exact⟨-1,D1,rfl,H1,(Frm.more _ _ _ _ _).trans K1,I1,G1.mono (by omega),by omega,.inl ⟨rfl,by rw[G1.tys,G1.efs,hc,Lz]⟩⟩
 .have ho1:=MH A pre D1 ⟨bx1,F1⟩ H1 I1 a _ r1;obtain⟨j1,J1,rfl,hj1,hf1,he1,hu1⟩:=r1.pos hk1;rw[hu1]at ho1;simp only[NB]at ho1;obtain⟨w1,w2,w3⟩:=I1.props hj1 hf1;have hc':=hc;rw[←G1.tys,←G1.efs]at hc';rw[hu1]at hc';simp only at hc';have hP1:=H1.bp;simp only[J8]at hP1;have hs1:=IZ (FU 1);have hx:(D1.l.map Mc)[j1]?=some (Mc J1):=by rw[zf2z,hj1];rfl
  have hjl:=(zf0z.1 hj1).1;have hxg:∀hh:j1<D1.l.length,D1.l[j1]=J1:=λhh=>by rw[zf7z hh]at hj1;exact Option.some.inj hj1
  have fin1:Frm A D.lv ⟨bx,F⟩ D1.lv ⟨bx1,F1⟩:=(Frm.more _ _ _ _ _).trans K1;have hk10:¬((j1:Int)<0):=by omega
  have hR:∀(x:Typ) (m:Bool×Bool),Qu x=0->Fb x->((J1.u.kind=4/\x=⟨5,J1.u.m,J1.u.ps⟩)\/(J1.u.kind≠4/\ON J1.u=true/\x=w6 1))->Rt A D1.tys D1.efs D1.l ⟨15,A.role,A.blk,A.bad,m,[(j1:Int)],t,x,Kv⟩:=λx m y1 y2 y3 =>
   .one 15 t x m j1 J1 hj1 hf1 T9.1 y1 y2 (.inr (.inl ⟨rfl,hp,⟨a,e,he1⟩,y3⟩))
  by_cases hk4:J1.u.kind=4
  .rw[if_pos hk4]at hc';have hv:AV.agg [.int .i64 5,sl J1.u.m 4 (J1.u.ps.map Dp)]=HG ⟨5,J1.u.m,J1.u.ps⟩:=rfl;obtain⟨v3,⟨bx3,F3⟩,hj,k3,D3,rfl,H3,K3,I3,G3,b3,r3⟩:=GR A pre U D1 ⟨bx1,F1⟩ H1 I1 15 t ⟨5,J1.u.m,J1.u.ps⟩ (sl (true,true) 1 [.int .i64 j1]) [(j1:Int)] (.inl ⟨true,rfl⟩) (CQ _ _ _ _) (by omega) (λm=>hR _ m (yz w2 hk4) w3 (.inl ⟨hk4,rfl⟩)) hc';rcases q9 H1.ll hx with hia|⟨q,hia,hq⟩
   .simp only at hia;refine Dc V0 (by simp[E9]) λfr hl ha=>?_;have h0:=ha 0;have h1:=ha 1;clear ha;simp[E9]at hl h0 h1;simp[E9,hl,h0,h1,n0,hc1,hk10,q1,hP1,hia,Fz,hk4,B6,C9,hv,hj,B2];exact⟨k3,D3,rfl,H3,fin1.trans K3,I3,(G1.trans G3).mono (by omega),by omega,r3⟩
   .simp only at hia hq;refine Dc V0 (by simp[E9]) λfr hl ha=>?_;have h0:=ha 0;have h1:=ha 1;clear ha;simp[E9]at hl h0 h1;simp[E9,hl,h0,h1,n0,hc1,hk10,q1,hP1,hia,hq,hjl,hxg,Fz,hk4,B6,C9,hv,hj,B2];exact⟨k3,D3,rfl,H3,fin1.trans K3,I3,(G1.trans G3).mono (by omega),by omega,r3⟩
  .rw[if_neg hk4]at hc';cases ho:ON J1.u with
   |true =>
    rw[if_pos ho]at hc';rw[ho]at ho1;obtain⟨v3,⟨bx3,F3⟩,hj,k3,D3,rfl,H3,K3,I3,G3,b3,r3⟩:=GR A pre U D1 ⟨bx1,F1⟩ H1 I1 15 t (w6 1) (sl (true,true) 1 [.int .i64 j1]) [(j1:Int)] (.inl ⟨true,rfl⟩) (CQ _ _ _ _) (by omega) (λm=>hR _ m (by decide) (Fs _) (.inr ⟨hk4,ho,rfl⟩)) hc';rcases q9 H1.ll hx with hia|⟨q,hia,hq⟩
    .simp only at hia;refine Dc V0 (by simp[E9]) λfr hl ha=>?_;have h0:=ha 0;have h1:=ha 1;clear ha;simp[E9]at hl h0 h1;simp[E9,hl,h0,h1,n0,hc1,hk10,q1,hP1,hia,Fz,hk4,ho1,hs1,hj,B2];exact⟨k3,D3,rfl,H3,fin1.trans K3,I3,(G1.trans G3).mono (by omega),by omega,r3⟩
    .simp only at hia hq;refine Dc V0 (by simp[E9]) λfr hl ha=>?_;have h0:=ha 0;have h1:=ha 1;clear ha;simp[E9]at hl h0 h1;simp[E9,hl,h0,h1,n0,hc1,hk10,q1,hP1,hia,hq,hjl,hxg,Fz,hk4,ho1,hs1,hj,B2];exact⟨k3,D3,rfl,H3,fin1.trans K3,I3,(G1.trans G3).mono (by omega),by omega,r3⟩
   |false =>
    rw[if_neg (by simp[ho])]at hc';rw[ho]at ho1;rcases q9 H1.ll hx with hia|⟨q,hia,hq⟩
    .simp only at hia;refine Dc V0 (by simp[E9]) λfr hl ha=>?_;have h0:=ha 0;have h1:=ha 1;clear ha;simp[E9]at hl h0 h1;simp[E9,hl,h0,h1,n0,hc1,hk10,q1,hP1,hia,Fz,hk4,ho1];exact⟨-1,D1,rfl,H1,fin1,I1,G1.mono (by omega),by omega,.inl ⟨rfl,hc'⟩⟩
    .simp only at hia hq;refine Dc V0 (by simp[E9]) λfr hl ha=>?_;have h0:=ha 0;have h1:=ha 1;clear ha;simp[E9]at hl h0 h1;simp[E9,hl,h0,h1,n0,hc1,hk10,q1,hP1,hia,hq,hjl,hxg,Fz,hk4,ho1];exact⟨-1,D1,rfl,H1,fin1,I1,G1.mono (by omega),by omega,.inl ⟨rfl,hc'⟩⟩
end Go.Abs.Q
namespace Go.Abs.Q
open Go.Proofs
attribute [local simp] J0 J5 fin M6 M0 Y2 b8
set_option maxHeartbeats 1000000 in
theorem Oa(A:PA)(pre:AD)(U:CI)(hU:ms U)(n:Nat)(IH:Rf A pre U n)(rule:Int)(t a b:Tm)(D:PD)(h:AH)(ht:t∈U)(hn:t.size<=n+1)(T9:LA t)(H:PrH A D h)(I:TInv A pre D)(hb:n7 U pre D+200*n+150<=1000000)
  (hk:t.kind=3) (e:t.kids=[a,b]) (hru:rule=17/\t.name=bs [101,110,99]\/rule=19/\t.name=bs [97,101,110,99]\/rule=21/\t.name=bs [115,105,103,110]) (hc:ty D.tys D.efs t=IR (ty D.tys D.efs) a b) :
  ∃v h',rc Qf T2 [.ptr A.p 0,.int .i64 rule,U6 t] h=some (v,h')/\Nl A pre U (t.size-1) 3 t D h v h':=by
 have hth:=T9.th;obtain⟨oa,sa⟩:=T9.kid hk (x:=a) (by rw[e];simp);obtain⟨ob,sb⟩:=T9.kid hk (x:=b) (by rw[e];simp);have n0:MB (G8 t.kids) 0=some (U6 a):=by rw[e];rfl
 have n1:MB (G8 t.kids) 1=some (U6 b):=by rw[e];rfl
 unfold IR at hc;obtain⟨bx,F⟩:=h;have hP:=H.bp;simp only[J8]at hP;have lp:=J4 hP;obtain⟨v1,⟨bx1,F1⟩,hc1,k1,D1,rfl,H1,K1,I1,G1,b1,r1⟩:=IH a D ⟨bx++[[.int .i64 t.kind,.str t.name,.int .i64 t.sort,sl t.cm 4 (G8 t.kids)]],F⟩ (hU t ht a (by rw[e];simp)) (by omega) oa (H.more _) I (by omega);have q1:bx1[bx.length]?=some [.int .i64 t.kind,.str t.name,.int .i64 t.sort,sl t.cm 4 (G8 t.kids)]:=(Frm.box H K1 (zf3z _) (by simp)).trans (by simp);have ho1:=MH A pre D1 ⟨bx1,F1⟩ H1 I1 a _ r1;have fin1:Frm A D.lv ⟨bx,F⟩ D1.lv ⟨bx1,F1⟩:=(Frm.more _ _ _ _ _).trans K1;cases o1:NB (ty D1.tys D1.efs a)with
 |false =>
  rw[o1]at ho1;rw[G1.tys,G1.efs]at o1;rw[o1,if_neg (by simp)]at hc;refine Dc Cv (by simp[O6]) λfr hl ha=>?_;have h0:=ha 0;have h1:=ha 1;have h2:=ha 2;clear ha;simp[O6]at hl h0 h1 h2;simp[O6,hl,h0,h1,h2,n0,hc1,ho1];exact⟨-1,D1,rfl,H1,fin1,I1,G1.mono (by omega),by omega,.inl ⟨rfl,by rw[G1.tys,G1.efs,hc]⟩⟩
 |true =>
  rw[o1]at ho1;have o1':=o1;rw[G1.tys,G1.efs]at o1';rw[o1',if_pos rfl]at hc;obtain⟨v2,⟨bx2,F2⟩,hc2,k2,D2,rfl,H2,K2,I2,G2,b2,r2⟩:=IH b D1 ⟨bx1,F1⟩ (hU t ht b (by rw[e];simp)) (by omega) ob H1 I1 (by omega);have l1:=J4 q1;have lm:=J4 H.bm;simp only at lm;have q2:bx2[bx.length]?=some [.int .i64 t.kind,.str t.name,.int .i64 t.sort,sl t.cm 4 (G8 t.kids)]:=(K2.bx _ (by omega) (by omega) l1).trans q1;have ho2:=MH A pre D2 ⟨bx2,F2⟩ H2 I2 b _ r2;have fin2:Frm A D.lv ⟨bx,F⟩ D2.lv ⟨bx2,F2⟩:=fin1.trans K2;cases o2:NB (ty D2.tys D2.efs b)with
  |false =>
   rw[o2]at ho2;rw[G2.tys,G2.efs,G1.tys,G1.efs]at o2;rw[o2,if_neg (by simp)]at hc;refine Dc Cv (by simp[O6]) λfr hl ha=>?_;have h0:=ha 0;have h1:=ha 1;have h2:=ha 2;clear ha;simp[O6]at hl h0 h1 h2;simp[O6,hl,h0,h1,h2,n0,n1,hc1,ho1,hc2,ho2,q1];exact⟨-1,D2,rfl,H2,fin2,I2,(G1.trans G2).mono (by omega),by omega,.inl ⟨rfl,by rw[G2.tys,G2.efs,G1.tys,G1.efs,hc]⟩⟩
  |true =>
   rw[o2]at ho2;have o2':=o2;rw[G2.tys,G2.efs,G1.tys,G1.efs]at o2';rw[o2',if_pos rfl]at hc;have r1':=G2.res r1;have hp:∀{k:Int} {x:Tm},FZ D2 x k->NB (ty D2.tys D2.efs x)=true->∃(j:Nat) (J:Jdg),k=(j:Nat)/\D2.l[j]?=some J/\J.f=Kv/\T3 J.t=T3 x/\ON J.u=true:=λ{k x} r o=>by
    rcases r with ⟨_,hn⟩|⟨j,J,e1,e2,e3,e4,e5⟩
    .rw[hn]at o;cases o
    .rw[e5]at o;exact⟨j,J,e1,e2,e3,e4,o⟩
   obtain⟨j1,J1,rfl,hj1,hf1,he1,hu1⟩:=hp r1' (by rw[G2.tys,G2.efs];exact o1);obtain⟨j2,J2,rfl,hj2,hf2,he2,hu2⟩:=hp r2 o2;have hs1:=IZ (FU 1);obtain⟨v3,⟨bx3,F3⟩,hj,k3,D3,rfl,H3,K3,I3,G3,b3,r3⟩:=GR A pre U D2 ⟨bx2,F2⟩ H2 I2 rule t (w6 1) (sl (true,true) 1 [.int .i64 j1,.int .i64 j2]) [(j1:Int),(j2:Int)] (.inl ⟨true,rfl⟩) (CQ _ _ _ _) (by omega)
    (λm=>.two rule t (w6 1) m j1 j2 J1 J2 hj1 hf1 hj2 hf2 T9.1 (by decide) (Fs _) ⟨hk,⟨a,b,e,he1,he2⟩,.inr ⟨hru,hu1,hu2,rfl⟩⟩) (by rw[G2.tys,G2.efs,G1.tys,G1.efs];exact hc)
   refine Dc Cv (by simp[O6]) λfr hl ha=>?_;have h0:=ha 0;have h1:=ha 1;have h2:=ha 2;clear ha;simp[O6]at hl h0 h1 h2;simp[O6,hl,h0,h1,h2,n0,n1,hc1,ho1,hc2,ho2,q1,q2,hs1,hj,B2];exact⟨k3,D3,rfl,H3,fin2.trans K3,I3,((G1.trans G2).trans G3).mono (by omega),by omega,r3⟩
end Go.Abs.Q
