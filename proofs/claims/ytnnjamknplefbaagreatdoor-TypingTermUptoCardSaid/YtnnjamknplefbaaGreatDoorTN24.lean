/- A part of the proof. -/
import Derived.Test.YtnnjamknplefbaaGreatDoorTN23
set_option linter.all false
open List renaming append_assoc->zf0z,cons_append->zf1z,getElem?_append_left->zf3z,getElem?_eq_some_iff->zf4z,mem_cons_self->zf5z,map->zf7z,mem_cons_of_mem->zf8z,nil_append->zf9z,getElem?_append_right->zg0z,map_cons->zg1z,getElem?_map->zg2z,length_singleton->zg3z,length_append->zg4z,length->zg5z,append_nil->zg8z,mem_cons->zt0z
open Nat renaming le_refl->zf2z
open Option renaming map_eq_some_iff->zf6z,bind_some->zg7z,map_some->zg9z
open Bool renaming and_eq_true->zg6z
set_option linter.all false
namespace Go.Abs.Q
open Go.Abs
theorem aV{s:Al}(h:Bq s=true):(∀c∈s.data.toList,Br c.toNat=true)/\s.data.toList≠[]:=by
 unfold Bq Ht at h;cases hd:s.data.toList with
 |nil=>rw[hd]at h;cases h
 |cons c r =>
  rw[hd]at h;simp only[zg6z]at h;exact⟨λx hx=>(List.all_eq_true.1 h.2) x hx,e_⟩
def vM(r:List UInt8):Prop:=r=[]\/∃q,r=41::q\/r=44::q
def Npt(r:List UInt8):Prop:=∀c q,r=c::q->Br c.toNat=false
theorem vM.npt{r:List UInt8}(h:vM r):Npt r:=by
 rintro c q rfl;rcases h with h|⟨q',h|h⟩<;>cases h<;>decide
theorem QJ(r:List UInt8):Npt (58::r):=by rintro c q h;cases h;decide
theorem Vw(r:List UInt8):Npt (40::r):=by rintro c q h;cases h;decide
theorem Nm:∀(a b r r':List UInt8),(∀c∈a,Br c.toNat=true)->(∀c∈b,Br c.toNat=true)->Npt r->Npt r'->a++r=b++r'->a=b/\r=r'
 | [],[],r,r',_,_,_,_,h=>⟨rfl,h⟩
 | [],c::b,r,r',_,hb,hr,_,h=>by
  have:=hr c (b++r') h;rw[hb c (zf5z ..)]at this;cases this
 |c::a,[],r,r',ha,_,_,hr',h=>by
  have:=hr' c (a++r) h.symm;rw[ha c (zf5z ..)]at this;cases this
 |c::a,d::b,r,r',ha,hb,hr,hr',h=>by
  rw[zf1z,zf1z,List.cons.injEq]at h;obtain⟨h1,h2⟩:=Nm a b r r' (λx hx=>ha x (zf8z _ hx)) (λx hx=>hb x (zf8z _ hx)) hr hr' h.2;exact⟨by rw[h.1,h1],h2⟩
theorem bn{s:Int}(h:0<=s/\s<=5):∀c∈o9 s,Br c.toNat=true:=by
 obtain⟨k,rfl⟩:∃k:Nat,s=(k:Int):=⟨s.toNat,a_⟩;have hk:k<6:=by omega
 match k,hk with
 |0,_=>decide
 |1,_=>decide
 |2,_=>decide
 |3,_=>decide
 |4,_=>decide
 |5,_=>decide
theorem A1r{s s':Int}(h:0<=s/\s<=5)(h':0<=s'/\s'<=5)(e:o9 s=o9 s'):s=s':=by
 obtain⟨k,rfl⟩:∃k:Nat,s=(k:Int):=⟨s.toNat,a_⟩;obtain⟨j,rfl⟩:∃j:Nat,s'=(j:Int):=⟨s'.toNat,a_⟩;have hk:k<6:=by omega
 have hj:j<6:=by omega
 have key:∀k<6,∀j<6,o9 (k:Nat)=o9 (j:Nat)->k=j:=by decide
 rw[key k hk j hj e]
theorem ZZ{a b:Al}(h:a.data.toList=b.data.toList):a=b:=by
 obtain⟨⟨a⟩⟩:=a;obtain⟨⟨b⟩⟩:=b;simp only at h;rw[h]
theorem Mw{k s:Int}{nm:Al}{m:Gg}{l:Be}(h:Q7 (.mk k nm s m l)=0) :
  Bq nm=true/\W5 l=0/\((k=1\/k=2)/\0<=s/\s<=5/\l=[]\/k=3/\s=0):=by
 unfold Q7 at h;have h1:GC k s nm l.length=0:=by
  by_cases e:GC k s nm l.length=0
  .exact e
  .rw[if_pos e]at h;exact h
 rw[if_neg m_]at h;unfold GC at h1;split at h1
 .cases h1
 .rename_i hn;split at h1
  .cases h1
  .rename_i hnm;refine⟨by simpa using hnm,h,?_⟩;by_cases e3:k=3
   .exact .inr ⟨e3,a_⟩
   .have:k=1\/k=2:=by omega
    have h2:l.length=0:=by omega
    exact .inl ⟨this,a_,a_,List.eq_nil_of_length_eq_zero h2⟩
theorem NG{a:List UInt8}{c:UInt8}{r q:List UInt8}(ha:∀c∈a,Br c.toNat=true)(hn:a≠[])(h:a++r=c::q):Br c.toNat=true:=by
 cases a with
 |nil=>exact absurd rfl hn
 |cons d a =>
  rw[zf1z,List.cons.injEq]at h;rw[←h.1];exact ha d (zf5z ..)
theorem A1s{t:Tm}(h:Q7 t=0){r:List UInt8}{c:UInt8}{q:List UInt8}(e:RH t++r=c::q):Br c.toNat=true\/c=63:=by
 obtain⟨k,nm,s,m,l⟩:=t;obtain⟨hnm,-,hk⟩:=Mw h;obtain⟨p1,p2⟩:=aV hnm;unfold RH at e;by_cases h1:k=1
 .rw[if_pos h1]at e;simp only[zf1z,List.cons.injEq]at e;exact .inr e.1.symm
 .rw[if_neg h1]at e;by_cases h2:k=2
  .rw[if_pos h2,zf0z]at e;exact .inl (NG p1 p2 e)
  .rw[if_neg h2,zf0z]at e;exact .inl (NG p1 p2 e)
theorem uJ(s:Int){r:List UInt8}(hr:vM r):Npt ((if s=0 then []else 58::o9 s)++r):=by
 by_cases h:s=0
 .rw[if_pos h];exact hr.npt
 .rw[if_neg h];exact QJ _
theorem eu{r q:List UInt8}(hr:vM r)(h:r=58::q):False:=by
 subst h;rcases hr with h|⟨q',h|h⟩<;>cases h
theorem uY{s s':Int}(h:0<=s/\s<=5)(h':0<=s'/\s'<=5){r r':List UInt8}(hr:vM r)(hr':vM r')(e:58::(o9 s++r)=58::(o9 s'++r')):s=s'/\r=r':=by
 rw[List.cons.injEq]at e;obtain⟨e1,e2⟩:=Nm _ _ _ _ (bn h) (bn h') hr.npt hr'.npt e.2;exact⟨A1r h h' e1,e2⟩
theorem sfx_cut{s s':Int}(h:0<=s/\s<=5)(h':0<=s'/\s'<=5){r r':List UInt8}(hr:vM r)(hr':vM r')(e:(if s=0 then []else 58::o9 s)++r=(if s'=0 then []else 58::o9 s')++r'):s=s'/\r=r':=by
 by_cases h1:s=0
 .by_cases h2:s'=0
  .rw[if_pos h1,if_pos h2]at e;exact⟨h1.trans h2.symm,e⟩
  .rw[if_pos h1,if_neg h2]at e;exact(eu hr e).elim
 .by_cases h2:s'=0
  .rw[if_neg h1,if_pos h2]at e;exact(eu hr' e.symm).elim
  .rw[if_neg h1,if_neg h2]at e;exact uY h h' hr hr' e
theorem mP(l:Be)(r:List UInt8):vM (Ch false l++41::r):=by
 cases l with
 |nil=>exact .inr ⟨r,.inl rfl⟩
 |cons t l=>exact .inr ⟨_,.inr rfl⟩
theorem od{t:Tm}{l:Be}(h:W5 (t::l)=0):Q7 t=0/\W5 l=0:=by
 simp only[W5]at h;by_cases e:Q7 t=0
 .rw[if_neg (by simpa using e)]at h;exact⟨e,h⟩
 .rw[if_pos e]at h;exact absurd h e
theorem XJ{t:Tm}{l:Be}(b:Bool){r r':List UInt8}(h:W5 (t::l)=0)(e:41::r=Ch b (t::l)++r'):False:=by
 obtain⟨ht,-⟩:=od h;cases b with
 |false=>simp[Ch]at e
 |true =>
  simp only[Ch,if_true,zf9z,zf0z]at e;rcases A1s ht e.symm with h|h
  .revert h;decide
  .cases h
theorem uZ:∀(N:Nat),(∀(t t':Tm) (r r':List UInt8),t.size<=N->Q7 t=0->Q7 t'=0->vM r->vM r'->RH t++r=RH t'++r'->S4 t=S4 t'/\r=r') /\
  (∀(l l':List Tm) (b:Bool) (r r':List UInt8),Tm.sizes l<=N->W5 l=0->W5 l'=0->Ch b l++41::r=Ch b l'++41::r'->Jp l=Jp l'/\r=r')
 |0=>⟨λt t' r r' h=>by have:=t.size_pos;omega,λl l' b r r' h _ h2 e=>by
   cases l with
   |cons t l=>simp only[Tm.sizes]at h;have:=t.size_pos;omega
   |nil =>
    cases l' with
    |nil=>simp only[Ch,zf9z,List.cons.injEq,true_and]at e;exact⟨rfl,e⟩
    |cons t l'=>exact(XJ b h2 e).elim⟩
 |N+1=>by
  obtain⟨ih1,ih2⟩:=uZ N;have A:∀(t t':Tm) (r r':List UInt8),t.size<=N+1->Q7 t=0->Q7 t'=0->vM r->vM r'->RH t++r=RH t'++r'->S4 t=S4 t'/\r=r':=by
   intro t t' r r' hs h h' hr hr' e;obtain⟨k,nm,s,m,l⟩:=t;obtain⟨k',nm',s',m',l'⟩:=t';obtain⟨n1,n2,n3⟩:=Mw h;obtain⟨n1',n2',n3'⟩:=Mw h';obtain⟨p1,p2⟩:=aV n1;obtain⟨p1',p2'⟩:=aV n1';have X9:Tm.size (.mk k nm s m l)=1+Tm.sizes l:=rfl;clear h h';rcases n3 with ⟨rfl|rfl,s0,s5,rfl⟩|⟨rfl,rfl⟩
   .rcases n3' with ⟨rfl|rfl,s0',s5',rfl⟩|⟨rfl,rfl⟩
    .rw[Go.Proofs.wtx_var,Go.Proofs.wtx_var]at e;simp only[zf1z,zf0z,List.cons.injEq,true_and]at e;obtain⟨e1,e2⟩:=Nm _ _ _ _ p1 p1' (uJ s hr) (uJ s' hr') e;obtain⟨e3,e4⟩:=sfx_cut ⟨s0,s5⟩ ⟨s0',s5'⟩ hr hr' e2;exact⟨by rw[ZZ e1,e3];simp only[S4],e4⟩
    .exfalso
     rw[Go.Proofs.wtx_var,Go.Proofs.wtx_atom]at e;simp only[zf1z,zf0z]at e;have:=NG p1' p2' e.symm;revert this;decide
    .exfalso
     rw[Go.Proofs.wtx_var,Go.Proofs.wtx_app f9 f9]at e;simp only[zf1z,zf0z]at e;have:=NG p1' p2' e.symm;revert this;decide
   .rcases n3' with ⟨rfl|rfl,s0',s5',rfl⟩|⟨rfl,rfl⟩
    .exfalso
     rw[Go.Proofs.wtx_atom,Go.Proofs.wtx_var]at e;simp only[zf1z,zf0z]at e;have:=NG p1 p2 e;revert this;decide
    .rw[Go.Proofs.wtx_atom,Go.Proofs.wtx_atom]at e;simp only[zf1z,zf0z]at e;obtain⟨e1,e2⟩:=Nm _ _ _ _ p1 p1' (QJ _) (QJ _) e;obtain⟨e3,e4⟩:=uY ⟨s0,s5⟩ ⟨s0',s5'⟩ hr hr' e2;exact⟨by rw[ZZ e1,e3];simp only[S4],e4⟩
    .exfalso
     rw[Go.Proofs.wtx_atom,Go.Proofs.wtx_app f9 f9]at e;simp only[zf1z,zf0z]at e;obtain⟨e1,e2⟩:=Nm _ _ _ _ p1 p1' (QJ _) (Vw _) e;cases e2
   .rcases n3' with ⟨rfl|rfl,s0',s5',rfl⟩|⟨rfl,rfl⟩
    .exfalso
     rw[Go.Proofs.wtx_app f9 f9,Go.Proofs.wtx_var]at e;simp only[zf1z,zf0z]at e;have:=NG p1 p2 e;revert this;decide
    .exfalso
     rw[Go.Proofs.wtx_app f9 f9,Go.Proofs.wtx_atom]at e;simp only[zf1z,zf0z]at e;obtain⟨e1,e2⟩:=Nm _ _ _ _ p1 p1' (Vw _) (QJ _) e;cases e2
    .rw[Go.Proofs.wtx_app f9 f9,Go.Proofs.wtx_app f9 f9]at e;simp only[zf1z,zf0z,zf9z]at e;obtain⟨e1,e2⟩:=Nm _ _ _ _ p1 p1' (Vw _) (Vw _) e;rw[List.cons.injEq]at e2;obtain⟨e3,e4⟩:=ih2 l l' true r r' a_ n2 n2' e2.2;exact⟨by rw[ZZ e1];simp only[S4,e3],e4⟩
  refine⟨A,λl l' b r r' hs h h' e=>?_⟩;cases l with
  |nil =>
   cases l' with
   |nil=>simp only[Ch,zf9z,List.cons.injEq,true_and]at e;exact⟨rfl,e⟩
   |cons t l'=>exact(XJ b h' e).elim
  |cons t l =>
   cases l' with
   |nil=>exact(XJ b h e.symm).elim
   |cons t' l' =>
    obtain⟨k1,k2⟩:=od h;obtain⟨k1',k2'⟩:=od h';simp only[Tm.sizes]at hs;have hp:=t.size_pos;have e':RH t++(Ch false l++41::r)=RH t'++(Ch false l'++41::r'):=by
     cases b with
     |true=>simpa[Ch]using e
     |false=>simpa[Ch]using e
    obtain⟨q1,q2⟩:=A t t' _ _ a_ k1 k1' (mP l r) (mP l' r') e';obtain⟨q3,q4⟩:=ih2 l l' false r r' a_ k2 k2' q2;exact⟨by simp only[Jp,q1,q3],q4⟩
theorem wtx_inj{t t':Tm}(h:Q7 t=0)(h':Q7 t'=0)(e:RH t=RH t'):S4 t=S4 t' :=
 ((uZ t.size).1 t t' [] [] (zf2z _) h h' (.inl rfl) (.inl rfl) (by rw[zg8z,zg8z];exact e)).1
end Go.Abs.Q
namespace Go.Abs.Q
open Go.Proofs
def vn(s:ByteArray):Bool:=decide (s.size≠0)&&s.data.toList.all λb=>decide (48<=b.toNat/\b.toNat<=57)
def wj(s:ByteArray):Bool:=TO s (bs [101,35])&&vn (s.extract 2 s.size)
def UU(t:Tm):Bool :=
 if t.kind=3 then decide (t.name=bs [122,101,114,111]\/t.name=bs [111,110,101])&&decide (t.kids.length=0)
 else decide (t.kind=2)&&(decide (t.sort=1)||decide (t.sort=5)||(decide (t.sort=4)&&decide (t.name=bs [103]))||(decide (t.sort=4\/t.sort=0\/t.sort=2\/t.sort=3)&&wj t.name))
def TK(tys:List Tyd)(t:Tm):Option Typ:=(tys.find? λx=>Rr x.t t).map (·.u)
def Ia(f:Tm->Option Typ)(pub:Bool):List Int->List Tm->Bool
 |k::ks,t::l=>(match f t with|some u=>(if pub=true then OJ u else Sd u (Q9 k))&&Ia f pub ks l|none=>false)
 |_,[]=>true
 | [],_::_=>false
def Zi(efs:List Fa)(f:Fa):Bool:=(efs.find? λx=>Ii x f).isSome
def AZ(efs:List Fa)(f:Tm->Option Typ)(rule:Int)(q key:Tm)(u:Typ):Bool :=
 match Rw u q with
 |none=>false
 |some (p,l)=>Ia f (decide (rule=20)) p.parts l&&(if rule≠18/\0<=p.goal then (match cd p l key with|some ts=>Zi efs ⟨2,p.goal,(true,false),ts⟩|none=>false)else true)
def Vz(o:Option Typ):Bool:=match o with|some u=>OJ u|none=>false
def MU(f:Tm->Option Typ)(a b:Tm):Option Typ:=if Vz (f a)=true then if Vz (f b)=true then some (Q9 1)else none else none
def Rc(efs:List Fa)(f:Tm->Option Typ)(kind rule:Int)(a b:Tm):Option Typ :=
 match f b with
 |none=>none
 |some u=>if u.kind=kind then (if AZ efs f rule a b u=true then some (Q9 1)else none)else MU f a b
def RA(efs:List Fa)(f:Tm->Option Typ)(a b:Tm):Bool :=
 OI b (bs [112,107])&&match b.kids with
  | [c]=>(match f c with|some u=>decide (u.kind=4)&&AZ efs f 18 a c u|none=>false)
  |_=>false
def HJ(efs:List Fa)(f:Tm->Option Typ)(t:Tm):Option Typ :=
 match t.kids with
 | [a] =>
  if t.name=bs [104,97,115,104]then (f a).map λ_=>Q9 1
  else if t.name=bs [112,107]then (match f a with|some u=>if u.kind=4 then some ⟨5,u.m,u.ps⟩else if OJ u=true then some (Q9 1)else none|none=>none)
  else none
 | [a,b] =>
  if t.name=bs [112,97,105,114]then (match f a with|some u=>(match f b with|some v=>some (Q9 (if (OJ u&&OJ v)=true then 1 else 6))|none=>none)|none=>none)
  else if t.name=bs [101,110,99]then Rc efs f 3 16 a b
  else if t.name=bs [115,105,103,110]then Rc efs f 4 20 a b
  else if t.name=bs [97,101,110,99]then (if RA efs f a b=true then some (Q9 1)else MU f a b)
  else none
 |_=>none
def ie(tys:List Tyd)(efs:List Fa)(f:Tm->Option Typ)(t:Tm):Option Typ :=
 match TK tys t with
 |some u=>some u
 |none=>if UU t=true then some (Q9 1)else if t.kind=3 then HJ efs f t else none
def yH(tys:List Tyd)(efs:List Fa):Nat->Tm->Option Typ
 |0,_=>none
 |n+1,t=>ie tys efs (yH tys efs n) t
def ty(tys:List Tyd)(efs:List Fa)(t:Tm):Option Typ:=yH tys efs t.size t
theorem sI:∀{n:Nat} {t:Tm} {l:Be},Pp n t=some l->∀x∈l,x.size<=t.size
 |0,t,l,h,x,hx=>by
  simp only[Pp,Option.some.injEq]at h;subst h;rw[List.mem_singleton.1 hx];exact zf2z _
 |n+1,t,l,h,x,hx=>by
  simp only[Pp]at h;split at h
  .split at h
   .rename_i a b e;rw[zf6z]at h;obtain⟨l',h1,rfl⟩:=h;have hs:=t.kids_size;rw[e]at hs;simp only[Tm.sizes]at hs;rcases zt0z.1 hx with rfl|hx
    .omega
    .have:=sI h1 x hx;omega
   .cases h
  .cases h
theorem nY:∀{n:Nat} {t:Tm} {l:Be},Pp n t=some l->l.length=n+1
 |0,t,l,h=>by
  simp only[Pp,Option.some.injEq]at h;subst h;rfl
 |n+1,t,l,h=>by
  simp only[Pp]at h;split at h
  .split at h
   .rw[zf6z]at h;obtain⟨l',h1,rfl⟩:=h;simp[nY h1]
   .cases h
  .cases h
theorem NE{u:Typ}{q:Tm}{p:Pyl}{l:Be}(h:Rw u q=some (p,l)):p∈u.ps/\l.length=p.parts.length-1+1/\(∀x∈l,x.size<q.size)/\∃b,q.kids.getLast?=some b/\Pp (p.parts.length-1) b=some l:=by
 simp only[Rw,Option.bind_eq_some_iff]at h;obtain⟨nm,h1,p',h2,h3⟩:=h;split at h3
 .rename_i a b e;rw[zf6z]at h3;obtain⟨l',h3,h4⟩:=h3;simp only[Prod.mk.injEq]at h4;obtain⟨rfl,rfl⟩:=h4;have hs:=q.kids_size;rw[e]at hs;simp only[Tm.sizes]at hs;refine⟨List.mem_of_find?_eq_some h2,nY h3,λx hx=>?_,b,by rw[e];rfl,h3⟩;have:=sI h3 x hx;omega
 .cases h3
theorem aU{f g:Tm->Option Typ}{pub:Bool}:∀{ks:List Int} {l:Be},(∀x∈l,f x=g x)->Ia f pub ks l=Ia g pub ks l
 | [],[],_=>rfl
 | [],_::_,_=>rfl
 |_::_,[],_=>rfl
 |k::ks,t::l,h=>by
  unfold Ia;rw[h t zf5z,aU λx hx=>h x (zf8z _ hx)]
theorem kZ{efs:List Fa}{f g:Tm->Option Typ}{rule:Int}{q key:Tm}{u:Typ}(h:∀x:Tm,x.size<q.size->f x=g x):AZ efs f rule q key u=AZ efs g rule q key u:=by
 unfold AZ;cases hf:Rw u q with
 |none=>rfl
 |some r =>
  obtain⟨p,l⟩:=r;simp only;rw[aU λx hx=>h x ((NE hf).2.2.1 x hx)]
theorem fF{tys:List Tyd}{efs:List Fa}{f g:Tm->Option Typ}{t:Tm}(h:∀x:Tm,x.size<t.size->f x=g x):ie tys efs f t=ie tys efs g t:=by
 have hs:=t.kids_size;have hc:HJ efs f t=HJ efs g t:=by
  unfold HJ;split
  .rename_i a e;rw[e]at hs;simp only[Tm.sizes]at hs;rw[h a a_]
  .rename_i a b e;rw[e]at hs;simp only[Tm.sizes]at hs;have ha:=h a a_;have hb:=h b a_;have hl:∀rule key u,AZ efs f rule a key u=AZ efs g rule a key u:=λrule key u=>kZ λx hx=>h x a_;have hsea:RA efs f a b=RA efs g a b:=by
    unfold RA;congr 1;split
    .rename_i c ec;have hbs:=b.kids_size;rw[ec]at hbs;simp only[Tm.sizes]at hbs;rw[h c a_];simp only[hl]
    .rfl
   have hbo:MU f a b=MU g a b:=by unfold MU;rw[ha,hb]
   have hlk:∀k r,Rc efs f k r a b=Rc efs g k r a b:=λk r=>by
    unfold Rc;rw[hb,hbo];simp only[hl]
   rw[ha,hb,hlk,hlk,hsea,hbo]
  .rfl
 unfold ie;rw[hc]
theorem bX(tys:List Tyd)(efs:List Fa):∀(n m:Nat) (t:Tm),t.size<=n->t.size<=m->yH tys efs n t=yH tys efs m t
 |0,_,t,h,_=>by have:=t.size_pos;omega
 |_,0,t,_,h=>by have:=t.size_pos;omega
 |n+1,m+1,t,h1,h2=>by
  show ie tys efs (yH tys efs n) t=ie tys efs (yH tys efs m) t;exact fF λx hx=>bX tys efs n m x a_ a_
theorem YT(tys:List Tyd)(efs:List Fa)(t:Tm):ty tys efs t=ie tys efs (ty tys efs) t:=by
 obtain⟨n,hn⟩:∃n,t.size=n+1:=⟨t.size-1,by have:=t.size_pos;omega⟩;show yH tys efs t.size t=_;rw[hn];show ie tys efs (yH tys efs n) t=_;exact fF λx hx=>bX tys efs n x.size x a_ (zf2z _)
theorem LC{a b:Tm}:Rr a b=true↔S4 a=S4 b:=by
 unfold Rr;rw[decide_eq_true_iff];exact zB
theorem sX{x a b:Tm}(h:S4 a=S4 b):Rr x a=Rr x b:=by
 rw[Bool.eq_iff_iff,LC,LC,h]
theorem PL{a b:Tm}(h:S4 a=S4 b):a.kind=b.kind/\a.name=b.name/\a.sort=b.sort/\a.kids.map S4=b.kids.map S4:=by
 obtain⟨k,nm,s,m,l⟩:=a;obtain⟨k',nm',s',m',l'⟩:=b;simp only[S4,Tm.mk.injEq]at h;rw[Rs,Rs]at h;exact⟨h.1,h.2.1,h.2.2.1,h.2.2.2.2⟩
theorem aB{a b:Tm}(h:S4 a=S4 b)(nm:Al):OI a nm=OI b nm:=by
 obtain⟨h1,h2,_⟩:=PL h;unfold OI;rw[h1,h2]
theorem tE{l l':Be}(h:l.map S4=l'.map S4){a:Tm}(e:l=[a]):∃a',l'=[a']/\S4 a=S4 a':=by
 subst e;cases l' with
 |nil=>simp at h
 |cons a' r =>
  cases r with
  |nil=>exact⟨a',rfl,oE⟩
  |cons _ _=>simp at h
theorem gZ{l l':Be}(h:l.map S4=l'.map S4){a b:Tm}(e:l=[a,b]):∃a' b',l'=[a',b']/\S4 a=S4 a'/\S4 b=S4 b':=by
 subst e;cases l' with
 |nil=>simp at h
 |cons a' r =>
  cases r with
  |nil=>simp at h
  |cons b' r =>
   cases r with
   |nil=>exact⟨a',b',rfl,oE⟩
   |cons _ _=>simp at h
theorem pubG_er{a b:Tm}(h:S4 a=S4 b):UU a=UU b:=by
 obtain⟨h1,h2,h3,h4⟩:=PL h;have h5:a.kids.length=b.kids.length:=by simpa using congrArg zg5z h4
 unfold UU;rw[h1,h2,h3,h5]
theorem entT_er(tys:List Tyd){a b:Tm}(h:S4 a=S4 b):TK tys a=TK tys b:=by
 unfold TK;simp only[sX h]
theorem tagT_er{a b:Tm}(h:S4 a=S4 b):Mz a=Mz b:=by
 unfold Mz;rw[aB h];obtain⟨_,_,_,h4⟩:=PL h;split
 .match ha:a.kids,hb:b.kids with
  | [],[]=>rfl
  | [],y::r'=>rw[ha,hb]at h4;simp at h4
  |x::r,[]=>rw[ha,hb]at h4;simp at h4
  |x::r,y::r' =>
   rw[ha,hb]at h4;simp only[zg1z,List.cons.injEq]at h4;obtain⟨k1,k2,k3,_⟩:=PL h4.1;simp only[k1,k2,k3]
 .rfl
theorem zO:∀(n:Nat) {a b:Tm},S4 a=S4 b->(Pp n a).map (zf7z S4)=(Pp n b).map (zf7z S4)
 |0,a,b,h=>by simp[Pp,h]
 |n+1,a,b,h=>by
  obtain⟨_,_,_,h4⟩:=PL h;simp only[Pp,aB h];split
  .match ha:a.kids,hb:b.kids with
   | [x,y],l' =>
    obtain⟨x',y',e,e1,e2⟩:=gZ h4 ha;rw[hb]at e;subst e;have:=zO n e2;simp only[Option.map_map];have hf:∀(o:Option (List Tm)) (z:Tm),o.map (zf7z S4∘λx=>z::x)=(o.map (zf7z S4)).map (λx=>S4 z::x):=λo z=>by cases o<;>rfl
    rw[hf,hf,this,e1]
   | [],[x,y]=>rw[ha,hb]at h4;simp at h4
   | [_],[x,y]=>rw[ha,hb]at h4;simp at h4
   |_::_::_::_,[x,y]=>rw[ha,hb]at h4;simp at h4
   | [],[]=>rfl
   | [],[_]=>rfl
   | [],_::_::_::_=>rfl
   | [_],[]=>rfl
   | [_],[_]=>rfl
   | [_],_::_::_::_=>rfl
   |_::_::_::_,[]=>rfl
   |_::_::_::_,[_]=>rfl
   |_::_::_::_,_::_::_::_=>rfl
  .rfl
def FitE(o o':Option (Pyl×List Tm)):Prop:=(o=none/\o'=none)\/∃p l l',o=some (p,l)/\o'=some (p,l')/\l.map S4=l'.map S4
theorem fitT_er(u:Typ){a b:Tm}(h:S4 a=S4 b):FitE (Rw u a) (Rw u b):=by
 obtain⟨_,_,_,h4⟩:=PL h;unfold Rw;rw[tagT_er h];cases Mz b with
 |none=>exact .inl ⟨rfl,rfl⟩
 |some nm =>
  simp only[zg7z];cases VQ u nm with
  |none=>exact .inl ⟨rfl,rfl⟩
  |some p =>
   simp only[zg7z]
   match ha:a.kids,hb:b.kids with
   | [x,y],l' =>
    obtain⟨x',y',e,e1,e2⟩:=gZ h4 ha;rw[hb]at e;subst e;have:=zO (p.parts.length-1) e2;simp only;cases h1:Pp (p.parts.length-1) y with
    |none =>
     rw[h1]at this;cases h2:Pp (p.parts.length-1) y' with
     |none=>exact .inl ⟨rfl,rfl⟩
     |some l2=>rw[h2]at this;cases this
    |some l1 =>
     rw[h1]at this;cases h2:Pp (p.parts.length-1) y' with
     |none=>rw[h2]at this;cases this
     |some l2 =>
      rw[h2]at this;exact .inr ⟨p,l1,l2,rfl,rfl,by simpa using this⟩
   | [],[x,y]=>rw[ha,hb]at h4;simp at h4
   | [_],[x,y]=>rw[ha,hb]at h4;simp at h4
   |_::_::_::_,[x,y]=>rw[ha,hb]at h4;simp at h4
   | [],[]=>exact .inl ⟨rfl,rfl⟩
   | [],[_]=>exact .inl ⟨rfl,rfl⟩
   | [],_::_::_::_=>exact .inl ⟨rfl,rfl⟩
   | [_],[]=>exact .inl ⟨rfl,rfl⟩
   | [_],[_]=>exact .inl ⟨rfl,rfl⟩
   | [_],_::_::_::_=>exact .inl ⟨rfl,rfl⟩
   |_::_::_::_,[]=>exact .inl ⟨rfl,rfl⟩
   |_::_::_::_,[_]=>exact .inl ⟨rfl,rfl⟩
   |_::_::_::_,_::_::_::_=>exact .inl ⟨rfl,rfl⟩
theorem tD{l l':Be}(h:l.map S4=l'.map S4)(i:Nat):(l[i]?).map S4=(l'[i]?).map S4:=by
 rw[←zg2z,←zg2z,h]
theorem sU{own own' l l':Be}(ho:own.map S4=own'.map S4)(hl:l.map S4=l'.map S4):∀ds:List Int,(DA own l ds).map (zf7z S4)=(DA own' l' ds).map (zf7z S4)
 | []=>rfl
 |d::r=>by
  have h1:(own=[])=(own'=[]):=by
   have:own.length=own'.length:=by simpa using congrArg zg5z ho
   simp only[←List.length_eq_zero_iff,this]
  have h2:l.length=l'.length:=by simpa using congrArg zg5z hl
  have ih:=sU ho hl r;simp only[DA,h1,h2];split
  .rfl
  .have hg:(if d<2 then own[d.toNat]? else l[(d-2).toNat]?).map S4=(if d<2 then own'[d.toNat]? else l'[(d-2).toNat]?).map S4:=by
    split
    .exact tD ho _
    .exact tD hl _
   revert hg;generalize (if d<2 then own[d.toNat]? else l[(d-2).toNat]?)=A
   generalize (if d<2 then own'[d.toNat]? else l'[(d-2).toNat]?)=B
   intro hg;cases A with
   |none =>
    cases B with
    |none=>rfl
    |some y=>cases hg
   |some x =>
    cases B with
    |none=>cases hg
    |some y =>
     simp only[zg9z,Option.some.injEq]at hg;have hf:∀(o:Option (List Tm)) (z:Tm),(o.map λx=>z::x).map (zf7z S4)=(o.map (zf7z S4)).map (λx=>S4 z::x):=λo z=>by cases o<;>rfl
     simp only[hf,ih,hg]
theorem ownT_er{a b:Tm}(h:S4 a=S4 b):(KX a).map S4=(KX b).map S4:=by
 obtain⟨_,_,_,h4⟩:=PL h;unfold KX;rw[aB h,aB h];split
 .exact h4
 .split
  .match ha:a.kids,hb:b.kids with
   | [],[]=>rfl
   | [],y::r'=>rw[ha,hb]at h4;simp at h4
   |x::r,[]=>rw[ha,hb]at h4;simp at h4
   |x::r,y::r' =>
    rw[ha,hb]at h4;simp only[zg1z,List.cons.injEq]at h4;simp[h4.1]
  .rfl
theorem rg:∀(x l l':Be),l.map S4=l'.map S4->BD Rr x l=BD Rr x l'
 | [],[],[],_=>rfl
 | [],[],_::_,h=>by simp at h
 | [],_::_,[],h=>by simp at h
 | [],_::_,_::_,_=>rfl
 |_::_,[],[],_=>rfl
 |_::_,[],_::_,h=>by simp at h
 |_::_,_::_,[],h=>by simp at h
 |x::xs,a::l,b::l',h=>by
  simp only[zg1z,List.cons.injEq]at h;simp only[BD,sX h.1,rg xs l l' h.2]
theorem eqFa_er{x f g:Fa}(h1:f.kind=g.kind)(h2:f.goal=g.goal)(h3:f.terms.map S4=g.terms.map S4):Ii x f=Ii x g:=by
 unfold Ii;rw[h1,h2,rg _ _ _ h3]
theorem na(efs:List Fa){f g:Fa}(h1:f.kind=g.kind)(h2:f.goal=g.goal)(h3:f.terms.map S4=g.terms.map S4):Zi efs f=Zi efs g:=by
 unfold Zi;simp only[eqFa_er h1 h2 h3]
theorem tO{f:Tm->Option Typ}(hf:∀a b,S4 a=S4 b->f a=f b)(pub:Bool):∀(ks:List Int) (l l':Be),l.map S4=l'.map S4->Ia f pub ks l=Ia f pub ks l'
 | [],[],[],_=>rfl
 |_,[],_::_,h=>by simp at h
 |_,_::_,[],h=>by simp at h
 | [],_::_,_::_,_=>rfl
 |_::_,[],[],_=>rfl
 |k::ks,a::l,b::l',h=>by
  simp only[zg1z,List.cons.injEq]at h;simp only[Ia,hf a b h.1,tO hf pub ks l l' h.2]
theorem kc{efs:List Fa}{f:Tm->Option Typ}(hf:∀a b,S4 a=S4 b->f a=f b){rule:Int}{q q' key key':Tm}{u:Typ}(h:S4 q=S4 q')(hk:S4 key=S4 key'):AZ efs f rule q key u=AZ efs f rule q' key' u:=by
 unfold AZ;rcases fitT_er u h with ⟨e1,e2⟩|⟨p,l,l',e1,e2,e3⟩
 .rw[e1,e2]
 .rw[e1,e2];simp only[tO hf _ _ _ _ e3];congr 1;split
  .have he:=sU (ownT_er hk) e3 p.data;unfold cd;cases h1:DA (KX key) l p.data with
   |none =>
    rw[h1]at he;cases h2:DA (KX key') l' p.data with
    |none=>rfl
    |some t2=>rw[h2]at he;cases he
   |some t1 =>
    rw[h1]at he;cases h2:DA (KX key') l' p.data with
    |none=>rw[h2]at he;cases he
    |some t2 =>
     rw[h2]at he;simp only[zg9z,Option.some.injEq]at he;exact na efs rfl rfl he
  .rfl
theorem cmpS_er{efs:List Fa}{f:Tm->Option Typ}(hf:∀a b,S4 a=S4 b->f a=f b){t t':Tm}(h:S4 t=S4 t'):HJ efs f t=HJ efs f t':=by
 obtain⟨_,h2,_,h4⟩:=PL h;unfold HJ;rw[h2]
 match ha:t.kids,hb:t'.kids with
 | [a],l' =>
  obtain⟨a',e,e1⟩:=tE h4 ha;rw[hb]at e;subst e;simp only[hf a a' e1]
 | [a,b],l' =>
  obtain⟨a',b',e,e1,e2⟩:=gZ h4 ha;rw[hb]at e;subst e;have hbo:MU f a b=MU f a' b':=by unfold MU;rw[hf a a' e1,hf b b' e2]
  have hlk:∀k r,Rc efs f k r a b=Rc efs f k r a' b':=λk r=>by
   unfold Rc;rw[hf b b' e2,hbo];simp only[kc hf e1 e2]
  have hse:RA efs f a b=RA efs f a' b':=by
   unfold RA;rw[aB e2];congr 1;obtain⟨_,_,_,k4⟩:=PL e2
   match hc:b.kids,hd:b'.kids with
   | [c],l2 =>
    obtain⟨c',e,e3⟩:=tE k4 hc;rw[hd]at e;subst e;simp only[hf c c' e3,kc hf e1 e3]
   | [],[c']=>rw[hc,hd]at k4;simp at k4
   |_::_::_,[c']=>rw[hc,hd]at k4;simp at k4
   | [],[]=>rfl
   | [],_::_::_=>rfl
   |_::_::_,[]=>rfl
   |_::_::_,_::_::_=>rfl
  simp only[hf a a' e1,hf b b' e2,hlk,hse,hbo]
 | [],[]=>rfl
 | [],_::_=>rw[ha,hb]at h4;simp at h4
 |_::_::_::_,[]=>rfl
 |_::_::_::_,[_]=>rw[ha,hb]at h4;simp at h4
 |_::_::_::_,[_,_]=>rw[ha,hb]at h4;simp at h4
 |_::_::_::_,_::_::_::_=>rfl
theorem A1l(tys:List Tyd)(efs:List Fa):∀(n:Nat) (a b:Tm),S4 a=S4 b->yH tys efs n a=yH tys efs n b
 |0,_,_,_=>rfl
 |n+1,a,b,h=>by
  show ie tys efs (yH tys efs n) a=ie tys efs (yH tys efs n) b;unfold ie;rw[entT_er tys h,pubG_er h,cmpS_er (A1l tys efs n) h,(PL h).1]
theorem ty_er(tys:List Tyd)(efs:List Fa){a b:Tm}(h:S4 a=S4 b):ty tys efs a=ty tys efs b:=by
 have hs:a.size=b.size:=(Jq _ a (zf2z _)).symm.trans ((congrArg Tm.size h).trans (Jq _ b (zf2z _)));unfold ty;rw[hs];exact A1l tys efs _ a b h
end Go.Abs.Q
namespace Go.Abs.Q
open Go.Proofs
attribute [local simp] E5 E6 fin J4 H8 Q3 S6
structure TyOk (tys:List Tyd) (efs:List Fa):Prop where
 tl:tys.length<=1000
 el:efs.length<=1000
 ty:∀x∈tys,vE x.t=0/\x.t.size<=1048576/\V7 x.u/\KT x.u=0
 ef:∀f∈efs,Tm.sizes f.terms<=1048576/\∀t∈f.terms,vE t=0
def OneR(rule:Int)(t:Tm)(u:Typ)(J:Jdg):Prop :=
 (rule=14/\OI t (bs [104,97,115,104])=true/\(∃a,t.kids=[a]/\S4 J.t=S4 a)/\u=Q9 1) \/
 (rule=15/\OI t (bs [112,107])=true/\(∃a,t.kids=[a]/\S4 J.t=S4 a)/\((J.u.kind=4/\u=⟨5,J.u.m,J.u.ps⟩)\/(J.u.kind≠4/\OJ J.u=true/\u=Q9 1))) \/
 (rule=22/\S4 J.t=S4 t/\Sd J.u u=true)
def TwoR(rule:Int)(t:Tm)(u:Typ)(J K:Jdg):Prop :=
 t.kind=3/\(∃a b,t.kids=[a,b]/\S4 J.t=S4 a/\S4 K.t=S4 b) /\
 (
  (rule=13/\t.name=bs [112,97,105,114]/\u=Q9 (if (OJ J.u&&OJ K.u)=true then 1 else 6)) \/
  ((rule=17/\t.name=bs [101,110,99]\/rule=19/\t.name=bs [97,101,110,99]\/rule=21/\t.name=bs [115,105,103,110])/\OJ J.u=true/\OJ K.u=true/\u=Q9 1))
def ZO(rule:Int)(l:List Jdg)(k:Int)(x:Tm)(i:Int):Prop:=∃(j:Nat) (J:Jdg),i=(j:Nat)/\l[j]?=some J/\J.f=IS/\S4 J.t=S4 x/\(rule=20->OJ J.u=true)/\(rule≠20->J.u.kind=k/\J.u.ps=[])
def PartsR(rule:Int)(l:List Jdg):List Int->List Tm->List Int->Prop
 |k::ks,x::xs,i::is=>ZO rule l k x i/\PartsR rule l ks xs is
 | [],[],[]=>True
 |_,_,_=>False
def ol(rule:Int)(t q key:Tm)(kind:Int):Prop :=
 t.kind=3/\((rule=16/\t.name=bs [101,110,99]/\kind=3/\t.kids=[q,key])\/(rule=20/\t.name=bs [115,105,103,110]/\kind=4/\t.kids=[q,key]) \/
  (rule=18/\t.name=bs [97,101,110,99]/\kind=4/\∃b,t.kids=[q,b]/\OI b (bs [112,107])=true/\b.kids=[key]))
inductive Rt (A:PA) (tys:List Tyd) (efs:List Fa) (l:List Jdg):Jdg->Prop
 |base (x:Tyd) (t:Tm) (m:Bool×Bool):x∈tys->Rr x.t t=true->vE t=0->Rt A tys efs l ⟨1,A.role,A.blk,A.bad,m,[],t,x.u,IS⟩
 |eff (x f:Fa) (m:Bool×Bool):x∈efs->Ii x f=true->f.kind=2->(∀t∈f.terms,vE t=0)->Rt A tys efs l ⟨1,A.role,A.blk,A.bad,m,[],Yo,Q9 0,f⟩
 |pub (t:Tm) (m:Bool×Bool):UU t=true->vE t=0->Rt A tys efs l ⟨2,A.role,A.blk,A.bad,m,[],t,Q9 1,IS⟩
 |one (rule:Int) (t:Tm) (u:Typ) (m:Bool×Bool) (i:Nat) (J:Jdg):l[i]?=some J->J.f=IS->vE t=0->KT u=0->V7 u->OneR rule t u J->Rt A tys efs l ⟨rule,A.role,A.blk,A.bad,m,[(i:Nat)],t,u,IS⟩
 |two (rule:Int) (t:Tm) (u:Typ) (m:Bool×Bool) (i k:Nat) (J K:Jdg):l[i]?=some J->J.f=IS->l[k]?=some K->K.f=IS->vE t=0->KT u=0->V7 u->TwoR rule t u J K->Rt A tys efs l ⟨rule,A.role,A.blk,A.bad,m,[(i:Nat),(k:Nat)],t,u,IS⟩
 |car (rule:Int) (t q key:Tm) (kind:Int) (m:Bool×Bool) (i:Nat) (J:Jdg) (p:Pyl) (parts:List Tm) (is es:List Int):ol rule t q key kind->vE t=0->l[i]?=some J->J.f=IS->S4 J.t=S4 key->J.u.kind=kind->Rw J.u q=some (p,parts) ->
   PartsR rule l p.parts parts is->(if rule≠18/\0<=p.goal then ∃(k:Nat) (K:Jdg) (ts:List Tm),es=[(k:Int)]/\l[k]?=some K/\cd p parts key=some ts/\Ii K.f ⟨2,p.goal,(true,false),ts⟩=true else es=[]) ->
   Rt A tys efs l ⟨rule,A.role,A.blk,A.bad,m,(i:Int)::(is++es),t,Q9 1,IS⟩
def Ls(t:Tm):Prop:=vE t=0/\t.size<=100
def Lp(t:Tm):ByteArray:=⟨(RH t).toArray⟩
def Jm(D:PD)(t:Tm)(k:Int):Prop:=(k=-1/\ty D.tys D.efs t=none)\/∃(j:Nat) (J:Jdg),k=(j:Nat)/\D.l[j]?=some J/\J.f=IS/\S4 J.t=S4 t/\ty D.tys D.efs t=some J.u
def SV(d1 d2 d3:ByteArray):ByteArray:=d1++bs [32]++d2++bs [32]++d3++bs [32]
def PreOk(A:PA)(pre:ByteArray)(a b:Nat):Prop:=∃d1 d2 d3:ByteArray,pre=SV d1 d2 d3/\d1.size<=100/\d2.size<=100/\d3.size<=100 /\
 pc Qf U4 [.int .i64 A.blk]=some (.str d1)/\pc Qf U4 [.int .i64 a]=some (.str d2)/\pc Qf U4 [.int .i64 b]=some (.str d3)
structure TInv (A:PA) (pre:ByteArray) (D:PD):Prop where
 ok:TyOk D.tys D.efs
 pk:PreOk A pre D.tys.length D.efs.length
 ti:∀(i:Nat) (k:Int),D.ti[i]?=some k->0<=k->∃(j:Nat) (J:Jdg) (x:Tyd),k=(j:Nat)/\D.l[j]?=some J/\D.tys[i]?=some x/\J.f=IS/\S4 J.t=S4 x.t/\J.u=x.u
 ei:∀(i:Nat) (k:Int),D.ei[i]?=some k->0<=k->∃(j:Nat) (J:Jdg) (x:Fa),k=(j:Nat)/\D.l[j]?=some J/\D.efs[i]?=some x/\Ii x J.f=true
 kn:∀x∈D.kn,∀t,Ls t->x.1=pre++Lp t->Jm D t x.2
 rt:∀(i:Nat) (J:Jdg),D.l[i]?=some J->Rt A D.tys D.efs (D.l.take i) J
def TL(pre:ByteArray)(D:PD)(t:Tm):Bool:=D.kn.any λx=>Zm x.1 (pre++Lp t)
def Ak(U:List Tm)(pre:ByteArray)(D:PD):Nat:=D.l.length+20*(U.countP λt=>!TL pre D t)
structure Gro (pre:ByteArray) (n:Nat) (D D':PD):Prop where
 tys:D'.tys=D.tys
 efs:D'.efs=D.efs
 tv:D'.tv=D.tv
 ev:D'.ev=D.ev
 l:∃r,D'.l=D.l++r
 kn:∀x∈D'.kn,(∃y∈D.kn,y.1=x.1)\/∃s,Ls s/\s.size<=n/\x.1=pre++Lp s
theorem Gro.refl(pre:Al)(n:Nat)(D:PD):Gro pre n D D:=⟨rfl,rfl,rfl,rfl,⟨[],e_⟩,λx hx=>.inl ⟨x,hx,rfl⟩⟩
theorem Gro.trans{pre:Al}{n m:Nat}{D D' D'':PD}(a:Gro pre n D D')(b:Gro pre m D' D''):Gro pre (max n m) D D'':=by
 obtain⟨r,hr⟩:=a.l;obtain⟨r',hr'⟩:=b.l;refine⟨b.tys.trans a.tys,b.efs.trans a.efs,b.tv.trans a.tv,b.ev.trans a.ev,⟨r++r',by rw[hr',hr,zf0z]⟩,λx hx=>?_⟩;rcases b.kn x hx with ⟨y,hy,e⟩|⟨s,h1,h2,h3⟩
 .rcases a.kn y hy with ⟨z,hz,e'⟩|⟨s,h1,h2,h3⟩
  .exact .inl ⟨z,hz,e'.trans e⟩
  .exact .inr ⟨s,h1,a_,e.symm.trans h3⟩
 .exact .inr ⟨s,h1,a_,h3⟩
theorem Gro.mono{pre:Al}{n m:Nat}{D D':PD}(a:Gro pre n D D')(h:n<=m):Gro pre m D D' :=
 ⟨a.tys,a.efs,a.tv,a.ev,a.l,λx hx=>by
  rcases a.kn x hx with h1|⟨s,h1,h2,h3⟩
  .exact .inl h1
  .exact .inr ⟨s,h1,a_,h3⟩⟩
theorem Gro.get{pre:Al}{n:Nat}{D D':PD}(a:Gro pre n D D'){j:Nat}{J:Jdg}(h:D.l[j]?=some J):D'.l[j]?=some J:=by
 obtain⟨r,hr⟩:=a.l;rw[hr,zf3z (zf4z.1 h).1];exact h
theorem Gro.res{pre:Al}{n:Nat}{D D':PD}(a:Gro pre n D D'){t:Tm}{k:Int}(h:Jm D t k):Jm D' t k:=by
 unfold Jm at *
 rw[a.tys,a.efs];rcases h with h|⟨j,J,h1,h2,h3⟩
 .exact .inl h
 .exact .inr ⟨j,J,h1,a.get h2,h3⟩
theorem Jm.er{D:PD}{t t':Tm}{k:Int}(h:Jm D t k)(e:S4 t=S4 t'):Jm D t' k:=by
 unfold Jm at *
 rw[←ty_er _ _ e,←e];exact h
theorem TInv.add{A:PA}{pre:Al}{D:PD}(I:TInv A pre D)(lv:AV){j:Jdg}(hj:Rt A D.tys D.efs D.l j):TInv A pre (D.add lv j)/\Gro pre 0 D (D.add lv j):=by
 have G:Gro pre 0 D (D.add lv j):=⟨rfl,rfl,rfl,rfl,⟨[j],rfl⟩,λx hx=>.inl ⟨x,hx,rfl⟩⟩;refine⟨⟨I.ok,I.pk,λi k h h0=>?_,λi k h h0=>?_,λx hx t ht e=>G.res (I.kn x hx t ht e),λi J h=>?_⟩,G⟩
 .obtain⟨n,J,x,h1,h2,h3⟩:=I.ti i k h h0;exact⟨n,J,x,h1,G.get h2,h3⟩
 .obtain⟨n,J,x,h1,h2,h3⟩:=I.ei i k h h0;exact⟨n,J,x,h1,G.get h2,h3⟩
 .show Rt A D.tys D.efs ((D.l++[j]).take i) J;have h':(D.l++[j])[i]?=some J:=h;by_cases hi:i<D.l.length
  .rw[List.take_append_of_le_length a_];rw[zf3z hi]at h';exact I.rt i J h'
  .have C2:=(zf4z.1 h').1;simp only[zg4z,zg3z]at C2;have e:i=D.l.length:=by omega
   subst e;rw[zg0z (zf2z _),Nat.sub_self]at h';simp only[List.getElem?_cons_zero,Option.some.injEq]at h';subst h';rw[List.take_left];exact hj
theorem Hm(U:Be)(pre:Al)(D:PD)(lv:AV)(j:Jdg):Ak U pre (D.add lv j)=Ak U pre D+1:=by
 unfold Ak;have:∀t,TL pre (D.add lv j) t=TL pre D t:=λ_=>rfl;simp only[this];simp only[PD.add,zg4z,zg3z];omega
theorem PD.add_get(D:PD)(lv:AV)(j:Jdg):(D.add lv j).l[D.l.length]?=some j:=by simp[PD.add]
theorem Rt.props{A:PA}{tys:List Tyd}{efs:List Fa}{l:List Jdg}{J:Jdg}(ok:TyOk tys efs)(h:Rt A tys efs l J)(hf:J.f=IS):vE J.t=0/\KT J.u=0/\V7 J.u:=by
 have s1:KT (Q9 1)=0:=by decide
 cases h with
 |base x t m h1 h2 h3=>exact⟨h3,(ok.ty x h1).2.2.2,(ok.ty x h1).2.2.1⟩
 |eff x f m h1 h2 h3 h4 =>
  simp only at hf;rw[hf]at h3;cases h3
 |pub t m h1 h2=>exact⟨h2,s1,AR 1⟩
 |one rule t u m i J h1 h2 h3 h4 h5 h6=>exact⟨h3,h4,h5⟩
 |two rule t u m i k J K h1 h2 h3 h4 h5 h6 h7 h8=>exact⟨h5,h6,h7⟩
 |car rule t q key kind m i J p parts is es h1 h2=>exact⟨h2,s1,AR 1⟩
theorem TInv.props{A:PA}{pre:Al}{D:PD}(I:TInv A pre D){j:Nat}{J:Jdg}(h:D.l[j]?=some J)(hf:J.f=IS):vE J.t=0/\KT J.u=0/\V7 J.u:=(I.rt j J h).props I.ok hf
theorem TF(A:PA)(pre:Al)(D:PD)(h:AH)(H:PrH A D h)(I:TInv A pre D)(t:Tm)(k:Int)(hr:Jm D t k) :
  rc Qf R7 [.ptr A.p 0,.int .i64 k] h=some (.bool (Vz (ty D.tys D.efs t)),h):=by
 suffices hq:∃v h',rc Qf R7 [.ptr A.p 0,.int .i64 k] h=some (v,h')/\v=.bool (Vz (ty D.tys D.efs t))/\h'=h by
  obtain⟨v,h',h1,rfl,rfl⟩:=hq;exact h1
 obtain⟨bx,F⟩:=h;have hP:=H.bp;simp only[H9]at hP;rcases hr with ⟨rfl,hn⟩|⟨j,J,rfl,hj,hf,he,hu⟩
 .rw[hn];refine Gm Fg (by simp[O5]) λfr hl ha=>?_;have h0:=ha 0;have h1:=ha 1;clear ha;simp[O5]at hl h0 h1;simp[O5,hl,h0,h1,hP,Vz]
 .rw[hu];have hO:=Lb (A07 J.u (I.props hj hf).2.2);have hx:(D.l.map V8)[j]?=some (V8 J):=by rw[zg2z,hj];rfl
  have hjl:=(zf4z.1 hj).1;have hxg:∀hh:j<D.l.length,D.l[j]=J:=λhh=>by rw[List.getElem?_eq_getElem hh]at hj;exact Option.some.inj hj
  have h0:(0:Int)<=(j:Int):=by omega
  rcases Ay H.ll hx with hia|⟨q,hia,hq⟩
  .simp only at hia;refine Gm Fg (by simp[O5]) λfr hl ha=>?_;have h0:=ha 0;have h1:=ha 1;clear ha;simp[O5]at hl h0 h1;simp[O5,hl,h0,h1,hP,Vz,hia,hO,Q8,h0]
  .simp only at hia hq;refine Gm Fg (by simp[O5]) λfr hl ha=>?_;have h0:=ha 0;have h1:=ha 1;clear ha;simp[O5]at hl h0 h1;simp[O5,hl,h0,h1,hP,Vz,hia,hq,hO,Q8,h0,hjl,hxg]
theorem Ks(A:PA)(pre:Al)(U:Be)(D:PD)(h:AH)(H:PrH A D h)(I:TInv A pre D)(rule:Int)(t:Tm)(u:Typ)(av:AV)(args:List Int)(ha:IT false 1 (args.map (AV.int .i64)) av h)(hap:BI D.lv av)(hl:Ak U pre D<=1000000)
  (hR:∀m,Rt A D.tys D.efs D.l ⟨rule,A.role,A.blk,A.bad,m,args,t,u,IS⟩) (hty:ty D.tys D.efs t=some u) :
  ∃v h',rc Qf J3 [.ptr A.p 0,.int .i64 rule,I8 t,Hn u,av] h=some (v,h')/\∃(k:Int) (D':PD),v=.int .i64 k/\PrH A D' h'/\Frm A D.lv h D'.lv h'/\TInv A pre D'/\Gro pre 0 D D'/\Ak U pre D'=Ak U pre D+1/\Jm D' t k:=by
 have hb:D.l.length<=Ak U pre D:=by unfold Ak;omega
 obtain⟨m,v,h',h1,h2,lv,h3,h4⟩:=No A D h H rule t u av args ha hap a_;obtain⟨i1,i2⟩:=I.add lv (hR m);exact⟨v,h',h1,_,_,h2,h3,h4,i1,i2,Hm _ _ _ _ _,.inr ⟨_,_,rfl,PD.add_get _ _ _,rfl,rfl,hty⟩⟩
def VD(A:PA)(pre:ByteArray)(U:List Tm)(n c:Nat)(t:Tm)(D:PD)(h:AH)(v:AV)(h':AH):Prop :=
 ∃(k:Int) (D':PD),v=.int .i64 k/\PrH A D' h'/\Frm A D.lv h D'.lv h'/\TInv A pre D'/\Gro pre n D D'/\Ak U pre D'<=Ak U pre D+c/\Jm D' t k
def ZP(A:PA)(pre:ByteArray)(U:List Tm)(n:Nat):Prop:=∀(t:Tm) (D:PD) (h:AH),t∈U->t.size<=n->Ls t->PrH A D h->TInv A pre D->Ak U pre D+200*n<=1000000 ->
 ∃v h',rc Qf P7 [.ptr A.p 0,I8 t] h=some (v,h')/\VD A pre U t.size 1 t D h v h'
def yB(U:List Tm):Prop:=∀t∈U,∀x∈t.kids,x∈U
theorem db:∀{l:Be} {x:Tm},x∈l->JM x<=Gv l
 |t::l,x,hx=>by
  unfold Gv;rcases zt0z.1 hx with rfl|hx
  .omega
  .have:=db hx;omega
theorem BZ{t:Tm}(h:vE t=0):EP t=0/\RE t=0:=by
 unfold vE at h;have h1:EP t=0:=by
  apply Classical.byContradiction;intro hc;rw[if_pos hc]at h;exact hc h
 rw[if_neg (by simp[h1])]at h;exact⟨h1,h⟩
theorem P9{t:Tm}(h:EP t=0):Q7 t=0/\t.size<=400/\JM t<=40:=by
 unfold EP at h;have h1:Q7 t=0:=by
  apply Classical.byContradiction;intro hc;rw[if_pos hc]at h;exact hc h
 rw[if_neg (by simp[h1])]at h;by_cases hc:400<t.size\/40<JM t
 .rw[if_pos hc]at h;cases h
 .exact⟨h1,a_,a_⟩
theorem vE_kid{t x:Tm}(h:vE t=0)(hk:t.kind=3)(hx:x∈t.kids):vE x=0/\x.size<t.size:=by
 have hs:=Tm.size_le hx;have Ef:=t.kids_size;obtain⟨h1,h2⟩:=BZ h;obtain⟨h3,h4,h5⟩:=P9 h1;have h6:=(MJ h2 hk).2.2 x hx;have h7:Q7 x=0:=by
  obtain⟨k,nm,s,m,l⟩:=t;exact Oy (Mw h3).2.1 x hx
 have h8:JM x<=JM t:=by
  obtain⟨k,nm,s,m,l⟩:=t;have:=db hx;simp only[Tm.kids]at this;have e:JM (.mk k nm s m l)=Gv l+1:=by rw[JM]
  omega
 refine⟨?_,a_⟩;unfold vE;have h9:EP x=0:=by
  unfold EP;rw[if_neg (by simp[h7]),if_neg a_]
 rw[if_neg (by simp[h9])];exact h6
theorem Ls.kid{t x:Tm}(h:Ls t)(hk:t.kind=3)(hx:x∈t.kids):Ls x/\x.size<t.size:=by
 obtain⟨h1,h2⟩:=vE_kid h.1 hk hx;exact⟨⟨h1,by have:=h.2;omega⟩,h2⟩
theorem Ls.th{t:Tm}(h:Ls t):RE t=0:=(BZ h.1).2
theorem Frm.box{A:PA}{D:PD}{lv':AV}{bx bx':List (List AV)}{F F':List Fam}{X:List (List AV)}(H:PrH A D ⟨bx,F⟩)(K:Frm A D.lv ⟨bx++X,F⟩ lv' ⟨bx',F'⟩){j:Nat}(h1:bx.length<=j)(h2:j<bx.length+X.length):bx'[j]?=X[j-bx.length]?:=by
 have lp:=H5 H.bp;have lm:=H5 H.bm;simp only at lp lm;have:=K.bx j a_ a_ f8;simp only at this;rw[this,zg0z h1]
end Go.Abs.Q
namespace Go.Abs.Q
open Go.Proofs
attribute [local simp] E5 E6 fin J4 H8 Q3 S6
set_option maxHeartbeats 1000000 in
theorem rc_pair(A:PA)(pre:Al)(U:Be)(hU:yB U)(n:Nat)(IH:ZP A pre U n)(t:Tm)(D:PD)(h:AH)(ht:t∈U)(hn:t.size<=n+1)(O9:Ls t)(H:PrH A D h)(I:TInv A pre D)(hb:Ak U pre D+200*(n+1)<=1000000)
  (hp:OI t (bs [112,97,105,114])=true) (hc:ty D.tys D.efs t=HJ D.efs (ty D.tys D.efs) t) :
  ∃v h',rc Qf Z7 [.ptr A.p 0,I8 t] h=some (v,h')/\VD A pre U (t.size-1) 3 t D h v h':=by
 obtain⟨hk,hnm⟩:=Dq.1 hp;have hth:=O9.th;obtain⟨a,b,e,ea,eb⟩:=Kq hth hp;obtain⟨oa,sa⟩:=O9.kid hk (x:=a) g_;obtain⟨ob,sb⟩:=O9.kid hk (x:=b) g_;have n0:KW (C4 t.kids) 0=some (I8 a):=by rw[e];rfl
 have n1:KW (C4 t.kids) 1=some (I8 b):=by rw[e];rfl
 have Au:∀f,HJ D.efs f t=(match f a with|some u=>(match f b with|some v=>some (Q9 (if (OJ u&&OJ v)=true then 1 else 6))|none=>none)|none=>none):=λf=>by
  unfold HJ;rw[e];simp only[hnm,if_true]
  all_goals (cases f a<;>cases f b<;>rfl)
 rw[Au]at hc;obtain⟨bx,F⟩:=h;have hP:=H.bp;simp only[H9]at hP;have lp:=H5 hP;obtain⟨v1,⟨bx1,F1⟩,hc1,k1,D1,rfl,H1,K1,I1,G1,b1,r1⟩:=IH a D ⟨bx++[[.int .i64 t.kind,.str t.name,.int .i64 t.sort,sl t.cm 4 (C4 t.kids)]],F⟩ (hU t ht a g_) a_ oa (H.more _) I a_;have q1:bx1[bx.length]?=some [.int .i64 t.kind,.str t.name,.int .i64 t.sort,sl t.cm 4 (C4 t.kids)]:=(Frm.box H K1 (zf2z _) e_).trans e_;by_cases hk1:k1<0
 .have Rg:ty D.tys D.efs a=none:=by
   rcases r1 with ⟨_,hn⟩|⟨j,J,e1,_⟩
   .rw[G1.tys,G1.efs]at hn;exact hn
   .omega
  refine Gm Ad (by simp[G8]) λfr hl ha=>?_;have h0:=ha 0;have h1:=ha 1;clear ha;simp[G8]at hl h0 h1;simp[G8,hl,h0,h1,n0,hc1,hk1];exact⟨-1,D1,rfl,H1,(Frm.more _ _ _ _ _).trans K1,I1,G1.mono a_,a_,.inl ⟨rfl,by rw[G1.tys,G1.efs,hc,Rg]⟩⟩
 .obtain⟨v2,⟨bx2,F2⟩,hc2,k2,D2,rfl,H2,K2,I2,G2,b2,r2⟩:=IH b D1 ⟨bx1,F1⟩ (hU t ht b g_) a_ ob H1 I1 a_;have l1:=H5 q1;have lp1:=H5 H1.bp;have lm1:=H5 H1.bm;have lm:=H5 H.bm;simp only at lp1 lm1 lm;have q2:bx2[bx.length]?=some [.int .i64 t.kind,.str t.name,.int .i64 t.sort,sl t.cm 4 (C4 t.kids)]:=(K2.bx _ a_ a_ l1).trans q1;by_cases hk2:k2<0
  .have Rg:ty D.tys D.efs b=none:=by
    rcases r2 with ⟨_,hn⟩|⟨j,J,e1,_⟩
    .rw[G2.tys,G2.efs,G1.tys,G1.efs]at hn;exact hn
    .omega
   refine Gm Ad (by simp[G8]) λfr hl ha=>?_;have h0:=ha 0;have h1:=ha 1;clear ha;simp[G8]at hl h0 h1;simp[G8,hl,h0,h1,n0,n1,hc1,hk1,hc2,hk2,q1];exact⟨-1,D2,rfl,H2,((Frm.more _ _ _ _ _).trans K1).trans K2,I2,(G1.trans G2).mono a_,a_,.inl ⟨rfl,by rw[G2.tys,G2.efs,G1.tys,G1.efs,hc,Rg];cases ty D.tys D.efs a<;>rfl⟩⟩
  .have r1':=G2.res r1;obtain⟨j1,J1,rfl,hj1,hf1,he1,hu1⟩:∃(j:Nat) (J:Jdg),k1=(j:Nat)/\D2.l[j]?=some J/\J.f=IS/\S4 J.t=S4 a/\ty D2.tys D2.efs a=some J.u:=by
    rcases r1' with ⟨e,_⟩|h
    .omega
    .exact h
   obtain⟨j2,J2,rfl,hj2,hf2,he2,hu2⟩:∃(j:Nat) (J:Jdg),k2=(j:Nat)/\D2.l[j]?=some J/\J.f=IS/\S4 J.t=S4 b/\ty D2.tys D2.efs b=some J.u:=by
    rcases r2 with ⟨e,_⟩|h
    .omega
    .exact h
   have ho1:=λX=>TF A pre D2 ⟨bx2++X,F2⟩ (H2.more X) I2 a _ r1';have ho2:=λX=>TF A pre D2 ⟨bx2++X,F2⟩ (H2.more X) I2 b _ r2;rw[hu1]at ho1;rw[hu2]at ho2;simp only[Vz]at ho1 ho2;have hty:∀x:Typ,x=Q9 (if (OJ J1.u&&OJ J2.u)=true then 1 else 6)->ty D2.tys D2.efs t=some x:=λx hx=>by
    rw[G2.tys,G2.efs,G1.tys,G1.efs]at hu1 hu2 ⊢;rw[hc,hu1,hu2,hx]
   have hR:∀(x:Typ) (m:Bool×Bool),x=Q9 (if (OJ J1.u&&OJ J2.u)=true then 1 else 6)->Rt A D2.tys D2.efs D2.l ⟨13,A.role,A.blk,A.bad,m,[(j1:Int),(j2:Int)],t,x,IS⟩:=λx m hx =>
    .two 13 t x m j1 j2 J1 J2 hj1 hf1 hj2 hf2 O9.1 (by subst hx;split<;>decide) (by subst hx;exact AR _) ⟨hk,⟨a,b,e,he1,he2⟩,.inl ⟨rfl,hnm,hx⟩⟩
   have fin2:∀X,Frm A D.lv ⟨bx,F⟩ D2.lv ⟨bx2++X,F2⟩:=λX=>(((Frm.more _ _ _ _ _).trans K1).trans K2).trans (Frm.more _ _ _ _ _);have hs6:=Lb (Je 6);have hs1:=Lb (Je 1);have q2':∀X,(bx2++X)[bx.length]?=some [.int .i64 t.kind,.str t.name,.int .i64 t.sort,sl t.cm 4 (C4 t.kids)]:=λX=>(zf3z (H5 q2)).trans q2;by_cases ho:(OJ J1.u&&OJ J2.u)=true
   .rw[zg6z]at ho;rw[ho.1]at ho1;rw[ho.2]at ho2;obtain⟨v3,⟨bx3,F3⟩,hj,k3,D3,rfl,H3,K3,I3,G3,b3,r3⟩:=Ks A pre U D2 ⟨bx2++[[.int .i64 (Q9 1).kind,sl (Q9 1).m 4 ((Q9 1).ps.map Bc)]],F2⟩ (H2.more _) I2 13 t (Q9 1) (sl (true,true) 1 [.int .i64 j1,.int .i64 j2]) [(j1:Int),(j2:Int)] (.inl ⟨true,rfl⟩) (Ed _ _ _ _) a_ (λm=>hR _ m (by rw[ho.1,ho.2];rfl)) (hty _ (by rw[ho.1,ho.2];rfl));refine Gm Ad (by simp[G8]) λfr hl ha=>?_;have h0:=ha 0;have h1:=ha 1;clear ha;simp[G8]at hl h0 h1;simp[G8,hl,h0,h1,n0,n1,hc1,hk1,hc2,hk2,q1,q2',ho1,ho2,hs6,hs1,hj,A9];exact⟨k3,D3,rfl,H3,(fin2 _).trans K3,I3,((G1.trans G2).trans G3).mono a_,a_,r3⟩
   .obtain⟨v3,⟨bx3,F3⟩,hj,k3,D3,rfl,H3,K3,I3,G3,b3,r3⟩:=Ks A pre U D2 ⟨bx2++[[.int .i64 (Q9 6).kind,sl (Q9 6).m 4 ((Q9 6).ps.map Bc)]],F2⟩ (H2.more _) I2 13 t (Q9 6) (sl (true,true) 1 [.int .i64 j1,.int .i64 j2]) [(j1:Int),(j2:Int)] (.inl ⟨true,rfl⟩) (Ed _ _ _ _) a_ (λm=>hR _ m (by rw[if_neg ho])) (hty _ (by rw[if_neg ho]));cases o1:OJ J1.u with
    |false =>
     rw[o1]at ho1;refine Gm Ad (by simp[G8]) λfr hl ha=>?_;have h0:=ha 0;have h1:=ha 1;clear ha;simp[G8]at hl h0 h1;simp[G8,hl,h0,h1,n0,n1,hc1,hk1,hc2,hk2,q1,q2',ho1,ho2,hs6,hs1,hj,A9];exact⟨k3,D3,rfl,H3,(fin2 _).trans K3,I3,((G1.trans G2).trans G3).mono a_,a_,r3⟩
    |true =>
     rw[o1]at ho1;have o2:OJ J2.u=false:=by simpa[o1]using ho
     rw[o2]at ho2;refine Gm Ad (by simp[G8]) λfr hl ha=>?_;have h0:=ha 0;have h1:=ha 1;clear ha;simp[G8]at hl h0 h1;simp[G8,hl,h0,h1,n0,n1,hc1,hk1,hc2,hk2,q1,q2',ho1,ho2,hs6,hs1,hj,A9];exact⟨k3,D3,rfl,H3,(fin2 _).trans K3,I3,((G1.trans G2).trans G3).mono a_,a_,r3⟩
end Go.Abs.Q
