/- A part of the proof. -/
import Derived.Test.YtjhgilockkmniaaGreatDoorSH30
import Derived.Test.YtjhgilockkmniaaGreatDoorSH32
import Derived.Test.YtjhgilockkmniaaGreatDoorSH34
set_option linter.all false
open Nat renaming beq->zf0z,max->zf1z,le_refl->zf3z,eq_of_beq_eq_true->zf5z,mod->zf9z,succ->zg0z
open List renaming getD_eq_getElem?_getD->zf2z,nil_append->zf7z,replicate->zf8z
open Option renaming map_eq_some_iff->zf4z
open Bool renaming and_eq_true->zf6z
namespace Go.Abs
theorem nk {a b:Nat} (h:a≠b):zf0z a b=false:=by
 cases e:zf0z a b with
 |false=>rfl
 |true=>exact absurd (zf5z e) h
theorem tW {a b:Nat} (h:a=b):zf0z a b=true:=by subst h;exact Nat.beq_refl a
def gv (_:Nat):Bool:=false
def jG (_:FT) (_:AV) (_:FT) (hl hr:Nat->Bool) (n:Nat):Bool:=if n=0 then true else if n % 2=1 then hl (n / 2)else hr (n / 2-1)
noncomputable def FT.has (t:FT):Nat->Bool:=t.rec gv jG
theorem Gy (l:FT) (v:AV) (r:FT) (n:Nat):(FT.node l v r).get n=if n=0 then v else if n % 2=1 then l.get (n / 2)else r.get (n / 2-1):=by
 show Vc l v r l.get r.get n=_;unfold Vc;by_cases h:n=0
 .subst h;rfl
 .rw[if_neg h,show zf0z n 0=false from nk h];show bQ v l.get r.get n=_;unfold bQ;by_cases h1:n % 2=1
  .rw[if_pos h1,show zf0z (zf9z n 2) 1=true from tW h1];rfl
  .rw[if_neg h1,show zf0z (zf9z n 2) 1=false from nk h1];rfl
theorem UL (l:FT) (v:AV) (r:FT) (n:Nat) (x:AV):(FT.node l v r).put n x=if n=0 then .node l x r else if n % 2=1 then .node (l.put (n / 2) x) v r else .node l v (r.put (n / 2-1) x):=by
 show WG l v r l.put r.put n x=_;unfold WG;by_cases h:n=0
 .subst h;rfl
 .rw[if_neg h,show zf0z n 0=false from nk h];show cJ l v r l.put r.put n x=_;unfold cJ;by_cases h1:n % 2=1
  .rw[if_pos h1,show zf0z (zf9z n 2) 1=true from tW h1];rfl
  .rw[if_neg h1,show zf0z (zf9z n 2) 1=false from nk h1];rfl
theorem IP (l:FT) (v:AV) (r:FT) (n:Nat):(FT.node l v r).has n=if n=0 then true else if n % 2=1 then l.has (n / 2)else r.has (n / 2-1):=rfl
theorem fD (t:FT):∀(d:Nat) (v:AV) (n:Nat),(t.put d v).get n=if n=d/\t.has d=true then v else t.get n:=by
 induction t with
 |nil=>intro d v n;rw[if_neg (λh=>Bool.noConfusion h.2)];rfl
 |node l x r il ir =>
  intro d v n;rw[UL,IP];by_cases hd:d=0
  .subst hd;simp only[if_true,and_true];rw[Gy,Gy];by_cases hn:n=0
   .simp[hn]
   .simp[hn]
  .rw[if_neg hd,if_neg hd];by_cases h1:d % 2=1
   .rw[if_pos h1,if_pos h1,Gy,Gy];by_cases hn:n=0
    .rw[if_pos hn,if_pos hn,if_neg (by omega)]
    .rw[if_neg hn,if_neg hn];by_cases h2:n % 2=1
     .rw[if_pos h2,if_pos h2,il];by_cases he:n=d
      .subst he;simp only[true_and]
      .rw[if_neg (by omega),if_neg (by omega)]
     .rw[if_neg h2,if_neg h2,if_neg (by omega)]
   .rw[if_neg h1,if_neg h1,Gy,Gy];by_cases hn:n=0
    .rw[if_pos hn,if_pos hn,if_neg (by omega)]
    .rw[if_neg hn,if_neg hn];by_cases h2:n % 2=1
     .rw[if_pos h2,if_pos h2,if_neg (by omega)]
     .rw[if_neg h2,if_neg h2,ir];by_cases he:n=d
      .subst he;simp only[true_and]
      .rw[if_neg (by omega),if_neg (by omega)]
theorem fH (t:FT):∀(d:Nat) (v:AV) (n:Nat),(t.put d v).has n=t.has n:=by
 induction t with
 |nil=>intro d v n;rfl
 |node l x r il ir =>
  intro d v n;rw[UL];by_cases hd:d=0
  .rw[if_pos hd];rfl
  .rw[if_neg hd];by_cases h1:d % 2=1
   .rw[if_pos h1,IP,IP,il]
   .rw[if_neg h1,IP,IP,ir]
theorem Ns (k n:Nat):JT (k+1) n=if n=0 then .nil else .node (JT k (n / 2)) B3 (JT k ((n-1) / 2)):=by
 show ((zf0z n 0).rec (.node (JT k (n / 2)) B3 (JT k ((n-1) / 2))) .nil:FT)=_;by_cases h:n=0
 .subst h;rfl
 .rw[if_neg h,show zf0z n 0=false from nk h]
theorem ME:∀(k n i:Nat),(JT k n).get i=B3
 |0,_,_=>rfl
 |k+1,n,i=>by
  rw[Ns];by_cases h:n=0
  .rw[if_pos h];rfl
  .rw[if_neg h,Gy,ME,ME];simp
theorem MG:∀(k n i:Nat),n<k->(JT k n).has i=decide (i<n)
 |0,_,_,h=>absurd h (Nat.not_lt_zero _)
 |k+1,n,i,hk=>by
  rw[Ns];by_cases h:n=0
  .subst h;rw[if_pos rfl];simp[FT.has,gv]
  .rw[if_neg h,IP];by_cases hi:i=0
   .subst hi;rw[if_pos rfl];simp;omega
   .rw[if_neg hi];by_cases h1:i % 2=1
    .rw[if_pos h1,MG k _ _ (by omega)];apply decide_eq_decide.2;omega
    .rw[if_neg h1,MG k _ _ (by omega)];apply decide_eq_decide.2;omega
structure RepT (t:FT) (fr:Fr):Prop where
 get:∀n,t.get n=fr.getD n B3
 has:∀n,t.has n=decide (n<fr.length)
theorem bR (fr:Fr) (d n:Nat) (v:AV):(fr.set d v).getD n B3=if n=d/\d<fr.length then v else fr.getD n B3:=by
 simp only[zf2z,List.getElem?_set];by_cases h:d=n
 .subst h;by_cases hl:d<fr.length
  .simp[hl]
  .simp[hl]
 .rw[if_neg h,if_neg (λk=>h k.1.symm)]
theorem RepT.put {t:FT} {fr:Fr} (R:RepT t fr) (d:Nat) (v:AV):RepT (t.put d v) (fr.set d v):=by
 constructor
 .intro n;rw[fD,bR,R.has,R.get];simp
 .intro n;rw[fH,R.has,List.length_set]
theorem RepT.putO {t:FT} {fr:Fr} (R:RepT t fr) (d:Option Nat) (v:AV):RepT (UK t d v) (Go.Abs.put fr d v):=by
 cases d with
 |none=>exact R
 |some d=>exact R.put d v
theorem RepT.gT {t:FT} {fr:Fr} (R:RepT t fr):Go.Abs.gT t.get=Go.Abs.get fr:=by
 funext x;cases x with
 |t n=>exact R.get n
 |c v=>rfl
theorem RepT.puts:∀(args:C6) {t:FT} {pre old:Fr},RepT t (pre++old)->args.length<=old.length->RepT (Ov t pre.length args) (pre++args++old.drop args.length)
 | [],t,pre,old,R,_=>by simpa[Ov]using R
 |v::vs,t,pre,old,R,h=>by
  cases old with
  |nil=>simp at h
  |cons o old =>
   have hs:(pre++o::old).set pre.length v=(pre++[v])++old:=by simp
   have R1:=R.put pre.length v;rw[hs]at R1;have:=RepT.puts vs R1 (by simpa using h);simpa[Ov]using this
theorem RepT.start (rf:RFunc) (args:C6):RepT (Ov (JT (zg0z (zf1z rf.ntmps args.length)) (zf1z rf.ntmps args.length)) 0 args) (Ao rf args):=by
 have h0:RepT (JT (zg0z (zf1z rf.ntmps args.length)) (zf1z rf.ntmps args.length)) ([]++zf8z (zf1z rf.ntmps args.length) B3):=by
  constructor
  .intro n;rw[ME];simp only[zf7z,zf2z,List.getElem?_replicate];split<;>rfl
  .intro n;rw[MG _ _ _ (Nat.lt_succ_self _)];simp
 have h1:=RepT.puts args h0 (by simp;exact Nat.le_max_right _ _);have e:([]:Fr)++args++(zf8z (zf1z rf.ntmps args.length) B3).drop args.length=Ao rf args:=by
  unfold Ao;rw[List.drop_replicate,zf7z];congr 2;show max rf.ntmps args.length-args.length=_;omega
 rw[e]at h1;exact h1
theorem Px (fr:Fr) (n:Nat):∀l,RC (get fr) n l=F4 fr n l
 | []=>rfl
 |(a,b,x)::l=>by unfold RC F4;rw[Px fr n l]
theorem MU (fr:Fr) (h:AH):∀(l:List (Nat×Opd)) (xs:C6),PN (get fr) h xs l=B4 fr h xs l
 | [],_=>rfl
 |(i,x)::l,xs=>by
  unfold PN B4;cases xs[i]? with
  |none=>rfl
  |some z =>
   cases frz h false (get fr x)with
   |none=>rfl
   |some y=>simp only[MU fr h l]
theorem Lx (fr:Fr) (x:Option Opd):Qz (get fr) x=E8 fr x:=by cases x<;>rfl
theorem eQ (op:BinOp) (x y:AV):lZ op x y=E7 op x y:=by
 cases x<;>cases op<;>first|rfl|(cases y<;>rfl)
theorem OD (O:Orc) (c:Ctx) (o:ROp) (fr:Fr) (h:AH):LO o O c (get fr) h=A3 O c o fr h:=by
 cases o with
 |build z parts=>show RH z parts O c (get fr) h=_;unfold RH;rw[Px];rfl
 |bslice n z parts=>show Nz n z parts O c (get fr) h=_;unfold Nz;rw[MU];rfl
 |bslicev n z parts=>show MC n z parts O c (get fr) h=_;unfold MC;rw[MU];rfl
 |slc sz x lo hi mx=>show bH sz x lo hi mx O c (get fr) h=_;unfold bH;rw[Lx,Lx,Lx];rfl
 |bin op x y=>show bD op x y O c (get fr) h=_;unfold bD;rw[eQ];rfl
 |len b x=>cases b<;>rfl
 |_=>rfl
theorem PP {t:FT} {fr:Fr} (R:RepT t fr) (g:Option (Nat×Bool)):Lo t.get g=M7 fr g:=by
 cases g with
 |none=>rfl
 |some p =>
  obtain⟨s,w⟩:=p;show SW t.get (s,w)=_;unfold SW M7;rw[R.get];rfl
def lJ (st:NV->GQ) (s:St->Option (Ex×St)):Prop :=
 ∀t fr h,RepT t fr->∀e t' h',st (t,h)=some (e,t',h')->∃fr',s (fr,h)=some (e,fr',h')/\RepT t' fr'
structure SimO (A:OrcT) (O:Orc):Prop where
 pure:∀f args r,A.pure f args=some r->O.pure f args=some r
 raw:∀f args h r,A.raw f args h=some r->O.raw f args h=some r
 loop:∀st s,lJ st s->lJ (A.loop st) (O.loop s)
theorem SimO.le {A:OrcT} {O:Orc} (S:SimO A O):Le A.orc O:=⟨S.pure,S.raw,λ_ _ _ _ _ h=>by cases h⟩
theorem Ro {A:OrcT} {O:Orc} (S:SimO A O) (c:Ctx):∀(l:List RO) (t:FT) (fr:Fr) (h:AH),RepT t fr->∀t' h',ZC l A.orc c t h=some (t',h')->∃fr',E9 O c l fr h=some (fr',h')/\RepT t' fr'
 | [],t,fr,h,R,t',h',he=>by
  have he:some (t,h)=some (t',h'):=he;cases he;exact⟨fr,rfl,R⟩
 |o::l,t,fr,h,R,t',h',he=>by
  have he:((Lo t.get o.guard).rec none (bg o (ZC l) A.orc c t h):Option (FT×AH))=some (t',h'):=he;rw[PP R]at he;unfold E9;cases hw:M7 fr o.guard with
  |none=>rw[hw]at he;cases he
  |some b =>
   rw[hw]at he;cases b with
   |false=>exact Ro S c l _ _ h (R.putO o.dst B3) t' h' he
   |true =>
    have he:((LO o.op A.orc c (gT t.get) h).rec none (λp=>ZC l A.orc c (UK t o.dst p.1) p.2):Option (FT×AH))=some (t',h'):=he;rw[R.gT,OD]at he;cases hp:A3 A.orc c o.op fr h with
    |none=>rw[hp]at he;cases he
    |some p =>
     rw[hp]at he;have hp':=Dy S.le hp;dsimp only;rw[hp'];exact Ro S c l _ _ p.2 (R.putO o.dst p.1) t' h' he
theorem YH {a b:List (List AV)} (e:b=a):Kk a b=[]:=by
 subst e;have:∀i:Nat,QE b[i]? b[i]?=true:=λi=>by
  cases b[i]? with
  |none=>rfl
  |some x=>exact L5 x
 simp[Kk,this]
theorem YI {a b:List Fam} (e:b=a):PZ a b=[]:=by
 subst e;have:∀x:Option Fam,Me x x=true:=λx=>by
  cases x with
  |none=>rfl
  |some x=>simp[Me,L5]
 simp[PZ,this]
theorem bN {O:Orc} {c:Ctx} {r:ROp} {fr:Fr} {h h1:AH} {v:AV} (he:A3 O c r fr h=some (v,h1)):Wz c (get fr) r h h1=Mi c (some true) (get fr) r h h1:=by
 obtain⟨k1,k2⟩:=Hg he;simp only[Wz,Mi];congr 1
 .split
  .rfl
  .rename_i hw;rw[YH (k1 (by simpa using hw))]
 .split
  .rfl
  .rename_i hw;rw[YI (k2 (by simpa using hw))]
theorem Oc {A:OrcT} {O:Orc} (S:SimO A O) (c:Ctx):∀(l:List RO) (t:FT) (fr:Fr) (h:AH),RepT t fr->∀fs t' h',QY l A.orc c t h=some (fs,t',h')->∃fr',J4 O c l fr h=some (fs,fr',h')/\RepT t' fr'
 | [],t,fr,h,R,fs,t',h',he=>by
  have he:some (([]:List Foot),t,h)=some (fs,t',h'):=he;cases he;exact⟨fr,rfl,R⟩
 |o::l,t,fr,h,R,fs,t',h',he=>by
  have he:(match Lo t.get o.guard with
   |some true=>(match LO o.op A.orc c (gT t.get) h with|some (v,h')=>(QY l A.orc c (UK t o.dst v) h').map λp=>(Wz c (gT t.get) o.op h h'::p.1,p.2)|none=>none)
   |some false=>(QY l A.orc c (UK t o.dst B3) h).map λp=>(Mi c (some false) (gT t.get) o.op h h::p.1,p.2)
   |none=>none)=some (fs,t',h'):=he
  rw[PP R,R.gT,OD]at he;unfold J4 BV;cases hw:M7 fr o.guard with
  |none=>rw[hw]at he;cases he
  |some b =>
   rw[hw]at he;cases b with
   |false =>
    dsimp only at he ⊢;rw[zf4z]at he;obtain⟨⟨fs1,t1,h1⟩,hq,e⟩:=he;cases e;obtain⟨fr',k1,k2⟩:=Oc S c l _ _ h (R.putO o.dst B3) _ _ _ hq;exact⟨fr',by rw[k1];rfl,k2⟩
   |true =>
    dsimp only at he ⊢;cases hp:A3 A.orc c o.op fr h with
    |none=>rw[hp]at he;cases he
    |some p =>
     rw[hp]at he;rw[Dy S.le hp];dsimp only at he ⊢;rw[bN hp]at he;rw[zf4z]at he;obtain⟨⟨fs1,t1,h1⟩,hq,e⟩:=he;cases e;obtain⟨fr',k1,k2⟩:=Oc S c l _ _ p.2 (R.putO o.dst p.1) _ _ _ hq;exact⟨fr',by rw[k1];rfl,k2⟩
theorem Gv {A:OrcT} {O:Orc} (S:SimO A O) (c:Ctx):∀(x:RCode),lJ (KU x A c) (A4 O c x)
 | .skip=>λt fr h R e t' h' he=>by
  have he:some (Ex.normal,t,h)=some (e,t',h'):=he;cases he;exact⟨fr,rfl,R⟩
 | .region d ops=>λt fr h R e t' h' he=>by
  have he:((ZC ops A.orc c t h).rec none (λs'=>some (Ex.normal,s')):GQ)=some (e,t',h'):=he;unfold A4;cases ho:ZC ops A.orc c t h with
  |none=>rw[ho]at he;cases he
  |some s =>
   rw[ho]at he;cases he;obtain⟨fr',h1,h2⟩:=Ro S c ops t fr h R _ _ ho;exact⟨fr',by rw[h1],h2⟩
 | .regd bs ops=>λt fr h R e t' h' he=>by
  have he:(match QY ops A.orc c t (h.holes (XG ops))with|some (fs,s')=>if r7 bs ops fs then some (Ex.normal,s')else none|none=>none)=some (e,t',h'):=he
  unfold A4;cases ho:QY ops A.orc c t (h.holes (XG ops))with
  |none=>rw[ho]at he;cases he
  |some s =>
   obtain⟨fs,t1,h1⟩:=s;rw[ho]at he;dsimp only at he;split at he
   .rename_i hp;cases he;obtain⟨fr',k1,k2⟩:=Oc S c ops t fr (h.holes (XG ops)) R _ _ _ ho;exact⟨fr',by rw[k1];dsimp only;rw[if_pos hp],k2⟩
   .cases he
 | .seq a b=>λt fr h R e t' h' he=>by
  have he:(match KU a A c (t,h)with|some (.normal,s')=>KU b A c s' | r=>r)=some (e,t',h'):=he
  unfold A4;cases ha:KU a A c (t,h)with
  |none=>rw[ha]at he;cases he
  |some p =>
   obtain⟨ea,ta,h1⟩:=p;rw[ha]at he;obtain⟨fra,k1,k2⟩:=Gv S c a t fr h R _ _ _ ha;rw[k1];cases ea with
   |normal=>exact Gv S c b ta fra h1 k2 e t' h' he
   |exit id=>cases he;exact⟨fra,rfl,k2⟩
   |ret=>cases he;exact⟨fra,rfl,k2⟩
 | .cond q a b=>λt fr h R e t' h' he=>by
  have he:(match gT t.get q with | .bool true=>KU a A c (t,h) | .bool false=>KU b A c (t,h)|_=>none)=some (e,t',h'):=he
  rw[R.gT]at he;unfold A4;dsimp only;generalize get fr q=v at he ⊢;split at he
  .exact Gv S c a t fr h R e t' h' he
  .exact Gv S c b t fr h R e t' h' he
  .cases he
 | .block id a=>λt fr h R e t' h' he=>by
  have he:(match KU a A c (t,h)with|some (.exit id',s')=>if id'=id then some (.normal,s')else some (.exit id',s')|r=>r)=some (e,t',h'):=he
  unfold A4;cases ha:KU a A c (t,h)with
  |none=>rw[ha]at he;cases he
  |some p =>
   obtain⟨ea,ta,h1⟩:=p;rw[ha]at he;obtain⟨fra,k1,k2⟩:=Gv S c a t fr h R _ _ _ ha;rw[k1];cases ea with
   |normal=>cases he;exact⟨fra,rfl,k2⟩
   |ret=>cases he;exact⟨fra,rfl,k2⟩
   |exit id' =>
    dsimp only at he ⊢;by_cases hi:id'=id
    .rw[if_pos hi]at he ⊢;cases he;exact⟨fra,rfl,k2⟩
    .rw[if_neg hi]at he ⊢;cases he;exact⟨fra,rfl,k2⟩
 | .loop a=>λt fr h R e t' h' he=>S.loop _ _ (Gv S c a) t fr h R e t' h' he
 | .exit id=>λt fr h R e t' h' he=>by
  have he:some (Ex.exit id,t,h)=some (e,t',h'):=he;cases he;exact⟨fr,rfl,R⟩
 | .ret=>λt fr h R e t' h' he=>by
  have he:some (Ex.ret,t,h)=some (e,t',h'):=he;cases he;exact⟨fr,rfl,R⟩
 | .bad=>λt fr h R e t' h' he=>by
  have he:none=some (e,t',h'):=he;cases he
theorem Ni {t:FT} {fr:Fr} (R:RepT t fr) (h:AH):∀l,WY t h l=Gf fr h l
 | []=>rfl
 | .tmp k::l=>by unfold WY Gf;rw[Ni R h l,R.get]
 | .cell a b n::l=>by unfold WY Gf;rw[Ni R h l,R.get]
theorem aa {A:OrcT} {O:Orc} (S:SimO A O) (c:Ctx) (rf:RFunc) (args:C6) (h:AH) {r:AV×AH} (he:aZ A c rf args h=some r):Fu O c rf args h=some r:=by
 unfold aZ at he;unfold Fu;cases hc:KU rf.body A c (Ov (JT (zg0z (zf1z rf.ntmps args.length)) (zf1z rf.ntmps args.length)) 0 args,h)with
 |none=>rw[hc]at he;cases he
 |some p =>
  obtain⟨e,t',h'⟩:=p;rw[hc]at he;obtain⟨fr',k1,k2⟩:=Gv S c rf.body _ _ h (RepT.start rf args) _ _ _ hc;rw[k1];cases e with
  |normal=>dsimp only at he ⊢;rw[Ni k2]at he;exact he
  |ret=>dsimp only at he ⊢;rw[Ni k2]at he;exact he
  |exit id=>cases he
theorem WZ {s:RSpec} {O O':Orc} (hO:Le O O') {args:C6} {h:AH} {x:AV×AH} (he:s.run O args h=some x):s.run O' args h=some x:=by
 obtain⟨l,h1,h2⟩:=s.fin O args h x he;exact h2 O' λp hp=>hO.pure _ _ _ (h1 p hp)
structure KnowOk (C:Cfg) (K:Know):Prop where
 pure:∀f args r,K.pure f args=some r->pc C f args=some r
 raw:∀f args h r,K.raw f args h=some r->rc C f args h=some r
section
variable {C:Cfg} {K:Know}
theorem UO {A:OrcT} (S:SimO A (M3 C)) {f:FuncId} {args:C6} {h:AH} {r:AV×AH} (he:WQ C A f args h=some r):Ge C (M3 C) f args h=some r:=by
 unfold WQ at he;unfold Ge;cases hc:C.code f with
 |some rf=>rw[hc]at he;exact aa S _ rf args h he
 |none =>
  rw[hc]at he;dsimp only at he ⊢;cases hr:C.rspec f with
  |none=>rw[hr]at he;cases he
  |some s=>rw[hr]at he;exact WZ S.le he
theorem fo (hK:KnowOk C K) {A:OrcT} (S:SimO A (M3 C)) {f:FuncId} {args:C6} {h:AH} {r:AV×AH} (he:jj C K A f args h=some r):rc C f args h=some r:=by
 unfold jj at he;cases hk:K.raw f args h with
 |some x=>rw[hk]at he;cases he;exact hK.raw _ _ _ _ hk
 |none =>
  rw[hk]at he;have he:UZ (C.ctx f).rst (WQ C A f args h)=some r:=he;cases hu:WQ C A f args h with
  |none=>rw[hu]at he;unfold UZ at he;split at he<;>cases he
  |some x =>
   rw[hu,MR]at he;cases he;exact iD C (UO S hu)
theorem ch (hK:KnowOk C K) {A:OrcT} (S:SimO A (M3 C)) {f:FuncId} {args:C6} {r:AV} (he:cf C K A f args=some r):pc C f args=some r:=by
 unfold cf at he;cases hk:K.pure f args with
 |some x=>rw[hk]at he;cases he;exact hK.pure _ _ _ hk
 |none =>
  rw[hk]at he;have he:cg C K A f args=some r:=he;unfold cg at he;cases hs:C.spec f with
  |some s =>
   apply XO;rw[hs]at he;unfold Em;rw[hs];exact he
  |none =>
   rw[hs]at he;dsimp only at he;cases hr:WQ C A f args AH.empty with
   |none=>rw[hr]at he;cases he
   |some p =>
    rw[hr]at he;apply XO;unfold Em;rw[hs];dsimp only;rw[UO S hr];exact he
end
theorem TU {st:NV->GQ} {s:St->Option (Ex×St)} (H:lJ st s):∀n,lJ (bY n st) (GF s n)
 |0=>λt fr h R e t' h' he=>by
  have he:none=some (e,t',h'):=he;cases he
 |n+1=>λt fr h R e t' h' he=>by
  have he:(match st (t,h)with|some (.normal,s')=>bY n st s' | r=>r)=some (e,t',h'):=he
  unfold GF;cases ha:st (t,h)with
  |none=>rw[ha]at he;cases he
  |some p =>
   obtain⟨ea,ta,h1⟩:=p;rw[ha]at he;obtain⟨fra,k1,k2⟩:=H t fr h R _ _ _ ha;rw[k1];cases ea with
   |normal=>exact TU H n ta fra h1 k2 e t' h' he
   |exit id=>cases he;exact⟨fra,rfl,k2⟩
   |ret=>cases he;exact⟨fra,rfl,k2⟩
theorem Rp {C:Cfg} {K:Know} (hK:KnowOk C K):∀n,SimO (oe C K n) (M3 C)
 |0=>⟨λ_ _ _ h=>(nomatch (show none=some _ from h)),λ_ _ _ _ h=>(nomatch (show none=some _ from h)),λ_ _ _=>λt fr h R e t' h' he=>nomatch (show none=some _ from he)⟩
 |n+1=>⟨λ_ _ _ h=>ch hK (Rp hK n) h,λ_ _ _ _ h=>fo hK (Rp hK n) h,λ_ _ H=>λt fr h R e t' h' he=>by
   obtain⟨fr',h1,h2⟩:=TU H (n+1) t fr h R e t' h' he;exact⟨fr',Nb h1,h2⟩⟩
theorem CQ {C:Cfg} {K:Know} (hK:KnowOk C K) (n:Nat) {f:FuncId} {args:C6} {r:AV} (h:(oe C K n).pure f args=some r):pc C f args=some r:=(Rp hK n).pure f args r h
structure Told where
 f:FuncId
 args:List AV
 r:AV
def dY (l:List Told) (g:FuncId->List AV->Option AV) (f:FuncId) (args:List AV):Option AV :=
 match l.find? λx=>zf0z x.f f&&Gx x.args args with
 |some x=>some x.r
 |none=>g f args
def HB (l:List Told) (g:FuncId->List AV->Option AV):Know:=⟨dY l g,λ_ _ _=>none⟩
theorem AJ {C:Cfg} {l:List Told} {g:FuncId->List AV->Option AV} (h:∀x∈l,pc C x.f x.args=some x.r) (hg:∀f args r,g f args=some r->pc C f args=some r):KnowOk C (HB l g):=by
 refine⟨λf args r he=>?_,λ_ _ _ _ he=>by cases he⟩;have he:dY l g f args=some r:=he;unfold dY at he;split at he
 .rename_i x hx;cases he;have h1:=List.find?_some hx;have h2:=List.mem_of_find?_eq_some hx;rw[zf6z]at h1;have e1:=zf5z h1.1;have e2:=uD h1.2;rw[←e1,←e2];exact h x h2
 .exact hg f args r he
end Go.Abs
namespace Go.Abs.Q
open Go.Proofs
def I (n:Int):AV:=.int .i64 n
def S (l:List Nat):AV:=.str ⟨(l.map UInt8.ofNat).toArray⟩
mutual
def Zi:AV->Option Tm
 | .agg [.int .i64 k,.str n,.int .i64 s,.vs f z xs]=>if z=4\/(z=0/\xs.isEmpty=true)then (match Ul xs with|some l=>some (.mk k n s (f,decide (z=4)) l)|none=>none)else none
 |_=>none
def Ul:List AV->Option (List Tm)
 | []=>some []
 |x::xs=>match Zi x,Ul xs with|some t,some l=>some (t::l)|_,_=>none
end
mutual
theorem Nk:∀{a:AV} {t:Tm},Zi a=some t->H2 t=a
 | .agg [.int .i64 k,.str n,.int .i64 s,.vs f z xs],t,h=>by
  simp only[Zi]at h;split at h
  .rename_i hz;split at h
   .rename_i l hl;cases h;have:=Um hl;simp only[H2,this,sl];rcases hz with rfl|⟨rfl,hx⟩
    .simp
    .simp[hx]
   .cases h
  .cases h
theorem Um:∀{xs:C6} {l:Hm},Ul xs=some l->D0 l=xs
 | [],l,h=>by
  simp only[Ul]at h;cases h;simp[D0]
 |x::xs,l,h=>by
  simp only[Ul]at h;split at h
  .rename_i t l' h1 h2;cases h;simp only[D0,Nk h1,Um h2]
  .cases h
end
def JV (f:FuncId) (args:List AV):Option AV :=
 if f=q9 then
  match args with
  | [a,b] =>
   match Zi a,Zi b with
   |some t,some t'=>if t.size<=1099511627776/\t'.size<=1099511627776 then some (.int .i64 (GD t t'))else none
   |_,_=>none
  |_=>none
 else none
theorem eU (f:FuncId) (args:C6) (r:AV) (h:JV f args=some r):pc Q f args=some r:=by
 unfold JV at h;split at h
 .rename_i hf;subst hf;split at h
  .rename_i a b;split at h
   .rename_i t t' h1 h2;split at h
    .rename_i hs;cases h;rw[←Nk h1,←Nk h2];exact WH t.size t t' (zf3z _) hs.1 hs.2
    .cases h
   .cases h
  .cases h
 .cases h
end Go.Abs.Q
namespace Go.Proofs
open Go.RowKit Go.Abs Go.Abs.Q
theorem GN.of {w:World} {ok:Nat->Nat->Prop} {B:Nat} (hg:CS w ok) (AI:∀b o,ok b o->b<B):GN B w:=by
 have h:=hg (2,_) (by unfold XC;exact List.mem_singleton.2 rfl);simp only[PV,BU]at h;obtain⟨b,o,he,⟨u,h1,h2,h3,h4⟩,-⟩:=h;cases he;obtain⟨a,len,cap,rfl,C4,hc,hm,_,_,hx⟩:=h4;obtain⟨wb,wo,rfl,hz,hp⟩:=hx (by simp);have hl:len=6:=C4;subst hl;have hw:∀j,j<6->ok wb (wo+j)/\w.cell? ⟨wb,wo+j,none⟩=some (.string ⟨(HO.getD j []).toArray⟩):=λj hj=>by
  obtain⟨s,hs,hse⟩:∃s:ByteArray,(([[97,110,121],[97,103,101,110,116],[110,111,110,99,101],[107,101,121],[100,97,116,97],[116,97,103]]:List (List Nat)).map λl=>AV.str ⟨(l.map UInt8.ofNat).toArray⟩)[j]?=some (.str s)/\s=⟨(HO.getD j []).toArray⟩:=by
   match j,hj with
   |0,_=>exact⟨_,rfl,rfl⟩
   |1,_=>exact⟨_,rfl,rfl⟩
   |2,_=>exact⟨_,rfl,rfl⟩
   |3,_=>exact⟨_,rfl,rfl⟩
   |4,_=>exact⟨_,rfl,rfl⟩
   |5,_=>exact⟨_,rfl,rfl⟩
  obtain⟨-,p2⟩:=Gq hp hs;obtain⟨u,k1,k2,k3,k4⟩:=n7 p2 (j:=0) rfl;simp only[PV]at k4;subst k4 hse;rw[Nat.mul_one,Nat.add_zero]at k1 k2;exact⟨k1,k2⟩
 exact⟨wb,wo,cap,AI _ _ (hw 0 (by omega)).1,AI _ _ h1,h2,λj hj=>(hw j hj).2⟩
set_option maxHeartbeats 8000000 in
set_option maxRecDepth 100000 in
theorem Tryz.format_ok (t:Tm) (hv:Az t=0) (AI:Us t=true) (K3:t.size<=1048576) (C4:(Sb t).length+100<=140737488355328) (w:World) (ok0:Nat->Nat->Prop) (vt:Value) (hk:∀b o,ok0 b o->b<w.heap.size) (hG:CS w ok0) (hp:PV w ok0 (H2 t) vt) :
  Calls Tryz.prog 202 #[vt] w λe w'=>e=.returned (.tuple #[.string ⟨(Sb t).toArray⟩,.int .i64 0])/\Below w.heap.size w w':=by
 have hV:=Lg t (by omega);rw[hv]at hV;obtain⟨k,n,s,m,ts⟩:=t;obtain⟨a,len,cap,rfl,rfl,-⟩:=Kv hp;have hb0:=(Below.refl w.heap.size w).alloc (zf3z _) (.cells #[.int .i64 k,.string n,.int .i64 s,.slice a ts.length cap] 41);have hst0:∀b o,ok0 b o->ok0 b o/\DP w (w.alloc (.cells #[.int .i64 k,.string n,.int .i64 s,.slice a ts.length cap] 41)) b o:=λb o h=>⟨h,hb0.cell (p:=⟨b,o,none⟩) (hk b o h),λes clk he=>by rw[hb0.block b (hk b o h)];exact he⟩;have hp0:=Z2 hst0 _ _ hp;have hC:=λ(hh:U3 (w.alloc (.cells #[.int .i64 k,.string n,.int .i64 s,.slice a ts.length cap] 41)) ok0 [H2 (.mk k n s m ts)] (#[Value.agg #[.int .i64 k,.string n,.int .i64 s,.slice a ts.length cap]]:Array Value).toList)=>UH QS hV (w.alloc (.cells #[.int .i64 k,.string n,.int .i64 s,.slice a ts.length cap] 41)) ok0 _ (λb o h=>by have:=hk b o h;simp;omega) (hG.mono hst0) hh;have hC':=hC (by simp only[U3];exact⟨_,_,rfl,hp0,rfl⟩);clear hC;have box:∀w1,Below (w.alloc (.cells #[.int .i64 k,.string n,.int .i64 s,.slice a ts.length cap] 41)).heap.size (w.alloc (.cells #[.int .i64 k,.string n,.int .i64 s,.slice a ts.length cap] 41)) w1->∀i,(w1.alloc (.cells #[.pointer none,.slice none 0 0] 310)).cell? ⟨w.heap.size,i,none⟩=#[.int .i64 k,.string n,.int .i64 s,.slice a ts.length cap][i]?:=λw1 hb i =>
  have A9:w.heap.size<w1.heap.size:=by have:=hb.size;simp at this;omega
  Lib.cell_of_heap ((Lib.alloc_old w1 _ _ A9).trans ((hb.block w.heap.size (by simp)).trans (show (w.heap.push _)[w.heap.size]?=some (.cells _ 41 (0,0)) from Array.getElem?_push_size))) i
 go_enter Tryz.func202,Tryz.ntmps202
 go_wp2_with (first
  |(go_at_call 126;refine hC'.mono ?_;rintro e w1 ⟨u,rfl,⟨hb1,-⟩,hu⟩;simp only[PV]at hu;subst hu;have c0:=box w1 hb1 0;have c1:=box w1 hb1 1;have c2:=box w1 hb1 2;have c3:=box w1 hb1 3;have A6:w.heap.size<=w1.heap.size:=(by have:=hb1.size;simp at this;omega);have hbW:=(hb0.trans (hb1.mono (by simp))).alloc A6 (.cells #[.pointer none,.slice none 0 0] 310);have hst2:=λb o (h:ok0 b o)=>(⟨Nat.lt_of_lt_of_le (hk b o h) A6,hbW.cell (p:=⟨b,o,none⟩) (hk b o h),λes clk he=>by rw[hbW.block b (hk b o h)];exact he⟩:(b<w1.heap.size)/\DP w _ b o))
  |(go_at_call 253;refine(Tryz.write_ok w1.heap.size w1.heap.size _ (.mk k n s m ts) (zf3z _) K3 AI [] _ _ (Lib.fresh_isBuilder 310 5 w1) (Z2 (ok':=λx _=>x<w1.heap.size) hst2 _ _ hp) (by simp;omega) (by simp) (GN.of (hG.mono (ok':=λx _=>x<w1.heap.size) hst2) (λ_ _ h=>h))).mono ?_;rintro e w3 ⟨rfl,h3,hb3,-⟩)
  |(go_at_call 254;refine(Tryz.bldString w1.heap.size w1.heap.size _ _ (.inr h3) (by have:=hb3.size;simp at this;omega)).mono ?_;rintro e w4 ⟨rfl,hb4⟩))
 go_ret2
 refine⟨rfl,?_⟩;exact hbW.trans ((hb3.trans hb4).mono A6)
def mj (t:Tm):Bool:=decide (Az t=0)&&Us t&&decide (t.size<=1000)&&decide ((Sb t).length<=1000000)
def SN:List AV->Option AV
 | [a]=>match Zi a with|some t=>if mj t=true then some (.tup [.str ⟨(Sb t).toArray⟩,.int .i64 0])else none|none=>none
 |_=>none
theorem Tryz.spec_format (args:List AV) (r:AV) (h:SN args=some r) (w:World) (ok0:Nat->Nat->Prop) (vs:Array Value) (hk:∀b o,ok0 b o->b<w.heap.size) (hG:CS w ok0) (hv:U3 w ok0 args vs.toList) :
  Calls Tryz.prog 202 vs w λe w'=>∃u,e=.returned u/\Bl w.heap.size w w'/\PV w' (λb o=>ok0 b o\/(w.heap.size<=b/\b<w'.heap.size)) r u:=by
 unfold SN at h;split at h
 .rename_i a;split at h
  .rename_i t ht;split at h
   .rename_i hb;cases h;unfold mj at hb;simp only[zf6z,decide_eq_true_eq]at hb;obtain⟨⟨⟨b1,b2⟩,b3⟩,b4⟩:=hb;rw[←Nk ht]at hv;obtain⟨vs⟩:=vs;simp only[U3]at hv;obtain⟨u,us,rfl,hu,rfl⟩:=hv;refine(Tryz.format_ok t b1 b2 (by omega) (by omega) w ok0 u hk hG hu).mono λe w' ⟨he,hb⟩=>?_;refine⟨_,he,⟨hb,λhd=>nomatch hd⟩,?_⟩;simp only[PV,U3];exact⟨_,rfl,_,_,rfl,rfl,_,_,rfl,rfl,rfl⟩
   .cases h
  .cases h
 .cases h
end Go.Proofs
namespace Go.Abs.Q
open Go.Proofs
def Xe (f:FuncId):Option (List AV->Option AV):=if f=Af then some SN else JK f
noncomputable def Qf:Cfg:=⟨Ai,B8,Xe,PD⟩
theorem Ta:∀n,Le (orc Q n) (orc Qf n)
 |0=>⟨λf a r h=>(nomatch h),λf a g r h=>(nomatch h),λs s' t x _ h=>(nomatch h)⟩
 |n+1=>by
  have ih:=Ta n;have hr:∀(f:FuncId) (args:List AV) (h:AH) (x:AV×AH),Ge Q (orc Q n) f args h=some x->Ge Qf (orc Qf n) f args h=some x:=λf args h x he=>by
   have:=MO (C:=Q) ih he;exact this
  refine⟨λf args r he=>?_,λf args h x he=>?_,λs s' t x hs he=>EB hs (zf3z _) he⟩
  .change Em Q (orc Q n) f args=some r at he;show Em Qf (orc Qf n) f args=some r;unfold Em at he ⊢;by_cases hf:f=Af
   .subst hf;have e1:Q.spec Af=none:=rfl;have e2:Q.code Af=none:=rfl;have e3:Q.rspec Af=none:=rfl;rw[e1]at he;simp only[Ge,e2,e3]at he;cases he
   .have e1:Qf.spec f=Q.spec f:=if_neg hf;rw[e1];cases hs:Q.spec f with
    |some s=>rw[hs]at he;exact he
    |none =>
     rw[hs]at he;simp only at he ⊢;cases hq:Ge Q (orc Q n) f args AH.empty with
     |none=>rw[hq]at he;cases he
     |some y=>rw[hq]at he;rw[hr f args AH.empty y hq];exact he
  .change Oy Q (orc Q n) f args h=some x at he;show Oy Qf (orc Qf n) f args h=some x;unfold Oy at he ⊢;cases hq:Ge Q (orc Q n) f args h with
   |none=>rw[hq]at he;unfold UZ at he;split at he<;>cases he
   |some y =>
    rw[hq]at he;rw[hr f args h y hq];exact he
theorem Pf {f:FuncId} {args:C6} {r:AV} (h:pc Q f args=some r):pc Qf f args=some r:=by
 obtain⟨n,hn⟩:=Rv Q h;exact WE Qf ((Ta n).pure f args r hn)
theorem tp:CfgS Tryz.prog Qf:=by
 refine⟨QS.code,λf s hs args r hr=>?_,QS.mixed,QS.rspec⟩;have hs':Xe f=some s:=hs;unfold Xe at hs';split at hs'
 .rename_i hf;subst hf;cases hs';exact⟨by kernel_rfl,λw ok0 vs hk hG hv=>Tryz.spec_format args r hr w ok0 vs hk hG hv⟩
 .exact QS.spec f s hs' args r hr
theorem Hd (f:FuncId) (args:C6) (r:AV) (h:JV f args=some r):pc Qf f args=some r:=Pf (eU f args r h)
theorem tc {f:FuncId} {rf:RFunc} {args:C6} {r:AV} (hc:Ai f=some rf) (hs:Xe f=none) (hl:args.length<=rf.ntmps)
  (H:∀fr:Fr,fr.length=rf.ntmps->(∀i,A2 fr i=args.getD i B3)->C3 (A4 (M3 Qf) (B8 f) rf.body (fr,⟨[],[]⟩)) (VH rf.results r)):pc Qf f args=some r :=
 XN (C:=Qf) hs hc hl λfr h1 h2=>H fr h1 h2
end Go.Abs.Q
namespace Go.Abs.Q
open Go.Proofs
attribute [local simp] D3 D6 fin H4 G2 EP Co Bd Bc
@[simp] theorem rF (f:FuncId):Qf.ctx f=B8 f:=rfl
theorem Wd {n:Nar}:(NP n).length<=n.roles.length/\∀l∈NP n,l.length<=n.steps.length:=by
 unfold NP;split
 .refine⟨by simp,λl hl=>?_⟩;obtain⟨r,_,rfl⟩:=List.mem_map.1 hl;exact Na _ _ _
 .exact⟨by simp,λl hl=>nomatch hl⟩
theorem ML (n:Nar) (F:Fine n) (S:Lens n) (hS:Ib n.steps+KQ n.goals<=1099511627776) (role:Int) (hA:pc Qf Fd []=some (.bool true)):pc Qf CH [D1 n,.int .i64 role]=some (.bool true):=by
 obtain⟨b,hLi⟩:=cQ n F hS;have hLi:=Pf hLi;have nb:=C7 n;cases b with
 |false =>
  refine tc EI rfl (by simp[L8]) λfr hl ha=>?_;have h0:=ha 0;have h1:=ha 1;clear ha;simp[L8]at hl h0 h1;simp[L8,hl,h0,h1,hA,hLi,nb]
 |true =>
  obtain⟨m1,l1,g1,e1⟩:=UB n F S role;obtain⟨m2,l2,g2,e2⟩:=UE n F S role;have g3:=Pf (Oi n F S);have g4:=Pf (On n F S);obtain⟨m5,x5,g5,r5⟩:=ZG n F S;obtain⟨m6,x6,g6,r6⟩:=ZI n F S;obtain⟨s1,s2⟩:=@Wd n;have hnl:=S.names;have bV:=S.steps;have g7:=Pf (jW m5 m6 (NP n) (by omega) (λl hl=>by have:=s2 l hl;omega) x5 x6 r5 r6);obtain⟨z1,y1⟩:=Qg F e1;obtain⟨z2,y2⟩:=Qg F e2;have g8:=Pf (Rs m1 m2 l1 l2 (by omega) (by omega) z1 z2);rw[TB (e1.trans e2.symm)]at g8;have g1:=Pf g1;have g2:=Pf g2;have g5:=Pf g5;have g6:=Pf g6;generalize l1.map P3=L1 at *
  generalize l2.map P3=L2 at *
  generalize HY n role=e at *
  generalize VS n=cb at *
  generalize (AQ n).2=sc at *
  refine tc EI rfl (by simp[L8]) λfr hl ha=>?_;have h0:=ha 0;have h1:=ha 1;clear ha;simp[L8]at hl h0 h1;simp[L8,hl,h0,h1,hA,hLi,nb,g1,g2,g3,g4,g5,g6,g7,g8]
end Go.Abs.Q
