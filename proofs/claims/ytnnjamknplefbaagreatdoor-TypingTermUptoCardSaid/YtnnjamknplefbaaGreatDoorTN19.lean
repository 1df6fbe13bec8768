/- A part of the proof. -/
import Derived.Test.YtnnjamknplefbaaGreatDoorTN18
set_option linter.all false
open Nat renaming beq->zf0z,max->zf1z,le_refl->zf5z,eq_of_beq_eq_true->zf7z,mod->zg2z,succ->zg4z
open List renaming getD_eq_getElem?_getD->zf2z,nil_append->zf4z,all_eq_true->zf8z,length_set->zf9z,replicate->zg1z
open Bool renaming and_eq_true->zf3z
open Option renaming map_eq_some_iff->zf6z,map_some->zg0z
open ByteArray renaming ext->zg3z
open Array renaming ext'->zg5z
set_option linter.all false
namespace Go.Abs
theorem nbF{a b}(h:a≠b):zf0z a b=false:=by
 cases e:zf0z a b with
 |false=>rfl
 |true=>exact absurd (zf7z e) h
theorem nbT{a b}(h:a=b):zf0z a b=true:=by subst h;exact Nat.beq_refl a
def h_nil(_:Nat):Bool:=false
def h_node(_:FT)(_:AV)(_:FT)(hl hr:Nat->Bool)(n:Nat):Bool:=if n=0 then true else if n % 2=1 then hl (n / 2)else hr (n / 2-1)
noncomputable def FT.has(t:FT):Nat->Bool:=t.rec h_nil h_node
theorem NW(l v r n):(FT.node l v r).get n=if n=0 then v else if n % 2=1 then l.get (n / 2)else r.get (n / 2-1):=by
 show ny l v r l.get r.get n=_;unfold ny;by_cases h:n=0
 .subst h;rfl
 .rw[if_neg h,show zf0z n 0=false from nbF h];show A0C v l.get r.get n=_;unfold A0C;by_cases h1:n % 2=1
  .rw[if_pos h1,show zf0z (zg2z n 2) 1=true from nbT h1];rfl
  .rw[if_neg h1,show zf0z (zg2z n 2) 1=false from nbF h1];rfl
theorem lw(l v r n x):(FT.node l v r).put n x=if n=0 then .node l x r else if n % 2=1 then .node (l.put (n / 2) x) v r else .node l v (r.put (n / 2-1) x):=by
 show pn l v r l.put r.put n x=_;unfold pn;by_cases h:n=0
 .subst h;rfl
 .rw[if_neg h,show zf0z n 0=false from nbF h];show A0s l v r l.put r.put n x=_;unfold A0s;by_cases h1:n % 2=1
  .rw[if_pos h1,show zf0z (zg2z n 2) 1=true from nbT h1];rfl
  .rw[if_neg h1,show zf0z (zg2z n 2) 1=false from nbF h1];rfl
theorem Ps(l v r n):(FT.node l v r).has n=if n=0 then true else if n % 2=1 then l.has (n / 2)else r.has (n / 2-1):=rfl
theorem get_put(t:FT):∀(d:Nat) (v:AV) (n:Nat),(t.put d v).get n=if n=d/\t.has d=true then v else t.get n:=by
 induction t with
 |nil=>intro d v n;rw[if_neg (λh=>Bool.noConfusion h.2)];rfl
 |node l x r il ir =>
  intro d v n;rw[lw,Ps];by_cases hd:d=0
  .subst hd;simp only[if_true,and_true];rw[NW,NW];by_cases hn:n=0
   .simp[hn]
   .simp[hn]
  .rw[if_neg hd,if_neg hd];by_cases h1:d % 2=1
   .rw[if_pos h1,if_pos h1,NW,NW];by_cases hn:n=0
    .rw[if_pos hn,if_pos hn,if_neg (by omega)]
    .rw[if_neg hn,if_neg hn];by_cases h2:n % 2=1
     .rw[if_pos h2,if_pos h2,il];by_cases he:n=d
      .subst he;simp only[true_and]
      .rw[if_neg (by omega),if_neg (by omega)]
     .rw[if_neg h2,if_neg h2,if_neg (by omega)]
   .rw[if_neg h1,if_neg h1,NW,NW];by_cases hn:n=0
    .rw[if_pos hn,if_pos hn,if_neg (by omega)]
    .rw[if_neg hn,if_neg hn];by_cases h2:n % 2=1
     .rw[if_pos h2,if_pos h2,if_neg (by omega)]
     .rw[if_neg h2,if_neg h2,ir];by_cases he:n=d
      .subst he;simp only[true_and]
      .rw[if_neg (by omega),if_neg (by omega)]
theorem has_put(t:FT):∀(d:Nat) (v:AV) (n:Nat),(t.put d v).has n=t.has n:=by
 induction t with
 |nil=>intro d v n;rfl
 |node l x r il ir =>
  intro d v n;rw[lw];by_cases hd:d=0
  .rw[if_pos hd];rfl
  .rw[if_neg hd];by_cases h1:d % 2=1
   .rw[if_pos h1,Ps,Ps,il]
   .rw[if_neg h1,Ps,Ps,ir]
theorem ZW(k n):Od (k+1) n=if n=0 then .nil else .node (Od k (n / 2)) B9 (Od k ((n-1) / 2)):=by
 show ((zf0z n 0).rec (.node (Od k (n / 2)) B9 (Od k ((n-1) / 2))) .nil:FT)=_;by_cases h:n=0
 .subst h;rfl
 .rw[if_neg h,show zf0z n 0=false from nbF h]
theorem XF:∀(k n i:Nat),(Od k n).get i=B9
 |0,_,_=>rfl
 |k+1,n,i=>by
  rw[ZW];by_cases h:n=0
  .rw[if_pos h];rfl
  .rw[if_neg h,NW,XF,XF];simp
theorem XH:∀(k n i:Nat),n<k->(Od k n).has i=decide (i<n)
 |0,_,_,h=>absurd h (Nat.not_lt_zero _)
 |k+1,n,i,hk=>by
  rw[ZW];by_cases h:n=0
  .subst h;rw[if_pos rfl];simp[FT.has,h_nil]
  .rw[if_neg h,Ps];by_cases hi:i=0
   .subst hi;rw[if_pos rfl];simp;omega
   .rw[if_neg hi];by_cases h1:i % 2=1
    .rw[if_pos h1,XH k _ _ (by omega)];apply decide_eq_decide.2;omega
    .rw[if_neg h1,XH k _ _ (by omega)];apply decide_eq_decide.2;omega
structure RepT (t:FT) (fr:Fr):Prop where
 get:∀n,t.get n=fr.getD n B9
 has:∀n,t.has n=decide (n<fr.length)
theorem A0D(fr:Fr)(d n v):(fr.set d v).getD n B9=if n=d/\d<fr.length then v else fr.getD n B9:=by
 simp only[zf2z,List.getElem?_set];by_cases h:d=n
 .subst h;by_cases hl:d<fr.length
  .simp[hl]
  .simp[hl]
 .rw[if_neg h,if_neg (λk=>h k.1.symm)]
theorem RepT.put{t fr}(R:RepT t fr)(d v):RepT (t.put d v) (fr.set d v):=by
 constructor
 .intro n;rw[get_put,A0D,R.has,R.get];simp
 .intro n;rw[has_put,R.has,zf9z]
theorem RepT.putO{t fr}(R:RepT t fr)(d v):RepT (UV t d v) (Go.Abs.put fr d v):=by
 cases d with
 |none=>exact R
 |some d=>exact R.put d v
theorem RepT.gT{t fr}(R:RepT t fr):Go.Abs.gT t.get=Go.Abs.get fr:=by
 funext x;cases x with
 |t n=>exact R.get n
 |c v=>rfl
theorem RepT.puts:∀(args:b9) {t:FT} {pre old:Fr},RepT t (pre++old)->args.length<=old.length->RepT (Ty t pre.length args) (pre++args++old.drop args.length)
 | [],t,pre,old,R,_=>by simpa[Ty]using R
 |v::vs,t,pre,old,R,h=>by
  cases old with
  |nil=>simp at h
  |cons o old =>
   have hs:(pre++o::old).set pre.length v=(pre++[v])++old:=by simp
   have R1:=R.put pre.length v;rw[hs]at R1;have:=RepT.puts vs R1 (by simpa using h);simpa[Ty]using this
theorem RepT.start(rf args):RepT (Ty (Od (zg4z (zf1z rf.ntmps args.length)) (zf1z rf.ntmps args.length)) 0 args) (Ec rf args):=by
 have h0:RepT (Od (zg4z (zf1z rf.ntmps args.length)) (zf1z rf.ntmps args.length)) ([]++zg1z (zf1z rf.ntmps args.length) B9):=by
  constructor
  .intro n;rw[XF];simp only[zf4z,zf2z,List.getElem?_replicate];split<;>rfl
  .intro n;rw[XH _ _ _ (Nat.lt_succ_self _)];simp
 have h1:=RepT.puts args h0 (by simp;exact Nat.le_max_right _ _);have e:([]:Fr)++args++(zg1z (zf1z rf.ntmps args.length) B9).drop args.length=Ec rf args:=by
  unfold Ec;rw[List.drop_replicate,zf4z];congr 2;show max rf.ntmps args.length-args.length=_;omega
 rw[e]at h1;exact h1
theorem dU(fr n):∀l,fo (get fr) n l=B5 fr n l
 | []=>rfl
 |(a,b,x)::l=>by unfold fo B5;rw[dU fr n l]
theorem Xb(fr h):∀(l:List (Nat×Opd)) (xs:b9),Uc (get fr) h xs l=A9 fr h xs l
 | [],_=>rfl
 |(i,x)::l,xs=>by
  unfold Uc A9;cases xs[i]? with
  |none=>rfl
  |some z =>
   cases (frz h false (get fr x)).or (VX h (get fr x))with
   |none=>rfl
   |some y=>simp only[Xb fr h l]
theorem Wt(fr x):fh (get fr) x=AA fr x:=by cases x<;>rfl
theorem zo(s:Al)(l h):(⟨⟨(s.data.toList.drop l).take (h-l)⟩⟩:Al)=s.extract l h:=by
 apply zg3z;apply zg5z;rw[ByteArray.data_extract];simp[Array.toList_extract,List.extract]
theorem yd(a b):(⟨⟨a.data.toList++b.data.toList⟩⟩:Al)=a++b:=by
 apply zg3z;apply zg5z;simp
theorem zu(l):∀k,fcL l k=k l:=by
 induction l with
 |nil=>intro k;rfl
 |cons a l ih=>intro k;exact ih λl'=>k (a::l')
theorem xa(H sz x lo hi mx):qa H sz x lo hi mx=KM H sz x lo hi mx:=by
 cases x with
 |str s=>unfold qa KM;simp only[zu,fcS,zo]
 |_=>rfl
theorem yh(x y):yg x y=M7 .add x y:=by
 cases x with
 |str a =>
  cases y with
  |str b=>unfold yg M7;simp only[zu,fcS,yd]
  |_=>rfl
 |_=>cases y<;>rfl
theorem binG_eq(op x y):binG op x y=M7 op x y:=by
 cases op with
 |add=>exact yh x y
 |_=>cases x<;>first|rfl|(cases y<;>rfl)
theorem UH(O c o fr h):Mh o O c (get fr) h=A7 O c o fr h:=by
 cases o with
 |build z parts=>show Yu z parts O c (get fr) h=_;unfold Yu;rw[dU];rfl
 |bslice n z parts=>show Rp n z parts O c (get fr) h=_;unfold Rp;rw[Xb];rfl
 |bslicev n z parts=>show Pq n z parts O c (get fr) h=_;unfold Pq;rw[Xb];rfl
 |slc sz x lo hi mx=>show sS sz x lo hi mx O c (get fr) h=_;unfold sS;rw[Wt,Wt,Wt];simp only[xa];rfl
 |bin op x y=>show sL op x y O c (get fr) h=_;unfold sL;rw[binG_eq];rfl
 |len b x=>cases b<;>rfl
 |_=>rfl
theorem Uf{t fr}(R:RepT t fr)(g):LO t.get g=O8 fr g:=by
 cases g with
 |none=>rfl
 |some p =>
  obtain⟨s,w⟩:=p;show ii t.get (s,w)=_;unfold ii O8;rw[R.get];rfl
def Sim(st:Xo->Kc)(s:St->Option (Ex×St)):Prop :=
 ∀t fr h,RepT t fr->∀e t' h',st (t,h)=some (e,t',h')->∃B8,s (fr,h)=some (e,B8,h')/\RepT t' B8
structure SimO (A:OrcT) (O:Orc):Prop where
 pure:∀f args r,A.pure f args=some r->O.pure f args=some r
 raw:∀f args h r,A.raw f args h=some r->O.raw f args h=some r
 loop:∀st s,Sim st s->Sim (A.loop st) (O.loop s)
theorem SimO.le{A O}(S:SimO A O):Le A.orc O:=⟨S.pure,S.raw,λ_ _ _ _ _ h=>by cases h⟩
theorem Yx{A O}(S:SimO A O)(c):∀(l:List RO) (t:FT) (fr:Fr) (h:AH),RepT t fr->∀t' h',cy l A.orc c t h=some (t',h')->∃B8,M8 O c l fr h=some (B8,h')/\RepT t' B8
 | [],t,fr,h,R,t',h',he=>by
  have he:some (t,h)=some (t',h'):=he;cases he;exact⟨fr,rfl,R⟩
 |o::l,t,fr,h,R,t',h',he=>by
  have he:((LO t.get o.guard).rec none (og o (cy l) A.orc c t h):Option (FT×AH))=some (t',h'):=he;rw[Uf R]at he;unfold M8;cases hw:O8 fr o.guard with
  |none=>rw[hw]at he;cases he
  |some b =>
   rw[hw]at he;cases b with
   |false=>exact Yx S c l _ _ h (R.putO o.dst B9) t' h' he
   |true =>
    have he:((Mh o.op A.orc c (gT t.get) h).rec none (λp=>cy l A.orc c (UV t o.dst p.1) p.2):Option (FT×AH))=some (t',h'):=he;rw[R.gT,UH]at he;cases hp:A7 A.orc c o.op fr h with
    |none=>rw[hp]at he;cases he
    |some p =>
     rw[hp]at he;have hp':=Do S.le hp;dsimp only;rw[hp'];exact Yx S c l _ _ p.2 (R.putO o.dst p.1) t' h' he
theorem de{a b}(e:b=a):Lv a b=[]:=by
 subst e;have:∀i:Nat,NS b[i]? b[i]?=true:=λi=>by
  cases b[i]? with
  |none=>rfl
  |some x=>exact T0 x
 simp[Lv,this]
theorem df{a b}(e:b=a):PK a b=[]:=by
 subst e;have:∀x:Option Fam,MX x x=true:=λx=>by
  cases x with
  |none=>rfl
  |some x=>simp[MX,T0]
 simp[PK,this]
theorem kL{O c r fr h h1 v}(he:A7 O c r fr h=some (v,h1)):dq c (get fr) r h h1=Xt c (some true) (get fr) r h h1:=by
 obtain⟨k1,k2⟩:=JI he;simp only[dq,Xt];congr 1
 .split
  .rfl
  .rename_i hw;rw[de (k1 (by simpa using hw))]
 .split
  .rfl
  .rename_i hw;rw[df (k2 (by simpa using hw))]
theorem aR{A O}(S:SimO A O)(c):∀(l:List RO) (t:FT) (fr:Fr) (h:AH),RepT t fr->∀fs t' h',eD l A.orc c t h=some (fs,t',h')->∃B8,P0 O c l fr h=some (fs,B8,h')/\RepT t' B8
 | [],t,fr,h,R,fs,t',h',he=>by
  have he:some (([]:List Foot),t,h)=some (fs,t',h'):=he;cases he;exact⟨fr,rfl,R⟩
 |o::l,t,fr,h,R,fs,t',h',he=>by
  have he:(match LO t.get o.guard with
   |some true=>(match Mh o.op A.orc c (gT t.get) h with|some (v,h')=>(eD l A.orc c (UV t o.dst v) h').map λp=>(dq c (gT t.get) o.op h h'::p.1,p.2)|none=>none)
   |some false=>(eD l A.orc c (UV t o.dst B9) h).map λp=>(Xt c (some false) (gT t.get) o.op h h::p.1,p.2)
   |none=>none)=some (fs,t',h'):=he
  rw[Uf R,R.gT,UH]at he;unfold P0 At;cases hw:O8 fr o.guard with
  |none=>rw[hw]at he;cases he
  |some b =>
   rw[hw]at he;cases b with
   |false =>
    dsimp only at he ⊢;rw[zf6z]at he;obtain⟨⟨fs1,t1,h1⟩,hq,e⟩:=he;cases e;obtain⟨B8,k1,k2⟩:=aR S c l _ _ h (R.putO o.dst B9) _ _ _ hq;exact⟨B8,by rw[k1];rfl,k2⟩
   |true =>
    dsimp only at he ⊢;cases hp:A7 A.orc c o.op fr h with
    |none=>rw[hp]at he;cases he
    |some p =>
     rw[hp]at he;rw[Do S.le hp];dsimp only at he ⊢;rw[kL hp]at he;rw[zf6z]at he;obtain⟨⟨fs1,t1,h1⟩,hq,e⟩:=he;cases e;obtain⟨B8,k1,k2⟩:=aR S c l _ _ p.2 (R.putO o.dst p.1) _ _ _ hq;exact⟨B8,by rw[k1];rfl,k2⟩
theorem NP{A O}(S:SimO A O)(c):∀(x:RCode),Sim (TX x A c) (A8 O c x)
 | .skip=>λt fr h R e t' h' he=>by
  have he:some (Ex.normal,t,h)=some (e,t',h'):=he;cases he;exact⟨fr,rfl,R⟩
 | .region d ops=>λt fr h R e t' h' he=>by
  have he:((cy ops A.orc c t h).rec none (λs'=>some (Ex.normal,s')):Kc)=some (e,t',h'):=he;unfold A8;cases ho:cy ops A.orc c t h with
  |none=>rw[ho]at he;cases he
  |some s =>
   rw[ho]at he;cases he;obtain⟨B8,h1,h2⟩:=Yx S c ops t fr h R _ _ ho;exact⟨B8,by rw[h1],h2⟩
 | .regd bs ops=>λt fr h R e t' h' he=>by
  have he:(match eD ops A.orc c t (h.holes (cN ops))with|some (fs,s')=>if Es bs ops fs then some (Ex.normal,s')else none|none=>none)=some (e,t',h'):=he
  unfold A8;cases ho:eD ops A.orc c t (h.holes (cN ops))with
  |none=>rw[ho]at he;cases he
  |some s =>
   obtain⟨fs,t1,h1⟩:=s;rw[ho]at he;dsimp only at he;split at he
   .rename_i hp;cases he;obtain⟨B8,k1,k2⟩:=aR S c ops t fr (h.holes (cN ops)) R _ _ _ ho;exact⟨B8,by rw[k1];dsimp only;rw[if_pos (by rw[hp];rfl)],k2⟩
   .cases he
 | .seq a b=>λt fr h R e t' h' he=>by
  have he:(match TX a A c (t,h)with|some (.normal,s')=>TX b A c s' | r=>r)=some (e,t',h'):=he
  unfold A8;cases ha:TX a A c (t,h)with
  |none=>rw[ha]at he;cases he
  |some p =>
   obtain⟨ea,ta,h1⟩:=p;rw[ha]at he;obtain⟨fra,k1,k2⟩:=NP S c a t fr h R _ _ _ ha;rw[k1];cases ea with
   |normal=>exact NP S c b ta fra h1 k2 e t' h' he
   |exit id=>cases he;exact⟨fra,rfl,k2⟩
   |ret=>cases he;exact⟨fra,rfl,k2⟩
 | .cond q a b=>λt fr h R e t' h' he=>by
  have he:(match gT t.get q with | .bool true=>TX a A c (t,h) | .bool false=>TX b A c (t,h)|_=>none)=some (e,t',h'):=he
  rw[R.gT]at he;unfold A8;dsimp only;generalize get fr q=v at he ⊢;split at he
  .exact NP S c a t fr h R e t' h' he
  .exact NP S c b t fr h R e t' h' he
  .cases he
 | .block id a=>λt fr h R e t' h' he=>by
  have he:(match TX a A c (t,h)with|some (.exit id',s')=>if id'=id then some (.normal,s')else some (.exit id',s')|r=>r)=some (e,t',h'):=he
  unfold A8;cases ha:TX a A c (t,h)with
  |none=>rw[ha]at he;cases he
  |some p =>
   obtain⟨ea,ta,h1⟩:=p;rw[ha]at he;obtain⟨fra,k1,k2⟩:=NP S c a t fr h R _ _ _ ha;rw[k1];cases ea with
   |normal=>cases he;exact⟨fra,rfl,k2⟩
   |ret=>cases he;exact⟨fra,rfl,k2⟩
   |exit id' =>
    dsimp only at he ⊢;by_cases hi:id'=id
    .rw[if_pos hi]at he ⊢;cases he;exact⟨fra,rfl,k2⟩
    .rw[if_neg hi]at he ⊢;cases he;exact⟨fra,rfl,k2⟩
 | .loop a=>λt fr h R e t' h' he=>S.loop _ _ (NP S c a) t fr h R e t' h' he
 | .exit id=>λt fr h R e t' h' he=>by
  have he:some (Ex.exit id,t,h)=some (e,t',h'):=he;cases he;exact⟨fr,rfl,R⟩
 | .ret=>λt fr h R e t' h' he=>by
  have he:some (Ex.ret,t,h)=some (e,t',h'):=he;cases he;exact⟨fr,rfl,R⟩
 | .bad=>λt fr h R e t' h' he=>by
  have he:none=some (e,t',h'):=he;cases he
theorem TG{t fr}(R:RepT t fr)(h):∀l,Yd t h l=Mx fr h l
 | []=>rfl
 | .tmp k::l=>by unfold Yd Mx;rw[TG R h l,R.get]
 | .cell a b n::l=>by unfold Yd Mx;rw[TG R h l,R.get]
theorem yo{A O}(S:SimO A O)(c rf args h){r}(he:yl A c rf args h=some r):Ij O c rf args h=some r:=by
 unfold yl at he;unfold Ij;cases hc:TX rf.body A c (Ty (Od (zg4z (zf1z rf.ntmps args.length)) (zf1z rf.ntmps args.length)) 0 args,h)with
 |none=>rw[hc]at he;cases he
 |some p =>
  obtain⟨e,t',h'⟩:=p;rw[hc]at he;obtain⟨B8,k1,k2⟩:=NP S c rf.body _ _ h (RepT.start rf args) _ _ _ hc;rw[k1];cases e with
  |normal=>dsimp only at he ⊢;rw[TG k2]at he;exact he
  |ret=>dsimp only at he ⊢;rw[TG k2]at he;exact he
  |exit id=>cases he
theorem az{s:RSpec}{O O'}(hO:Le O O'){args h x}(he:s.run O args h=some x):s.run O' args h=some x:=by
 obtain⟨l,h1,h2⟩:=s.fin O args h x he;exact h2 O' λp hp=>hO.pure _ _ _ (h1 p hp)
structure KnowOk (C:Cfg) (K:Know):Prop where
 pure:∀f args r,K.pure f args=some r->pc C f args=some r
 raw:∀f args h r,K.raw f args h=some r->rc C f args h=some r
section
variable {C:Cfg} {K:Know}
theorem mB{A}(S:SimO A (m6 C)){f args h r}(he:xM C A f args h=some r):IG C (m6 C) f args h=some r:=by
 unfold xM at he;unfold IG;cases hc:C.code f with
 |some rf=>rw[hc]at he;exact yo S _ rf args h he
 |none =>
  rw[hc]at he;dsimp only at he ⊢;cases hr:C.rspec f with
  |none=>rw[hr]at he;cases he
  |some s=>rw[hr]at he;exact az S.le he
theorem raw_sim(hK:KnowOk C K){A}(S:SimO A (m6 C)){f args h r}(he:rawT C K A f args h=some r):rc C f args h=some r:=by
 unfold rawT at he;cases hk:K.raw f args h with
 |some x=>rw[hk]at he;cases he;exact hK.raw _ _ _ _ hk
 |none =>
  rw[hk]at he;have he:=he;cases hu:xM C A f args h with
  |none=>rw[hu]at he;unfold bA at he;split at he<;>cases he
  |some x =>
   rw[hu,TH]at he;cases he;exact uE C (mB S hu)
theorem A1I(hK:KnowOk C K){A}(S:SimO A (m6 C)){f args r}(he:A1G C K A f args=some r):pc C f args=some r:=by
 unfold A1G at he;cases hk:K.pure f args with
 |some x=>rw[hk]at he;cases he;exact hK.pure _ _ _ hk
 |none =>
  rw[hk]at he;have he:=he;unfold pureU at he;cases hs:C.spec f with
  |some s =>
   apply YN;rw[hs]at he;unfold FN;rw[hs];exact he
  |none =>
   rw[hs]at he;dsimp only at he;cases hr:xM C A f args AH.empty with
   |none=>rw[hr]at he;cases he
   |some p =>
    rw[hr]at he;apply YN;unfold FN;rw[hs];dsimp only;rw[mB S hr];exact he
end
theorem aD{st s}(H:Sim st s):∀n,Sim (aC n st) (Lw s n)
 |0=>λt fr h R e t' h' he=>by
  have he:none=some (e,t',h'):=he;cases he
 |n+1=>λt fr h R e t' h' he=>by
  have he:(match st (t,h)with|some (.normal,s')=>aC n st s' | r=>r)=some (e,t',h'):=he
  unfold Lw;cases ha:st (t,h)with
  |none=>rw[ha]at he;cases he
  |some p =>
   obtain⟨ea,ta,h1⟩:=p;rw[ha]at he;obtain⟨fra,k1,k2⟩:=H t fr h R _ _ _ ha;rw[k1];cases ea with
   |normal=>exact aD H n ta fra h1 k2 e t' h' he
   |exit id=>cases he;exact⟨fra,rfl,k2⟩
   |ret=>cases he;exact⟨fra,rfl,k2⟩
theorem gn{C K}(hK:KnowOk C K):∀n,SimO (orcT C K n) (m6 C)
 |0=>⟨λ_ _ _ h=>(nomatch (show none=some _ from h)),λ_ _ _ _ h=>(nomatch (show none=some _ from h)),λ_ _ _=>λt fr h R e t' h' he=>nomatch (show none=some _ from he)⟩
 |n+1=>⟨λ_ _ _ h=>A1I hK (gn hK n) h,λ_ _ _ _ h=>raw_sim hK (gn hK n) h,λ_ _ H=>λt fr h R e t' h' he=>by
   obtain⟨B8,h1,h2⟩:=aD H (n+1) t fr h R e t' h' he;exact⟨B8,VW h1,h2⟩⟩
theorem pc_told{C K}(hK:KnowOk C K)(n){f args r}(h:(orcT C K n).pure f args=some r):pc C f args=some r:=(gn hK n).pure f args r h
structure Told where
 f:FuncId
 args:List AV
 r:AV
def A1j(l:List Told)(g:FuncId->List AV->Option AV)(f:FuncId)(args:List AV):Option AV :=
 match l.find? λx=>zf0z x.f f&&MW x.args args with
 |some x=>some x.r
 |none=>g f args
def AY(l:List Told)(g:FuncId->List AV->Option AV):Know:=⟨A1j l g,λ_ _ _=>none⟩
theorem K8{C l g}(h:∀x∈l,pc C x.f x.args=some x.r)(hg:∀f args r,g f args=some r->pc C f args=some r):KnowOk C (AY l g):=by
 refine⟨λf args r he=>?_,λ_ _ _ _ he=>by cases he⟩;have he:A1j l g f args=some r:=he;unfold A1j at he;split at he
 .rename_i x hx;cases he;have h1:=List.find?_some hx;have h2:=List.mem_of_find?_eq_some hx;rw[zf3z]at h1;have e1:=zf7z h1.1;have e2:=Bh h1.2;rw[←e1,←e2];exact h x h2
 .exact hg f args r he
end Go.Abs
namespace Go.Abs.Q
open Go.Proofs
def I(n:Int):AV:=.int .i64 n
def S(l:List Nat):AV:=.str ⟨(l.map UInt8.ofNat).toArray⟩
mutual
def mU:AV->Option Tm
 | .agg [.int .i64 k,.str n,.int .i64 s,.vs f z xs]=>if z=4\/(z=0/\xs.isEmpty=true)then (match bU xs with|some l=>some (.mk k n s (f,decide (z=4)) l)|none=>none)else none
 |_=>none
def bU:List AV->Option (List Tm)
 | []=>some []
 |x::xs=>match mU x,bU xs with|some t,some l=>some (t::l)|_,_=>none
end
mutual
theorem ZG:∀{a:AV} {t:Tm},mU a=some t->I8 t=a
 | .agg [.int .i64 k,.str n,.int .i64 s,.vs f z xs],t,h=>by
  simp only[mU]at h;split at h
  .rename_i hz;split at h
   .rename_i l hl;cases h;have:=mV hl;simp only[I8,this,sl];rcases hz with rfl|⟨rfl,hx⟩
    .simp
    .simp[hx]
   .cases h
  .cases h
theorem mV:∀{xs:b9} {l:Be},bU xs=some l->C4 l=xs
 | [],l,h=>by
  simp only[bU]at h;cases h;simp[C4]
 |x::xs,l,h=>by
  simp only[bU]at h;split at h
  .rename_i t l' h1 h2;cases h;simp only[C4,ZG h1,mV h2]
  .cases h
end
def i8(f:FuncId)(args:List AV):Option AV :=
 if f=DH then
  match args with
  | [a,b] =>
   match mU a,mU b with
   |some t,some t'=>if t.size<=1099511627776/\t'.size<=1099511627776 then some (.int .i64 (Lu t t'))else none
   |_,_=>none
  |_=>none
 else none
theorem sD(f:FuncId)(args:b9)(r:AV)(h:i8 f args=some r):pc Q f args=some r:=by
 unfold i8 at h;split at h
 .rename_i hf;subst hf;split at h
  .rename_i a b;split at h
   .rename_i t t' h1 h2;split at h
    .rename_i hs;cases h;rw[←ZG h1,←ZG h2];exact aW t.size t t' (zf5z _) hs.1 hs.2
    .cases h
   .cases h
  .cases h
 .cases h
end Go.Abs.Q
namespace Go.Proofs
open Go.RowKit Go.Abs Go.Abs.Q
theorem MT.of{w:World}{ok:Nat->Nat->Prop}{B:Nat}(hg:Fo w ok)(O9:∀b o,ok b o->b<B):MT B w:=by
 have h:=hg (0,_) (by unfold su;exact List.mem_singleton.2 rfl);simp only[PV,CL]at h;obtain⟨b,o,he,⟨u,h1,h2,h3,h4⟩,-⟩:=h;cases he;obtain⟨a,len,cap,rfl,D6,hc,hm,_,_,hx⟩:=h4;obtain⟨wb,wo,rfl,hz,hp⟩:=hx (by simp);have hl:len=6:=D6;subst hl;have hw:∀j,j<6->ok wb (wo+j)/\w.cell? ⟨wb,wo+j,none⟩=some (.string ⟨(Lq.getD j []).toArray⟩):=λj hj=>by
  obtain⟨s,hs,hse⟩:∃s:ByteArray,(([[97,110,121],[97,103,101,110,116],[110,111,110,99,101],[107,101,121],[100,97,116,97],[116,97,103]]:List (List Nat)).map λl=>AV.str ⟨(l.map UInt8.ofNat).toArray⟩)[j]?=some (.str s)/\s=⟨(Lq.getD j []).toArray⟩:=by
   match j,hj with
   |0,_=>exact⟨_,rfl,rfl⟩
   |1,_=>exact⟨_,rfl,rfl⟩
   |2,_=>exact⟨_,rfl,rfl⟩
   |3,_=>exact⟨_,rfl,rfl⟩
   |4,_=>exact⟨_,rfl,rfl⟩
   |5,_=>exact⟨_,rfl,rfl⟩
  obtain⟨-,p2⟩:=NL hp hs;obtain⟨u,k1,k2,k3,k4⟩:=CM p2 (j:=0) rfl;simp only[PV]at k4;subst k4 hse;rw[Nat.mul_one,Nat.add_zero]at k1 k2;exact⟨k1,k2⟩
 exact⟨wb,wo,cap,O9 _ _ (hw 0 (by omega)).1,O9 _ _ h1,h2,λj hj=>(hw j hj).2⟩
set_option maxHeartbeats 8000000 in
set_option maxRecDepth 100000 in
theorem Tryz.format_ok(t:Tm)(hv:EP t=0)(O9:be t=true)(X9:t.size<=1048576)(D6:(RH t).length+100<=140737488355328)(w:World)(ok0:Nat->Nat->Prop)(vt:Value)(hk:∀b o,ok0 b o->b<w.heap.size)(hG:Fo w ok0)(hp:PV w ok0 (I8 t) vt) :
  Calls Tryz.prog 56 #[vt] w λe w'=>e=.returned (.tuple #[.string ⟨(RH t).toArray⟩,.int .i64 0])/\Below w.heap.size w w'/\(eA=true->w.drawn<=w'.drawn):=by
 have hV:=WH t (by omega);rw[hv]at hV;obtain⟨k,n,s,m,ts⟩:=t;obtain⟨a,len,cap,rfl,rfl,-⟩:=Ue hp;have hb0:=(Below.refl w.heap.size w).alloc (zf5z _) (.cells #[.int .i64 k,.string n,.int .i64 s,.slice a ts.length cap] 28);have hst0:∀b o,ok0 b o->ok0 b o/\If w (w.alloc (.cells #[.int .i64 k,.string n,.int .i64 s,.slice a ts.length cap] 28)) b o:=λb o h=>⟨h,hb0.cell (p:=⟨b,o,none⟩) (hk b o h),λes clk he=>by rw[hb0.block b (hk b o h)];exact he⟩;have hp0:=BS hst0 _ _ hp;have hC:=λ(hh:DV (w.alloc (.cells #[.int .i64 k,.string n,.int .i64 s,.slice a ts.length cap] 28)) ok0 [I8 (.mk k n s m ts)] (#[Value.agg #[.int .i64 k,.string n,.int .i64 s,.slice a ts.length cap]]:Array Value).toList)=>WG QS hV (w.alloc (.cells #[.int .i64 k,.string n,.int .i64 s,.slice a ts.length cap] 28)) ok0 _ (λb o h=>by have:=hk b o h;simp;omega) (hG.mono hst0) hh;have hC':=hC (by simp only[DV];exact⟨_,_,rfl,hp0,rfl⟩);clear hC;have box:∀w1,Below (w.alloc (.cells #[.int .i64 k,.string n,.int .i64 s,.slice a ts.length cap] 28)).heap.size (w.alloc (.cells #[.int .i64 k,.string n,.int .i64 s,.slice a ts.length cap] 28)) w1->∀i,(w1.alloc (.cells #[.pointer none,.slice none 0 0] 196)).cell? ⟨w.heap.size,i,none⟩=#[.int .i64 k,.string n,.int .i64 s,.slice a ts.length cap][i]?:=λw1 hb i =>
  have C2:w.heap.size<w1.heap.size:=by have:=hb.size;simp at this;omega
  Lib.cell_of_heap ((Lib.alloc_old w1 _ _ C2).trans ((hb.block w.heap.size (by simp)).trans (show (w.heap.push _)[w.heap.size]?=some (.cells _ 28 (0,0)) from Array.getElem?_push_size))) i
 go_enter Tryz.func56,Tryz.ntmps56
 go_wp2_with (first
  |(go_at_call 48;refine hC'.mono ?_;rintro e w1 ⟨u,rfl,⟨hb1,hd1⟩,hu⟩;simp only[PV]at hu;subst hu;have c0:=box w1 hb1 0;have c1:=box w1 hb1 1;have c2:=box w1 hb1 2;have c3:=box w1 hb1 3;have C6:w.heap.size<=w1.heap.size:=(by have:=hb1.size;simp at this;omega);have hbW:=(hb0.trans (hb1.mono (by simp))).alloc C6 (.cells #[.pointer none,.slice none 0 0] 196);have hst2:=λb o (h:ok0 b o)=>(⟨Nat.lt_of_lt_of_le (hk b o h) C6,hbW.cell (p:=⟨b,o,none⟩) (hk b o h),λes clk he=>by rw[hbW.block b (hk b o h)];exact he⟩:(b<w1.heap.size)/\If w _ b o))
  |(go_at_call 126;refine(Tryz.write_ok w1.heap.size w1.heap.size _ (.mk k n s m ts) (zf5z _) X9 O9 [] _ _ (Lib.fresh_isBuilder 196 5 w1) (BS (ok':=λx _=>x<w1.heap.size) hst2 _ _ hp) (by simp;omega) (by simp) (MT.of (hG.mono (ok':=λx _=>x<w1.heap.size) hst2) (λ_ _ h=>h))).mono ?_;rintro e w3 ⟨rfl,h3,hb3,hap3⟩)
  |(go_at_call 127;refine(Tryz.bldString w1.heap.size w1.heap.size _ _ (.inr h3) (by have:=hb3.size;simp at this;omega)).mono ?_;rintro e w4 ⟨rfl,hb4,hd4⟩))
 go_ret2
 refine⟨rfl,hbW.trans ((hb3.trans hb4).mono C6),λhd=>?_⟩;have a1:=hd1 hd;have a3:=hap3.drawn;simp only[World.drawn_alloc]at a1 a3;omega
def fmtB(t:Tm):Bool:=decide (EP t=0)&&be t&&decide (t.size<=1000)&&decide ((RH t).length<=1000000)
def TI:List AV->Option AV
 | [a]=>match mU a with|some t=>if fmtB t=true then some (.tup [.str ⟨(RH t).toArray⟩,.int .i64 0])else none|none=>none
 |_=>none
theorem Tryz.spec_format(args:List AV)(r:AV)(h:TI args=some r)(w:World)(ok0:Nat->Nat->Prop)(vs:Array Value)(hk:∀b o,ok0 b o->b<w.heap.size)(hG:Fo w ok0)(hv:DV w ok0 args vs.toList) :
  Calls Tryz.prog 56 vs w λe w'=>∃u,e=.returned u/\Bl w.heap.size w w'/\PV w' (λb o=>ok0 b o\/(w.heap.size<=b/\b<w'.heap.size)) r u:=by
 unfold TI at h;split at h
 .rename_i a;split at h
  .rename_i t ht;split at h
   .rename_i hb;cases h;unfold fmtB at hb;simp only[zf3z,decide_eq_true_eq]at hb;obtain⟨⟨⟨b1,b2⟩,b3⟩,b4⟩:=hb;rw[←ZG ht]at hv;obtain⟨vs⟩:=vs;simp only[DV]at hv;obtain⟨u,us,rfl,hu,rfl⟩:=hv;refine(Tryz.format_ok t b1 b2 (by omega) (by omega) w ok0 u hk hG hu).mono λe w' ⟨he,hb,hdr⟩=>?_;refine⟨_,he,⟨hb,hdr⟩,?_⟩;simp only[PV,DV];exact⟨_,rfl,_,_,rfl,rfl,_,_,rfl,rfl,rfl⟩
   .cases h
  .cases h
 .cases h
end Go.Proofs
namespace Go.Abs.Q
open Go.Proofs
def bN(f:FuncId):Option (List AV->Option AV):=if f=b7 then some TI else Lo f
noncomputable def Qf:Cfg:=⟨L3,B1,bN,UZ⟩
theorem kX:∀n,Le (orc Q n) (orc Qf n)
 |0=>⟨λf a r h=>(nomatch h),λf a g r h=>(nomatch h),λs s' t x _ h=>(nomatch h)⟩
 |n+1=>by
  have ih:=kX n;have hr:∀(f:FuncId) (args:List AV) (h:AH) (x:AV×AH),IG Q (orc Q n) f args h=some x->IG Qf (orc Qf n) f args h=some x:=λf args h x he=>by
   have:=TE (C:=Q) ih he;exact this
  refine⟨λf args r he=>?_,λf args h x he=>?_,λs s' t x hs he=>Hy hs (zf5z _) he⟩
  .change FN Q (orc Q n) f args=some r at he;show FN Qf (orc Qf n) f args=some r;unfold FN at he ⊢;by_cases hf:f=b7
   .subst hf;have e1:Q.spec b7=none:=rfl;have e2:Q.code b7=none:=rfl;have e3:Q.rspec b7=none:=rfl;rw[e1]at he;simp only[IG,e2,e3]at he;cases he
   .have e1:Qf.spec f=Q.spec f:=if_neg hf;rw[e1];cases hs:Q.spec f with
    |some s=>rw[hs]at he;exact he
    |none =>
     rw[hs]at he;simp only at he ⊢;cases hq:IG Q (orc Q n) f args AH.empty with
     |none=>rw[hq]at he;cases he
     |some y=>rw[hq]at he;rw[hr f args AH.empty y hq];exact he
  .change WK Q (orc Q n) f args h=some x at he;show WK Qf (orc Qf n) f args h=some x;unfold WK at he ⊢;cases hq:IG Q (orc Q n) f args h with
   |none=>rw[hq]at he;unfold bA at he;split at he<;>cases he
   |some y =>
    rw[hq]at he;rw[hr f args h y hq];exact he
theorem Lb{f:FuncId}{args:b9}{r:AV}(h:pc Q f args=some r):pc Qf f args=some r:=by
 obtain⟨n,hn⟩:=XS Q h;exact gk Qf ((kX n).pure f args r hn)
theorem QfS:CfgS Tryz.prog Qf:=by
 refine⟨QS.code,λf s hs args r hr=>?_,QS.mixed,QS.rspec⟩;have hs':bN f=some s:=hs;unfold bN at hs';split at hs'
 .rename_i hf;subst hf;cases hs';exact⟨by kernel_rfl,λw ok0 vs hk hG hv=>Tryz.spec_format args r hr w ok0 vs hk hG hv⟩
 .exact QS.spec f s hs' args r hr
theorem zA(f:FuncId)(args:b9)(r:AV)(h:i8 f args=some r):pc Qf f args=some r:=Lb (sD f args r h)
end Go.Abs.Q
namespace Go.Abs
theorem vG{O c bs ops fr B8 h h' fs Ψ}(he:P0 O c ops fr (h.holes (cN ops))=some (fs,B8,h'))(hp:Dx O c bs ops fr (h.holes (cN ops)) fs=true)(hΨ:Ψ .normal B8 h') :
  D7 (A8 O c (.regd bs ops) (fr,h)) Ψ:=by
 have e:A8 O c (.regd bs ops) (fr,h)=some (.normal,(B8,h')):=by
  simp only[A8,he,hp,Bool.or_true,if_true]
 rw[e];simpa using hΨ
structure FLe (f g:Foot):Prop where
 rb:f.rb=g.rb
 wb:∀x∈f.wb,x∈g.wb
 rf:f.rf=g.rf
 wf:∀x∈f.wf,x∈g.wf
theorem NC{r:Option (List (Option Nat))}{w w':List (Option Nat)}(h:Z0 r w'=true)(k:∀x∈w,x∈w'):Z0 r w=true:=by
 cases r with
 |none =>
  cases w with
  |nil=>rfl
  |cons x w =>
   have:=k x List.mem_cons_self;cases w' with
   |nil=>cases this
   |cons _ _=>exact absurd h (by simp[Z0])
 |some r =>
  simp only[Z0,zf8z]at h ⊢;exact λx hx=>h x (k x hx)
theorem ZQ{a b w:List (Option Nat)}(h:Z0 (some b) w=true)(k:∀x∈a,x∈b):Z0 (some a) w=true:=by
 simp only[Z0,zf8z,Bool.not_eq_true',List.contains_eq_mem,decide_eq_false_iff_not]at h ⊢;exact λx hx hm=>h x hx (k x hm)
theorem Ta{f g f' g':Foot}(h:FLe f g)(h':FLe f' g')(k:P1 g g'=true):P1 f f'=true:=by
 simp only[P1,zf3z]at k ⊢;obtain⟨⟨⟨⟨⟨k1,k2⟩,k3⟩,k4⟩,k5⟩,k6⟩:=k;refine⟨⟨⟨⟨⟨?_,?_⟩,?_⟩,?_⟩,?_⟩,?_⟩
 .rw[h.rb];exact NC k1 h'.wb
 .rw[h'.rb];exact NC k2 h.wb
 .exact ZQ (NC k3 h'.wb) h.wb
 .rw[h.rf];exact NC k4 h'.wf
 .rw[h'.rf];exact NC k5 h.wf
 .exact ZQ (NC k6 h'.wf) h.wf
def yO:List Foot->List Foot->Prop
 | [],[]=>True
 |f::fs,g::gs=>FLe f g/\yO fs gs
 |_,_=>False
theorem yO.get:∀{fs gs:List Foot},yO fs gs->∀{i:Nat} {g:Foot},gs[i]?=some g->∃f,fs[i]?=some f/\FLe f g
 | [],[],_,i,g,h=>by simp at h
 |f::fs,g'::gs,hl,0,g,h=>by
  simp only[List.getElem?_cons_zero,Option.some.injEq]at h;subst h;exact⟨f,rfl,hl.1⟩
 |f::fs,g'::gs,hl,i+1,g,h=>by
  simpa using yO.get hl.2 (i:=i) (by simpa using h)
theorem Wz(a:List (List AV)):Lv a a=[]:=by
 have:∀i:Nat,NS a[i]? a[i]?=true:=λi=>by
  cases a[i]? with
  |none=>rfl
  |some x=>exact T0 x
 simp[Lv,this]
theorem nh(x:Option Fam):MX x x=true:=by
 cases x with
 |none=>rfl
 |some x=>simp[MX,T0]
theorem ND(a:List Fam):PK a a=[]:=by
 simp[PK,nh]
theorem Ro(a:List (List AV))(k:Nat)(c:b9):∀x∈Lv a (a.set k c),x∈[some k]:=by
 intro x hx;simp only[Lv,zf9z,if_true,zf4z,List.mem_map,List.mem_filter]at hx;obtain⟨i,⟨_,h2⟩,rfl⟩:=hx;by_cases hik:k=i
 .subst hik;simp
 .rw[List.getElem?_set_ne hik]at h2;have:NS a[i]? a[i]?=true:=by
   cases a[i]? with
   |none=>rfl
   |some x=>exact T0 x
  rw[this]at h2;cases h2
def jQ(O:Orc)(c:Ctx)(ops:List RO)(fr:Fr)(h:AH)(gs:List Foot)(B8:Fr)(h':AH):Prop:=∃fs,P0 O c ops fr h=some (fs,B8,h')/\yO fs gs
section
variable {O:Orc} {c:Ctx} {fr B8:Fr} {h h':AH} {gs:List Foot}
theorem jQ.nil:jQ O c [] fr h [] fr h:=⟨[],rfl,trivial⟩
theorem jQ.r{d:Option Nat}{op:ROp}{rest:List RO}{v:AV}{rb rf:List (Option Nat)}(he:A7 O c op fr h=some (v,h))(h1:JR c h.boxes.length (get fr) op=some rb)(h2:Gl c (get fr) op=some rf)(hr:jQ O c rest (put fr d v) h gs B8 h') :
  jQ O c (⟨d,op,none⟩::rest) fr h (⟨some rb,[],some rf,[]⟩::gs) B8 h':=by
 obtain⟨fs,e,l⟩:=hr;refine⟨At c ⟨d,op,none⟩ fr h h::fs,?_,?_,l⟩
 .simp only[P0,O8,he,e,zg0z]
 .refine⟨h1,?_,h2,?_⟩
  .show ∀x∈Lv h.boxes h.boxes,x∈[];rw[Wz];exact λ_ h=>h
  .show ∀x∈PK h.fams h.fams,x∈[];rw[ND];exact λ_ h=>h
theorem jQ.w{d:Option Nat}{op:ROp}{rest:List RO}{v:AV}{k:Nat}{cs:b9}{rb rf:List (Option Nat)}(he:A7 O c op fr h=some (v,⟨h.boxes.set k cs,h.fams⟩))(h1:JR c h.boxes.length (get fr) op=some rb)(h2:Gl c (get fr) op=some rf)(hr:jQ O c rest (put fr d v) ⟨h.boxes.set k cs,h.fams⟩ gs B8 h') :
  jQ O c (⟨d,op,none⟩::rest) fr h (⟨some rb,[some k],some rf,[]⟩::gs) B8 h':=by
 obtain⟨fs,e,l⟩:=hr;refine⟨At c ⟨d,op,none⟩ fr h ⟨h.boxes.set k cs,h.fams⟩::fs,?_,?_,l⟩
 .simp only[P0,O8,he,e,zg0z]
 .refine⟨h1,?_,h2,?_⟩
  .exact Ro _ _ _
  .show ∀x∈PK h.fams h.fams,x∈[];rw[ND];exact λ_ h=>h
end
def Foot.map(f:Nat->Nat)(x:Foot):Foot:=⟨x.rb.map (·.map (·.map f)),x.wb.map (·.map f),x.rf.map (·.map (·.map f)),x.wf.map (·.map f)⟩
end Go.Abs
