/- A part of the proof. -/
import Derived.Test.YtnnjamknplefbaaGreatDoorTS38
set_option linter.all false
open List renaming getElem?_eq_none->zf0z,mem_zipIdx_iff_getElem?->zf1z,getElem?_eq_getElem->zf2z,getElem?_map->zf3z,all_eq_true->zf4z,getElem?_eq_some_iff->zf5z,getElem?_mapIdx->zf8z,length_cons->zf9z,mem_append->zg3z,mem_filter->zg4z,mem_range->zg7z,map_map->zg9z,mem_map->zt0z,range->zt1z
open Nat renaming le_trans->zf6z,le_max_right->zg0z,lt_of_not_le->zg1z,le_max_left->zg5z,max->zg8z
open Option renaming map_eq_some_iff->zf7z,map_some->zg6z
open Bool renaming eq_iff_iff->zg2z
set_option linter.all false
namespace Go.Abs
structure FQ where
 rb:Option (List (Option Nat))
 wb:Option (List (List AV)×List (List AV))
 rf:Option (List (Option Nat))
 wf:Option (List Fam×List Fam)
def wlB:Option (List (List AV)×List (List AV))->List (Option Nat)
 |none=>[]
 |some p=>HM p.1 p.2
def wlF:Option (List Fam×List Fam)->List (Option Nat)
 |none=>[]
 |some p=>JT p.1 p.2
def FQ.foot(q:FQ):Foot:=⟨q.rb,wlB q.wb,q.rf,wlF q.wf⟩
def vK(p:List (List AV)×List (List AV)):Option Nat->Bool
 |none=>!(p.1.length == p.2.length)
 |some i=>!IU p.1[i]? p.2[i]?
def vL(p:List Fam×List Fam):Option Nat->Bool
 |none=>!(p.1.length == p.2.length)
 |some i=>!Hh p.1[i]? p.2[i]?
theorem Jz{p:List (List AV)×List (List AV)}{x:Option Nat}:x∈HM p.1 p.2↔vK p x=true:=by
 unfold HM;cases x with
 |none =>
  by_cases h:p.1.length=p.2.length<;>simp[vK,h]
 |some i =>
  rw[zg3z];have h0:¬(some i∈(if p.1.length=p.2.length then ([]:List (Option Nat))else [none])):=by split<;>simp
  simp only[h0,false_or,zt0z,Option.some.injEq,exists_eq_right,zg4z,zg7z,vK];constructor
  .exact λh=>h.2
  .intro h;refine⟨zg1z λJu=>?_,h⟩;rw[zf0z (zf6z (zg5z _ _) Ju),zf0z (zf6z (zg0z _ _) Ju)]at h;simp[IU]at h
theorem KA{p:List Fam×List Fam}{x:Option Nat}:x∈JT p.1 p.2↔vL p x=true:=by
 unfold JT;cases x with
 |none =>
  by_cases h:p.1.length=p.2.length<;>simp[vL,h]
 |some i =>
  rw[zg3z];have h0:¬(some i∈(if p.1.length=p.2.length then ([]:List (Option Nat))else [none])):=by split<;>simp
  simp only[h0,false_or,zt0z,Option.some.injEq,exists_eq_right,zg4z,zg7z,vL];constructor
  .exact λh=>h.2
  .intro h;refine⟨zg1z λJu=>?_,h⟩;rw[zf0z (zf6z (zg5z _ _) Ju),zf0z (zf6z (zg0z _ _) Ju)]at h;simp[Hh]at h
def na:Option (List (Option Nat))->Option (List (List AV)×List (List AV))->Bool
 |_,none=>true
 |none,some p=>(HM p.1 p.2).isEmpty
 |some l,some p=>l.all λx=>!vK p x
def nc:Option (List (Option Nat))->Option (List Fam×List Fam)->Bool
 |_,none=>true
 |none,some p=>(JT p.1 p.2).isEmpty
 |some l,some p=>l.all λx=>!vL p x
theorem Nn{l w:List (Option Nat)}{f:Option Nat->Bool}(h:∀x,x∈w↔f x=true):(l.all λx=>!f x)=w.all λx=>!l.contains x:=by
 rw[zg2z,zf4z,zf4z];constructor
 .intro H x hx;simp only[Bool.not_eq_true',List.contains_eq_mem,decide_eq_false_iff_not];intro hl;have:=H x hl;rw[(h x).1 hx]at this;cases this
 .intro H x hx;cases hf:f x with
  |false=>rfl
  |true =>
   have:=H x ((h x).2 hf);simp[hx]at this
theorem gU(r:Option (List (Option Nat)))(w:Option (List (List AV)×List (List AV))):na r w=W7 r (wlB w):=by
 cases w with
 |none=>cases r<;>rfl
 |some p =>
  cases r with
  |none=>rfl
  |some l=>exact Nn λx=>Jz
theorem gV(r:Option (List (Option Nat)))(w:Option (List Fam×List Fam)):nc r w=W7 r (wlF w):=by
 cases w with
 |none=>cases r<;>rfl
 |some p =>
  cases r with
  |none=>rfl
  |some l=>exact Nn λx=>KA
def wwB:Option (List (List AV)×List (List AV))->Option (List (List AV)×List (List AV))->Bool
 |none,_=>true
 |some _,none=>true
 |some p,some q=>(HM p.1 p.2).all λx=>!vK q x
def wwF:Option (List Fam×List Fam)->Option (List Fam×List Fam)->Bool
 |none,_=>true
 |some _,none=>true
 |some p,some q=>(JT p.1 p.2).all λx=>!vL q x
theorem wwB_eq(w w':Option (List (List AV)×List (List AV))):wwB w w'=W7 (some (wlB w)) (wlB w'):=by
 cases w' with
 |none=>cases w<;>rfl
 |some q =>
  cases w with
  |none=>simp[wwB,wlB,W7]
  |some p=>exact Nn λx=>Jz
theorem wwF_eq(w w':Option (List Fam×List Fam)):wwF w w'=W7 (some (wlF w)) (wlF w'):=by
 cases w' with
 |none=>cases w<;>rfl
 |some q =>
  cases w with
  |none=>simp[wwF,wlF,W7]
  |some p=>exact Nn λx=>KA
def Rh(a b:FQ):Bool:=na a.rb b.wb&&na b.rb a.wb&&wwB a.wb b.wb&&nc a.rf b.wf&&nc b.rf a.wf&&wwF a.wf b.wf
theorem kJ(a b:FQ):Rh a b=P4 a.foot b.foot:=by
 unfold Rh P4 FQ.foot;rw[gU,gU,wwB_eq,gV,gV,wwF_eq]
def kx(c:Ctx)(g:Opd->AV)(r:ROp)(h h1:AH):FQ:=⟨FG c h.boxes.length g r,if r.writesB c then some (h.boxes,h1.boxes)else none,Db c g r,if r.writesF c then some (h.fams,h1.fams)else none⟩
def nilQ:FQ:=⟨some [],none,some [],none⟩
theorem ky(c:Ctx)(g:Opd->AV)(r:ROp)(h h1:AH):(kx c g r h h1).foot=VO c g r h h1:=by
 unfold kx FQ.foot VO;cases r.writesB c<;>cases r.writesF c<;>rfl
def Xl(bj:Nat)(i:Nat)(oi oj:RO)(fi fj:FQ):Bool :=
 bj.testBit i ||
  (
   (match oi.dst with|some d=>!oj.slots.contains d&&oj.dst != some d|none=>true) &&
   (match oj.dst with|some d=>!oi.slots.contains d|none=>true)&&Rh fi fj)
def Gz(bs:List Nat)(D5:List RO)(fs:List FQ):Bool :=
 (zt1z D5.length).all λj=>(zt1z j).all λi =>
  match D5[i]?,D5[j]?,fs[i]?,fs[j]? with
  |some oi,some oj,some fi,some fj=>Xl (bs.getD j 0) i oi oj fi fj&&(match oi.dst,oj.dst with|some d,some e=>d != e|_,_=>true)
  |_,_,_,_=>false
theorem QV(bs:List Nat)(D5:List RO)(fs:List FQ):Gz bs D5 fs=CY bs D5 (fs.map FQ.foot):=by
 unfold Gz CY;congr 1;funext j;congr 1;funext i;rw[zf3z,zf3z];cases D5[i]? with
 |none=>rfl
 |some oi =>
  cases D5[j]? with
  |none=>rfl
  |some oj =>
   cases fs[i]? with
   |none=>rfl
   |some fi =>
    cases fs[j]? with
    |none=>rfl
    |some fj =>
     simp only[zg6z,Xl,MD,kJ];rfl
def zq(_:Orc)(_:Ctx)(t:FT)(h:AH):Option (List (FQ×FT×AH)×FT×AH):=some ([],t,h)
noncomputable def fG(o:RO)(_:List RO)(ih:Orc->Ctx->FT->AH->Option (List (FQ×FT×AH)×FT×AH))(O:Orc)(c:Ctx)(t:FT)(h:AH):Option (List (FQ×FT×AH)×FT×AH) :=
 match Gk t.get o.guard with
 |some true=>(match Hn o.op O c (gT t.get) h with|some (v,h')=>(ih O c (NC t o.dst v) h').map λp=>((kx c (gT t.get) o.op h h',t,h)::p.1,p.2)|none=>none)
 |some false=>(ih O c (NC t o.dst B4) h).map λp=>((nilQ,t,h)::p.1,p.2)
 |none=>none
noncomputable def QU(l:List RO):Orc->Ctx->FT->AH->Option (List (FQ×FT×AH)×FT×AH):=l.rec zq fG
noncomputable def aF(bs:List Nat)(D5:List RO)(ts:List (FT×AH))(i:Nat):Bool :=
 match D5[i]?,ts[i]? with
 |some ⟨_,.ld agg n x,none⟩,some (t,h)=>(match gT t.get x with | .ptr b off=>ts.zipIdx.all λs=>(s.2 != 0&&(bs.getD (s.2-1) 0).testBit i)||eqO (U4 s.1.2 agg n (.ptr b off)) (U4 h agg n (.ptr b off))|_=>false)
 |_,_=>false
noncomputable def kI(bs:List Nat)(D5:List RO)(ts:List (FT×AH))(fs:List FQ):List FQ:=fs.mapIdx λi f=>if aF bs D5 ts i then {f with rb:=some []} else f
noncomputable def Wz(bs:List Nat)(ops:List RO)(O:OrcT)(c:Ctx)(s:PF):Fx :=
 match QU ops O.orc c s.1 (s.2.holes (Tu ops))with
 |some (ps,s')=>if Gz bs ops (ps.map (·.1))then some (.normal,s')else if Gz bs ops (kI bs ops (ps.map (·.2)++[s']) (ps.map (·.1)))then some (.normal,s')else none
 |none=>none
noncomputable def Dt(x:RCode):dE:=x.rec dW Nr Wz Zf Rr Nq Rs dV oM oD
noncomputable def Rn(O:OrcT)(c:Ctx)(rf:RFunc)(args:List AV)(h:AH):Option (AV×AH) :=
 match Dt rf.body O c (Me (JH (Nat.succ (zg8z rf.ntmps args.length)) (zg8z rf.ntmps args.length)) 0 args,h)with
 |some (.normal,s)=>(Qn s.1 s.2 rf.results).map λvs=>(M6 vs,s.2)
 |some (.ret,s)=>(Qn s.1 s.2 rf.results).map λvs=>(M6 vs,s.2)
 |_=>none
noncomputable def OZ(C:Cfg)(O:OrcT)(f:FuncId)(args:List AV)(h:AH):Option (AV×AH) :=
 match C.code f with
 |some rf=>Rn O (C.ctx f) rf args h
 |none=>match C.rspec f with|some s=>s.run O.orc args h|none=>none
noncomputable def Vj(C:Cfg)(K:Know)(O:OrcT)(f:FuncId)(args:List AV)(h:AH):Option (AV×AH) :=
 (K.raw f args h).rec (Pp (C.ctx f).rst (OZ C O f args h)) some
noncomputable def Xo(C:Cfg)(K:Know)(O:OrcT)(f:FuncId)(args:List AV):Option AV :=
 match C.spec f with
 |some s=>s args
 |none=>match OZ C O f args AH.empty with|some (r,h)=>Dv h r|none=>none
noncomputable def Pl(C:Cfg)(K:Know)(O:OrcT)(f:FuncId)(args:List AV):Option AV :=
 (K.pure f args).rec (Xo C K O f args) some
noncomputable def LS(C:Cfg)(K:Know)(n:Nat):OrcT :=
 n.rec ⟨λ_ _=>none,λ_ _ _=>none,λ_ _=>none⟩ (λn O=>⟨Pl C K O,Vj C K O,SU (n+1)⟩)
structure RepS (ts:List (Fr×AH)) (us:List (FT×AH)):Prop where
 len:ts.length=us.length
 at':∀(i:Nat) (s:Fr×AH) (u:FT×AH),ts[i]?=some s->us[i]?=some u->s.2=u.2/\RepT u.1 s.1
theorem RepS.cons{t:FT}{fr:Fr}{h:AH}(R:RepT t fr){ts:List (Fr×AH)}{us:List (FT×AH)}(k:RepS ts us):RepS ((fr,h)::ts) ((t,h)::us) :=
 ⟨by rw[zf9z,zf9z,k.len],λi s u hs hu=>by
  cases i with
  |zero =>
   cases hs;cases hu;exact⟨rfl,R⟩
  |succ i=>exact k.at' i s u (by simpa using hs) (by simpa using hu)⟩
theorem Sk{A:OrcT}{O:Orc}(S:SimO A O)(c:Ctx):∀(l:List RO) (t:FT) (fr:Fr) (h:AH),RepT t fr->∀ps t' h',QU l A.orc c t h=some (ps,t',h') ->
  ∃G6 ts,P3 O c l fr h=some (ps.map (·.1.foot),G6,h')/\W9 O c l fr h=some ts/\RepT t' G6/\RepS ts (ps.map (·.2)++[(t',h')])
 | [],t,fr,h,R,ps,t',h',he=>by
  have he:some (([]:List (FQ×FT×AH)),t,h)=some (ps,t',h'):=he;cases he;exact⟨fr,_,rfl,rfl,R,(⟨rfl,λi s u hs hu=>by simp at hs⟩:RepS [] []).cons R⟩
 |o::l,t,fr,h,R,ps,t',h',he=>by
  have he:(match Gk t.get o.guard with
   |some true=>(match Hn o.op A.orc c (gT t.get) h with|some (v,h')=>(QU l A.orc c (NC t o.dst v) h').map λp=>((kx c (gT t.get) o.op h h',t,h)::p.1,p.2)|none=>none)
   |some false=>(QU l A.orc c (NC t o.dst B4) h).map λp=>((nilQ,t,h)::p.1,p.2)
   |none=>none)=some (ps,t',h'):=he
  rw[NL R,R.gT,Mr]at he;unfold P3 W9 o8;cases hw:P1 fr o.guard with
  |none=>rw[hw]at he;cases he
  |some b =>
   rw[hw]at he;cases b with
   |false =>
    dsimp only at he ⊢;rw[zf7z]at he;obtain⟨⟨ps1,t1,h1⟩,hq,e⟩:=he;cases e;obtain⟨G6,ts,k1,k2,k3,k4⟩:=Sk S c l _ _ h (R.putO o.dst B4) _ _ _ hq;exact⟨G6,(fr,h)::ts,by rw[k1];rfl,by rw[k2];rfl,k3,k4.cons R⟩
   |true =>
    dsimp only at he ⊢;cases hp:A0 A.orc c o.op fr h with
    |none=>rw[hp]at he;cases he
    |some p =>
     rw[hp]at he;rw[Bn S.le hp];dsimp only at he ⊢;rw[zf7z]at he;obtain⟨⟨ps1,t1,h1⟩,hq,e⟩:=he;cases e;obtain⟨G6,ts,k1,k2,k3,k4⟩:=Sk S c l _ _ p.2 (R.putO o.dst p.1) _ _ _ hq;exact⟨G6,(fr,h)::ts,by rw[k1,←aE hp,←ky];rfl,by rw[k2];rfl,k3,k4.cons R⟩
theorem RepS.all{ts:List (Fr×AH)}{us:List (FT×AH)}(k:RepS ts us)(p:AH->Nat->Bool):(ts.zipIdx.all λs=>p s.1.2 s.2)=us.zipIdx.all λs=>p s.1.2 s.2:=by
 rw[zg2z,zf4z,zf4z];constructor
 .rintro H ⟨u,i⟩ hu;have hu:=zf1z.1 hu;dsimp only at hu;have Ai:i<ts.length:=by rw[k.len];exact(zf5z.1 hu).1
  have e:=zf2z Ai;have h1:=(k.at' i _ u e hu).1;dsimp only;rw[←h1];exact H (_,i) (zf1z.2 e)
 .rintro H ⟨s,i⟩ hs;have hs:=zf1z.1 hs;dsimp only at hs;have Ai:i<us.length:=by rw[←k.len];exact(zf5z.1 hs).1
  have e:=zf2z Ai;have h1:=(k.at' i s _ hs e).1;dsimp only;rw[h1];exact H (_,i) (zf1z.2 e)
theorem ve{ts:List (Fr×AH)}{us:List (FT×AH)}(k:RepS ts us)(bs:List Nat)(D5:List RO)(fs:List FQ):(kI bs D5 us fs).map FQ.foot=dL bs D5 ts (fs.map FQ.foot):=by
 have key:∀i,aF bs D5 us i=LM bs D5 ts i:=λi=>by
  unfold aF LM;by_cases hi:i<ts.length
  .have Ai:i<us.length:=by rw[←k.len];exact hi
   have e1:=zf2z hi;have e2:=zf2z Ai;obtain⟨h1,R⟩:=k.at' i _ _ e1 e2;rw[e1,e2];generalize ts[i]=s at *
   generalize us[i]=u at *
   obtain⟨fr,h⟩:=s;obtain⟨t,h'⟩:=u;simp only at h1;subst h1;have hg:∀x,gT t.get x=get fr x:=λx=>by rw[R.gT]
   cases D5[i]? with
   |none=>rfl
   |some o =>
    obtain⟨d,op,g⟩:=o;cases op<;>try rfl
    cases g<;>try rfl
    rename_i agg n x;simp only[hg];cases get fr x<;>try rfl
    rename_i b off;exact(k.all λq m=>(m != 0&&(bs.getD (m-1) 0).testBit i)||eqO (U4 q agg n (.ptr b off)) (U4 h agg n (.ptr b off))).symm
  .have Ai:¬i<us.length:=by rw[←k.len];exact hi
   have e1:ts[i]?=none:=zf0z (by omega);have e2:us[i]?=none:=zf0z (by omega);rw[e1,e2];cases D5[i]? with
   |none=>rfl
   |some o =>
    obtain⟨d,op,g⟩:=o;cases op<;>try rfl
    cases g<;>rfl
 unfold kI dL;refine List.ext_getElem? λi=>?_;rw[zf3z,zf8z,zf8z,zf3z];cases fs[i]? with
 |none=>rfl
 |some f =>
  simp only[zg6z,key];split<;>rfl
theorem GG{A:OrcT}{O:Orc}(S:SimO A O)(c:Ctx):∀(x:RCode),Sim (Dt x A c) (A8 O c x)
 | .skip=>λt fr h R e t' h' he=>by
  have he:some (Ex.normal,t,h)=some (e,t',h'):=he;cases he;exact⟨fr,rfl,R⟩
 | .region d ops=>λt fr h R e t' h' he=>by
  have he:((US ops A.orc c t h).rec none (λs'=>some (Ex.normal,s')):Fx)=some (e,t',h'):=he;unfold A8;cases ho:US ops A.orc c t h with
  |none=>rw[ho]at he;cases he
  |some s =>
   rw[ho]at he;cases he;obtain⟨G6,h1,h2⟩:=RG S c ops t fr h R _ _ ho;exact⟨G6,by rw[h1],h2⟩
 | .regd bs ops=>λt fr h R e t' h' he=>by
  have he:(match QU ops A.orc c t (h.holes (Tu ops))with
   |some (ps,s')=>if Gz bs ops (ps.map (·.1))then some (Ex.normal,s')else if Gz bs ops (kI bs ops (ps.map (·.2)++[s']) (ps.map (·.1)))then some (Ex.normal,s')else none
   |none=>none)=some (e,t',h'):=he
  unfold A8;cases ho:QU ops A.orc c t (h.holes (Tu ops))with
  |none=>rw[ho]at he;cases he
  |some s =>
   obtain⟨ps,t1,h1⟩:=s;rw[ho]at he;dsimp only at he;obtain⟨G6,ts,k1,k2,k3,k4⟩:=Sk S c ops t fr (h.holes (Tu ops)) R _ _ _ ho;split at he
   .rename_i hp;cases he;rw[QV,zg9z]at hp;exact⟨G6,by rw[k1];dsimp only;rw[if_pos (by rw[show (ps.map λp=>p.1.foot)=ps.map (FQ.foot∘λp=>p.1) from rfl,hp];rfl)],k3⟩
   .split at he
    .rename_i hp;cases he;rw[QV,ve k4,zg9z]at hp;refine⟨G6,by rw[k1];dsimp only;rw[if_pos (by unfold Bu;rw[k2];dsimp only;rw[show (ps.map λp=>p.1.foot)=ps.map (FQ.foot∘λp=>p.1) from rfl,hp,Bool.or_true])],k3⟩
    .cases he
 | .seq a b=>λt fr h R e t' h' he=>by
  have he:(match Dt a A c (t,h)with|some (.normal,s')=>Dt b A c s' | r=>r)=some (e,t',h'):=he
  unfold A8;cases ha:Dt a A c (t,h)with
  |none=>rw[ha]at he;cases he
  |some p =>
   obtain⟨ea,ta,h1⟩:=p;rw[ha]at he;obtain⟨fra,k1,k2⟩:=GG S c a t fr h R _ _ _ ha;rw[k1];cases ea with
   |normal=>exact GG S c b ta fra h1 k2 e t' h' he
   |exit id=>cases he;exact⟨fra,rfl,k2⟩
   |ret=>cases he;exact⟨fra,rfl,k2⟩
 | .cond q a b=>λt fr h R e t' h' he=>by
  have he:(match gT t.get q with | .bool true=>Dt a A c (t,h) | .bool false=>Dt b A c (t,h)|_=>none)=some (e,t',h'):=he
  rw[R.gT]at he;unfold A8;dsimp only;generalize get fr q=v at he ⊢;split at he
  .exact GG S c a t fr h R e t' h' he
  .exact GG S c b t fr h R e t' h' he
  .cases he
 | .block id a=>λt fr h R e t' h' he=>by
  have he:(match Dt a A c (t,h)with|some (.exit id',s')=>if id'=id then some (.normal,s')else some (.exit id',s')|r=>r)=some (e,t',h'):=he
  unfold A8;cases ha:Dt a A c (t,h)with
  |none=>rw[ha]at he;cases he
  |some p =>
   obtain⟨ea,ta,h1⟩:=p;rw[ha]at he;obtain⟨fra,k1,k2⟩:=GG S c a t fr h R _ _ _ ha;rw[k1];cases ea with
   |normal=>cases he;exact⟨fra,rfl,k2⟩
   |ret=>cases he;exact⟨fra,rfl,k2⟩
   |exit id' =>
    dsimp only at he ⊢;by_cases hi:id'=id
    .rw[if_pos hi]at he ⊢;cases he;exact⟨fra,rfl,k2⟩
    .rw[if_neg hi]at he ⊢;cases he;exact⟨fra,rfl,k2⟩
 | .loop a=>λt fr h R e t' h' he=>S.loop _ _ (GG S c a) t fr h R e t' h' he
 | .exit id=>λt fr h R e t' h' he=>by
  have he:some (Ex.exit id,t,h)=some (e,t',h'):=he;cases he;exact⟨fr,rfl,R⟩
 | .ret=>λt fr h R e t' h' he=>by
  have he:some (Ex.ret,t,h)=some (e,t',h'):=he;cases he;exact⟨fr,rfl,R⟩
 | .bad=>λt fr h R e t' h' he=>by
  have he:none=some (e,t',h'):=he;cases he
theorem kO{A:OrcT}{O:Orc}(S:SimO A O)(c:Ctx)(rf:RFunc)(args:I7)(h:AH){r:AV×AH}(he:Rn A c rf args h=some r):En O c rf args h=some r:=by
 unfold Rn at he;unfold En;cases hc:Dt rf.body A c (Me (JH (Nat.succ (zg8z rf.ntmps args.length)) (zg8z rf.ntmps args.length)) 0 args,h)with
 |none=>rw[hc]at he;cases he
 |some p =>
  obtain⟨e,t',h'⟩:=p;rw[hc]at he;obtain⟨G6,k1,k2⟩:=GG S c rf.body _ _ h (RepT.start rf args) _ _ _ hc;rw[k1];cases e with
  |normal=>dsimp only at he ⊢;rw[MI k2]at he;exact he
  |ret=>dsimp only at he ⊢;rw[MI k2]at he;exact he
  |exit id=>cases he
section
variable {C:Cfg} {K:Know}
theorem Vk{A:OrcT}(S:SimO A (Ax C)){f:FuncId}{args:I7}{h:AH}{r:AV×AH}(he:OZ C A f args h=some r):EW C (Ax C) f args h=some r:=by
 unfold OZ at he;unfold EW;cases hc:C.code f with
 |some rf=>rw[hc]at he;exact kO S _ rf args h he
 |none =>
  rw[hc]at he;dsimp only at he ⊢;cases hr:C.rspec f with
  |none=>rw[hr]at he;cases he
  |some s=>rw[hr]at he;exact TE S.le he
theorem ru(hK:KnowOk C K){A:OrcT}(S:SimO A (Ax C)){f:FuncId}{args:I7}{h:AH}{r:AV×AH}(he:Vj C K A f args h=some r):rc C f args h=some r:=by
 unfold Vj at he;cases hk:K.raw f args h with
 |some x=>rw[hk]at he;cases he;exact hK.raw _ _ _ _ hk
 |none =>
  rw[hk]at he;have he:Pp (C.ctx f).rst (OZ C A f args h)=some r:=he;cases hu:OZ C A f args h with
  |none=>rw[hu]at he;unfold Pp at he;split at he<;>cases he
  |some x =>
   rw[hu,MJ]at he;cases he;exact jD C (Vk S hu)
theorem lh(hK:KnowOk C K){A:OrcT}(S:SimO A (Ax C)){f:FuncId}{args:I7}{r:AV}(he:Pl C K A f args=some r):pc C f args=some r:=by
 unfold Pl at he;cases hk:K.pure f args with
 |some x=>rw[hk]at he;cases he;exact hK.pure _ _ _ hk
 |none =>
  rw[hk]at he;have he:Xo C K A f args=some r:=he;unfold Xo at he;cases hs:C.spec f with
  |some s =>
   apply QW;rw[hs]at he;unfold Ck;rw[hs];exact he
  |none =>
   rw[hs]at he;dsimp only at he;cases hr:OZ C A f args AH.empty with
   |none=>rw[hr]at he;cases he
   |some p =>
    rw[hr]at he;apply QW;unfold Ck;rw[hs];dsimp only;rw[Vk S hr];exact he
end
theorem OQ{C:Cfg}{K:Know}(hK:KnowOk C K):∀n,SimO (LS C K n) (Ax C)
 |0=>⟨λ_ _ _ h=>(nomatch (show none=some _ from h)),λ_ _ _ _ h=>(nomatch (show none=some _ from h)),λ_ _ _=>λt fr h R e t' h' he=>nomatch (show none=some _ from he)⟩
 |n+1=>⟨λ_ _ _ h=>lh hK (OQ hK n) h,λ_ _ _ _ h=>ru hK (OQ hK n) h,λ_ _ H=>λt fr h R e t' h' he=>by
   obtain⟨G6,h1,h2⟩:=SV H (n+1) t fr h R e t' h' he;exact⟨G6,OC h1,h2⟩⟩
theorem L7{C:Cfg}{K:Know}(hK:KnowOk C K)(n:Nat){f:FuncId}{args:I7}{r:AV}(h:(LS C K n).pure f args=some r):pc C f args=some r:=(OQ hK n).pure f args r h
theorem sU{C:Cfg}{K:Know}(hK:KnowOk C K)(n:Nat){f:FuncId}{args:I7}{h:AH}{r:AV×AH}(he:(LS C K n).raw f args h=some r):rc C f args h=some r:=(OQ hK n).raw f args h r he
structure ToldR where
 f:FuncId
 args:List AV
 h:AH
 r:AV
 h':AH
def sZ{α:Type}:List α->List (Nat×α)->List α
 |l,[]=>l
 |l,p::ps=>sZ (l.set p.1 p.2) ps
def Iu(h:AH)(bs:List (Nat×List AV))(nb:List (List AV))(fs:List (Nat×Fam))(nf:List Fam):AH:=⟨sZ h.boxes bs++nb,sZ h.fams fs++nf⟩
noncomputable def spL{α β:Type}(l:List α):(List α->β)->β:=l.rec (λk=>k []) (λa _ ih k=>ih λl'=>k (a::l'))
theorem fK{α β:Type}:∀(l:List α) (k:List α->β),spL l k=k l
 | [],_=>rfl
 |a::l,k=>by
  show spL l (λl'=>k (a::l'))=_;rw[fK l]
noncomputable def spH{β:Type}(h:AH)(k:AH->β):β:=spL h.boxes λb=>spL h.fams λf=>k ⟨b,f⟩
theorem se{β:Type}(h:AH)(k:AH->β):spH h k=k h:=by unfold spH;rw[fK,fK]
end Go.Abs
namespace Go.Abs.Q
def hp0:AH:=⟨[],[]⟩
def hp1:AH:=⟨[V2,Dh,Yw,V2,Dh],[⟨Ys,6,true⟩]⟩
def hp2:AH:=Iu hp1 [] [V2,Dh,V2,Dh,V2,Dh,Bb] [] []
def hp3:AH:=Iu hp2 [] [V2,Dh,[(I 0)],gD,gD,[(I 4),(.vs true 0 [])],V1,Cg,[(I 1),(.vs true 0 [])],Ch,[(I 1),(.vs true 0 [])],Fu,[(I 4),(.vs true 0 [])],Fv,[(I 4),(.vs true 0 [])],GW,[(I 5),(.vs true 0 [])],GX,[(I 5),(.vs true 0 [])],GY,V1,GZ,V1,Oq,U2,[(I 2),(.vs true 0 [])]] [] [⟨Kq,6,false⟩]
def hp4:AH:=Iu hp3 [] [gD,[(.mbox [] [])],[(.sl 2 9 0 9),(.sl 6 1 0 1),(.sl 3 9 0 9),(.sl 4 1 0 1),(.sl 5 1 0 1),(I 0),(I 0),(I 0),(I 0),(.vs true 0 []),(I 0),(S []),(I 0),(.vs true 0 []),(I 0),(.vs true 0 []),(I 0),(I 0),(.vs true 0 []),(.mp 39)],Bb,[(.ptr 40 0)],Bb,Df,Df,Ah,Ah,Lq,Dg] [] [⟨Kq,6,false⟩,⟨Tl,1,true⟩,⟨[(I 0)],1,true⟩,⟨fh,14,false⟩,⟨Jl,3,false⟩]
def hp5:AH:=Iu hp4 [(39,fg),(40,uM)] [Dg,K4,NX,K4,K4,N5,N5,Ek,N5,V1,Lr,K4,N5,FI,FI,U2,U2,Ec,U2,[(I 2),(.vs true 0 [])],NR,[(I 2),(.vs true 0 [])],[(I 2),(.vs true 0 [])],Ah,Px,K4,[(I 1),(.vs true 0 [])],uX,K4,[(I 1),(.vs true 0 [])],Yt] [(3,⟨Yj,1,true⟩),(5,⟨fy,14,false⟩)] [⟨[(I 2)],1,false⟩,⟨[(I 1),(I 2),(I 0)],1,false⟩]
def hp6:AH:=Iu hp5 [] [Bb,Yx,Df,Dg,Lq,Lr,NR,uY,uZ] [] [⟨uo,14,false⟩,⟨[(I 1),(I 2),(I 0)],1,true⟩,⟨[(I 3)],1,true⟩]
def hp7:AH:=Iu hp6 [] [V2,Dh,[(I 2)],gE,gE,[(I 4),(.vs true 0 [])],V1,Cg,[(I 1),(.vs true 0 [])],Ch,[(I 1),(.vs true 0 [])],Fu,[(I 4),(.vs true 0 [])],Fv,[(I 1),(.vs true 0 [])],GW,[(I 5),(.vs true 0 [])],GX,[(I 1),(.vs true 0 [])],GY,[(I 1),(.vs true 0 [])],GZ,[(I 1),(.vs true 0 [])],Oq,U2,[(I 1),(.vs true 0 [])]] [] [⟨Pz,6,false⟩]
def hp8:AH:=Iu hp7 [] [gE,[(.mbox [] [])],[(.sl 13 9 0 9),(.sl 17 1 0 1),(.sl 14 9 0 9),(.sl 15 1 0 1),(.sl 16 1 0 1),(I 0),(I 0),(I 0),(I 2),(.vs true 0 []),(I 0),(S []),(I 0),(.vs true 0 []),(I 0),(.vs true 0 []),(I 0),(I 0),(.vs true 0 []),(.mp 117)],Bb,[(.ptr 118 0)],Bb,Df,Df,Ah,Ah,NV,Dg] [] [⟨Pz,6,false⟩,⟨Tl,1,true⟩,⟨[(I 0)],1,true⟩,⟨uV,14,false⟩,⟨Jl,3,false⟩]
def hp9:AH:=Iu hp8 [(117,fk),(118,uN)] [Dg,K4,NX,K4,K4,N5,N5,Ek,N5,[(I 1),(.vs true 0 [])],NT,K4,Cf,fd,Cf,Cf,JP,uu,JP,[(I 1),(.vs true 0 [])],NQ,U2,Ec,U2,[(I 1),(.vs true 0 [])],NS,[(I 1),(.vs true 0 [])],Cf,[(I 1),(.vs true 0 [])],Yp,N5,Ek,K4,[(I 1),(.vs true 0 [])],Yv,K4,[(I 1),(.vs true 0 [])],Yu] [(14,⟨fZ,1,true⟩),(16,⟨gB,14,false⟩)] []
def hp10:AH:=Iu hp9 [] [NV,NT,NQ,NS,uR,ua,ub,AR] [(9,⟨ur,14,false⟩)] [⟨[(I 7),(I 8)],1,true⟩,⟨[(I 9),(I 6)],1,true⟩,⟨[(I 10)],1,true⟩]
def hp11:AH:=Iu hp10 [] [V2,Dh,[(I 0)],Ti,Ti,[(I 4),(.vs true 0 [])],V1,Cg,[(I 1),(.vs true 0 [])],Ch,[(I 1),(.vs true 0 [])],Fu,[(I 4),(.vs true 0 [])],Fv,[(I 4),(.vs true 0 [])],GW,[(I 5),(.vs true 0 [])],GX,[(I 5),(.vs true 0 [])],GY,V1,GZ,V1,Oq] [] [⟨To,6,false⟩]
def hp12:AH:=Iu hp11 [] [Ti,[(.mbox [] [])],[(.sl 22 8 0 8),(.vs true 0 []),(.sl 23 8 0 8),(.sl 24 0 0 0),(.sl 25 1 0 1),(I 0),(I 1),(I 1),(I 0),(.vs true 0 []),(I 0),(S []),(I 0),(.vs true 0 []),(I 0),(.vs true 0 []),(I 0),(I 0),(.vs true 0 []),(.mp 199)],AR,[(.ptr 200 0)],AR,[(.ptr 200 0)],AR,K4,[(I 1),(.vs true 0 [])],NY] [] [⟨To,6,false⟩,⟨Yi,1,true⟩,⟨[],1,true⟩,⟨uc,14,false⟩]
def hp13:AH:=Iu hp12 [(200,[(.sl 22 9 0 9),(.sl 27 1 0 1),(.sl 23 9 0 9),(.sl 24 1 0 1),(.sl 25 6 0 6),(I 0),(I 1),(I 1),(I 0),(.vs true 0 []),(I 0),(S []),(I 0),(.vs true 0 []),(I 0),(.vs true 0 []),(I 0),(I 0),(.vs true 0 []),(.mp 199)])] [[(.ptr 200 0)],K4,Qg,K4,[(I 1),(.vs true 0 [])],N5,N5,Ek,N5,V1,NW,Qg,K4,[(I 1),(.vs true 0 [])],V1,FI,Qg,U2,U2,[(I 2),(.vs true 0 [])],Ym,FI,N5,Ah,Ah,Yr,Qg,GB,U2,[(I 2),(.vs true 0 [])],Ec,GB,Cg,Wm,Cg,[(I 1),(.vs true 0 [])],NM,Ch,Wn,Ch,[(I 1),(.vs true 0 [])],NN,U2,Ec] [(22,⟨Kq,6,false⟩),(23,⟨fX,1,true⟩),(24,⟨[(I 3)],1,true⟩),(25,⟨um,14,false⟩)] [⟨[(I 2)],1,false⟩,⟨Jl,3,false⟩,⟨[(I 2)],1,false⟩]
def hp14:AH:=Iu hp13 [] [Cz,Cz,DA,DA] [] []
def hp15:AH:=Iu hp14 [(200,uO)] [AR,jy,Yy,Cz,Py,Cz,U2,Ec,fc,Yn,DA,Py,DA,Px,fe,Yq] [(25,⟨gA,14,false⟩)] []
def hp16:AH:=Iu hp15 [] [NY,NW,uI,uT,NM,NN,uL,uU] [(9,⟨ut,14,false⟩)] [⟨[(I 12),(I 13)],1,true⟩,⟨[(I 12),(I 13)],1,true⟩,⟨[(I 14)],1,true⟩,⟨[(I 15)],1,true⟩]
def hp17:AH:=Iu hp16 [] [V2,Dh,[(I 1)],Tj,Tj,[(I 4),(.vs true 0 [])],V1,Cg,[(I 1),(.vs true 0 [])],Ch,[(I 1),(.vs true 0 [])],Fu,[(I 1),(.vs true 0 [])],Fv,[(I 4),(.vs true 0 [])],GW,[(I 1),(.vs true 0 [])],GX,[(I 5),(.vs true 0 [])],GY,[(I 1),(.vs true 0 [])],GZ,[(I 1),(.vs true 0 [])],Oq] [] [⟨Tn,6,false⟩]
def hp18:AH:=Iu hp17 [] [Tj,[(.mbox [] [])],[(.sl 34 8 0 8),(.vs true 0 []),(.sl 35 8 0 8),(.sl 36 0 0 0),(.sl 37 1 0 1),(I 0),(I 1),(I 1),(I 1),(.vs true 0 []),(I 0),(S []),(I 0),(.vs true 0 []),(I 0),(.vs true 0 []),(I 0),(I 0),(.vs true 0 []),(.mp 306)],AR,[(.ptr 307 0)],AR,[(.ptr 307 0)],AR,K4,[(I 1),(.vs true 0 [])],NZ] [] [⟨Tn,6,false⟩,⟨Yi,1,true⟩,⟨[],1,true⟩,⟨ud,14,false⟩]
def hp19:AH:=Iu hp18 [(307,uP)] [[(.ptr 307 0)],K4,Ot,K4,[(I 1),(.vs true 0 [])],N5,N5,Ek,N5,[(I 1),(.vs true 0 [])],NU,Ot,K4,[(I 1),(.vs true 0 [])],[(I 1),(.vs true 0 [])],Cf,[(I 1),(.vs true 0 [])],Yo,Ot,Wo,Cf,[(I 1),(.vs true 0 [])],JP,[(I 1),(.vs true 0 [])],Yk,U2,[(I 1),(.vs true 0 [])],Yl,Wo,GB,JP,[(I 1),(.vs true 0 [])],GB,GB,U2,[(I 1),(.vs true 0 [])],Ec,GB,Cg,Wm,Cg,[(I 1),(.vs true 0 [])],NO,Ch,Wn,Ch,[(I 1),(.vs true 0 [])],NP,U2,Ec] [(34,⟨fu,6,false⟩),(35,⟨fY,1,true⟩),(37,⟨fv,14,false⟩)] [⟨[(I 2)],1,false⟩,⟨[(I 3),(I 4)],1,false⟩]
def hp20:AH:=⟨[V2,Dh,Yw,V2,Dh,V2,Dh,V2,Dh],[⟨Ys,6,true⟩]⟩
def wX:AH:=Iu hp19 [] [Cz,Cz,DA,DA,NZ,NU,uQ,uH,uJ,NO,NP] [(9,⟨gC,14,false⟩)] [⟨[(I 20),(I 21)],1,true⟩,⟨[(I 22)],1,true⟩,⟨[(I 22)],1,true⟩]
def hp22:AH:=⟨[V2,Dh,Yw,V2,Dh,V2,Dh],[⟨Ys,6,true⟩]⟩
def hp23:AH:=Iu wX [] [V2,fW,Dh,V2,Dh,Bb] [] []
def hp24:AH:=Iu hp23 [] [V2,Dh,[(I 0)],jr,jr,[(I 4),(.vs true 0 [])],V1,Cg,[(I 1),(.vs true 0 [])],Ch,[(I 1),(.vs true 0 [])],Fu,[(I 4),(.vs true 0 [])],Fv,[(I 4),(.vs true 0 [])],GW,[(I 5),(.vs true 0 [])],GX,[(I 5),(.vs true 0 [])],GY,V1,GZ,V1,Oq,U2,[(I 2),(.vs true 0 [])]] [] [⟨Kq,6,false⟩]
def hp25:AH:=Iu hp24 [] [jr,[(.mbox [] [])],[(.sl 44 9 0 9),(.sl 48 1 0 1),(.sl 45 9 0 9),(.sl 46 1 0 1),(.sl 47 1 0 1),(I 0),(I 0),(I 0),(I 0),(.vs true 0 []),(I 0),(S []),(I 0),(.vs true 0 []),(I 0),(.vs true 0 []),(I 0),(I 0),(.vs true 0 []),(.mp 410)],Bb,[(.ptr 411 0)],Bb,Df,Df,Ah,Ah,Lq,Dg] [] [⟨Kq,6,false⟩,⟨Tl,1,true⟩,⟨[(I 0)],1,true⟩,⟨fh,14,false⟩,⟨Jl,3,false⟩]
def hp26:AH:=Iu hp25 [(410,fg),(411,[(.sl 44 9 0 9),(.sl 48 1 0 1),(.sl 45 9 0 9),(.sl 46 1 0 1),(.sl 47 5 0 5),(I 0),(I 0),(I 0),(I 0),(.vs true 0 []),(I 0),(S []),(I 0),(.vs true 0 []),(I 0),(.vs true 0 []),(I 0),(I 0),(.vs true 0 []),(.mp 410)])] [Dg,K4,NX,K4,K4,N5,N5,Ek,N5,V1,Lr,K4,N5,FI,FI,U2,U2,Ec,U2,[(I 2),(.vs true 0 [])],NR,[(I 2),(.vs true 0 [])],[(I 2),(.vs true 0 [])],Ah,Px,K4,[(I 1),(.vs true 0 [])],[(I 16),(I 0),(I 0),(I 0),(.sl 50 3 0 3),(I 3),(S [101,110,99]),(I 0),EO,(I 1),(.vs true 0 []),(I 0),(I 0),(.vs true 0 [])],K4,[(I 1),(.vs true 0 [])],Yt] [(45,⟨Yj,1,true⟩),(47,⟨fy,14,false⟩)] [⟨[(I 2)],1,false⟩,⟨[(I 1),(I 2),(I 0)],1,false⟩]
def hp27:AH:=Iu hp26 [] [Bb,Yx,Df,Dg,Lq,Lr,NR,[(I 16),(I 0),(I 0),(I 0),(.sl 52 3 0 3),(I 3),(S [101,110,99]),(I 0),EO,(I 1),(.vs true 0 []),(I 0),(I 0),(.vs true 0 [])],[(I 23),(I 0),(I 0),(I 0),(.sl 53 1 0 1),(I 3),(S [101,110,99]),(I 0),EO,(I 1),(.vs true 0 []),(I 0),(I 0),(.vs true 0 [])]] [] [⟨uo,14,false⟩,⟨[(I 1),(I 2),(I 0)],1,true⟩,⟨[(I 3)],1,true⟩]
def hp28:AH:=Iu hp27 [] [V2,Dh,[(I 2)],jt,jt,[(I 4),(.vs true 0 [])],V1,Cg,[(I 1),(.vs true 0 [])],Ch,[(I 1),(.vs true 0 [])],Fu,[(I 4),(.vs true 0 [])],Fv,[(I 1),(.vs true 0 [])],GW,[(I 5),(.vs true 0 [])],GX,[(I 1),(.vs true 0 [])],GY,[(I 1),(.vs true 0 [])],GZ,[(I 1),(.vs true 0 [])],Oq,U2,[(I 1),(.vs true 0 [])]] [] [⟨Pz,6,false⟩]
def hp29:AH:=Iu hp28 [] [jt,[(.mbox [] [])],[(.sl 55 9 0 9),(.sl 59 1 0 1),(.sl 56 9 0 9),(.sl 57 1 0 1),(.sl 58 1 0 1),(I 0),(I 0),(I 0),(I 2),(.vs true 0 []),(I 0),(S []),(I 0),(.vs true 0 []),(I 0),(.vs true 0 []),(I 0),(I 0),(.vs true 0 []),(.mp 488)],Bb,[(.ptr 489 0)],Bb,Df,Df,Ah,Ah,NV,Dg] [] [⟨Pz,6,false⟩,⟨Tl,1,true⟩,⟨[(I 0)],1,true⟩,⟨uV,14,false⟩,⟨Jl,3,false⟩]
def hp30:AH:=Iu hp29 [(488,fk),(489,[(.sl 55 9 0 9),(.sl 59 1 0 1),(.sl 56 9 0 9),(.sl 57 1 0 1),(.sl 58 7 0 7),(I 0),(I 0),(I 0),(I 2),(.vs true 0 []),(I 0),(S []),(I 0),(.vs true 0 []),(I 0),(.vs true 0 []),(I 0),(I 0),(.vs true 0 []),(.mp 488)])] [Dg,K4,NX,K4,K4,N5,N5,Ek,N5,[(I 1),(.vs true 0 [])],NT,K4,Cf,fd,Cf,Cf,JP,uu,JP,[(I 1),(.vs true 0 [])],NQ,U2,Ec,U2,[(I 1),(.vs true 0 [])],NS,[(I 1),(.vs true 0 [])],Cf,[(I 1),(.vs true 0 [])],Yp,N5,Ek,K4,[(I 1),(.vs true 0 [])],Yv,K4,[(I 1),(.vs true 0 [])],Yu] [(56,⟨fZ,1,true⟩),(58,⟨gB,14,false⟩)] []
def hp31:AH:=Iu hp30 [] [NV,NT,NQ,NS,[(I 13),(I 0),(I 0),(I 2),(.sl 60 2 0 2),(I 3),(S [112,97,105,114]),(I 0),On,(I 1),(.vs true 0 []),(I 0),(I 0),(.vs true 0 [])],[(I 17),(I 0),(I 0),(I 2),(.sl 61 2 0 2),(I 3),(S [101,110,99]),(I 0),EO,(I 1),(.vs true 0 []),(I 0),(I 0),(.vs true 0 [])],[(I 23),(I 0),(I 0),(I 2),(.sl 62 1 0 1),(I 3),(S [101,110,99]),(I 0),EO,(I 1),(.vs true 0 []),(I 0),(I 0),(.vs true 0 [])],AR] [(51,⟨ur,14,false⟩)] [⟨[(I 7),(I 8)],1,true⟩,⟨[(I 9),(I 6)],1,true⟩,⟨[(I 10)],1,true⟩]
def hp32:AH:=Iu hp31 [] [V2,Dh,[(I 0)],ju,ju,[(I 4),(.vs true 0 [])],V1,Cg,[(I 1),(.vs true 0 [])],Ch,[(I 1),(.vs true 0 [])],Fu,[(I 4),(.vs true 0 [])],Fv,[(I 4),(.vs true 0 [])],GW,[(I 5),(.vs true 0 [])],GX,[(I 5),(.vs true 0 [])],GY,V1,GZ,V1,Oq] [] [⟨To,6,false⟩]
def hp33:AH:=Iu hp32 [] [ju,[(.mbox [] [])],[(.sl 64 8 0 8),(.vs true 0 []),(.sl 65 8 0 8),(.sl 66 0 0 0),(.sl 67 1 0 1),(I 0),(I 1),(I 1),(I 0),(.vs true 0 []),(I 0),(S []),(I 0),(.vs true 0 []),(I 0),(.vs true 0 []),(I 0),(I 0),(.vs true 0 []),(.mp 570)],AR,[(.ptr 571 0)],AR,[(.ptr 571 0)],AR,K4,[(I 1),(.vs true 0 [])],NY] [] [⟨To,6,false⟩,⟨Yi,1,true⟩,⟨[],1,true⟩,⟨uc,14,false⟩]
def hp34:AH:=Iu hp33 [(571,[(.sl 64 9 0 9),(.sl 69 1 0 1),(.sl 65 9 0 9),(.sl 66 1 0 1),(.sl 67 6 0 6),(I 0),(I 1),(I 1),(I 0),(.vs true 0 []),(I 0),(S []),(I 0),(.vs true 0 []),(I 0),(.vs true 0 []),(I 0),(I 0),(.vs true 0 []),(.mp 570)])] [[(.ptr 571 0)],K4,jx,K4,[(I 1),(.vs true 0 [])],N5,N5,Ek,N5,V1,NW,jx,K4,[(I 1),(.vs true 0 [])],V1,FI,jx,U2,U2,[(I 2),(.vs true 0 [])],Ym,FI,N5,Ah,Ah,Yr,jx,GB,U2,[(I 2),(.vs true 0 [])],Ec,GB,Cg,Wm,Cg,[(I 1),(.vs true 0 [])],NM,Ch,Wn,Ch,[(I 1),(.vs true 0 [])],NN,U2,Ec] [(64,⟨Kq,6,false⟩),(65,⟨fX,1,true⟩),(66,⟨[(I 3)],1,true⟩),(67,⟨um,14,false⟩)] [⟨[(I 2)],1,false⟩,⟨Jl,3,false⟩,⟨[(I 2)],1,false⟩]
def hp35:AH:=Iu hp34 [] [Cz,Cz,DA,DA] [] []
def hp36:AH:=Iu hp35 [(571,[(.sl 64 9 0 9),(.sl 69 1 0 1),(.sl 65 9 0 9),(.sl 66 1 0 1),(.sl 67 8 0 8),(I 0),(I 1),(I 1),(I 0),(.vs true 0 []),(I 0),(S []),(I 0),(.vs true 0 []),(I 0),(.vs true 0 []),(I 0),(I 0),(.vs true 0 []),(.mp 570)])] [AR,jy,Yy,Cz,Py,Cz,U2,Ec,fc,Yn,DA,Py,DA,Px,fe,Yq] [(67,⟨gA,14,false⟩)] []
def hp37:AH:=Iu hp36 [] [NY,NW,[(I 6),(I 1),(I 1),(I 0),(.sl 71 2 0 2),(I 1),(S [110,97]),(I 2),(.vs true 0 []),(I 2),(.vs true 0 []),(I 0),(I 0),(.vs true 0 [])],[(I 11),(I 1),(I 1),(I 0),(.sl 72 2 0 2),(I 0),(S []),(I 0),(.vs true 0 []),(I 0),(.vs true 0 []),(I 2),(I 1),It],NM,NN,[(I 24),(I 1),(I 1),(I 0),(.sl 73 1 0 1),(I 0),(S []),(I 0),(.vs true 0 []),(I 0),(.vs true 0 []),(I 3),(I 0),Qd],[(I 24),(I 1),(I 1),(I 0),(.sl 74 1 0 1),(I 0),(S []),(I 0),(.vs true 0 []),(I 0),(.vs true 0 []),(I 3),(I 1),It]] [(51,⟨ut,14,false⟩)] [⟨[(I 12),(I 13)],1,true⟩,⟨[(I 12),(I 13)],1,true⟩,⟨[(I 14)],1,true⟩,⟨[(I 15)],1,true⟩]
def hp38:AH:=Iu hp37 [] [V2,Dh,[(I 1)],jv,jv,[(I 4),(.vs true 0 [])],V1,Cg,[(I 1),(.vs true 0 [])],Ch,[(I 1),(.vs true 0 [])],Fu,[(I 1),(.vs true 0 [])],Fv,[(I 4),(.vs true 0 [])],GW,[(I 1),(.vs true 0 [])],GX,[(I 5),(.vs true 0 [])],GY,[(I 1),(.vs true 0 [])],GZ,[(I 1),(.vs true 0 [])],Oq] [] [⟨Tn,6,false⟩]
def hp39:AH:=Iu hp38 [] [jv,[(.mbox [] [])],[(.sl 76 8 0 8),(.vs true 0 []),(.sl 77 8 0 8),(.sl 78 0 0 0),(.sl 79 1 0 1),(I 0),(I 1),(I 1),(I 1),(.vs true 0 []),(I 0),(S []),(I 0),(.vs true 0 []),(I 0),(.vs true 0 []),(I 0),(I 0),(.vs true 0 []),(.mp 677)],AR,[(.ptr 678 0)],AR,[(.ptr 678 0)],AR,K4,[(I 1),(.vs true 0 [])],NZ] [] [⟨Tn,6,false⟩,⟨Yi,1,true⟩,⟨[],1,true⟩,⟨ud,14,false⟩]
def hp40:AH:=Iu hp39 [(678,[(.sl 76 9 0 9),(.vs true 0 []),(.sl 77 9 0 9),(.sl 78 0 0 0),(.sl 79 7 0 7),(I 0),(I 1),(I 1),(I 1),(.vs true 0 []),(I 0),(S []),(I 0),(.vs true 0 []),(I 0),(.vs true 0 []),(I 0),(I 0),(.vs true 0 []),(.mp 677)])] [[(.ptr 678 0)],K4,Ot,K4,[(I 1),(.vs true 0 [])],N5,N5,Ek,N5,[(I 1),(.vs true 0 [])],NU,Ot,K4,[(I 1),(.vs true 0 [])],[(I 1),(.vs true 0 [])],Cf,[(I 1),(.vs true 0 [])],Yo,Ot,Wo,Cf,[(I 1),(.vs true 0 [])],JP,[(I 1),(.vs true 0 [])],Yk,U2,[(I 1),(.vs true 0 [])],Yl,Wo,GB,JP,[(I 1),(.vs true 0 [])],GB,GB,U2,[(I 1),(.vs true 0 [])],Ec,GB,Cg,Wm,Cg,[(I 1),(.vs true 0 [])],NO,Ch,Wn,Ch,[(I 1),(.vs true 0 [])],NP,U2,Ec] [(76,⟨fu,6,false⟩),(77,⟨fY,1,true⟩),(79,⟨fv,14,false⟩)] [⟨[(I 2)],1,false⟩,⟨[(I 3),(I 4)],1,false⟩]
def hp41:AH:=⟨[V2,Dh,Yw,V2,Dh,V2,Dh,V2,Dh,V2,Dh,Bb,V2,Dh,[(I 0)],gD,gD,[(I 4),(.vs true 0 [])],V1,Cg,[(I 1),(.vs true 0 [])],Ch,[(I 1),(.vs true 0 [])],Fu,[(I 4),(.vs true 0 [])],Fv,[(I 4),(.vs true 0 [])],GW,[(I 5),(.vs true 0 [])],GX,[(I 5),(.vs true 0 [])],GY,V1,GZ,V1,Oq,U2,[(I 2),(.vs true 0 [])],gD,fg,uM,Bb,[(.ptr 40 0)],Bb,Df,Df,Ah,Ah,Lq,Dg,Dg,K4,NX,K4,K4,N5,N5,Ek,N5,V1,Lr,K4,N5,FI,FI,U2,U2,Ec,U2,[(I 2),(.vs true 0 [])],NR,[(I 2),(.vs true 0 [])],[(I 2),(.vs true 0 [])],Ah,Px,K4,[(I 1),(.vs true 0 [])],uX,K4,[(I 1),(.vs true 0 [])],Yt,Bb,Yx,Df,Dg,Lq,Lr,NR,uY,uZ,V2,Dh,[(I 2)],gE,gE,[(I 4),(.vs true 0 [])],V1,Cg,[(I 1),(.vs true 0 [])],Ch,[(I 1),(.vs true 0 [])],Fu,[(I 4),(.vs true 0 [])],Fv,[(I 1),(.vs true 0 [])],GW,[(I 5),(.vs true 0 [])],GX,[(I 1),(.vs true 0 [])],GY,[(I 1),(.vs true 0 [])],GZ,[(I 1),(.vs true 0 [])],Oq,U2,[(I 1),(.vs true 0 [])],gE,fk,uN,Bb,[(.ptr 118 0)],Bb,Df,Df,Ah,Ah,NV,Dg,Dg,K4,NX,K4,K4,N5,N5,Ek,N5,[(I 1),(.vs true 0 [])],NT,K4,Cf,fd,Cf,Cf,JP,uu,JP,[(I 1),(.vs true 0 [])],NQ,U2,Ec,U2,[(I 1),(.vs true 0 [])],NS,[(I 1),(.vs true 0 [])],Cf,[(I 1),(.vs true 0 [])],Yp,N5,Ek,K4,[(I 1),(.vs true 0 [])],Yv,K4,[(I 1),(.vs true 0 [])],Yu,NV,NT,NQ,NS,uR,ua,ub,AR,V2,Dh,[(I 0)],Ti,Ti,[(I 4),(.vs true 0 [])],V1,Cg,[(I 1),(.vs true 0 [])],Ch,[(I 1),(.vs true 0 [])],Fu,[(I 4),(.vs true 0 [])],Fv,[(I 4),(.vs true 0 [])],GW,[(I 5),(.vs true 0 [])],GX,[(I 5),(.vs true 0 [])],GY,V1,GZ,V1,Oq,Ti,[(.mbox [] [])],uO,AR,[(.ptr 200 0)],AR,[(.ptr 200 0)],AR,K4,[(I 1),(.vs true 0 [])],NY,[(.ptr 200 0)],K4,Qg,K4,[(I 1),(.vs true 0 [])],N5,N5,Ek,N5,V1,NW,Qg,K4,[(I 1),(.vs true 0 [])],V1,FI,Qg,U2,U2,[(I 2),(.vs true 0 [])],Ym,FI,N5,Ah,Ah,Yr,Qg,GB,U2,[(I 2),(.vs true 0 [])],Ec,GB,Cg,Wm,Cg,[(I 1),(.vs true 0 [])],NM,Ch,Wn,Ch,[(I 1),(.vs true 0 [])],NN,U2,Ec,Cz,Cz,DA,DA,AR,jy,Yy,Cz,Py,Cz,U2,Ec,fc,Yn,DA,Py,DA,Px,fe,Yq,NY,NW,uI,uT,NM,NN,uL,uU,V2,Dh,[(I 1)],Tj,Tj,[(I 4),(.vs true 0 [])],V1,Cg,[(I 1),(.vs true 0 [])],Ch,[(I 1),(.vs true 0 [])],Fu,[(I 1),(.vs true 0 [])],Fv,[(I 4),(.vs true 0 [])],GW,[(I 1),(.vs true 0 [])],GX,[(I 5),(.vs true 0 [])],GY,[(I 1),(.vs true 0 [])],GZ,[(I 1),(.vs true 0 [])],Oq,Tj,[(.mbox [] [])],uP,AR,[(.ptr 307 0)],AR,[(.ptr 307 0)],AR,K4,[(I 1),(.vs true 0 [])],NZ,[(.ptr 307 0)],K4,Ot,K4,[(I 1),(.vs true 0 [])],N5,N5,Ek,N5,[(I 1),(.vs true 0 [])],NU,Ot,K4,[(I 1),(.vs true 0 [])],[(I 1),(.vs true 0 [])],Cf,[(I 1),(.vs true 0 [])],Yo,Ot,Wo,Cf,[(I 1),(.vs true 0 [])],JP,[(I 1),(.vs true 0 [])],Yk,U2,[(I 1),(.vs true 0 [])],Yl,Wo,GB,JP,[(I 1),(.vs true 0 [])],GB,GB,U2,[(I 1),(.vs true 0 [])],Ec,GB,Cg,Wm,Cg,[(I 1),(.vs true 0 [])],NO,Ch,Wn,Ch,[(I 1),(.vs true 0 [])],NP,U2,Ec,Cz,Cz,DA,DA,NZ,NU,uQ,uH,uJ,NO,NP,V2,fW,Dh],[⟨Ys,6,true⟩,⟨Kq,6,false⟩,⟨Kq,6,false⟩,⟨Yj,1,true⟩,⟨[(I 0)],1,true⟩,⟨fy,14,false⟩,⟨Jl,3,false⟩,⟨[(I 2)],1,false⟩,⟨[(I 1),(I 2),(I 0)],1,false⟩,⟨gC,14,false⟩,⟨[(I 1),(I 2),(I 0)],1,true⟩,⟨[(I 3)],1,true⟩,⟨Pz,6,false⟩,⟨Pz,6,false⟩,⟨fZ,1,true⟩,⟨[(I 0)],1,true⟩,⟨gB,14,false⟩,⟨Jl,3,false⟩,⟨[(I 7),(I 8)],1,true⟩,⟨[(I 9),(I 6)],1,true⟩,⟨[(I 10)],1,true⟩,⟨To,6,false⟩,⟨Kq,6,false⟩,⟨fX,1,true⟩,⟨[(I 3)],1,true⟩,⟨gA,14,false⟩,⟨[(I 2)],1,false⟩,⟨Jl,3,false⟩,⟨[(I 2)],1,false⟩,⟨[(I 12),(I 13)],1,true⟩,⟨[(I 12),(I 13)],1,true⟩,⟨[(I 14)],1,true⟩,⟨[(I 15)],1,true⟩,⟨Tn,6,false⟩,⟨fu,6,false⟩,⟨fY,1,true⟩,⟨[],1,true⟩,⟨fv,14,false⟩,⟨[(I 2)],1,false⟩,⟨[(I 3),(I 4)],1,false⟩,⟨[(I 20),(I 21)],1,true⟩,⟨[(I 22)],1,true⟩,⟨[(I 22)],1,true⟩]⟩
def qf:AH:=Iu hp40 [] [Cz,Cz,DA,DA,NZ,NU,[(I 7),(I 1),(I 1),(I 1),(.sl 82 2 0 2),(I 3),(S [112,97,105,114]),(I 0),On,(I 1),(.vs true 0 []),(I 0),(I 0),(.vs true 0 [])],[(I 5),(I 1),(I 1),(I 1),(.sl 83 1 0 1),(I 2),(S [116]),(I 5),(.vs true 0 []),(I 1),(.vs true 0 []),(I 0),(I 0),(.vs true 0 [])],[(I 5),(I 1),(I 1),(I 1),(.sl 84 1 0 1),(I 1),(S [110,97]),(I 2),(.vs true 0 []),(I 1),(.vs true 0 []),(I 0),(I 0),(.vs true 0 [])],NO,NP] [(51,⟨gC,14,false⟩)] [⟨[(I 20),(I 21)],1,true⟩,⟨[(I 22)],1,true⟩,⟨[(I 22)],1,true⟩]
def hp43:AH:=Iu qf [] [V2,Dh,V2,Dh,Bb] [(0,⟨fo,6,true⟩)] []
def hp44:AH:=Iu hp43 [] [V2,Dh,[(I 0)],jw,jw,[(I 4),(.vs true 0 [])],V1,Cg,[(I 1),(.vs true 0 [])],Ch,[(I 1),(.vs true 0 [])],Fu,[(I 4),(.vs true 0 [])],Fv,[(I 4),(.vs true 0 [])],GW,[(I 5),(.vs true 0 [])],GX,[(I 5),(.vs true 0 [])],GY,V1,GZ,V1,Oq,U2,[(I 1),(.vs true 0 [])]] [] [⟨ul,6,false⟩]
def hp45:AH:=Iu hp44 [] [jw,[(.mbox [] [])],[(.sl 86 9 0 9),(.sl 90 1 0 1),(.sl 87 9 0 9),(.sl 88 1 0 1),(.sl 89 1 0 1),(I 0),(I 0),(I 0),(I 0),(.vs true 0 []),(I 0),(S []),(I 0),(.vs true 0 []),(I 0),(.vs true 0 []),(I 0),(I 0),(.vs true 0 []),(.mp 780)],Bb,[(.ptr 781 0)],Bb,Df,Df,Ah,Ah,Lq,Dg] [] [⟨ul,6,false⟩,⟨Tl,1,true⟩,⟨[(I 0)],1,true⟩,⟨fh,14,false⟩,⟨Jl,3,false⟩]
def hp46:AH:=Iu hp45 [(780,[(.mbox uS [(I (-1))])]),(781,[(.sl 86 9 0 9),(.sl 90 1 0 1),(.sl 87 9 0 9),(.sl 88 1 0 1),(.sl 89 3 0 3),(I 0),(I 0),(I 0),(I 0),(.vs true 0 []),(I 0),(S []),(I 0),(.vs true 0 []),(I 0),(.vs true 0 []),(I 0),(I 0),(.vs true 0 []),(.mp 780)])] [Dg,K4,NX,K4,K4,N5,N5,Ek,N5,V1,Lr,K4,N5,FI,FI,U2,U2,Ec,U2,[(I 1),(.vs true 0 [])],uK,[(I 1),(.vs true 0 [])],[(I 2),(.vs true 0 [])]] [(87,⟨Yj,1,true⟩),(89,⟨[Te,Wk,(.agg uK)],14,false⟩)] []
def hp47:AH:=Iu qf [] [V2,Dh] [(0,⟨fo,6,true⟩)] []
def hp48:AH:=Iu qf [] [] [(0,⟨fo,6,true⟩)] []
def hp49:AH:=Iu hp46 [] [] [] [⟨[(I 0),(I 1)],1,false⟩]
end Go.Abs.Q
