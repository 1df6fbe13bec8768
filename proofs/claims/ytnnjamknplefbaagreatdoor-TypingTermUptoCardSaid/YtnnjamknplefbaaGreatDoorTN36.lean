/- A part of the proof. -/
import Derived.Test.YtnnjamknplefbaaGreatDoorTN35
set_option linter.all false
open Nat renaming beq->zf0z,le_trans->zf8z,eq_of_beq_eq_true->zg1z,le_max_right->zg3z,lt_of_not_le->zg4z,le_max_left->zg7z,max->zt0z,beq_refl->zt3z
open List renaming getElem?_eq_none->zf1z,mem_zipIdx_iff_getElem?->zf2z,getElem?_eq_getElem->zf3z,getElem?_map->zf4z,all_eq_true->zf5z,getElem?_eq_some_iff->zf6z,length_cons->zf7z,getElem?_mapIdx->zg2z,mem_append->zg5z,mem_filter->zg6z,mem_range->zg9z,map_map->zt1z,mem_map->zt2z,range->zt4z
open Bool renaming eq_iff_iff->zf9z
open Option renaming map_eq_some_iff->zg0z,map_some->zg8z
set_option linter.all false
namespace Go.Abs
structure FQ where
 rb:Option (List (Option Nat))
 wb:Option (List (List AV)×List (List AV))
 rf:Option (List (Option Nat))
 wf:Option (List Fam×List Fam)
def wlB:Option (List (List AV)×List (List AV))->List (Option Nat)
 |none=>[]
 |some p=>Lv p.1 p.2
def wlF:Option (List Fam×List Fam)->List (Option Nat)
 |none=>[]
 |some p=>PK p.1 p.2
def FQ.foot(q:FQ):Foot:=⟨q.rb,wlB q.wb,q.rf,wlF q.wf⟩
def chB(p:List (List AV)×List (List AV)):Option Nat->Bool
 |none=>!(p.1.length == p.2.length)
 |some i=>!NS p.1[i]? p.2[i]?
def chF(p:List Fam×List Fam):Option Nat->Bool
 |none=>!(p.1.length == p.2.length)
 |some i=>!MX p.1[i]? p.2[i]?
theorem Px{p x}:x∈Lv p.1 p.2↔chB p x=true:=by
 unfold Lv;cases x with
 |none =>
  by_cases h:p.1.length=p.2.length<;>simp[chB,h]
 |some i =>
  rw[zg5z];have h0:¬(some i∈(if p.1.length=p.2.length then ([]:List (Option Nat))else [none])):=by split<;>simp
  simp only[h0,false_or,zt2z,Option.some.injEq,exists_eq_right,zg6z,zg9z,chB];constructor
  .exact λh=>h.2
  .intro h;refine⟨zg4z λOK=>?_,h⟩;rw[zf1z (zf8z (zg7z _ _) OK),zf1z (zf8z (zg3z _ _) OK)]at h;simp[NS]at h
theorem Py{p x}:x∈PK p.1 p.2↔chF p x=true:=by
 unfold PK;cases x with
 |none =>
  by_cases h:p.1.length=p.2.length<;>simp[chF,h]
 |some i =>
  rw[zg5z];have h0:¬(some i∈(if p.1.length=p.2.length then ([]:List (Option Nat))else [none])):=by split<;>simp
  simp only[h0,false_or,zt2z,Option.some.injEq,exists_eq_right,zg6z,zg9z,chF];constructor
  .exact λh=>h.2
  .intro h;refine⟨zg4z λOK=>?_,h⟩;rw[zf1z (zf8z (zg7z _ _) OK),zf1z (zf8z (zg3z _ _) OK)]at h;simp[MX]at h
def yb:Option (List (Option Nat))->Option (List (List AV)×List (List AV))->Bool
 |_,none=>true
 |none,some p=>(Lv p.1 p.2).isEmpty
 |some l,some p=>l.all λx=>!chB p x
def yc:Option (List (Option Nat))->Option (List Fam×List Fam)->Bool
 |_,none=>true
 |none,some p=>(PK p.1 p.2).isEmpty
 |some l,some p=>l.all λx=>!chF p x
theorem VF{l w:List (Option Nat)}{f:Option Nat->Bool}(h:∀x,x∈w↔f x=true):(l.all λx=>!f x)=w.all λx=>!l.contains x:=by
 rw[zf9z,zf5z,zf5z];constructor
 .intro H x hx;simp only[Bool.not_eq_true',List.contains_eq_mem,decide_eq_false_iff_not];intro hl;have:=H x hl;rw[(h x).1 hx]at this;cases this
 .intro H x hx;cases hf:f x with
  |false=>rfl
  |true =>
   have:=H x ((h x).2 hf);simp[hx]at this
theorem rn(r w):yb r w=Z0 r (wlB w):=by
 cases w with
 |none=>cases r<;>rfl
 |some p =>
  cases r with
  |none=>rfl
  |some l=>exact VF λx=>Px
theorem rq(r w):yc r w=Z0 r (wlF w):=by
 cases w with
 |none=>cases r<;>rfl
 |some p =>
  cases r with
  |none=>rfl
  |some l=>exact VF λx=>Py
def wwB:Option (List (List AV)×List (List AV))->Option (List (List AV)×List (List AV))->Bool
 |none,_=>true
 |some _,none=>true
 |some p,some q=>(Lv p.1 p.2).all λx=>!chB q x
def wwF:Option (List Fam×List Fam)->Option (List Fam×List Fam)->Bool
 |none,_=>true
 |some _,none=>true
 |some p,some q=>(PK p.1 p.2).all λx=>!chF q x
theorem wwB_eq(w w'):wwB w w'=Z0 (some (wlB w)) (wlB w'):=by
 cases w' with
 |none=>cases w<;>rfl
 |some q =>
  cases w with
  |none=>simp[wwB,wlB,Z0]
  |some p=>exact VF λx=>Px
theorem wwF_eq(w w'):wwF w w'=Z0 (some (wlF w)) (wlF w'):=by
 cases w' with
 |none=>cases w<;>rfl
 |some q =>
  cases w with
  |none=>simp[wwF,wlF,Z0]
  |some p=>exact VF λx=>Py
def ZR(a b:FQ):Bool:=yb a.rb b.wb&&yb b.rb a.wb&&wwB a.wb b.wb&&yc a.rf b.wf&&yc b.rf a.wf&&wwF a.wf b.wf
theorem vO(a b):ZR a b=P1 a.foot b.foot:=by
 unfold ZR P1 FQ.foot;rw[rn,rn,wwB_eq,rq,rq,wwF_eq]
def wC(c:Ctx)(g:Opd->AV)(r:ROp)(h h1:AH):FQ:=⟨JR c h.boxes.length g r,if r.writesB c then some (h.boxes,h1.boxes)else none,Gl c g r,if r.writesF c then some (h.fams,h1.fams)else none⟩
def nilQ:FQ:=⟨some [],none,some [],none⟩
theorem wD(c g r h h1):(wC c g r h h1).foot=dq c g r h h1:=by
 unfold wC FQ.foot dq;cases r.writesB c<;>cases r.writesF c<;>rfl
def gp(bj:Nat)(i:Nat)(oi oj:RO)(fi fj:FQ):Bool :=
 bj.testBit i ||
  (
   (match oi.dst with|some d=>!oj.slots.contains d&&oj.dst != some d|none=>true) &&
   (match oj.dst with|some d=>!oi.slots.contains d|none=>true)&&ZR fi fj)
def Ln(bs:List Nat)(C9:List RO)(fs:List FQ):Bool :=
 (zt4z C9.length).all λj=>(zt4z j).all λi =>
  match C9[i]?,C9[j]?,fs[i]?,fs[j]? with
  |some oi,some oj,some fi,some fj=>gp (bs.getD j 0) i oi oj fi fj&&(match oi.dst,oj.dst with|some d,some e=>d != e|_,_=>true)
  |_,_,_,_=>false
theorem YM(bs C9 fs):Ln bs C9 fs=Es bs C9 (fs.map FQ.foot):=by
 unfold Ln Es;congr 1;funext j;congr 1;funext i;rw[zf4z,zf4z];cases C9[i]? with
 |none=>rfl
 |some oi =>
  cases C9[j]? with
  |none=>rfl
  |some oj =>
   cases fs[i]? with
   |none=>rfl
   |some fi =>
    cases fs[j]? with
    |none=>rfl
    |some fj =>
     simp only[zg8z,gp,TB,vO];rfl
def s_nil(_:Orc)(_:Ctx)(t:FT)(h:AH):Option (List (FQ×FT×AH)×FT×AH):=some ([],t,h)
noncomputable def qV(o:RO)(_:List RO)(ih:Orc->Ctx->FT->AH->Option (List (FQ×FT×AH)×FT×AH))(O:Orc)(c:Ctx)(t:FT)(h:AH):Option (List (FQ×FT×AH)×FT×AH) :=
 match LO t.get o.guard with
 |some true=>(match Mh o.op O c (gT t.get) h with|some (v,h')=>(ih O c (UV t o.dst v) h').map λp=>((wC c (gT t.get) o.op h h',t,h)::p.1,p.2)|none=>none)
 |some false=>(ih O c (UV t o.dst B9) h).map λp=>((nilQ,t,h)::p.1,p.2)
 |none=>none
noncomputable def YL(l:List RO):Orc->Ctx->FT->AH->Option (List (FQ×FT×AH)×FT×AH):=l.rec s_nil qV
noncomputable def kM(bs:List Nat)(C9:List RO)(ts:List (FT×AH))(i:Nat):Bool :=
 match C9[i]?,ts[i]? with
 |some ⟨_,.ld agg n x,none⟩,some (t,h)=>(match gT t.get x with | .ptr b off=>ts.zipIdx.all λs=>(s.2 != 0&&(bs.getD (s.2-1) 0).testBit i)||eqO (X3 s.1.2 agg n (.ptr b off)) (X3 h agg n (.ptr b off))|_=>false)
 |_,_=>false
noncomputable def vN(bs:List Nat)(C9:List RO)(ts:List (FT×AH))(fs:List FQ):List FQ:=fs.mapIdx λi f=>if kM bs C9 ts i then {f with rb:=some []} else f
noncomputable def fp(bs:List Nat)(ops:List RO)(O:OrcT)(c:Ctx)(s:Xo):Kc :=
 match YL ops O.orc c s.1 (s.2.holes (cN ops))with
 |some (ps,s')=>if Ln bs ops (ps.map (·.1))then some (.normal,s')else if Ln bs ops (vN bs ops (ps.map (·.2)++[s']) (ps.map (·.1)))then some (.normal,s')else none
 |none=>none
noncomputable def HP(x:RCode):nC:=x.rec nT VM fp je Za VL Zb nS yx yw
noncomputable def ZX(O:OrcT)(c:Ctx)(rf:RFunc)(args:List AV)(h:AH):Option (AV×AH) :=
 match HP rf.body O c (Ty (Od (Nat.succ (zt0z rf.ntmps args.length)) (zt0z rf.ntmps args.length)) 0 args,h)with
 |some (.normal,s)=>(Yd s.1 s.2 rf.results).map λvs=>(J4 vs,s.2)
 |some (.ret,s)=>(Yd s.1 s.2 rf.results).map λvs=>(J4 vs,s.2)
 |_=>none
noncomputable def YP(C:Cfg)(O:OrcT)(f:FuncId)(args:List AV)(h:AH):Option (AV×AH) :=
 match C.code f with
 |some rf=>ZX O (C.ctx f) rf args h
 |none=>match C.rspec f with|some s=>s.run O.orc args h|none=>none
noncomputable def eN(C:Cfg)(K:Know)(O:OrcT)(f:FuncId)(args:List AV)(h:AH):Option (AV×AH) :=
 (K.raw f args h).rec (bA (C.ctx f).rst (YP C O f args h)) some
noncomputable def qO(C:Cfg)(K:Know)(O:OrcT)(f:FuncId)(args:List AV):Option AV :=
 match C.spec f with
 |some s=>s args
 |none=>match YP C O f args AH.empty with|some (r,h)=>Gj h r|none=>none
noncomputable def XV(C:Cfg)(K:Know)(O:OrcT)(f:FuncId)(args:List AV):Option AV :=
 (K.pure f args).rec (qO C K O f args) some
noncomputable def SS(C:Cfg)(K:Know)(n:Nat):OrcT :=
 n.rec ⟨λ_ _=>none,λ_ _ _=>none,λ_ _=>none⟩ (λn O=>⟨XV C K O,eN C K O,aC (n+1)⟩)
structure RepS (ts:List (Fr×AH)) (us:List (FT×AH)):Prop where
 len:ts.length=us.length
 at':∀(i:Nat) (s:Fr×AH) (u:FT×AH),ts[i]?=some s->us[i]?=some u->s.2=u.2/\RepT u.1 s.1
theorem RepS.cons{t fr h}(R:RepT t fr){ts us}(k:RepS ts us):RepS ((fr,h)::ts) ((t,h)::us) :=
 ⟨by rw[zf7z,zf7z,k.len],λi s u hs hu=>by
  cases i with
  |zero =>
   cases hs;cases hu;exact⟨rfl,R⟩
  |succ i=>exact k.at' i s u (by simpa using hs) (by simpa using hu)⟩
theorem aS{A O}(S:SimO A O)(c):∀(l:List RO) (t:FT) (fr:Fr) (h:AH),RepT t fr->∀ps t' h',YL l A.orc c t h=some (ps,t',h') ->
  ∃B8 ts,P0 O c l fr h=some (ps.map (·.1.foot),B8,h')/\Z2 O c l fr h=some ts/\RepT t' B8/\RepS ts (ps.map (·.2)++[(t',h')])
 | [],t,fr,h,R,ps,t',h',he=>by
  have he:some (([]:List (FQ×FT×AH)),t,h)=some (ps,t',h'):=he;cases he;exact⟨fr,_,rfl,rfl,R,(⟨rfl,λi s u hs hu=>by simp at hs⟩:RepS [] []).cons R⟩
 |o::l,t,fr,h,R,ps,t',h',he=>by
  have he:(match LO t.get o.guard with
   |some true=>(match Mh o.op A.orc c (gT t.get) h with|some (v,h')=>(YL l A.orc c (UV t o.dst v) h').map λp=>((wC c (gT t.get) o.op h h',t,h)::p.1,p.2)|none=>none)
   |some false=>(YL l A.orc c (UV t o.dst B9) h).map λp=>((nilQ,t,h)::p.1,p.2)
   |none=>none)=some (ps,t',h'):=he
  rw[Uf R,R.gT,UH]at he;unfold P0 Z2 At;cases hw:O8 fr o.guard with
  |none=>rw[hw]at he;cases he
  |some b =>
   rw[hw]at he;cases b with
   |false =>
    dsimp only at he ⊢;rw[zg0z]at he;obtain⟨⟨ps1,t1,h1⟩,hq,e⟩:=he;cases e;obtain⟨B8,ts,k1,k2,k3,k4⟩:=aS S c l _ _ h (R.putO o.dst B9) _ _ _ hq;exact⟨B8,(fr,h)::ts,by rw[k1];rfl,by rw[k2];rfl,k3,k4.cons R⟩
   |true =>
    dsimp only at he ⊢;cases hp:A7 A.orc c o.op fr h with
    |none=>rw[hp]at he;cases he
    |some p =>
     rw[hp]at he;rw[Do S.le hp];dsimp only at he ⊢;rw[zg0z]at he;obtain⟨⟨ps1,t1,h1⟩,hq,e⟩:=he;cases e;obtain⟨B8,ts,k1,k2,k3,k4⟩:=aS S c l _ _ p.2 (R.putO o.dst p.1) _ _ _ hq;exact⟨B8,(fr,h)::ts,by rw[k1,←kL hp,←wD];rfl,by rw[k2];rfl,k3,k4.cons R⟩
theorem RepS.all{ts us}(k:RepS ts us)(p:AH->Nat->Bool):(ts.zipIdx.all λs=>p s.1.2 s.2)=us.zipIdx.all λs=>p s.1.2 s.2:=by
 rw[zf9z,zf5z,zf5z];constructor
 .rintro H ⟨u,i⟩ hu;have hu:=zf2z.1 hu;dsimp only at hu;have BR:i<ts.length:=by rw[k.len];exact(zf6z.1 hu).1
  have e:=zf3z BR;have h1:=(k.at' i _ u e hu).1;dsimp only;rw[←h1];exact H (_,i) (zf2z.2 e)
 .rintro H ⟨s,i⟩ hs;have hs:=zf2z.1 hs;dsimp only at hs;have BR:i<us.length:=by rw[←k.len];exact(zf6z.1 hs).1
  have e:=zf3z BR;have h1:=(k.at' i s _ hs e).1;dsimp only;rw[h1];exact H (_,i) (zf2z.2 e)
theorem adjT_eq{ts us}(k:RepS ts us)(bs C9 fs):(vN bs C9 us fs).map FQ.foot=nH bs C9 ts (fs.map FQ.foot):=by
 have key:∀i,kM bs C9 us i=Rx bs C9 ts i:=λi=>by
  unfold kM Rx;by_cases hi:i<ts.length
  .have BR:i<us.length:=by rw[←k.len];exact hi
   have e1:=zf3z hi;have e2:=zf3z BR;obtain⟨h1,R⟩:=k.at' i _ _ e1 e2;rw[e1,e2];generalize ts[i]=s at *
   generalize us[i]=u at *
   obtain⟨fr,h⟩:=s;obtain⟨t,h'⟩:=u;simp only at h1;subst h1;have hg:∀x,gT t.get x=get fr x:=λx=>by rw[R.gT]
   cases C9[i]? with
   |none=>rfl
   |some o =>
    obtain⟨d,op,g⟩:=o;cases op<;>try rfl
    cases g<;>try rfl
    rename_i agg n x;simp only[hg];cases get fr x<;>try rfl
    rename_i b off;exact(k.all λq m=>(m != 0&&(bs.getD (m-1) 0).testBit i)||eqO (X3 q agg n (.ptr b off)) (X3 h agg n (.ptr b off))).symm
  .have BR:¬i<us.length:=by rw[←k.len];exact hi
   have e1:ts[i]?=none:=zf1z a_;have e2:us[i]?=none:=zf1z a_;rw[e1,e2];cases C9[i]? with
   |none=>rfl
   |some o =>
    obtain⟨d,op,g⟩:=o;cases op<;>try rfl
    cases g<;>rfl
 unfold vN nH;refine List.ext_getElem? λi=>?_;rw[zf4z,zg2z,zg2z,zf4z];cases fs[i]? with
 |none=>rfl
 |some f =>
  simp only[zg8z,key];split<;>rfl
theorem Kg{A O}(S:SimO A O)(c):∀(x:RCode),Sim (HP x A c) (A8 O c x)
 | .skip=>λt fr h R e t' h' he=>by
  have he:some (Ex.normal,t,h)=some (e,t',h'):=he;cases he;exact⟨fr,rfl,R⟩
 | .region d ops=>λt fr h R e t' h' he=>by
  have he:((cy ops A.orc c t h).rec none (λs'=>some (Ex.normal,s')):Kc)=some (e,t',h'):=he;unfold A8;cases ho:cy ops A.orc c t h with
  |none=>rw[ho]at he;cases he
  |some s =>
   rw[ho]at he;cases he;obtain⟨B8,h1,h2⟩:=Yx S c ops t fr h R _ _ ho;exact⟨B8,by rw[h1],h2⟩
 | .regd bs ops=>λt fr h R e t' h' he=>by
  have he:(match YL ops A.orc c t (h.holes (cN ops))with
   |some (ps,s')=>if Ln bs ops (ps.map (·.1))then some (Ex.normal,s')else if Ln bs ops (vN bs ops (ps.map (·.2)++[s']) (ps.map (·.1)))then some (Ex.normal,s')else none
   |none=>none)=some (e,t',h'):=he
  unfold A8;cases ho:YL ops A.orc c t (h.holes (cN ops))with
  |none=>rw[ho]at he;cases he
  |some s =>
   obtain⟨ps,t1,h1⟩:=s;rw[ho]at he;dsimp only at he;obtain⟨B8,ts,k1,k2,k3,k4⟩:=aS S c ops t fr (h.holes (cN ops)) R _ _ _ ho;split at he
   .rename_i hp;cases he;rw[YM,zt1z]at hp;exact⟨B8,by rw[k1];dsimp only;rw[if_pos (by rw[show (ps.map λp=>p.1.foot)=ps.map (FQ.foot∘λp=>p.1) from rfl,hp];rfl)],k3⟩
   .split at he
    .rename_i hp;cases he;rw[YM,adjT_eq k4,zt1z]at hp;refine⟨B8,by rw[k1];dsimp only;rw[if_pos (by unfold Dx;rw[k2];dsimp only;rw[show (ps.map λp=>p.1.foot)=ps.map (FQ.foot∘λp=>p.1) from rfl,hp,Bool.or_true])],k3⟩
    .cases he
 | .seq a b=>λt fr h R e t' h' he=>by
  have he:(match HP a A c (t,h)with|some (.normal,s')=>HP b A c s' | r=>r)=some (e,t',h'):=he
  unfold A8;cases ha:HP a A c (t,h)with
  |none=>rw[ha]at he;cases he
  |some p =>
   obtain⟨ea,ta,h1⟩:=p;rw[ha]at he;obtain⟨fra,k1,k2⟩:=Kg S c a t fr h R _ _ _ ha;rw[k1];cases ea with
   |normal=>exact Kg S c b ta fra h1 k2 e t' h' he
   |exit id=>cases he;exact⟨fra,rfl,k2⟩
   |ret=>cases he;exact⟨fra,rfl,k2⟩
 | .cond q a b=>λt fr h R e t' h' he=>by
  have he:(match gT t.get q with | .bool true=>HP a A c (t,h) | .bool false=>HP b A c (t,h)|_=>none)=some (e,t',h'):=he
  rw[R.gT]at he;unfold A8;dsimp only;generalize get fr q=v at he ⊢;split at he
  .exact Kg S c a t fr h R e t' h' he
  .exact Kg S c b t fr h R e t' h' he
  .cases he
 | .block id a=>λt fr h R e t' h' he=>by
  have he:(match HP a A c (t,h)with|some (.exit id',s')=>if id'=id then some (.normal,s')else some (.exit id',s')|r=>r)=some (e,t',h'):=he
  unfold A8;cases ha:HP a A c (t,h)with
  |none=>rw[ha]at he;cases he
  |some p =>
   obtain⟨ea,ta,h1⟩:=p;rw[ha]at he;obtain⟨fra,k1,k2⟩:=Kg S c a t fr h R _ _ _ ha;rw[k1];cases ea with
   |normal=>cases he;exact⟨fra,rfl,k2⟩
   |ret=>cases he;exact⟨fra,rfl,k2⟩
   |exit id' =>
    dsimp only at he ⊢;by_cases hi:id'=id
    .rw[if_pos hi]at he ⊢;cases he;exact⟨fra,rfl,k2⟩
    .rw[if_neg hi]at he ⊢;cases he;exact⟨fra,rfl,k2⟩
 | .loop a=>λt fr h R e t' h' he=>S.loop _ _ (Kg S c a) t fr h R e t' h' he
 | .exit id=>λt fr h R e t' h' he=>by
  have he:some (Ex.exit id,t,h)=some (e,t',h'):=he;cases he;exact⟨fr,rfl,R⟩
 | .ret=>λt fr h R e t' h' he=>by
  have he:some (Ex.ret,t,h)=some (e,t',h'):=he;cases he;exact⟨fr,rfl,R⟩
 | .bad=>λt fr h R e t' h' he=>by
  have he:none=some (e,t',h'):=he;cases he
theorem vS{A O}(S:SimO A O)(c rf args h){r}(he:ZX A c rf args h=some r):Ij O c rf args h=some r:=by
 unfold ZX at he;unfold Ij;cases hc:HP rf.body A c (Ty (Od (Nat.succ (zt0z rf.ntmps args.length)) (zt0z rf.ntmps args.length)) 0 args,h)with
 |none=>rw[hc]at he;cases he
 |some p =>
  obtain⟨e,t',h'⟩:=p;rw[hc]at he;obtain⟨B8,k1,k2⟩:=Kg S c rf.body _ _ h (RepT.start rf args) _ _ _ hc;rw[k1];cases e with
  |normal=>dsimp only at he ⊢;rw[TG k2]at he;exact he
  |ret=>dsimp only at he ⊢;rw[TG k2]at he;exact he
  |exit id=>cases he
section
variable {C:Cfg} {K:Know}
theorem eO{A}(S:SimO A (m6 C)){f args h r}(he:YP C A f args h=some r):IG C (m6 C) f args h=some r:=by
 unfold YP at he;unfold IG;cases hc:C.code f with
 |some rf=>rw[hc]at he;exact vS S _ rf args h he
 |none =>
  rw[hc]at he;dsimp only at he ⊢;cases hr:C.rspec f with
  |none=>rw[hr]at he;cases he
  |some s=>rw[hr]at he;exact az S.le he
theorem A1J(hK:KnowOk C K){A}(S:SimO A (m6 C)){f args h r}(he:eN C K A f args h=some r):rc C f args h=some r:=by
 unfold eN at he;cases hk:K.raw f args h with
 |some x=>rw[hk]at he;cases he;exact hK.raw _ _ _ _ hk
 |none =>
  rw[hk]at he;have he:=he;cases hu:YP C A f args h with
  |none=>rw[hu]at he;unfold bA at he;split at he<;>cases he
  |some x =>
   rw[hu,TH]at he;cases he;exact uE C (eO S hu)
theorem xI(hK:KnowOk C K){A}(S:SimO A (m6 C)){f args r}(he:XV C K A f args=some r):pc C f args=some r:=by
 unfold XV at he;cases hk:K.pure f args with
 |some x=>rw[hk]at he;cases he;exact hK.pure _ _ _ hk
 |none =>
  rw[hk]at he;have he:=he;unfold qO at he;cases hs:C.spec f with
  |some s =>
   apply YN;rw[hs]at he;unfold FN;rw[hs];exact he
  |none =>
   rw[hs]at he;dsimp only at he;cases hr:YP C A f args AH.empty with
   |none=>rw[hr]at he;cases he
   |some p =>
    rw[hr]at he;apply YN;unfold FN;rw[hs];dsimp only;rw[eO S hr];exact he
end
theorem WD{C K}(hK:KnowOk C K):∀n,SimO (SS C K n) (m6 C)
 |0=>⟨λ_ _ _ h=>(nomatch (show none=some _ from h)),λ_ _ _ _ h=>(nomatch (show none=some _ from h)),λ_ _ _=>λt fr h R e t' h' he=>nomatch (show none=some _ from he)⟩
 |n+1=>⟨λ_ _ _ h=>xI hK (WD hK n) h,λ_ _ _ _ h=>A1J hK (WD hK n) h,λ_ _ H=>λt fr h R e t' h' he=>by
   obtain⟨B8,h1,h2⟩:=aD H (n+1) t fr h R e t' h' he;exact⟨B8,VW h1,h2⟩⟩
theorem K9{C K}(hK:KnowOk C K)(n){f args r}(h:(SS C K n).pure f args=some r):pc C f args=some r:=(WD hK n).pure f args r h
theorem A1Q{C K}(hK:KnowOk C K)(n){f args h r}(he:(SS C K n).raw f args h=some r):rc C f args h=some r:=(WD hK n).raw f args h r he
structure ToldR where
 f:FuncId
 args:List AV
 h:AH
 r:AV
 h':AH
def A1V{α:Type}:List α->List (Nat×α)->List α
 |l,[]=>l
 |l,p::ps=>A1V (l.set p.1 p.2) ps
def OL(h:AH)(bs:List (Nat×List AV))(nb:List (List AV))(fs:List (Nat×Fam))(nf:List Fam):AH:=⟨A1V h.boxes bs++nb,A1V h.fams fs++nf⟩
noncomputable def spL{α β:Type}(l:List α):(List α->β)->β:=l.rec (λk=>k []) (λa _ ih k=>ih λl'=>k (a::l'))
theorem qd{α β}:∀(l:List α) (k:List α->β),spL l k=k l
 | [],_=>rfl
 |a::l,k=>by
  show spL l (λl'=>k (a::l'))=_;rw[qd l]
noncomputable def spH{β:Type}(h:AH)(k:AH->β):β:=spL h.boxes λb=>spL h.fams λf=>k ⟨b,f⟩
theorem A1W{β}(h)(k:AH->β):spH h k=k h:=by unfold spH;rw[qd,qd]
end Go.Abs
namespace Go.Abs.Q
def hp0:AH:=⟨[],[]⟩
def hp1:AH:=⟨[X2,Gs,jE,X2,Gs],[⟨jA,6,true⟩]⟩
def hp2:AH:=OL hp1 [] [X2,Gs,X2,Gs,X2,Gs,DY] [] []
def hp3:AH:=OL hp2 [] [X2,Gs,[q_],rQ,rQ,[t7,r_],X1,FH,[so,r_],FI,[so,r_],KR,[t7,r_],KS,[t7,r_],Kx,[t8,r_],Ky,[t8,r_],Kz,X1,LA,X1,Wi,W4,[s_,r_]] [] [⟨RQ,6,false⟩]
def hp4:AH:=OL hp3 [] [rQ,[(.mbox [] [])],[(.sl 2 9 0 9),(.sl 6 1 0 1),(.sl 3 9 0 9),(.sl 4 1 0 1),(.sl 5 1 0 1),q_,q_,q_,q_,r_,q_,(S []),q_,r_,q_,r_,q_,q_,r_,(.mp 39)],DY,[(.ptr 40 0)],DY,Gq,Gq,CQ,CQ,So,Gr] [] [⟨RQ,6,false⟩,⟨cE,1,true⟩,⟨[q_],1,true⟩,⟨rC,14,false⟩,⟨Pi,3,false⟩]
def hp5:AH:=OL hp4 [(39,rB),(40,A2O)] [Gr,I9,Us,I9,I9,M6,M6,Ie,M6,X1,Sp,I9,M6,JT,JT,W4,W4,IR,W4,[s_,r_],Um,[s_,r_],[s_,r_],CQ,Xi,I9,[so,r_],A2Z,I9,[so,r_],jB] [(3,⟨ik,1,true⟩),(5,⟨rM,14,false⟩)] [⟨[s_],1,false⟩,⟨[so,s_,q_],1,false⟩]
def hp6:AH:=OL hp5 [] [DY,jF,Gq,Gr,So,Sp,Um,A2a,A2b] [] [⟨A2p,14,false⟩,⟨[so,s_,q_],1,true⟩,⟨[t6],1,true⟩]
def hp7:AH:=OL hp6 [] [X2,Gs,[s_],rR,rR,[t7,r_],X1,FH,[so,r_],FI,[so,r_],KR,[t7,r_],KS,[so,r_],Kx,[t8,r_],Ky,[so,r_],Kz,[so,r_],LA,[so,r_],Wi,W4,[so,r_]] [] [⟨Xk,6,false⟩]
def hp8:AH:=OL hp7 [] [rR,[(.mbox [] [])],[(.sl 13 9 0 9),(.sl 17 1 0 1),(.sl 14 9 0 9),(.sl 15 1 0 1),(.sl 16 1 0 1),q_,q_,q_,s_,r_,q_,(S []),q_,r_,q_,r_,q_,q_,r_,(.mp 117)],DY,[(.ptr 118 0)],DY,Gq,Gq,CQ,CQ,Uq,Gr] [] [⟨Xk,6,false⟩,⟨cE,1,true⟩,⟨[q_],1,true⟩,⟨A2X,14,false⟩,⟨Pi,3,false⟩]
def hp9:AH:=OL hp8 [(117,rE),(118,A2P)] [Gr,I9,Us,I9,I9,M6,M6,Ie,M6,[so,r_],Uo,I9,FG,qz,FG,FG,PH,A2t,PH,[so,r_],Ul,W4,IR,W4,[so,r_],Un,[so,r_],FG,[so,r_],iw,M6,Ie,I9,[so,r_],jD,I9,[so,r_],jC] [(14,⟨qx,1,true⟩),(16,⟨rO,14,false⟩)] []
def hp10:AH:=OL hp9 [] [Uq,Uo,Ul,Un,A2T,A2c,A2d,Bw] [(9,⟨A2r,14,false⟩)] [⟨[(I 7),(I 8)],1,true⟩,⟨[(I 9),(I 6)],1,true⟩,⟨[(I 10)],1,true⟩]
def hp11:AH:=OL hp10 [] [X2,Gs,[q_],cA,cA,[t7,r_],X1,FH,[so,r_],FI,[so,r_],KR,[t7,r_],KS,[t7,r_],Kx,[t8,r_],Ky,[t8,r_],Kz,X1,LA,X1,Wi] [] [⟨cH,6,false⟩]
def hp12:AH:=OL hp11 [] [cA,[(.mbox [] [])],[(.sl 22 8 0 8),r_,(.sl 23 8 0 8),(.sl 24 0 0 0),(.sl 25 1 0 1),q_,so,so,q_,r_,q_,(S []),q_,r_,q_,r_,q_,q_,r_,(.mp 199)],Bw,[(.ptr 200 0)],Bw,[(.ptr 200 0)],Bw,I9,[so,r_],Ut] [] [⟨cH,6,false⟩,⟨ij,1,true⟩,⟨[],1,true⟩,⟨A2e,14,false⟩]
def hp13:AH:=OL hp12 [(200,[(.sl 22 9 0 9),(.sl 27 1 0 1),(.sl 23 9 0 9),(.sl 24 1 0 1),(.sl 25 6 0 6),q_,so,so,q_,r_,q_,(S []),q_,r_,q_,r_,q_,q_,r_,(.mp 199)])] [[(.ptr 200 0)],I9,YX,I9,[so,r_],M6,M6,Ie,M6,X1,Ur,YX,I9,[so,r_],X1,JT,YX,W4,W4,[s_,r_],iq,JT,M6,CQ,CQ,iz,YX,Ka,W4,[s_,r_],IR,Ka,FH,fR,FH,[so,r_],Uh,FI,fS,FI,[so,r_],Ui,W4,IR] [(22,⟨RQ,6,false⟩),(23,⟨qv,1,true⟩),(24,⟨[t6],1,true⟩),(25,⟨A2o,14,false⟩)] [⟨[s_],1,false⟩,⟨Pi,3,false⟩,⟨[s_],1,false⟩]
def hp14:AH:=OL hp13 [] [Fk,Fk,Fm,Fm] [] []
def hp15:AH:=OL hp14 [(200,A2Q)] [Bw,vB,jG,Fk,Xj,Fk,W4,IR,qy,iu,Fm,Xj,Fm,Xi,rA,iy] [(25,⟨rN,14,false⟩)] []
def hp16:AH:=OL hp15 [] [Ut,Ur,A2K,A2V,Uh,Ui,A2N,A2W] [(9,⟨A2s,14,false⟩)] [⟨[(I 12),t_],1,true⟩,⟨[(I 12),t_],1,true⟩,⟨[(I 14)],1,true⟩,⟨[(I 15)],1,true⟩]
def hp17:AH:=OL hp16 [] [X2,Gs,[so],cC,cC,[t7,r_],X1,FH,[so,r_],FI,[so,r_],KR,[so,r_],KS,[t7,r_],Kx,[so,r_],Ky,[t8,r_],Kz,[so,r_],LA,[so,r_],Wi] [] [⟨cG,6,false⟩]
def hp18:AH:=OL hp17 [] [cC,[(.mbox [] [])],[(.sl 34 8 0 8),r_,(.sl 35 8 0 8),(.sl 36 0 0 0),(.sl 37 1 0 1),q_,so,so,so,r_,q_,(S []),q_,r_,q_,r_,q_,q_,r_,(.mp 306)],Bw,[(.ptr 307 0)],Bw,[(.ptr 307 0)],Bw,I9,[so,r_],Uu] [] [⟨cG,6,false⟩,⟨ij,1,true⟩,⟨[],1,true⟩,⟨A2f,14,false⟩]
def hp19:AH:=OL hp18 [(307,A2R)] [[(.ptr 307 0)],I9,Wj,I9,[so,r_],M6,M6,Ie,M6,[so,r_],Up,Wj,I9,[so,r_],[so,r_],FG,[so,r_],iv,Wj,fV,FG,[so,r_],PH,[so,r_],io,W4,[so,r_],ip,fV,Ka,PH,[so,r_],Ka,Ka,W4,[so,r_],IR,Ka,FH,fR,FH,[so,r_],Uj,FI,fS,FI,[so,r_],Uk,W4,IR] [(34,⟨rK,6,false⟩),(35,⟨qw,1,true⟩),(37,⟨rL,14,false⟩)] [⟨[s_],1,false⟩,⟨[t6,t7],1,false⟩]
def hp20:AH:=⟨[X2,Gs,jE,X2,Gs,X2,Gs,X2,Gs],[⟨jA,6,true⟩]⟩
def hp21:AH:=OL hp19 [] [Fk,Fk,Fm,Fm,Uu,Up,A2S,A2J,A2L,Uj,Uk] [(9,⟨rP,14,false⟩)] [⟨[(I 20),(I 21)],1,true⟩,⟨[(I 22)],1,true⟩,⟨[(I 22)],1,true⟩]
def hp22:AH:=⟨[X2,Gs,jE,X2,Gs,X2,Gs],[⟨jA,6,true⟩]⟩
def hp23:AH:=OL hp21 [] [X2,qr,Gs,X2,Gs,DY] [] []
def hp24:AH:=OL hp23 [] [X2,Gs,[q_],uv,uv,[t7,r_],X1,FH,[so,r_],FI,[so,r_],KR,[t7,r_],KS,[t7,r_],Kx,[t8,r_],Ky,[t8,r_],Kz,X1,LA,X1,Wi,W4,[s_,r_]] [] [⟨RQ,6,false⟩]
def hp25:AH:=OL hp24 [] [uv,[(.mbox [] [])],[(.sl 44 9 0 9),(.sl 48 1 0 1),(.sl 45 9 0 9),(.sl 46 1 0 1),(.sl 47 1 0 1),q_,q_,q_,q_,r_,q_,(S []),q_,r_,q_,r_,q_,q_,r_,(.mp 410)],DY,[(.ptr 411 0)],DY,Gq,Gq,CQ,CQ,So,Gr] [] [⟨RQ,6,false⟩,⟨cE,1,true⟩,⟨[q_],1,true⟩,⟨rC,14,false⟩,⟨Pi,3,false⟩]
def hp26:AH:=OL hp25 [(410,rB),(411,[(.sl 44 9 0 9),(.sl 48 1 0 1),(.sl 45 9 0 9),(.sl 46 1 0 1),(.sl 47 5 0 5),q_,q_,q_,q_,r_,q_,(S []),q_,r_,q_,r_,q_,q_,r_,(.mp 410)])] [Gr,I9,Us,I9,I9,M6,M6,Ie,M6,X1,Sp,I9,M6,JT,JT,W4,W4,IR,W4,[s_,r_],Um,[s_,r_],[s_,r_],CQ,Xi,I9,[so,r_],[(I 16),q_,q_,q_,(.sl 50 3 0 3),t6,(S [101,110,99]),q_,Hq,so,r_,q_,q_,r_],I9,[so,r_],jB] [(45,⟨ik,1,true⟩),(47,⟨rM,14,false⟩)] [⟨[s_],1,false⟩,⟨[so,s_,q_],1,false⟩]
def hp27:AH:=OL hp26 [] [DY,jF,Gq,Gr,So,Sp,Um,[(I 16),q_,q_,q_,(.sl 52 3 0 3),t6,(S [101,110,99]),q_,Hq,so,r_,q_,q_,r_],[(I 23),q_,q_,q_,(.sl 53 1 0 1),t6,(S [101,110,99]),q_,Hq,so,r_,q_,q_,r_]] [] [⟨A2p,14,false⟩,⟨[so,s_,q_],1,true⟩,⟨[t6],1,true⟩]
def hp28:AH:=OL hp27 [] [X2,Gs,[s_],uw,uw,[t7,r_],X1,FH,[so,r_],FI,[so,r_],KR,[t7,r_],KS,[so,r_],Kx,[t8,r_],Ky,[so,r_],Kz,[so,r_],LA,[so,r_],Wi,W4,[so,r_]] [] [⟨Xk,6,false⟩]
def hp29:AH:=OL hp28 [] [uw,[(.mbox [] [])],[(.sl 55 9 0 9),(.sl 59 1 0 1),(.sl 56 9 0 9),(.sl 57 1 0 1),(.sl 58 1 0 1),q_,q_,q_,s_,r_,q_,(S []),q_,r_,q_,r_,q_,q_,r_,(.mp 488)],DY,[(.ptr 489 0)],DY,Gq,Gq,CQ,CQ,Uq,Gr] [] [⟨Xk,6,false⟩,⟨cE,1,true⟩,⟨[q_],1,true⟩,⟨A2X,14,false⟩,⟨Pi,3,false⟩]
def hp30:AH:=OL hp29 [(488,rE),(489,[(.sl 55 9 0 9),(.sl 59 1 0 1),(.sl 56 9 0 9),(.sl 57 1 0 1),(.sl 58 7 0 7),q_,q_,q_,s_,r_,q_,(S []),q_,r_,q_,r_,q_,q_,r_,(.mp 488)])] [Gr,I9,Us,I9,I9,M6,M6,Ie,M6,[so,r_],Uo,I9,FG,qz,FG,FG,PH,A2t,PH,[so,r_],Ul,W4,IR,W4,[so,r_],Un,[so,r_],FG,[so,r_],iw,M6,Ie,I9,[so,r_],jD,I9,[so,r_],jC] [(56,⟨qx,1,true⟩),(58,⟨rO,14,false⟩)] []
def hp31:AH:=OL hp30 [] [Uq,Uo,Ul,Un,[t_,q_,q_,s_,(.sl 60 2 0 2),t6,(S [112,97,105,114]),q_,Wg,so,r_,q_,q_,r_],[(I 17),q_,q_,s_,(.sl 61 2 0 2),t6,(S [101,110,99]),q_,Hq,so,r_,q_,q_,r_],[(I 23),q_,q_,s_,(.sl 62 1 0 1),t6,(S [101,110,99]),q_,Hq,so,r_,q_,q_,r_],Bw] [(51,⟨A2r,14,false⟩)] [⟨[(I 7),(I 8)],1,true⟩,⟨[(I 9),(I 6)],1,true⟩,⟨[(I 10)],1,true⟩]
def hp32:AH:=OL hp31 [] [X2,Gs,[q_],ux,ux,[t7,r_],X1,FH,[so,r_],FI,[so,r_],KR,[t7,r_],KS,[t7,r_],Kx,[t8,r_],Ky,[t8,r_],Kz,X1,LA,X1,Wi] [] [⟨cH,6,false⟩]
def hp33:AH:=OL hp32 [] [ux,[(.mbox [] [])],[(.sl 64 8 0 8),r_,(.sl 65 8 0 8),(.sl 66 0 0 0),(.sl 67 1 0 1),q_,so,so,q_,r_,q_,(S []),q_,r_,q_,r_,q_,q_,r_,(.mp 570)],Bw,[(.ptr 571 0)],Bw,[(.ptr 571 0)],Bw,I9,[so,r_],Ut] [] [⟨cH,6,false⟩,⟨ij,1,true⟩,⟨[],1,true⟩,⟨A2e,14,false⟩]
def hp34:AH:=OL hp33 [(571,[(.sl 64 9 0 9),(.sl 69 1 0 1),(.sl 65 9 0 9),(.sl 66 1 0 1),(.sl 67 6 0 6),q_,so,so,q_,r_,q_,(S []),q_,r_,q_,r_,q_,q_,r_,(.mp 570)])] [[(.ptr 571 0)],I9,vA,I9,[so,r_],M6,M6,Ie,M6,X1,Ur,vA,I9,[so,r_],X1,JT,vA,W4,W4,[s_,r_],iq,JT,M6,CQ,CQ,iz,vA,Ka,W4,[s_,r_],IR,Ka,FH,fR,FH,[so,r_],Uh,FI,fS,FI,[so,r_],Ui,W4,IR] [(64,⟨RQ,6,false⟩),(65,⟨qv,1,true⟩),(66,⟨[t6],1,true⟩),(67,⟨A2o,14,false⟩)] [⟨[s_],1,false⟩,⟨Pi,3,false⟩,⟨[s_],1,false⟩]
def hp35:AH:=OL hp34 [] [Fk,Fk,Fm,Fm] [] []
def hp36:AH:=OL hp35 [(571,[(.sl 64 9 0 9),(.sl 69 1 0 1),(.sl 65 9 0 9),(.sl 66 1 0 1),(.sl 67 8 0 8),q_,so,so,q_,r_,q_,(S []),q_,r_,q_,r_,q_,q_,r_,(.mp 570)])] [Bw,vB,jG,Fk,Xj,Fk,W4,IR,qy,iu,Fm,Xj,Fm,Xi,rA,iy] [(67,⟨rN,14,false⟩)] []
def hp37:AH:=OL hp36 [] [Ut,Ur,[(I 6),so,so,q_,(.sl 71 2 0 2),so,(S [110,97]),s_,r_,s_,r_,q_,q_,r_],[(I 11),so,so,q_,(.sl 72 2 0 2),q_,(S []),q_,r_,q_,r_,s_,so,OH],Uh,Ui,[(I 24),so,so,q_,(.sl 73 1 0 1),q_,(S []),q_,r_,q_,r_,t6,q_,YV],[(I 24),so,so,q_,(.sl 74 1 0 1),q_,(S []),q_,r_,q_,r_,t6,so,OH]] [(51,⟨A2s,14,false⟩)] [⟨[(I 12),t_],1,true⟩,⟨[(I 12),t_],1,true⟩,⟨[(I 14)],1,true⟩,⟨[(I 15)],1,true⟩]
def hp38:AH:=OL hp37 [] [X2,Gs,[so],uy,uy,[t7,r_],X1,FH,[so,r_],FI,[so,r_],KR,[so,r_],KS,[t7,r_],Kx,[so,r_],Ky,[t8,r_],Kz,[so,r_],LA,[so,r_],Wi] [] [⟨cG,6,false⟩]
def hp39:AH:=OL hp38 [] [uy,[(.mbox [] [])],[(.sl 76 8 0 8),r_,(.sl 77 8 0 8),(.sl 78 0 0 0),(.sl 79 1 0 1),q_,so,so,so,r_,q_,(S []),q_,r_,q_,r_,q_,q_,r_,(.mp 677)],Bw,[(.ptr 678 0)],Bw,[(.ptr 678 0)],Bw,I9,[so,r_],Uu] [] [⟨cG,6,false⟩,⟨ij,1,true⟩,⟨[],1,true⟩,⟨A2f,14,false⟩]
def hp40:AH:=OL hp39 [(678,[(.sl 76 9 0 9),r_,(.sl 77 9 0 9),(.sl 78 0 0 0),(.sl 79 7 0 7),q_,so,so,so,r_,q_,(S []),q_,r_,q_,r_,q_,q_,r_,(.mp 677)])] [[(.ptr 678 0)],I9,Wj,I9,[so,r_],M6,M6,Ie,M6,[so,r_],Up,Wj,I9,[so,r_],[so,r_],FG,[so,r_],iv,Wj,fV,FG,[so,r_],PH,[so,r_],io,W4,[so,r_],ip,fV,Ka,PH,[so,r_],Ka,Ka,W4,[so,r_],IR,Ka,FH,fR,FH,[so,r_],Uj,FI,fS,FI,[so,r_],Uk,W4,IR] [(76,⟨rK,6,false⟩),(77,⟨qw,1,true⟩),(79,⟨rL,14,false⟩)] [⟨[s_],1,false⟩,⟨[t6,t7],1,false⟩]
def hp41:AH:=⟨[X2,Gs,jE,X2,Gs,X2,Gs,X2,Gs,X2,Gs,DY,X2,Gs,[q_],rQ,rQ,[t7,r_],X1,FH,[so,r_],FI,[so,r_],KR,[t7,r_],KS,[t7,r_],Kx,[t8,r_],Ky,[t8,r_],Kz,X1,LA,X1,Wi,W4,[s_,r_],rQ,rB,A2O,DY,[(.ptr 40 0)],DY,Gq,Gq,CQ,CQ,So,Gr,Gr,I9,Us,I9,I9,M6,M6,Ie,M6,X1,Sp,I9,M6,JT,JT,W4,W4,IR,W4,[s_,r_],Um,[s_,r_],[s_,r_],CQ,Xi,I9,[so,r_],A2Z,I9,[so,r_],jB,DY,jF,Gq,Gr,So,Sp,Um,A2a,A2b,X2,Gs,[s_],rR,rR,[t7,r_],X1,FH,[so,r_],FI,[so,r_],KR,[t7,r_],KS,[so,r_],Kx,[t8,r_],Ky,[so,r_],Kz,[so,r_],LA,[so,r_],Wi,W4,[so,r_],rR,rE,A2P,DY,[(.ptr 118 0)],DY,Gq,Gq,CQ,CQ,Uq,Gr,Gr,I9,Us,I9,I9,M6,M6,Ie,M6,[so,r_],Uo,I9,FG,qz,FG,FG,PH,A2t,PH,[so,r_],Ul,W4,IR,W4,[so,r_],Un,[so,r_],FG,[so,r_],iw,M6,Ie,I9,[so,r_],jD,I9,[so,r_],jC,Uq,Uo,Ul,Un,A2T,A2c,A2d,Bw,X2,Gs,[q_],cA,cA,[t7,r_],X1,FH,[so,r_],FI,[so,r_],KR,[t7,r_],KS,[t7,r_],Kx,[t8,r_],Ky,[t8,r_],Kz,X1,LA,X1,Wi,cA,[(.mbox [] [])],A2Q,Bw,[(.ptr 200 0)],Bw,[(.ptr 200 0)],Bw,I9,[so,r_],Ut,[(.ptr 200 0)],I9,YX,I9,[so,r_],M6,M6,Ie,M6,X1,Ur,YX,I9,[so,r_],X1,JT,YX,W4,W4,[s_,r_],iq,JT,M6,CQ,CQ,iz,YX,Ka,W4,[s_,r_],IR,Ka,FH,fR,FH,[so,r_],Uh,FI,fS,FI,[so,r_],Ui,W4,IR,Fk,Fk,Fm,Fm,Bw,vB,jG,Fk,Xj,Fk,W4,IR,qy,iu,Fm,Xj,Fm,Xi,rA,iy,Ut,Ur,A2K,A2V,Uh,Ui,A2N,A2W,X2,Gs,[so],cC,cC,[t7,r_],X1,FH,[so,r_],FI,[so,r_],KR,[so,r_],KS,[t7,r_],Kx,[so,r_],Ky,[t8,r_],Kz,[so,r_],LA,[so,r_],Wi,cC,[(.mbox [] [])],A2R,Bw,[(.ptr 307 0)],Bw,[(.ptr 307 0)],Bw,I9,[so,r_],Uu,[(.ptr 307 0)],I9,Wj,I9,[so,r_],M6,M6,Ie,M6,[so,r_],Up,Wj,I9,[so,r_],[so,r_],FG,[so,r_],iv,Wj,fV,FG,[so,r_],PH,[so,r_],io,W4,[so,r_],ip,fV,Ka,PH,[so,r_],Ka,Ka,W4,[so,r_],IR,Ka,FH,fR,FH,[so,r_],Uj,FI,fS,FI,[so,r_],Uk,W4,IR,Fk,Fk,Fm,Fm,Uu,Up,A2S,A2J,A2L,Uj,Uk,X2,qr,Gs],[⟨jA,6,true⟩,⟨RQ,6,false⟩,⟨RQ,6,false⟩,⟨ik,1,true⟩,⟨[q_],1,true⟩,⟨rM,14,false⟩,⟨Pi,3,false⟩,⟨[s_],1,false⟩,⟨[so,s_,q_],1,false⟩,⟨rP,14,false⟩,⟨[so,s_,q_],1,true⟩,⟨[t6],1,true⟩,⟨Xk,6,false⟩,⟨Xk,6,false⟩,⟨qx,1,true⟩,⟨[q_],1,true⟩,⟨rO,14,false⟩,⟨Pi,3,false⟩,⟨[(I 7),(I 8)],1,true⟩,⟨[(I 9),(I 6)],1,true⟩,⟨[(I 10)],1,true⟩,⟨cH,6,false⟩,⟨RQ,6,false⟩,⟨qv,1,true⟩,⟨[t6],1,true⟩,⟨rN,14,false⟩,⟨[s_],1,false⟩,⟨Pi,3,false⟩,⟨[s_],1,false⟩,⟨[(I 12),t_],1,true⟩,⟨[(I 12),t_],1,true⟩,⟨[(I 14)],1,true⟩,⟨[(I 15)],1,true⟩,⟨cG,6,false⟩,⟨rK,6,false⟩,⟨qw,1,true⟩,⟨[],1,true⟩,⟨rL,14,false⟩,⟨[s_],1,false⟩,⟨[t6,t7],1,false⟩,⟨[(I 20),(I 21)],1,true⟩,⟨[(I 22)],1,true⟩,⟨[(I 22)],1,true⟩]⟩
def A0G:AH:=OL hp40 [] [Fk,Fk,Fm,Fm,Uu,Up,[(I 7),so,so,so,(.sl 82 2 0 2),t6,(S [112,97,105,114]),q_,Wg,so,r_,q_,q_,r_],[t8,so,so,so,(.sl 83 1 0 1),s_,(S [116]),t8,r_,so,r_,q_,q_,r_],[t8,so,so,so,(.sl 84 1 0 1),so,(S [110,97]),s_,r_,so,r_,q_,q_,r_],Uj,Uk] [(51,⟨rP,14,false⟩)] [⟨[(I 20),(I 21)],1,true⟩,⟨[(I 22)],1,true⟩,⟨[(I 22)],1,true⟩]
def hp43:AH:=OL A0G [] [X2,Gs,X2,Gs,DY] [(0,⟨rF,6,true⟩)] []
def hp44:AH:=OL hp43 [] [X2,Gs,[q_],uz,uz,[t7,r_],X1,FH,[so,r_],FI,[so,r_],KR,[t7,r_],KS,[t7,r_],Kx,[t8,r_],Ky,[t8,r_],Kz,X1,LA,X1,Wi,W4,[so,r_]] [] [⟨A2n,6,false⟩]
def hp45:AH:=OL hp44 [] [uz,[(.mbox [] [])],[(.sl 86 9 0 9),(.sl 90 1 0 1),(.sl 87 9 0 9),(.sl 88 1 0 1),(.sl 89 1 0 1),q_,q_,q_,q_,r_,q_,(S []),q_,r_,q_,r_,q_,q_,r_,(.mp 780)],DY,[(.ptr 781 0)],DY,Gq,Gq,CQ,CQ,So,Gr] [] [⟨A2n,6,false⟩,⟨cE,1,true⟩,⟨[q_],1,true⟩,⟨rC,14,false⟩,⟨Pi,3,false⟩]
def hp46:AH:=OL hp45 [(780,[(.mbox A2U [(I (-1))])]),(781,[(.sl 86 9 0 9),(.sl 90 1 0 1),(.sl 87 9 0 9),(.sl 88 1 0 1),(.sl 89 3 0 3),q_,q_,q_,q_,r_,q_,(S []),q_,r_,q_,r_,q_,q_,r_,(.mp 780)])] [Gr,I9,Us,I9,I9,M6,M6,Ie,M6,X1,Sp,I9,M6,JT,JT,W4,W4,IR,W4,[so,r_],A2M,[so,r_],[s_,r_]] [(87,⟨ik,1,true⟩),(89,⟨[br,fP,(.agg A2M)],14,false⟩)] []
def hp47:AH:=OL A0G [] [X2,Gs] [(0,⟨rF,6,true⟩)] []
def hp48:AH:=OL A0G [] [] [(0,⟨rF,6,true⟩)] []
def hp49:AH:=OL hp46 [] [] [] [⟨[q_,so],1,false⟩]
end Go.Abs.Q
set_option linter.unusedVariables false
namespace Go.Abs
section
variable {α:Type}
noncomputable def KK(l:List α):Nat->Option α:=l.rec (λ_=>none) (λa _ ih n=>(zf0z n (nat_lit 0)).rec (ih (Nat.sub n (nat_lit 1))) (some a))
noncomputable def Yl(l:List α):Nat->α->List α:=l.rec (λ_ _=>[]) (λa tl ih n x=>(zf0z n (nat_lit 0)).rec (a::ih (Nat.sub n (nat_lit 1)) x) (x::tl))
noncomputable def fX(l m:List α):List α:=l.rec m (λa _ ih=>a::ih)
noncomputable def PN(l:List α):Nat:=l.rec (nat_lit 0) (λ_ _ n=>Nat.add n (nat_lit 1))
theorem T6:∀(l:List α) (n:Nat),KK l n=l[n]?
 | [],_=>by simp[KK]
 |a::l,0=>rfl
 |a::l,n+1=>by
  show KK l n=_;rw[T6 l n,List.getElem?_cons_succ]
theorem x7:∀(l:List α) (n:Nat) (x:α),Yl l n x=l.set n x
 | [],_,_=>rfl
 |a::l,0,x=>rfl
 |a::l,n+1,x=>by
  show a::Yl l n x=_;rw[x7 l n x,List.set_cons_succ]
theorem u7:∀(l m:List α),fX l m=l++m
 | [],m=>rfl
 |a::l,m=>by
  show a::fX l m=_;rw[u7 l m,List.cons_append]
theorem i9:∀(l:List α),PN l=l.length
 | []=>rfl
 |a::l=>by
  show Nat.add (PN l) 1=_;rw[i9 l,zf7z]
end
noncomputable def eqU(l:List UInt8):List UInt8->Bool:=l.rec (λm=>m.rec true (λ_ _ _=>false)) (λa _ ih m=>m.rec false (λb bs _=>(zf0z a.toNat b.toNat).rec false (ih bs)))
theorem sY:∀(l m:List UInt8),eqU l m=true↔l=m
 | [],[]=>by simp[eqU]
 | [],_::_=>by simp[eqU]
 |_::_,[]=>by simp[eqU]
 |a::l,b::m=>by
  show ((zf0z a.toNat b.toNat).rec false (eqU l m):Bool)=true↔_;cases h:zf0z a.toNat b.toNat with
  |false =>
   refine⟨λk=>(nomatch (show false=true from k)),λk=>?_⟩;cases k;rw[zt3z]at h;cases h
  |true =>
   have e:=zg1z h;have e':a=b:=UInt8.toNat_inj.1 e;subst e';show eqU l m=true↔_;rw[sY l m];simp
noncomputable def zi(a b:ByteArray):Bool:=eqU a.data.toList b.data.toList
theorem vw(a b):zi a b=true↔a=b:=by
 unfold zi;rw[sY];constructor
 .intro h;obtain⟨⟨a⟩⟩:=a;obtain⟨⟨b⟩⟩:=b;cases h;rfl
 .intro h;rw[h]
abbrev QT:=AV->Bool
abbrev QL:=List AV->Bool
def iB:QT | .junk=>true|_=>false
def hY(b:Bool):QT | .bool b'=>b == b' | _=>false
def tt(k:IntKind)(n:Int):QT | .int k' n'=>decide (k=k')&&decide (n=n')|_=>false
noncomputable def uA(s:ByteArray):QT:=λy=>match y with | .str s'=>zi s s' | _=>false
def tj(_:List AV)(ih:QL):QT | .agg l=>ih l|_=>false
def uB(_:List AV)(ih:QL):QT | .tup l=>ih l|_=>false
def q_vs(f:Bool)(z:Nat)(_:List AV)(ih:QL):QT | .vs f' z' l=>(f == f')&&(zf0z z z'&&ih l)|_=>false
def q_sl(a b c d:Nat):QT | .sl a' b' c' d'=>zf0z a a'&&(zf0z b b'&&(zf0z c c'&&zf0z d d'))|_=>false
def q_pv(_:List AV)(ih:QL):QT | .pv l=>ih l|_=>false
def q_ep(a b c d e:Nat):QT | .ep a' b' c' d' e'=>zf0z a a'&&(zf0z b b'&&(zf0z c c'&&(zf0z d d'&&zf0z e e')))|_=>false
def tz(a b:Nat):QT | .ptr a' b'=>zf0z a a'&&zf0z b b' | _=>false
def iF:QT | .nilp=>true|_=>false
def q_fn(f:FuncId)(_:List AV)(ih:QL):QT | .fn f' l=>zf0z f f'&&ih l|_=>false
def iD:QT | .nilf=>true|_=>false
def q_mp(a:Nat):QT | .mp a'=>zf0z a a' | _=>false
def q_vm(_ _:List AV)(i j:QL):QT | .vm k v=>i k&&j v|_=>false
def iE:QT | .nilm=>true|_=>false
def iC(_ _:List AV)(i j:QL):QT | .mbox k v=>i k&&j v|_=>false
def iG(_:List AV)(ih:QL):QT | .rbox l=>ih l|_=>false
def tp(a b c d:Nat):QT | .bsl a' b' c' d'=>zf0z a a'&&(zf0z b b'&&(zf0z c c'&&zf0z d d'))|_=>false
def iH(t:TypeId)(_:List AV)(ih:QL):QT | .tbox t' l=>zf0z t t'&&ih l|_=>false
def tu:QL | []=>true|_=>false
def iA(_:AV)(_:List AV)(i:QT)(j:QL):QL | []=>false|y::ys=>i y&&j ys
noncomputable def eqR(x:AV):QT:=AV.rec (motive_1:=λ_=>QT) (motive_2:=λ_=>QL) iB hY tt uA tj uB q_vs q_sl q_pv q_ep tz iF q_fn iD q_mp q_vm iE iC iG tp iH tu iA x
noncomputable def KV(x:List AV):QL:=AV.rec_1 (motive_1:=λ_=>QT) (motive_2:=λ_=>QL) iB hY tt uA tj uB q_vs q_sl q_pv q_ep tz iF q_fn iD q_mp q_vm iE iC iG tp iH tu iA x
theorem PS(a b):zf0z a b=true↔a=b:=⟨zg1z,λh=>by rw[h];exact zt3z b⟩
mutual
theorem gF:∀(x y:AV),eqR x y=true↔x=y
 | .junk,y=>by show iB y=true↔_;cases y<;>simp[iB]
 | .bool b,y=>by show hY b y=true↔_;cases y<;>simp[hY]
 | .int k n,y=>by show tt k n y=true↔_;cases y<;>simp[tt]
 | .str s,y=>by show uA s y=true↔_;cases y<;>simp[uA,vw]
 | .agg l,y=>by show tj l (KV l) y=true↔_;cases y<;>simp[tj,Z1 l]
 | .tup l,y=>by show uB l (KV l) y=true↔_;cases y<;>simp[uB,Z1 l]
 | .vs f z l,y=>by show q_vs f z l (KV l) y=true↔_;cases y<;>simp[q_vs,Z1 l,PS]
 | .sl a b c d,y=>by show q_sl a b c d y=true↔_;cases y<;>simp[q_sl,PS]
 | .pv l,y=>by show q_pv l (KV l) y=true↔_;cases y<;>simp[q_pv,Z1 l]
 | .ep a b c d e,y=>by show q_ep a b c d e y=true↔_;cases y<;>simp[q_ep,PS]
 | .ptr a b,y=>by show tz a b y=true↔_;cases y<;>simp[tz,PS]
 | .nilp,y=>by show iF y=true↔_;cases y<;>simp[iF]
 | .fn f l,y=>by show q_fn f l (KV l) y=true↔_;cases y<;>simp[q_fn,Z1 l,PS]
 | .nilf,y=>by show iD y=true↔_;cases y<;>simp[iD]
 | .mp a,y=>by show q_mp a y=true↔_;cases y<;>simp[q_mp,PS]
 | .vm k v,y=>by show q_vm k v (KV k) (KV v) y=true↔_;cases y<;>simp[q_vm,Z1 k,Z1 v]
 | .nilm,y=>by show iE y=true↔_;cases y<;>simp[iE]
 | .mbox k v,y=>by show iC k v (KV k) (KV v) y=true↔_;cases y<;>simp[iC,Z1 k,Z1 v]
 | .rbox l,y=>by show iG l (KV l) y=true↔_;cases y<;>simp[iG,Z1 l]
 | .bsl a b c d,y=>by show tp a b c d y=true↔_;cases y<;>simp[tp,PS]
 | .tbox t l,y=>by show iH t l (KV l) y=true↔_;cases y<;>simp[iH,Z1 l,PS]
theorem Z1:∀(x y:b9),KV x y=true↔x=y
 | [],y=>by show tu y=true↔_;cases y<;>simp[tu]
 |a::l,y=>by show iA a l (eqR a) (KV l) y=true↔_;cases y<;>simp[iA,gF a,Z1 l]
end
theorem gG(x y):KV x y=MW x y:=by
 rw[zf9z,Z1];exact⟨λh=>by rw[h];exact T0 y,λh=>Bh h⟩
end Go.Abs
