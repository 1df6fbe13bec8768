/- A part of the proof. -/
import Derived.Test.YtnnjamknplefbaaGreatDoorTS36
set_option linter.all false
open Bool renaming and_eq_true->zf0z,not_eq_true'->zf5z
open Nat renaming beq->zf1z,le_refl->zf2z,eq_of_beq_eq_true->zf3z,zero_add->zf8z
open Array renaming toList_append->zf4z
open List renaming all_eq_true->zf6z,mem_append->zf7z
set_option linter.all false
set_option linter.unusedVariables false
set_option linter.unusedSimpArgs false
namespace Go.Proofs
open Go.RowKit Go.Lib Go.Abs
theorem Tryz.goalsUnd:Tryz.prog.underlying 55=some (.slice 159):=by kernel_rfl
theorem Tryz.goalsNil(w:World)(a:Option Addr)(n c n' c':Nat):(binOp .eql 55 (.slice a n c) (.slice none n' c')).run Tryz.prog w=.ok (.bool a.isNone) w:=Lib.run_eql_slice_nil w _ _ a n c n' c' Tryz.goalsUnd
set_option maxHeartbeats 4000000 in
set_option maxRecDepth 100000 in
theorem Tryz.cloG_nil(w:World):Calls Tryz.prog 261 #[.slice none 0 0] w λe w'=>e=.returned (.slice none 0 0)/\w'=w:=by
 have hq:=Tryz.goalsNil
 go_enter Tryz.func261,Tryz.ntmps261
 go_wp2
 first|go_ret2|go_ret
 exact⟨rfl,rfl⟩
set_option maxHeartbeats 4000000 in
set_option maxRecDepth 100000 in
theorem Tryz.cloG_empty(a:Addr)(c:Nat)(w:World)(i0:TypeInfo)(hi0:Tryz.prog.info? 159=some i0)(Y3:i0.size=5):Calls Tryz.prog 261 #[.slice (some a) 0 c] w λe w'=>e=.returned (.slice (some ⟨w.heap.size,0,none⟩) 0 0)/\w'=w.alloc (.cells #[] 159):=by
 have hrun:∀ty,(Builtin.append_ #[55,55] ty #[.slice (some ⟨w.heap.size,0,none⟩) 0 0,.slice (some a) 0 c]).run Tryz.prog (w.alloc (.cells #[] 159))=.ok (.slice (some ⟨w.heap.size,0,none⟩) 0 0) (w.alloc (.cells #[] 159)):=λty=>by
  have hf:=run_firstCells_some (P:=Tryz.prog) (w.alloc (.cells #[] 159)) i0.size 0 a 0 c [] (by simp) (λj u hj=>by simp at hj);simp[Builtin.append_,run_underlying Tryz.goalsUnd,sizeOf,typeInfo,hi0,Builtin.lenOf,hf,storeCells]
 obtain⟨ab,ao,asp⟩:=a;have hq:=Tryz.goalsNil
 go_enter Tryz.func261,Tryz.ntmps261
 go_wp2_with (at_builtin;refine Lib.wpList_append_run _ rfl _ _ _ _ rfl _ _ rfl rfl _ _ (hrun _) ?_)
 first|go_ret2|go_ret
 exact⟨rfl,rfl⟩
set_option maxHeartbeats 4000000 in
set_option maxRecDepth 100000 in
theorem Tryz.cloG_some(b o n c:Nat)(vs:List Value)(w:World)(i0:TypeInfo)(z:Value)(hi0:Tryz.prog.info? 159=some i0)(hz0:i0.zero=some z)(Y3:i0.size=5)(h0:0<n)(hm:n<=maxLen)(hbig:n*i0.bytes<=140737488355328)
  (hvl:vs.length=n*5) (GJ:∀j v,vs[j]?=some v->w.cell? ⟨b,o+j,none⟩=some v) (h1v:∀v∈vs,v.oneCell'=true) :
  Calls Tryz.prog 261 #[.slice (some ⟨b,o,none⟩) n c] w λe w'=>e=.returned (.slice (some ⟨w.heap.size+1,0,none⟩) n (grownCap (w.alloc (.cells #[] 159)) n 0 159)) /\
   w'=((w.alloc (.cells #[] 159)).drew).alloc (.cells (vs.toArray++Builtin.zeroCells z.cells (grownCap (w.alloc (.cells #[] 159)) n 0 159-n)) 159):=by
 have hvs':∀j v,vs[j]?=some v->(w.alloc (.cells #[] 159)).cell? ⟨b,o+j,none⟩=some v:=λj v hj=>Lib.cell?_alloc_some _ (GJ j v hj);have hsrc:Src Tryz.prog i0.size 55 (.slice (some ⟨b,o,none⟩) n c) n vs (w.alloc (.cells #[] 159)):=Src.ofSlice _ Tryz.goalsUnd ⟨b,o,none⟩ n c vs (by rw[Y3,hvl]) (λj u hj=>by rw[Addr.add_lit];exact hvs' j u hj) h1v;have hold:(Builtin.firstCells i0.size 0 (.slice (some ⟨w.heap.size,0,none⟩) 0 0)).run Tryz.prog (w.alloc (.cells #[] 159)).drew=.ok ([]:List Value).toArray (w.alloc (.cells #[] 159)).drew:=by
  rw[Y3];exact run_firstCells_some _ 5 0 ⟨w.heap.size,0,none⟩ 0 0 [] rfl (λj v hj=>by simp at hj)
 have hrun:∀ty,(Builtin.append_ #[55,55] ty #[.slice (some ⟨w.heap.size,0,none⟩) 0 0,.slice (some ⟨b,o,none⟩) n c]).run Tryz.prog (w.alloc (.cells #[] 159))=_:=λty =>
  run_append_grow_src (w.alloc (.cells #[] 159)) 55 55 ty 159 i0 z Tryz.goalsUnd hi0 hz0 (some ⟨w.heap.size,0,none⟩) 0 0 [] hold _ n vs hsrc (by omega) (by unfold maxLen at hm;omega) (growslice_fits (by unfold maxLen at hm;omega) (by rw[zf8z];exact hbig))
 rw[zf8z,List.nil_append]at hrun;have hs:(w.alloc (.cells #[] 159)).heap.size=w.heap.size+1:=by simp
 rw[hs]at hrun;generalize hG:grownCap (w.alloc (.cells #[] 159)) n 0 159=G at *
 generalize hR:vs.toArray++Builtin.zeroCells z.cells (G-n)=R at *
 clear hR hold hsrc hG GJ hvs';have hq:=Tryz.goalsNil
 go_enter Tryz.func261,Tryz.ntmps261
 go_wp2_with (at_builtin;refine Lib.wpList_append_run _ rfl _ _ _ _ rfl _ _ rfl rfl _ _ (hrun _) ?_)
 first|go_ret2|go_ret
 exact⟨rfl,rfl⟩
theorem Uj{cs:Array Value}{p:Value->Prop}(h:∀v∈cs.toList,p v)(n:Nat):∀v∈(Builtin.zeroCells cs n).toList,p v:=by
 intro v hv;unfold Builtin.zeroCells at hv;rw[Array.toList_map,List.mem_map]at hv;obtain⟨i,hi,rfl⟩:=hv;have hlt0:i<n*cs.size:=by simpa using hi
 have h0:0<cs.size:=by
  rcases Nat.eq_zero_or_pos cs.size with h|h
  .rw[h,Nat.mul_zero]at hlt0;omega
  .exact h
 have G9:=Nat.mod_lt i h0;rw[getElem!_pos cs _ G9];exact h _ (Array.mem_toList_iff.2 (Array.getElem_mem G9))
set_option maxRecDepth 100000 in
theorem Tryz.cloLaw:CloLaw Tryz.prog 261 5 72 159:=by
 obtain⟨i0,z,hi0,Y3,hz0,hzs,hby⟩:∃i0 z,Tryz.prog.info? 159=some i0/\i0.size=5/\i0.zero=some z/\z.cells.size=5/\i0.bytes=72:=⟨_,_,rfl,by kernel_rfl,rfl,by kernel_rfl,by kernel_rfl⟩;have hz1:∀v∈z.cells.toList,v.oneCell'=true:=by
  have:(Tryz.prog.info? 159).bind (λi=>i.zero.map λz=>z.cells.toList.all Value.oneCell')=some true:=by kernel_rfl
  rw[hi0,Option.bind_some,hz0,Option.map_some,Option.some.injEq]at this;exact zf6z.1 this
 refine⟨by kernel_rfl,λw base cap hb=>?_,?_⟩
 .cases base with
  |none =>
   obtain rfl:=hb rfl;exact(Tryz.cloG_nil w).mono λe w' ⟨h1,h2⟩=>⟨none,h1,Iff.rfl,by rw[h2];exact Bl.refl _ _⟩
  |some a=>exact(Tryz.cloG_empty a cap w i0 hi0 Y3).mono λe w' ⟨h1,h2⟩=>⟨_,h1,⟨(λh=>nomatch h),λh=>nomatch h⟩,by rw[h2];exact⟨(Below.refl _ w).alloc (zf2z _) _,λ_=>zf2z _⟩⟩
 .intro w b o n c vs h0 hnc hc hb hvl GJ h1v;have hm:n<=maxLen:=Nat.le_trans hnc hc;have hG1:=grownCap_ge (w.alloc (.cells #[] 159)) n 0 159;have hG2:=grownCap_le_maxLen (w.alloc (.cells #[] 159)) n 0 159 hm;refine(Tryz.cloG_some b o n c vs w i0 z hi0 hz0 Y3 h0 hm (by rw[hby];exact hb) hvl GJ h1v).mono λe w' ⟨h1,h2⟩=>⟨(w.alloc (.cells #[] 159)).drew,_,_,?_,?_,h2,hG1,hG2,?_,?_⟩
  .rw[h1];simp
  .refine⟨((Below.refl _ w).alloc (zf2z _) _).trans ⟨rfl,rfl,rfl,zf2z _,λ_ _=>rfl⟩,λ_=>?_⟩;show w.drawn<=w.drawn+1;omega
  .intro v hv;rw[zf4z,zf7z]at hv;rcases hv with hv|hv
   .exact h1v v hv
   .exact Uj hz1 _ v hv
  .rw[zf4z];exact List.take_left' hvl
end Go.Proofs
namespace Go.Abs
structure CfgLe (C C':Cfg):Prop where
 code:C'.code=C.code
 ctx:C'.ctx=C.ctx
 rspec:C'.rspec=C.rspec
 spec:∀f,C'.spec f=C.spec f\/(C.spec f=none/\C.code f=none/\C.rspec f=none)
theorem CfgLe.orc{C C':Cfg}(H:CfgLe C C'):∀n,Le (orc C n) (orc C' n)
 |0=>⟨λf a r h=>(nomatch h),λf a g r h=>(nomatch h),λs s' t x _ h=>(nomatch h)⟩
 |n+1=>by
  have ih:=H.orc n;have hr:∀(f:FuncId) (args:List AV) (h:AH) (x:AV×AH),EW C (Go.Abs.orc C n) f args h=some x->EW C' (Go.Abs.orc C' n) f args h=some x:=λf args h x he=>by
   have:=MG (C:=C) ih he;unfold EW at this ⊢;rw[H.code,H.ctx,H.rspec];exact this
  refine⟨λf args r he=>?_,λf args h x he=>?_,λs s' t x hs he=>ER hs (zf2z _) he⟩
  .change Ck C (Go.Abs.orc C n) f args=some r at he;show Ck C' (Go.Abs.orc C' n) f args=some r;unfold Ck at he ⊢;rcases H.spec f with e1|⟨e1,e2,e3⟩
   .rw[e1];cases hs:C.spec f with
    |some s=>rw[hs]at he;exact he
    |none =>
     rw[hs]at he;simp only at he ⊢;cases hq:EW C (Go.Abs.orc C n) f args AH.empty with
     |none=>rw[hq]at he;cases he
     |some y=>rw[hq]at he;rw[hr f args AH.empty y hq];exact he
   .rw[e1]at he;simp only[EW,e2,e3]at he;cases he
  .change OY C (Go.Abs.orc C n) f args h=some x at he;show OY C' (Go.Abs.orc C' n) f args h=some x;unfold OY at he ⊢;rw[H.ctx];cases hq:EW C (Go.Abs.orc C n) f args h with
   |none=>rw[hq]at he;unfold Pp at he;split at he<;>cases he
   |some y =>
    rw[hq]at he;rw[hr f args h y hq];exact he
theorem CfgLe.pc{C C':Cfg}(H:CfgLe C C'){f:FuncId}{args:I7}{r:AV}(h:Go.Abs.pc C f args=some r):Go.Abs.pc C' f args=some r:=by
 obtain⟨n,hn⟩:=Pk C h;exact Xj C' ((H.orc n).pure f args r hn)
theorem az{P:Program}{C:Cfg}(hC:CfgS P C){f:FuncId}{args:I7}{r:AV}(h:pc C f args=some r):Program.enterable P f=true:=by
 obtain⟨n,hn⟩:=Pk C h;exact((Ph hC n).1 f args r hn).1
theorem Sr{C:Cfg}{f:FuncId}{s:List AV->Option AV}(hs:C.spec f=some s){args:I7}{r:AV}(h:s args=some r):pc C f args=some r:=by
 apply QW;unfold Ck;rw[hs];exact h
end Go.Abs
namespace Go.Abs.Q
open Go.Proofs
def ownW(f:FuncId):Bool:=zf1z f DR||zf1z f Y9||zf1z f Z0
def ctxW(f:FuncId):Ctx :=
 if zf1z f DR then {C2 DR with noB:=λg=>L3 g&&!(zf1z g Q1)}
 else C2 f
noncomputable def sn(f:FuncId):Option (List AV->Option AV):=if ownW f||zf1z f Q1 then none else some λargs=>pc Qf f args
def fF(f:FuncId):Option RSpec:=if zf1z f Q1 then some (cloR 5 72 159)else none
noncomputable def oo(f:FuncId):Option RFunc:=if ownW f then RQ Tryz.prog ctxW f else none
noncomputable def W:Cfg:=⟨oo,ctxW,sn,fF⟩
theorem WS:CfgS Tryz.prog W:=by
 refine⟨λf rf h=>?_,λf s hs args r hr=>?_,mixed,λf s hs O hP args h r h' he=>?_⟩
 .have h1:oo f=some rf:=h;unfold oo at h1;split at h1
  .exact h1
  .cases h1
 .have hs':sn f=some s:=hs;unfold sn at hs';split at hs'
  .cases hs'
  .cases hs';exact⟨az QfS hr,λw ok0 vs hk hG hv=>OU QfS hr w ok0 vs hk hG hv⟩
 .have hs':fF f=some s:=hs;unfold fF at hs';split at hs'
  .rename_i hf;cases hs';obtain rfl:=zf3z hf;exact kR Tryz.cloLaw O args h r h' he
  .cases hs'
def ot(f:FuncId):Bool:=zf1z f DR
noncomputable def jJ(f:FuncId):Option (List AV->Option AV):=if ot f then some (λargs=>pc W f args)else TO f
noncomputable def Qr:Cfg:=⟨Q5,C2,jJ,NG⟩
theorem con_ff(f:FuncId)(h:ot f=true):Qf.spec f=none/\Qf.code f=none/\Qf.rspec f=none:=by
 unfold ot at h;obtain rfl:=zf3z h;exact⟨rfl,rfl,rfl⟩
theorem QfLe:CfgLe Qf Qr:=by
 refine⟨rfl,rfl,rfl,λf=>?_⟩;by_cases h:ot f=true
 .exact .inr (con_ff f h)
 .exact .inl (if_neg h)
theorem VW{f:FuncId}{args:I7}{r:AV}(h:pc Qf f args=some r):pc Qr f args=some r:=QfLe.pc h
theorem QrS:CfgS Tryz.prog Qr:=by
 refine⟨QfS.code,λf s hs args r hr=>?_,QfS.mixed,QfS.rspec⟩;have hs':jJ f=some s:=hs;unfold jJ at hs';split at hs'
 .cases hs';exact⟨az WS hr,λw ok0 vs hk hG hv=>OU WS hr w ok0 vs hk hG hv⟩
 .exact QfS.spec f s hs' args r hr
theorem conR{f:FuncId}(hf:ot f=true){args:I7}{r:AV}(h:pc W f args=some r):pc Qr f args=some r:=Sr (if_pos hf) h
theorem ofQf{f:FuncId}(hf:(ownW f||zf1z f Q1)=false){args:I7}{r:AV}(h:pc Qf f args=some r):pc W f args=some r:=Sr (if_neg (by rw[hf];exact Bool.noConfusion)) h
theorem Q4(f:FuncId)(args:I7)(r:AV)(h:X6 f args=some r):pc Qr f args=some r:=VW (oh f args r h)
def noK(_:FuncId)(_:List AV):Option AV:=none
theorem noK_ok{C:Cfg}(f:FuncId)(args:I7)(r:AV)(h:noK f args=some r):pc C f args=some r:=by cases h
end Go.Abs.Q
namespace Go.Abs.Q
open Go.Proofs
attribute [local simp] J0 J5 fin M6 M0 Y2 b8
theorem pcS{f:FuncId}{rf:RFunc}{args:I7}{r:AV}(hc:Q5 f=some rf)(hs:jJ f=none)(hl:args.length<=rf.ntmps)
  (H:∀fr:Fr,fr.length=rf.ntmps->(∀i,C7 fr i=args.getD i B4)->L9 (A8 (Ax Qr) (C2 f) rf.body (fr,⟨[],[]⟩)) (vI rf.results r)):pc Qr f args=some r :=
 iW (C:=Qr) hs hc hl λfr h1 h2=>H fr h1 h2
theorem nW{t:Tm}(h:LA t):t.name.size<=24:=by
 have hn:=(FV (Kl h.1).1).1;obtain⟨k,nm,s,m,l⟩:=t;exact WW (Kd hn).1
theorem iV(g:Tyg)(t:Tm)(hF:TygFin g)(hs:t.size<=100):∃r,pc Qf CB [Li g,U6 t]=some r/\nX g t r :=
 lY g t hF hs dgB pT (λi hi=>IZ (qi i hi)) λt h=>IZ (eV t (by have:=nW h;omega))
theorem yt{g:Tyg}(hF:TygFin g)(hvg:Pw g=true):TyOk g.tys g.effs:=by
 unfold Pw at hvg;simp only[zf0z,zf6z,zf5z,decide_eq_false_iff_not]at hvg;obtain⟨⟨⟨v3,v4⟩,v1⟩,v2⟩:=hvg;refine⟨by omega,by omega,λx hx=>?_,λf hf=>?_⟩
 .have:=v1 x hx;unfold Pv Js at this;simp only[zf0z,decide_eq_true_eq]at this;exact⟨this.1.1,(hF.ty x hx).1,(hF.ty x hx).2,this.2⟩
 .have:=v2 f hf;unfold vFa at this;simp only[zf0z,zf5z,List.any_eq_false,Bool.not_eq_true]at this;refine⟨hF.ef f hf,λx hx=>?_⟩;have h2:=this.2 x hx;simp[Js]at h2;exact h2.1
theorem Re{g:Tyg}{t:Tm}{r:AV}(hF:TygFin g)(h:nX g t r):∃(u:Typ) (m:HH) (l:I7) (e:Int),r=.tup [HG u,sl m 14 l,.int .i64 e] /\
  (e=0->Pw g=true/\vE t=0/\ty g.tys g.effs t=some u/\Fb u)/\(Pw g=false->e=1)/\(Pw g=true->vE t=0->∀u',ty g.tys g.effs t=some u'->e=0):=by
 rcases h with ⟨h1,rfl⟩|⟨h1,⟨h2,rfl⟩|⟨h2,⟨h3,rfl⟩|⟨u,m,l,A,h3,rfl,-,-,-,h4,J,h5,h6,h7,h8⟩⟩⟩
 .exact⟨w6 0,(true,false),[],1,rfl,λh=>by omega,λ_=>rfl,λh=>(by rw[h1]at h;cases h)⟩
 .exact⟨w6 0,(true,false),[],vE t,rfl,λh=>absurd h h2,λh=>(by rw[h1]at h;cases h),λ_ h=>absurd h h2⟩
 .exact⟨w6 0,(true,false),[],10,rfl,λh=>by omega,λh=>(by rw[h1]at h;cases h),λ_ _ u' h=>(by rw[h3]at h;cases h)⟩
 .refine⟨u,m,_,0,rfl,λ_=>⟨h1,h2,h3,?_⟩,λh=>(by rw[h1]at h;cases h),λ_ _ _ _=>rfl⟩;rw[List.getLast?_eq_getElem?]at h5;have:=(h4 _ J h5).props (yt hF h1) h6;rw[←h8];exact this.2.2
theorem Pi(hA:pc Qr x9 []=some (.bool true))(g:Tyg)(B:TygB g)(t:Tm)(ht:t.size<=1048576)(f:Fa)(hf:Tm.sizes f.terms<=1048576):pc Qr U8 [Li g,U6 t,Cl f]=some (.bool true):=by
 obtain⟨b,hb,hbf⟩:=rT g B;have hb':=VW (IZ hb);have G9:=Tm.length_le f.terms;have e1:(U6 t).cells=[.int .i64 t.kind,.str t.name,.int .i64 t.sort,sl t.cm 4 (G8 t.kids)]:=by cases t;rfl
 have tag:=Lh t;generalize hN:(f.terms.length:Int)=N;cases b with
 |false =>
  refine pcS Aa rfl (by simp[H9]) λfr hl ha=>?_;have h0:=ha 0;have h1:=ha 1;have h2:=ha 2;clear ha;simp[H9]at hl h0 h1 h2;simp[H9,hl,h0,h1,h2,hA,hb',e1]
 |true =>
  have F:=VG (hbf rfl);by_cases c8:8<N
  .refine pcS Aa rfl (by simp[H9]) λfr hl ha=>?_;have h0:=ha 0;have h1:=ha 1;have h2:=ha 2;clear ha;simp[H9]at hl h0 h1 h2;simp[H9,hl,h0,h1,h2,hA,hb',e1,hN,c8]
  .obtain⟨v1,F1,a1,l1,-⟩:=Wq (c:=C2 U8) (sz:=4) (bytes:=56) (xs:=[U6 t]) (ys:=G8 f.terms) (x:=sl f.fm 4 (G8 f.terms)) (h:=⟨[[sl g.tm 6 (g.tys.map p9),sl g.em 3 (g.effs.map Cl)],[.int .i64 t.kind,.str t.name,.int .i64 t.sort,sl t.cm 4 (G8 t.kids)],[.int .i64 f.kind,.int .i64 f.goal,sl f.fm 4 (G8 f.terms)]],[]⟩) (nR _ _ _ true _) (EH _ _ _ _) (by simp[P7,maxLen,AP];omega);obtain⟨m1,z1⟩:=Ga l1;have z1a:=λB=>(z1 B true rfl).1;have z1b:=λB=>(z1 B true rfl).2;simp only at a1 z1a z1b;have hFew:=VW (IZ (rL m1 (t::f.terms) 9 80 (by simp only[Tm.sizes];omega) (by decide)));rw[G8]at hFew;cases c9:Zw (t::f.terms) 9 80 with
   |false =>
    rw[c9]at hFew;refine pcS Aa rfl (by simp[H9]) λfr hl ha=>?_;have h0:=ha 0;have h1:=ha 1;have h2:=ha 2;clear ha;simp[H9]at hl h0 h1 h2;simp[H9,hl,h0,h1,h2,hA,hb',e1,hN,c8,tag,B2,a1,z1a,z1b,hFew]
   |true =>
    rw[c9]at hFew;have h80:=(Zy (by omega) c9).1;simp only[Tm.sizes]at h80;obtain⟨r,hr,P⟩:=iV g t F (by omega);obtain⟨u,mu,lu,e,rfl,k1,k2,k3⟩:=Re F P;obtain⟨v2,F2,a2,l2,-⟩:=Wq (c:=C2 U8) (sz:=3) (bytes:=40) (xs:=[]) (ys:=g.effs.map Cl) (x:=sl g.em 3 (g.effs.map Cl)) (h:=⟨[[sl g.tm 6 (g.tys.map p9),sl g.em 3 (g.effs.map Cl)],[.int .i64 t.kind,.str t.name,.int .i64 t.sort,sl t.cm 4 (G8 t.kids)],[.int .i64 f.kind,.int .i64 f.goal,sl f.fm 4 (G8 f.terms)]],F1⟩) (nR _ _ [] true _) (EH _ _ _ _) (by have:=F.el;simp[P7,maxLen];omega);obtain⟨v3,F3,a3,l3,-⟩:=Wq (c:=C2 U8) (sz:=3) (bytes:=40) (xs:=[]++g.effs.map Cl) (ys:=[Cl f]) (x:=sl (true,true) 3 [Cl f]) l2 (EH _ _ _ _) (by have:=F.el;simp[P7,maxLen];omega);simp only at a2 a3;obtain⟨m3,z3⟩:=Ga l3;have z3a:=λB=>(z3 B true rfl).1;have z3b:=λB=>(z3 B true rfl).2;have z3c:=λB=>(z3 B false rfl).1;have z3d:=λB=>(z3 B false rfl).2;obtain⟨ef,hef⟩:∃ef,ef=g.effs++[f]:=⟨_,rfl⟩;have ee:([]++g.effs.map Cl)++[Cl f]=ef.map Cl:=by rw[hef];simp
    rw[ee]at z3a z3b z3c z3d l3;have l3':He false 3 (ef.map Cl) v3 _:=l3;have tm1:∀B,Dn ⟨B,F3⟩ v3=true:=λB=>by
     have:=Nj l3' B;rcases l3' with ⟨b,rfl⟩|⟨_,k,rfl,_⟩<;>exact this
    obtain⟨c1,c2,c3,-⟩:=i8 l3;simp only at z3a z3b z3c z3d;have Fm:TygFin ⟨g.tm,g.tys,m3,ef⟩:=⟨F.tl,by have:=VG (hbf rfl);have:=(show g.effs.length<=70 by have:=hbf rfl;unfold VF at this;simp only[zf0z,decide_eq_true_eq]at this;exact this.2);rw[hef];simp;omega,F.ty,λx hx=>by
     have hx:x∈ef:=hx;rw[hef]at hx;rcases zf7z.1 hx with hx|hx
     .exact F.ef x hx
     .rw[List.mem_singleton.1 hx];omega⟩
    obtain⟨r2,hr2,P2⟩:=iV ⟨g.tm,g.tys,m3,ef⟩ t Fm (by omega);obtain⟨u2,mu2,lu2,e2,rfl,q1,q2,q3⟩:=Re Fm P2;have hr':=VW hr;have hr2':=VW hr2;have tgm:AV.agg [sl g.tm 6 (g.tys.map p9),sl m3 3 (ef.map Cl)]=Li ⟨g.tm,g.tys,m3,ef⟩:=rfl;have ff1:Fl (KQ 0 2 [sl g.tm 6 (g.tys.map p9),sl g.em 3 (g.effs.map Cl)] [.int .i64 f.kind,.int .i64 f.goal,sl f.fm 4 (G8 f.terms)]) false 1 (.ptr 0 0) (sl g.tm 6 (g.tys.map p9)):=dI (Dx _ _ _) rfl;have ff2:Fl (KQ 0 2 [sl g.tm 6 (g.tys.map p9),sl g.em 3 (g.effs.map Cl)] [.int .i64 f.kind,.int .i64 f.goal,sl f.fm 4 (G8 f.terms)]) false 1 (.ptr 0 1) (sl g.em 3 (g.effs.map Cl)):=dI (Dx _ _ _) rfl;have ff3:Fl (KQ 0 2 [sl g.tm 6 (g.tys.map p9),sl g.em 3 (g.effs.map Cl)] [.int .i64 f.kind,.int .i64 f.goal,sl f.fm 4 (G8 f.terms)]) true 3 (.ptr 2 0) (Cl f):=λh ⟨_,hk⟩=>by
     show (match h.boxes[2]? with|some cs=>if u6 cs then Qm true 3 0 cs else P9 true 3 (cs.drop 0)|none=>none)=some _
     rw[hk];rfl
    have kq:∀F (X:List (List AV)),KQ 0 2 [sl g.tm 6 (g.tys.map p9),sl g.em 3 (g.effs.map Cl)] [.int .i64 f.kind,.int .i64 f.goal,sl f.fm 4 (G8 f.terms)] ⟨[sl g.tm 6 (g.tys.map p9),sl g.em 3 (g.effs.map Cl)]::[.int .i64 t.kind,.str t.name,.int .i64 t.sort,sl t.cm 4 (G8 t.kids)]::[.int .i64 f.kind,.int .i64 f.goal,sl f.fm 4 (G8 f.terms)]::X,F⟩:=λF X=>⟨rfl,rfl⟩;have hfin:e≠0\/(e=0/\e2=1)\/(e=0/\e2=0/\pc Qr EU [HG u,HG u2]=some (.bool true)):=by
     by_cases he:e=0
     .obtain⟨w1,w2,w3,w4⟩:=k1 he;cases hv:Pw ⟨g.tm,g.tys,m3,ef⟩with
      |false=>exact .inr (.inl ⟨he,q2 hv⟩)
      |true =>
       have hm:=yw f w3;rw[←hef]at hm;have e20:=q3 hv w2 u hm;obtain⟨-,-,y3,-⟩:=q1 e20;have:u2=u:=by
        have h1:ty g.tys ef t=some u2:=y3;rw[hm]at h1;exact(Option.some.inj h1).symm
       subst this;have hS:=VW (IZ (rZ u2 u2 ⟨w4.1,λp hp=>(w4.2 p hp).2⟩));rw[VE]at hS;exact .inr (.inr ⟨he,e20,hS⟩)
     .exact .inl he
    clear k1 k2 k3 q1 q2 q3 P P2;refine pcS Aa rfl (by simp[H9]) λfr hl ha=>?_;have h0:=ha 0;have h1:=ha 1;have h2:=ha 2;clear ha;simp[H9]at hl h0 h1 h2;simp[H9,hl,h0,h1,h2,hA,hb',e1,hN,c8,tag,B2,a1,z1a,z1b,hFew]
    with_reducible refine @M3 _ _ _ _ _ _ _ (λk=>k) (KQ 0 2 [sl g.tm 6 (g.tys.map p9),sl g.em 3 (g.effs.map Cl)] [.int .i64 f.kind,.int .i64 f.goal,sl f.fm 4 (G8 f.terms)]) [.nil,.fl,.pu,.nil,.fl,.fw,.fl,.pu,.fw,.nil,.bw,.any] 0 (λa b e=>e) ?_ ?_ ?_
    .rfl
    .decide
    rcases hfin with he|⟨rfl,rfl⟩|⟨rfl,rfl,hS⟩
    .simp[H9,hl,h0,h1,h2,kq,ff1,ff2,ff3,tag,B2,a2,a3,c1,c2,c3,B6,C9,z3a,z3b,z3c,z3d,hr',hr2',tgm,tm1,he]
    .simp[H9,hl,h0,h1,h2,kq,ff1,ff2,ff3,tag,B2,a2,a3,c1,c2,c3,B6,C9,z3a,z3b,z3c,z3d,hr',hr2',tgm,tm1]
    .simp[H9,hl,h0,h1,h2,kq,ff1,ff2,ff3,tag,B2,a2,a3,c1,c2,c3,B6,C9,z3a,z3b,z3c,z3d,hr',hr2',tgm,tm1,hS]
end Go.Abs.Q
