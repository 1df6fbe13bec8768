/- A part of the proof. -/
import Derived.Test.YtjhgilockkmniaaGreatDoorSJ29
import Derived.Test.YtjhgilockkmniaaGreatDoorSJ32
import Derived.Test.YtjhgilockkmniaaGreatDoorSJ33
import Derived.KernelRfl
import Derived.Test.YtjhgilockkmniaaGreatDoorCards
import Derived.Test.YtjhgilockkmniaaGreatDoorTie
import Derived.WalkKit
import Derived.ProofKit
import Derived.OpenShut
import Derived.JoinedCond
import Derived.Deep.DeepHandedRow
import Derived.Lib.LaidTab
set_option linter.all false
open List renaming filter_cons_of_pos->zf0z,getElem?_cons_succ->zf1z,getElem?_cons_zero->zf2z,getElem_cons_succ->zf3z,getElem_cons_zero->zf4z,getElem_toArray->zf5z,getElem?_eq_getElem->zf6z,drop_succ_cons->zf7z,take_succ_cons->zf8z,map_cons->zf9z,filter_append->zg0z,drop_zero->zg1z,take_zero->zg2z,filter_cons_of_neg->zg3z,map_nil->zg4z,concat_eq_append->zg5z,mem_cons->zg6z,mem_singleton->zg7z,append_assoc->zg8z,filter->zg9z,mem_filter->zt2z,sum_cons->zt3z
open Nat renaming le_refl->zt0z
open Bool renaming or_eq_true->zt1z
namespace Go.Proofs
open Go.RowKit Go.Abs Go.Abs.Q
theorem GV.of {w:World} {ok:Nat->Nat->Prop} {B:Nat} (hg:Cc w ok) (AW:∀b o,ok b o->b<B):GV B w:=by
 have h:=hg (2,_) (by unfold Xh;exact zg7z.2 rfl);simp only[PV,Bo]at h;obtain⟨b,o,he,⟨u,h1,h2,h3,h4⟩,-⟩:=h;cases he;obtain⟨a,len,cap,rfl,C4,hc,hm,_,_,hx⟩:=h4;obtain⟨wb,wo,rfl,hz,hp⟩:=hx (by simp);have hl:len=6:=C4;subst hl;have hw:∀j,j<6->ok wb (wo+j)/\w.cell? ⟨wb,wo+j,none⟩=some (.string ⟨(HY.getD j []).toArray⟩):=λj hj=>by
  obtain⟨s,hs,hse⟩:∃s:ByteArray,(([[97,110,121],[97,103,101,110,116],[110,111,110,99,101],[107,101,121],[100,97,116,97],[116,97,103]]:List (List Nat)).map λl=>AV.str ⟨(l.map UInt8.ofNat).toArray⟩)[j]?=some (.str s)/\s=⟨(HY.getD j []).toArray⟩:=by
   match j,hj with
   |0,_=>exact⟨_,rfl,rfl⟩
   |1,_=>exact⟨_,rfl,rfl⟩
   |2,_=>exact⟨_,rfl,rfl⟩
   |3,_=>exact⟨_,rfl,rfl⟩
   |4,_=>exact⟨_,rfl,rfl⟩
   |5,_=>exact⟨_,rfl,rfl⟩
  obtain⟨-,p2⟩:=Gz hp hs;obtain⟨u,k1,k2,k3,k4⟩:=r9 p2 (j:=0) rfl;simp only[PV]at k4;subst k4 hse;rw[Nat.mul_one,Nat.add_zero]at k1 k2;exact⟨k1,k2⟩
 exact⟨wb,wo,cap,AW _ _ (hw 0 (by omega)).1,AW _ _ h1,h2,λj hj=>(hw j hj).2⟩
set_option maxHeartbeats 8000000 in
set_option maxRecDepth 100000 in
theorem Tryz.format_ok (t:Tm) (hv:BS t=0) (AW:VT t=true) (L4:t.size<=1048576) (C4:(Sw t).length+100<=140737488355328) (w:World) (ok0:Nat->Nat->Prop) (vt:Value) (hk:∀b o,ok0 b o->b<w.heap.size) (hG:Cc w ok0) (hp:PV w ok0 (I1 t) vt) :
  Calls Tryz.prog 202 #[vt] w λe w'=>e=.returned (.tuple #[.string ⟨(Sw t).toArray⟩,.int .i64 0])/\Below w.heap.size w w':=by
 have hV:=Ll t (by omega);rw[hv]at hV;obtain⟨k,n,s,m,ts⟩:=t;obtain⟨a,len,cap,rfl,rfl,-⟩:=LD hp;have hb0:=(Below.refl w.heap.size w).alloc (zt0z _) (.cells #[.int .i64 k,.string n,.int .i64 s,.slice a ts.length cap] 41);have hst0:∀b o,ok0 b o->ok0 b o/\Dc w (w.alloc (.cells #[.int .i64 k,.string n,.int .i64 s,.slice a ts.length cap] 41)) b o:=λb o h=>⟨h,hb0.cell (p:=⟨b,o,none⟩) (hk b o h),λes clk he=>by rw[hb0.block b (hk b o h)];exact he⟩;have hp0:=Z7 hst0 _ _ hp;have hC:=λ(hh:W5 (w.alloc (.cells #[.int .i64 k,.string n,.int .i64 s,.slice a ts.length cap] 41)) ok0 [I1 (.mk k n s m ts)] (#[Value.agg #[.int .i64 k,.string n,.int .i64 s,.slice a ts.length cap]]:Array Value).toList)=>Uc QS hV (w.alloc (.cells #[.int .i64 k,.string n,.int .i64 s,.slice a ts.length cap] 41)) ok0 _ (λb o h=>by have:=hk b o h;simp;omega) (hG.mono hst0) hh;have hC':=hC (by simp only[W5];exact⟨_,_,rfl,hp0,rfl⟩);clear hC;have box:∀w1,Below (w.alloc (.cells #[.int .i64 k,.string n,.int .i64 s,.slice a ts.length cap] 41)).heap.size (w.alloc (.cells #[.int .i64 k,.string n,.int .i64 s,.slice a ts.length cap] 41)) w1->∀i,(w1.alloc (.cells #[.pointer none,.slice none 0 0] 310)).cell? ⟨w.heap.size,i,none⟩=#[.int .i64 k,.string n,.int .i64 s,.slice a ts.length cap][i]?:=λw1 hb i =>
  have A9:w.heap.size<w1.heap.size:=by have:=hb.size;simp at this;omega
  Lib.cell_of_heap ((Lib.alloc_old w1 _ _ A9).trans ((hb.block w.heap.size (by simp)).trans (show (w.heap.push _)[w.heap.size]?=some (.cells _ 41 (0,0)) from Array.getElem?_push_size))) i
 go_enter Tryz.func202,Tryz.ntmps202
 go_wp2_with (first
  |(go_at_call 126;refine hC'.mono ?_;rintro e w1 ⟨u,rfl,⟨hb1,-⟩,hu⟩;simp only[PV]at hu;subst hu;have c0:=box w1 hb1 0;have c1:=box w1 hb1 1;have c2:=box w1 hb1 2;have c3:=box w1 hb1 3;have A6:w.heap.size<=w1.heap.size:=(by have:=hb1.size;simp at this;omega);have hbW:=(hb0.trans (hb1.mono (by simp))).alloc A6 (.cells #[.pointer none,.slice none 0 0] 310);have hst2:=λb o (h:ok0 b o)=>(⟨Nat.lt_of_lt_of_le (hk b o h) A6,hbW.cell (p:=⟨b,o,none⟩) (hk b o h),λes clk he=>by rw[hbW.block b (hk b o h)];exact he⟩:(b<w1.heap.size)/\Dc w _ b o))
  |(go_at_call 253;refine(Tryz.write_ok w1.heap.size w1.heap.size _ (.mk k n s m ts) (zt0z _) L4 AW [] _ _ (Lib.fresh_isBuilder 310 5 w1) (Z7 (ok':=λx _=>x<w1.heap.size) hst2 _ _ hp) (by simp;omega) (by simp) (GV.of (hG.mono (ok':=λx _=>x<w1.heap.size) hst2) (λ_ _ h=>h))).mono ?_;rintro e w3 ⟨rfl,h3,hb3,-⟩)
  |(go_at_call 254;refine(Tryz.bldString w1.heap.size w1.heap.size _ _ (.inr h3) (by have:=hb3.size;simp at this;omega)).mono ?_;rintro e w4 ⟨rfl,hb4⟩))
 go_ret2
 refine⟨rfl,?_⟩;exact hbW.trans ((hb3.trans hb4).mono A6)
def nf (t:Tm):Bool:=decide (BS t=0)&&VT t&&decide (t.size<=1000)&&decide ((Sw t).length<=1000000)
def Si:List AV->Option AV
 | [a]=>match aH a with|some t=>if nf t=true then some (.tup [.str ⟨(Sw t).toArray⟩,.int .i64 0])else none|none=>none
 |_=>none
theorem Tryz.spec_format (args:List AV) (r:AV) (h:Si args=some r) (w:World) (ok0:Nat->Nat->Prop) (vs:Array Value) (hk:∀b o,ok0 b o->b<w.heap.size) (hG:Cc w ok0) (hv:W5 w ok0 args vs.toList) :
  Calls Tryz.prog 202 vs w λe w'=>∃u,e=.returned u/\Bl w.heap.size w w'/\PV w' (λb o=>ok0 b o\/(w.heap.size<=b/\b<w'.heap.size)) r u:=by
 unfold Si at h;split at h
 .rename_i a;split at h
  .rename_i t ht;split at h
   .rename_i hb;cases h;unfold nf at hb;simp only[Bool.and_eq_true,decide_eq_true_eq]at hb;obtain⟨⟨⟨b1,b2⟩,b3⟩,b4⟩:=hb;rw[←Nt ht]at hv;obtain⟨vs⟩:=vs;simp only[W5]at hv;obtain⟨u,us,rfl,hu,rfl⟩:=hv;refine(Tryz.format_ok t b1 b2 (by omega) (by omega) w ok0 u hk hG hu).mono λe w' ⟨he,hb⟩=>?_;refine⟨_,he,⟨hb,λhd=>nomatch hd⟩,?_⟩;simp only[PV,W5];exact⟨_,rfl,_,_,rfl,rfl,_,_,rfl,rfl,rfl⟩
   .cases h
  .cases h
 .cases h
end Go.Proofs
namespace Go.Abs.Q
open Go.Proofs
def YH (f:FuncId):Option (List AV->Option AV):=if f=Au then some Si else JR f
noncomputable def Qf:Cfg:=⟨Ax,B9,YH,PN⟩
theorem Ty:∀n,Le (orc Q n) (orc Qf n)
 |0=>⟨λf a r h=>(nomatch h),λf a g r h=>(nomatch h),λs s' t x _ h=>(nomatch h)⟩
 |n+1=>by
  have ih:=Ty n;have hr:∀(f:FuncId) (args:List AV) (h:AH) (x:AV×AH),Gl Q (orc Q n) f args h=some x->Gl Qf (orc Qf n) f args h=some x:=λf args h x he=>by
   have:=MU (C:=Q) ih he;exact this
  refine⟨λf args r he=>?_,λf args h x he=>?_,λs s' t x hs he=>EN hs (zt0z _) he⟩
  .change Ey Q (orc Q n) f args=some r at he;show Ey Qf (orc Qf n) f args=some r;unfold Ey at he ⊢;by_cases hf:f=Au
   .subst hf;have e1:Q.spec Au=none:=rfl;have e2:Q.code Au=none:=rfl;have e3:Q.rspec Au=none:=rfl;rw[e1]at he;simp only[Gl,e2,e3]at he;cases he
   .have e1:Qf.spec f=Q.spec f:=if_neg hf;rw[e1];cases hs:Q.spec f with
    |some s=>rw[hs]at he;exact he
    |none =>
     rw[hs]at he;simp only at he ⊢;cases hq:Gl Q (orc Q n) f args AH.empty with
     |none=>rw[hq]at he;cases he
     |some y=>rw[hq]at he;rw[hr f args AH.empty y hq];exact he
  .change PI Q (orc Q n) f args h=some x at he;show PI Qf (orc Qf n) f args h=some x;unfold PI at he ⊢;cases hq:Gl Q (orc Q n) f args h with
   |none=>rw[hq]at he;unfold Ux at he;split at he<;>cases he
   |some y =>
    rw[hq]at he;rw[hr f args h y hq];exact he
theorem Pt {f:FuncId} {args:C6} {r:AV} (h:pc Q f args=some r):pc Qf f args=some r:=by
 obtain⟨n,hn⟩:=SO Q h;exact Wf Qf ((Ty n).pure f args r hn)
theorem uk:CfgS Tryz.prog Qf:=by
 refine⟨QS.code,λf s hs args r hr=>?_,QS.mixed,QS.rspec⟩;have hs':YH f=some s:=hs;unfold YH at hs';split at hs'
 .rename_i hf;subst hf;cases hs';exact⟨by kernel_rfl,λw ok0 vs hk hG hv=>Tryz.spec_format args r hr w ok0 vs hk hG hv⟩
 .exact QS.spec f s hs' args r hr
theorem Hm (f:FuncId) (args:C6) (r:AV) (h:Jg f args=some r):pc Qf f args=some r:=Pt (fP f args r h)
theorem rv {f:FuncId} {rf:RFunc} {args:C6} {r:AV} (hc:Ax f=some rf) (hs:YH f=none) (hl:args.length<=rf.ntmps)
  (H:∀fr:Fr,fr.length=rf.ntmps->(∀i,A2 fr i=args.getD i B3)->C3 (A4 (N5 Qf) (B9 f) rf.body (fr,⟨[],[]⟩)) (Vh rf.results r)):pc Qf f args=some r :=
 Xq (C:=Qf) hs hc hl λfr h1 h2=>H fr h1 h2
end Go.Abs.Q
namespace Go.Abs.Q
open Go.Proofs
attribute [local simp] C8 D5 fin H6 G0 Cb BG Af Ae
@[simp] theorem sJ (f:FuncId):Qf.ctx f=B9 f:=rfl
end Go.Abs.Q
namespace Go.Abs.Q
open Go.Proofs
open Go.Proofs.YtjhgilockkmniaaGreatDoor (Rows.uptoBulk Rows.uptoBulkAll)
theorem fM:Tryz.prog.cellsOf 3=1:=by kernel_rfl
theorem Vp:Tryz.prog.cellsOf 9=1:=by kernel_rfl
theorem mi:Tryz.prog.cellsOf 22=1:=by kernel_rfl
theorem bP:Tryz.prog.cellsOf 39=1:=by kernel_rfl
theorem XY:Tryz.prog.cellsOf 41=4:=by kernel_rfl
theorem bO:Tryz.prog.cellsOf 126=3:=by kernel_rfl
theorem fL:Tryz.prog.cellsOf 23=1:=by kernel_rfl
theorem iV:Tryz.prog.cellsOf 43=7:=by kernel_rfl
theorem jK:Tryz.prog.cellsOf 24=1:=by kernel_rfl
theorem iU:Tryz.prog.cellsOf 62=5:=by kernel_rfl
theorem jJ:Tryz.prog.cellsOf 25=1:=by kernel_rfl
theorem sO:Tryz.prog.cellsOf 27=6:=by kernel_rfl
theorem pH {α:Type}:∀{l:List α},l.length=3->∃a b c,l=[a,b,c]
 | [a,b,c],_=>⟨a,b,c,rfl⟩
theorem jv {α:Type}:∀{l:List α},l.length=4->∃a b c d,l=[a,b,c,d]
 | [a,b,c,d],_=>⟨a,b,c,d,rfl⟩
theorem pQ {α:Type}:∀{l:List α},l.length=5->∃a b c d e,l=[a,b,c,d,e]
 | [a,b,c,d,e],_=>⟨a,b,c,d,e,rfl⟩
theorem pS {α:Type}:∀{l:List α},l.length=6->∃a b c d e f,l=[a,b,c,d,e,f]
 | [a,b,c,d,e,f],_=>⟨a,b,c,d,e,f,rfl⟩
theorem tJ {α:Type}:∀{l:List α},l.length=7->∃a b c d e f g,l=[a,b,c,d,e,f,g]
 | [a,b,c,d,e,f,g],_=>⟨a,b,c,d,e,f,g,rfl⟩
theorem HW {P:Program} {w:World} {t:TypeId} {H:Type} {enc:TypeId×Value->H} {fs:Array Field} {n:Nat} {cs:List Value} {x:DataW H×List MemPlace} (ht:P.underlying t=some (.struct fs)) {c:Nat} (hc:P.cellsOf t=c)
  (h:DataW.trod enc P w 0 (λ_=>true) true n t cs=some x) :
  ∃(m:Nat) (xs:List (DataW H×List MemPlace)),n=m+1/\cs.length=c/\xs.length=fs.size/\x.1=.agg (xs.map (·.1))/\∀(i:Nat) (f:Field),fs[i]?=some f->∃y,xs[i]?=some y/\DataW.trod enc P w 0 (λ_=>true) true m f.type ((cs.drop f.offset).take (P.cellsOf f.type))=some y:=by
 obtain⟨xs,m,rfl,rfl,h1,h2,h3⟩:=DataW.trod_struct ht h;refine⟨m,xs,rfl,by omega,h2,rfl,λi f hi=>?_⟩;have A9:i<fs.size:=(Array.getElem?_eq_some_iff.1 hi).1;have:=h3 i f hi;rw[zf6z (by omega)]at this;exact⟨xs[i],zf6z _,this⟩
theorem jA {w:World} {ys ys':C6} {cs cs':List Value} (h:CV w ys cs) (k:CV w ys' cs'):CV w (ys++ys') (cs++cs'):=by
 induction ys generalizing cs with
 |nil =>
  have:cs=[]:=by
   have:=h.1;simpa[W5]using this
  subst this;exact k
 |cons y ys ih =>
  obtain⟨h1,h2⟩:=h;simp only[W5]at h1;obtain⟨u,us,rfl,h3,h4⟩:=h1;have:=ih ⟨h4,λv hv=>h2 v (List.mem_cons_of_mem _ hv)⟩;refine AN (Ly h3 (h2 u (by simp))) this
variable {w:World}
theorem RE (l:Hg):(l.map Tm.size).sum=Tm.sizes l:=by
 induction l with
 |nil=>rfl
 |cons t l ih=>simp[Tm.sizes,ih]
theorem Mg {α:Type} {f:α->Nat} (h:∀a,1<=f a):∀l:List α,l.length<=(l.map f).sum
 | []=>by simp
 |a::l=>by have:=h a;have:=Mg h l;simp;omega
theorem KX {α:Type} {f:α->Nat} {a:α}:∀{l:List α},a∈l->f a<=(l.map f).sum
 |b::l,h=>by
  rcases zg6z.1 h with rfl|h
  .simp
  .have:=KX (f:=f) h;simp;omega
theorem UQ:∀n,IR Tryz.prog w 41 (λt:Tm=>(I1 t).cells) (λ_=>True) Tm.size n:=by
 intro n
 induction n using Nat.strongRecOn with
 |_ n ih =>
  intro H enc cs x hx;obtain⟨m,xs,rfl,Hn,Nj,hx1,hf⟩:=HW Tryz.underlying41 XY hx;obtain⟨y0,hy0,h0⟩:=hf 0 _ rfl;obtain⟨y1,hy1,h1⟩:=hf 1 _ rfl;obtain⟨y2,hy2,h2⟩:=hf 2 _ rfl;obtain⟨y3,hy3,h3⟩:=hf 3 _ rfl;clear hf;obtain⟨v0,v1,v2,v3,rfl⟩:=jv Hn;obtain⟨z0,z1,z2,z3,rfl⟩:=jv Nj;simp only[zf2z,zf1z,Option.some.injEq]at hy0 hy1 hy2 hy3;subst hy0 hy1 hy2 hy3;simp only[zf5z,zf4z,zf3z,fM,Vp,bP,zg1z,zf7z,zf8z,zg2z]at h0 h1 h2 h3;obtain⟨k,-,w0,cv0⟩:=Gv (w:=w) Tryz.underlying3 m enc _ _ h0;obtain⟨nm,-,w1,cv1⟩:=DF (w:=w) Tryz.underlying9 m enc _ _ h1;obtain⟨s,-,w2,cv2⟩:=Gv (w:=w) Tryz.underlying3 m enc _ _ h2;cases m with
  |zero=>simp[DataW.trod]at h3
  |succ m =>
   obtain⟨⟨bk,kids⟩,-,w3,cv3⟩:=ET (w:=w) Tryz.underlying39 XY (by omega) (ih m (by omega)) enc _ _ h3;refine⟨.mk k nm s (false,bk) kids,trivial,?_,?_⟩
   .rw[hx1];dsimp only at w0 w1 w2 w3;rw[RE]at w3;simp only[Tm.size,zf9z,zg4z,Rows.uptoBulk,Rows.uptoBulkAll];omega
   .dsimp only at cv0 cv1 cv2 cv3;simp only[I1,FO];rw[j2];exact AN cv0 (AN cv1 (AN cv2 cv3))
def VI (l:List ByteArray):Nat:=(l.map λs=>s.size+1).sum
theorem Om (n:Nat):IR Tryz.prog w 22 (λys:Bool×List ByteArray=>[sl (false,ys.1) 1 (ys.2.map AV.str)]) (λ_=>True) (λys=>VI ys.2) n:=by
 intro H enc cs x hx;cases n with
 |zero=>simp[DataW.trod]at hx
 |succ n =>
  obtain⟨ys,-,h1,h2⟩:=ET (w:=w) (enc:=AV.str) Tryz.underlying22 Vp (by omega) (DF (w:=w) Tryz.underlying9 n) enc _ _ hx;exact⟨ys,trivial,by unfold VI;dsimp only at h1 ⊢;omega,h2⟩
def Vx (f:Fre):Nat:=f.role.size+f.name.size+1
theorem ZX (n:Nat):IR Tryz.prog w 126 (λf:Fre=>(Gq f).cells) (λ_=>True) Vx n:=by
 intro H enc cs x hx;obtain⟨m,xs,rfl,Hn,Nj,hx1,hf⟩:=HW Tryz.underlying126 bO hx;obtain⟨y0,hy0,h0⟩:=hf 0 _ rfl;obtain⟨y1,hy1,h1⟩:=hf 1 _ rfl;obtain⟨y2,hy2,h2⟩:=hf 2 _ rfl;clear hf;obtain⟨v0,v1,v2,rfl⟩:=pH Hn;obtain⟨z0,z1,z2,rfl⟩:=pH Nj;simp only[zf2z,zf1z,Option.some.injEq]at hy0 hy1 hy2;subst hy0 hy1 hy2;simp only[zf5z,zf4z,zf3z,fM,Vp,zg1z,zf7z,zf8z,zg2z]at h0 h1 h2;obtain⟨a,-,w0,cv0⟩:=DF (w:=w) Tryz.underlying9 m enc _ _ h0;obtain⟨b,-,w1,cv1⟩:=DF (w:=w) Tryz.underlying9 m enc _ _ h1;obtain⟨s,-,w2,cv2⟩:=Gv (w:=w) Tryz.underlying3 m enc _ _ h2;refine⟨⟨a,b,s⟩,trivial,?_,AN cv0 (AN cv1 cv2)⟩;rw[hx1];dsimp only at w0 w1 w2;simp only[Vx,zf9z,zg4z,Rows.uptoBulk,Rows.uptoBulkAll];omega
def Sk (s:Ste):Nat:=s.frm.size+s.to.size+s.msg.size+1
theorem Za (n:Nat):IR Tryz.prog w 43 (λs:Ste=>(Q2 s).cells) (λ_=>True) Sk n:=by
 intro H enc cs x hx;obtain⟨m,xs,rfl,Hn,Nj,hx1,hf⟩:=HW Tryz.underlying43 iV hx;obtain⟨y0,hy0,h0⟩:=hf 0 _ rfl;obtain⟨y1,hy1,h1⟩:=hf 1 _ rfl;obtain⟨y2,hy2,h2⟩:=hf 2 _ rfl;obtain⟨y3,hy3,h3⟩:=hf 3 _ rfl;clear hf;obtain⟨v0,v1,v2,v3,v4,v5,v6,rfl⟩:=tJ Hn;obtain⟨z0,z1,z2,z3,rfl⟩:=jv Nj;simp only[zf2z,zf1z,Option.some.injEq]at hy0 hy1 hy2 hy3;subst hy0 hy1 hy2 hy3;simp only[zf5z,zf4z,zf3z,fM,Vp,XY,zg1z,zf7z,zf8z,zg2z]at h0 h1 h2 h3;obtain⟨a,-,w0,cv0⟩:=DF (w:=w) Tryz.underlying9 m enc _ _ h0;obtain⟨b,-,w1,cv1⟩:=DF (w:=w) Tryz.underlying9 m enc _ _ h1;obtain⟨t,-,w2,cv2⟩:=UQ m enc _ _ h2;obtain⟨l,-,w3,cv3⟩:=Gv (w:=w) Tryz.underlying3 m enc _ _ h3;refine⟨⟨a,b,t,l⟩,trivial,?_,?_⟩
 .rw[hx1];dsimp only at w0 w1 w2 w3;simp only[Sk,zf9z,zg4z,Rows.uptoBulk,Rows.uptoBulkAll];omega
 .have:=AN cv0 (AN cv1 (jA cv2 cv3));dsimp only at this ⊢;rw[eK]at this;simpa only[Lr,List.cons_append,List.nil_append]using this
def Rl (g:Gol):Nat:=g.role.size+g.wth.size+Tm.sizes g.data+1
theorem ZY (n:Nat):IR Tryz.prog w 62 (λg:Gol=>(Be g).cells) (λ_=>True) Rl n:=by
 intro H enc cs x hx;obtain⟨m,xs,rfl,Hn,Nj,hx1,hf⟩:=HW Tryz.underlying62 iU hx;obtain⟨y0,hy0,h0⟩:=hf 0 _ rfl;obtain⟨y1,hy1,h1⟩:=hf 1 _ rfl;obtain⟨y2,hy2,h2⟩:=hf 2 _ rfl;obtain⟨y3,hy3,h3⟩:=hf 3 _ rfl;obtain⟨y4,hy4,h4⟩:=hf 4 _ rfl;clear hf;obtain⟨v0,v1,v2,v3,v4,rfl⟩:=pQ Hn;obtain⟨z0,z1,z2,z3,z4,rfl⟩:=pQ Nj;simp only[zf2z,zf1z,Option.some.injEq]at hy0 hy1 hy2 hy3 hy4;subst hy0 hy1 hy2 hy3 hy4;simp only[zf5z,zf4z,zf3z,fM,Vp,bP,zg1z,zf7z,zf8z,zg2z]at h0 h1 h2 h3 h4;obtain⟨k,-,w0,cv0⟩:=Gv (w:=w) Tryz.underlying3 m enc _ _ h0;obtain⟨a,-,w1,cv1⟩:=DF (w:=w) Tryz.underlying9 m enc _ _ h1;obtain⟨b,-,w2,cv2⟩:=DF (w:=w) Tryz.underlying9 m enc _ _ h2;obtain⟨l,-,w4,cv4⟩:=Gv (w:=w) Tryz.underlying3 m enc _ _ h4;cases m with
 |zero=>simp[DataW.trod]at h3
 |succ m =>
  obtain⟨⟨bk,kids⟩,-,w3,cv3⟩:=ET (w:=w) Tryz.underlying39 XY (by omega) (UQ m) enc _ _ h3;refine⟨⟨k,a,b,(false,bk),kids,l⟩,trivial,?_,?_⟩
  .rw[hx1];dsimp only at w0 w1 w2 w3 w4;rw[RE]at w3;simp only[Rl,zf9z,zg4z,Rows.uptoBulk,Rows.uptoBulkAll];omega
  .dsimp only at cv0 cv1 cv2 cv3 cv4;rw[←j2]at cv3;exact AN cv0 (AN cv1 (AN cv2 (AN cv3 cv4)))
def cr (n:Nar):Nat:=n.name.size+VI n.roles+(n.fresh.map Vx).sum+VI n.tags+(n.steps.map Sk).sum+(n.goals.map Rl).sum
theorem ZZ (n:Nat):IR Tryz.prog w 27 (λg:Nar=>(D2 g).cells) (λ_=>True) cr n:=by
 intro H enc cs x hx;obtain⟨m,xs,rfl,Hn,Nj,hx1,hf⟩:=HW Tryz.underlying27 sO hx;obtain⟨y0,hy0,h0⟩:=hf 0 _ rfl;obtain⟨y1,hy1,h1⟩:=hf 1 _ rfl;obtain⟨y2,hy2,h2⟩:=hf 2 _ rfl;obtain⟨y3,hy3,h3⟩:=hf 3 _ rfl;obtain⟨y4,hy4,h4⟩:=hf 4 _ rfl;obtain⟨y5,hy5,h5⟩:=hf 5 _ rfl;clear hf;obtain⟨v0,v1,v2,v3,v4,v5,rfl⟩:=pS Hn;obtain⟨z0,z1,z2,z3,z4,z5,rfl⟩:=pS Nj;simp only[zf2z,zf1z,Option.some.injEq]at hy0 hy1 hy2 hy3 hy4 hy5;subst hy0 hy1 hy2 hy3 hy4 hy5;simp only[zf5z,zf4z,zf3z,Vp,mi,fL,jK,jJ,zg1z,zf7z,zf8z,zg2z]at h0 h1 h2 h3 h4 h5;obtain⟨a,-,w0,cv0⟩:=DF (w:=w) Tryz.underlying9 m enc _ _ h0;obtain⟨⟨b1,roles⟩,-,w1,cv1⟩:=Om m enc _ _ h1;obtain⟨⟨b3,tags⟩,-,w3,cv3⟩:=Om m enc _ _ h3;cases m with
 |zero=>simp[DataW.trod]at h2
 |succ m =>
  obtain⟨⟨b2,fresh⟩,-,w2,cv2⟩:=ET (w:=w) (enc:=Gq) Tryz.underlying23 bO (by omega) (ZX m) enc _ _ h2;obtain⟨⟨b4,steps⟩,-,w4,cv4⟩:=ET (w:=w) (enc:=Q2) Tryz.underlying24 iV (by omega) (Za m) enc _ _ h4;obtain⟨⟨b5,goals⟩,-,w5,cv5⟩:=ET (w:=w) (enc:=Be) Tryz.underlying25 iU (by omega) (ZY m) enc _ _ h5;refine⟨⟨a,(false,b1),roles,(false,b2),fresh,(false,b3),tags,(false,b4),steps,(false,b5),goals⟩,trivial,?_,?_⟩
  .rw[hx1];dsimp only at w0 w1 w2 w3 w4 w5;simp only[cr,zf9z,zg4z,Rows.uptoBulk,Rows.uptoBulkAll];omega
  .exact AN cv0 (AN cv1 (AN cv2 (AN cv3 (AN cv4 cv5))))
theorem ct {n:Nar} (h:cr n<=1048576):Fine n/\Lens n/\Ik n.steps+KY n.goals<=1099511627776:=by
 unfold cr at h;have r1:=Mg (f:=λs:ByteArray=>s.size+1) (λs=>by omega) n.roles;have r2:=Mg (f:=Vx) (λs=>by unfold Vx;omega) n.fresh;have r3:=Mg (f:=λs:ByteArray=>s.size+1) (λs=>by omega) n.tags;have r4:=Mg (f:=Sk) (λs=>by unfold Sk;omega) n.steps;have r5:=Mg (f:=Rl) (λs=>by unfold Rl;omega) n.goals;unfold VI at h;have m1:∀s∈n.roles,s.size<=1048576:=λs hs=>by have:=KX (f:=λs:ByteArray=>s.size+1) hs;omega
 have m2:∀f∈n.fresh,f.role.size<=1048576/\f.name.size<=1048576:=λs hs=>by have:=KX (f:=Vx) hs;unfold Vx at this h;omega
 have m3:∀s∈n.tags,s.size<=1048576:=λs hs=>by have:=KX (f:=λs:ByteArray=>s.size+1) hs;omega
 have m4:∀s∈n.steps,s.frm.size<=1048576/\s.to.size<=1048576/\s.msg.size<=1048576:=λs hs=>by have:=KX (f:=Sk) hs;unfold Sk at this h;omega
 have m5:∀g∈n.goals,g.role.size<=1048576/\g.wth.size<=1048576/\Tm.sizes g.data<=1048576:=λs hs=>by have:=KX (f:=Rl) hs;unfold Rl at this h;omega
 have q1:Ik n.steps<=(n.steps.map Sk).sum:=by
  generalize n.steps=l
  induction l with
  |nil=>simp[Ik]
  |cons a l ih=>simp only[Ik,zf9z,zt3z,Sk];omega
 have q2:KY n.goals<=(n.goals.map Rl).sum:=by
  generalize n.goals=l
  induction l with
  |nil=>simp[KY]
  |cons a l ih=>simp only[KY,zf9z,zt3z,Rl];omega
 refine⟨⟨by omega,λs hs=>by have:=m1 s hs;omega,by omega,λs hs=>by have:=m2 s hs;omega,by omega,λs hs=>by have:=m3 s hs;omega,by omega,λs hs=>by have:=m4 s hs;omega,by omega,λs hs=>by have:=m5 s hs;omega,by omega⟩,⟨by omega,by omega,by omega,λg hg=>by have:=m5 g hg;have:=Tm.length_le g.data;omega⟩,by omega⟩
end Go.Abs.Q
namespace Go.Abs.Q
open Go.Proofs Go.WideShapes
open Go.Proofs.YtjhgilockkmniaaGreatDoor (Rows.uptoBulk Rows.uptoBulkAll)
variable {w:World}
theorem iz {w:World} {cs:C6} {us:Array Value} (h:CV w cs us.toList):PV w (eY w) (.agg cs) (.agg us):=by
 simp only[PV];exact⟨us,rfl,h.2,h.1⟩
theorem LZ {P:Program} {W:World}:∀{l:List (String×DataW Unit)} {ps:List MemPlace},DataW.LaidVars P W l ps->∀{n:String} {d:DataW Unit},(n,d)∈l ->
  ∃(g:Nat) (t:TypeId) (cs:Array Value) (fuel:Nat) (p:List MemPlace),P.globalNamed n=some g/\(P.globals[g]?).map (·.type)=some t/\W.var? P n=some cs/\DataW.trod (λ_=>()) P W 0 (λ_=>true) false fuel t cs.toList=some (d,p)
 |(n',d')::l,ps,h,n,d,hm=>by
  obtain⟨g,t,cs,fuel,p,q,h1,h2,h3,h4,h5,_⟩:=h;rcases zg6z.1 hm with e|hm
  .cases e;exact⟨g,t,cs,fuel,p,h1,h2,h3,h4⟩
  .exact LZ h5 hm
theorem Pp {W:World} {l:List (String×DataW Unit)} {ps:List MemPlace} (h:DataW.LaidVars Tryz.prog W l ps) (hm:("sealring/term.words",(Go.Proofs.YtjhgilockkmniaaGreatDoor.Rows.laid_sealring_term_words:DataW Unit))∈l):Cc W (eY W):=by
 obtain⟨g,t,cs,fuel,p,h1,h2,h3,h4⟩:=LZ h hm;obtain rfl:g=2:=Option.some.inj ((show Tryz.prog.globalNamed "sealring/term.words"=some 2 by kernel_rfl).symm.trans h1) |>.symm;obtain rfl:t=22:=Option.some.inj ((show (Tryz.prog.globals[2]?).map (·.type)=some 22 by kernel_rfl).symm.trans h2) |>.symm;rcases DataW.trod_slice Tryz.underlying22 h4 with ⟨_,hx⟩|⟨a,len,cap,elems,rest,n,-,w8,hx,-,hlc,hcm,Jp,hrd,-⟩
 .cases hx
 .have hc0:cs[0]?=some (.slice (some a) len cap):=by
   rw[←Array.getElem?_toList,w8];rfl
  have hcell:W.cell? ⟨2,0,none⟩=some (.slice (some a) len cap):=(World.var?_cell h1 h3 0).trans hc0;have hd:elems.map (·.1)=[.lit (.string [97,110,121]),.lit (.string [97,103,101,110,116]),.lit (.string [110,111,110,99,101]),.lit (.string [107,101,121]),.lit (.string [100,97,116,97]),.lit (.string [116,97,103])]:=by
   have:=congrArg Prod.fst hx;unfold Go.Proofs.YtjhgilockkmniaaGreatDoor.Rows.laid_sealring_term_words at this;injection this with e1 e2
   exact e1.symm
  have hl6:len=6:=by
   rw[←Jp];have:=congrArg List.length hd;simpa using this
  intro x hx;unfold Xh at hx;rw[zg7z]at hx;subst hx;simp only[PV,Bo];refine⟨_,_,rfl,⟨_,World.block_lt_of_cell? _ _ hcell,hcell,rfl,?_⟩,trivial⟩;refine iR (by rw[hl6];rfl) hlc hcm (by decide) λi x hi=>?_;have hi6:i<6:=by
   have:=(List.getElem?_eq_some_iff.1 hi).1;simpa using this
  have hr:=hrd i (by omega);rw[Vp]at hr;have Fn:i<elems.length:=by omega
  rw[zf6z Fn]at hr;obtain⟨c,hc1,hc2⟩:=Option.bind_eq_some_iff.1 hr;obtain⟨s,rfl,hs2,-⟩:=DataW.trod_string Tryz.underlying9 hc2;have hdi:(elems.map (·.1))[i]?=some (.lit (.string s.data.toList)):=by
   rw[List.getElem?_map,zf6z Fn,hs2];rfl
  rw[hd]at hdi;have hx':x=.str s:=by
   have key:∀b:List UInt8,s.data.toList=b->s=⟨b.toArray⟩:=λb hb=>by
    obtain⟨d⟩:=s;obtain⟨d⟩:=d;simp only at hb;rw[hb]
   match i,hi6 with
   |0,_=>simp at hdi hi;rw[←hi,key _ hdi.symm]
   |1,_=>simp at hdi hi;rw[←hi,key _ hdi.symm]
   |2,_=>simp at hdi hi;rw[←hi,key _ hdi.symm]
   |3,_=>simp at hdi hi;rw[←hi,key _ hdi.symm]
   |4,_=>simp at hdi hi;rw[←hi,key _ hdi.symm]
   |5,_=>simp at hdi hi;rw[←hi,key _ hdi.symm]
  subst hx';exact⟨[.string s],hc1,Ly (by simp[PV]) rfl⟩
end Go.Abs.Q
namespace Go.Proofs.YtjhgilockkmniaaGreatDoor
open Go.ChangeShapes Go.WideShapes Go.ChangeAt Go.RowKit Go.Abs Go.Abs.Q
theorem own:ownKnob Tryz.prog.godebug=none:=by kernel_rfl
theorem laidOut:laidOutB Tryz.prog=true:=by kernel_rfl
def iW:DataW Unit->List Value
 | .lit (.int k n)=>[.int k n]
 | .lit (.string l)=>[.string ⟨l.toArray⟩]
 |_=>[]
def QM:DataW Unit->List Value
 | .agg l=>l.flatMap iW
 | .slice l _=>l.flatMap iW
 |_=>[]
def mr:DataW Unit->List Value
 | .agg l=>l.flatMap QM
 |_=>[]
def Gs (l:List Value):Obj->Obj
 | .cells _ t frozen=>.cells l.toArray t frozen
 |o=>o
noncomputable def MP (os:Os):World :=
 {World.holding Tryz.prog os ⟨#[],#[],[]⟩with heap:=(((((((World.holding Tryz.prog os ⟨#[],#[],[]⟩).heap.modify 3 (Gs (QM Rows.laid_math_bits_deBruijn32tab))).modify 4 (Gs (QM Rows.laid_math_bits_deBruijn64tab))).modify 1 (Gs (QM Rows.laid_internal_strconv_uint64pow10))).modify 6 (Gs (mr Rows.laid_unicode_utf8_acceptRanges))).modify 5 (Gs (QM Rows.laid_unicode_utf8_first))).modify 2 (Gs [.slice (some ⟨(World.holding Tryz.prog os ⟨#[],#[],[]⟩).heap.size,0,none⟩) 6 6])).push (.cells (QM Rows.laid_sealring_term_words).toArray 9 (0,0))}
theorem Rk {W:World} {l:List (String×DataW Unit)} (h:laidMetH Tryz.prog l W) (hf:(l.filter λx=>x.2.handleName?.isSome)=[]) (hm:("sealring/term.words",(Rows.laid_sealring_term_words:DataW Unit))∈l):Cc W (eY W):=by
 unfold laidMetH at h;rw[hf]at h;obtain⟨ps,hv,_⟩:=h;exact Pp hv hm
end Go.Proofs.YtjhgilockkmniaaGreatDoor
namespace Go.Abs
section
variable {α ρ:Type} [DecidableEq ρ] {fr tt:α->ρ}
def Mh (fr tt:α->ρ) (r:ρ) (s:α):Bool:=decide (fr s=r)||decide (tt s=r)
def Wq (fr tt:α->ρ) (r:ρ) (l:List α):List α:=l.filter (Mh fr tt r)
def fA (fr tt:α->ρ) (a b:α):Bool:=Mh fr tt (fr a) b||Mh fr tt (tt a) b
theorem XJ (s:α):Mh fr tt (fr s) s=true:=by simp[Mh]
theorem Lt {r:ρ} {s:α}:Mh fr tt r s=true↔r=fr s\/r=tt s:=by
 simp only[Mh,zt1z,decide_eq_true_eq];constructor<;>(rintro(h|h)<;>simp[h])
theorem Mn {p:α->Bool}:∀{l:List α} {y:α} {t:List α},l.filter p=y::t->∃P S,l=P++y::S/\(∀q∈P,p q=false)/\p y=true
 | [],y,t,h=>by simp at h
 |a::l,y,t,h=>by
  by_cases ha:p a=true
  .rw[zf0z ha]at h;simp only[List.cons.injEq]at h;obtain⟨rfl,_⟩:=h;exact⟨[],l,rfl,by simp,ha⟩
  .rw[zg3z ha]at h;obtain⟨P,S,e,h1,h2⟩:=Mn h;refine⟨a::P,S,by rw[e];rfl,λq hq=>?_,h2⟩;rcases zg6z.1 hq with rfl|hq
   .simpa using ha
   .exact h1 q hq
def EZ (fr tt:α->ρ):List α->Prop
 | []=>True
 | [_]=>True
 |a::b::l=>fA fr tt a b=true/\EZ fr tt (b::l)
theorem EZ.tail {a:α} {l:List α} (h:EZ fr tt (a::l)):EZ fr tt l:=by
 cases l with
 |nil=>trivial
 |cons b l=>exact h.2
theorem EZ.mid:∀{P:List α} {a b:α} {S:List α},EZ fr tt (P++a::b::S)->fA fr tt a b=true
 | [],a,b,S,h=>h.1
 |p::P,a,b,S,h=>EZ.mid (P:=P) (EZ.tail h)
theorem QQ:∀{X Y:List α},EZ fr tt X->Y.length=X.length->(∀r,Wq fr tt r Y=Wq fr tt r X)->Y=X
 | [],Y,_,hl,_=>List.eq_nil_of_length_eq_zero hl
 |x::X,[],_,hl,_=>by simp at hl
 |x::X,y::Y,hc,hl,hp=>by
  have h1:(x::X).filter (Mh fr tt (fr y))=y::Y.filter (Mh fr tt (fr y)):=by
   have:=hp (fr y);unfold Wq at this;rw[←this,zf0z (XJ y)]
  obtain⟨P,S,e,hP,_⟩:=Mn h1;have hxy:x=y:=by
   rcases List.eq_nil_or_concat P with rfl|⟨P',p,rfl⟩
   .simp at e;exact e.1
   .exfalso
    rw[zg5z,zg8z]at e;have hsh:fA fr tt p y=true:=by
     rw[e]at hc;exact EZ.mid (P:=P') hc
    have hpn:Mh fr tt (fr y) p=false:=hP p (by simp);have hd:Mh fr tt (tt y) p=true:=by
     unfold fA at hsh;rw[zt1z]at hsh;have key:∀r,Mh fr tt r p=true->Mh fr tt r y=true->Mh fr tt (tt y) p=true:=by
      intro r hr hr';rcases Lt.1 hr' with rfl|rfl
      .rw[hpn]at hr;cases hr
      .exact hr
     rcases hsh with h|h
     .exact key _ (XJ p) h
     .exact key _ (Lt.2 (.inr rfl)) h
    have h2:(x::X).filter (Mh fr tt (tt y))=y::Y.filter (Mh fr tt (tt y)):=by
     have:=hp (tt y);unfold Wq at this;rw[←this,zf0z (Lt.2 (.inr rfl))]
    rw[e,zg0z]at h2;have T6:P'.filter (Mh fr tt (tt y))++[p].filter (Mh fr tt (tt y))≠[]:=by simp[zg9z,hd]
    obtain⟨q,t,hq⟩:=List.exists_cons_of_ne_nil T6;rw[show ([p]++y::S)=[p]++(y::S) from rfl,zg0z,←zg8z,hq]at h2;have hqy:q=y:=by simp at h2;exact h2.1
    have hm:q∈P'.filter (Mh fr tt (tt y))++[p].filter (Mh fr tt (tt y)):=by rw[hq];simp
    have hm':q∈P'++[p]:=by
     rw[List.mem_append]at hm ⊢;rcases hm with hm|hm
     .exact .inl (zt2z.1 hm).1
     .exact .inr (zt2z.1 hm).1
    have:=hP q (by rw[zg5z];exact hm');rw[hqy,XJ]at this;cases this
  subst hxy;have:=QQ (X:=X) (Y:=Y) hc.tail (by simpa using hl) λr=>by
   have:=hp r;unfold Wq at this ⊢;by_cases hr:Mh fr tt r x=true
   .rw[zf0z hr,zf0z hr]at this;simpa using this
   .rwa [zg3z hr,zg3z hr]at this
  rw[this]
theorem XH {A B:List α} {a b:α} (h:fA fr tt a b=false) (r:ρ):Wq fr tt r (A++b::a::B)=Wq fr tt r (A++a::b::B):=by
 unfold Wq;rw[zg0z,zg0z];congr 1;unfold fA at h;rw[Bool.or_eq_false_iff]at h;by_cases ha:Mh fr tt r a=true
 .have hb:Mh fr tt r b=false:=by
   rcases Lt.1 ha with rfl|rfl
   .exact h.1
   .exact h.2
  simp[zg9z,ha,hb]
 .have ha:Mh fr tt r a=false:=by simpa using ha
  cases hb:Mh fr tt r b<;>simp[zg9z,ha,hb]
theorem Ql:∀{X:List α},¬EZ fr tt X->∃A a b B,X=A++a::b::B/\fA fr tt a b=false
 | [],h=>absurd trivial h
 | [_],h=>absurd trivial h
 |a::b::l,h=>by
  by_cases hs:fA fr tt a b=true
  .obtain⟨A,a',b',B,e,h1⟩:=Ql (X:=b::l) λhc=>h ⟨hs,hc⟩;exact⟨a::A,a',b',B,by rw[e];rfl,h1⟩
  .exact⟨[],a,b,l,rfl,by simpa using hs⟩
end
end Go.Abs
