/- A part of the proof. -/
import Derived.Test.YtnnjamknplefbaaGreatDoorTS23
import Derived.Test.YtnnjamknplefbaaGreatDoorTS24
set_option linter.all false
open List renaming all_eq_true->zf0z,getElem?_cons_zero->zf3z,contains_eq_mem->zf5z,mem_singleton->zf6z,mem_filter->zg0z,mem_map->zg2z,range->zg3z
open Bool renaming and_eq_true->zf1z,or_eq_true->zf4z,not_eq_true'->zf7z,and_self->zf8z,not_false->zg1z
open Option renaming map_some->zf2z
open Nat renaming le_refl->zf9z
set_option linter.all false
namespace Go.Proofs
open Go.RowKit Go.Abs Go.Abs.Q
theorem Hf.of{w:World}{ok:Nat->Nat->Prop}{B:Nat}(hg:DC w ok)(T9:∀b o,ok b o->b<B):Hf B w:=by
 have h:=hg (0,_) (by unfold iG;exact zf6z.2 rfl);simp only[PV,Ae]at h;obtain⟨b,o,he,⟨u,h1,h2,h3,h4⟩,-⟩:=h;cases he;obtain⟨a,len,cap,rfl,J3,hc,hm,_,_,hx⟩:=h4;obtain⟨wb,wo,rfl,hz,hp⟩:=hx (by simp);have hl:len=6:=J3;subst hl;have hw:∀j,j<6->ok wb (wo+j)/\w.cell? ⟨wb,wo+j,none⟩=some (.string ⟨(HE.getD j []).toArray⟩):=λj hj=>by
  obtain⟨s,hs,hse⟩:∃s:ByteArray,(([[97,110,121],[97,103,101,110,116],[110,111,110,99,101],[107,101,121],[100,97,116,97],[116,97,103]]:List (List Nat)).map λl=>AV.str ⟨(l.map UInt8.ofNat).toArray⟩)[j]?=some (.str s)/\s=⟨(HE.getD j []).toArray⟩:=by
   match j,hj with
   |0,_=>exact⟨_,rfl,rfl⟩
   |1,_=>exact⟨_,rfl,rfl⟩
   |2,_=>exact⟨_,rfl,rfl⟩
   |3,_=>exact⟨_,rfl,rfl⟩
   |4,_=>exact⟨_,rfl,rfl⟩
   |5,_=>exact⟨_,rfl,rfl⟩
  obtain⟨-,p2⟩:=IM hp hs;obtain⟨u,k1,k2,k3,k4⟩:=Af p2 (j:=0) rfl;simp only[PV]at k4;subst k4 hse;rw[Nat.mul_one,Nat.add_zero]at k1 k2;exact⟨k1,k2⟩
 exact⟨wb,wo,cap,T9 _ _ (hw 0 (by omega)).1,T9 _ _ h1,h2,λj hj=>(hw j hj).2⟩
set_option maxHeartbeats 8000000 in
set_option maxRecDepth 100000 in
theorem Tryz.format_ok(t:Tm)(hv:EL t=0)(T9:Ta t=true)(Y3:t.size<=1048576)(J3:(Km t).length+100<=140737488355328)(w:World)(ok0:Nat->Nat->Prop)(vt:Value)(hk:∀b o,ok0 b o->b<w.heap.size)(hG:DC w ok0)(hp:PV w ok0 (U6 t) vt) :
  Calls Tryz.prog 56 #[vt] w λe w'=>e=.returned (.tuple #[.string ⟨(Km t).toArray⟩,.int .i64 0])/\Below w.heap.size w w'/\(VZ=true->w.drawn<=w'.drawn):=by
 have hV:=OV t (by omega);rw[hv]at hV;obtain⟨k,n,s,m,ts⟩:=t;obtain⟨a,len,cap,rfl,rfl,-⟩:=NJ hp;have hb0:=(Below.refl w.heap.size w).alloc (zf9z _) (.cells #[.int .i64 k,.string n,.int .i64 s,.slice a ts.length cap] 28);have hst0:∀b o,ok0 b o->ok0 b o/\El w (w.alloc (.cells #[.int .i64 k,.string n,.int .i64 s,.slice a ts.length cap] 28)) b o:=λb o h=>⟨h,hb0.cell (p:=⟨b,o,none⟩) (hk b o h),λes clk he=>by rw[hb0.block b (hk b o h)];exact he⟩;have hp0:=x7 hst0 _ _ hp;have hC:=λ(hh:Aj (w.alloc (.cells #[.int .i64 k,.string n,.int .i64 s,.slice a ts.length cap] 28)) ok0 [U6 (.mk k n s m ts)] (#[Value.agg #[.int .i64 k,.string n,.int .i64 s,.slice a ts.length cap]]:Array Value).toList)=>OU QS hV (w.alloc (.cells #[.int .i64 k,.string n,.int .i64 s,.slice a ts.length cap] 28)) ok0 _ (λb o h=>by have:=hk b o h;simp;omega) (hG.mono hst0) hh;have hC':=hC (by simp only[Aj];exact⟨_,_,rfl,hp0,rfl⟩);clear hC;have box:∀w1,Below (w.alloc (.cells #[.int .i64 k,.string n,.int .i64 s,.slice a ts.length cap] 28)).heap.size (w.alloc (.cells #[.int .i64 k,.string n,.int .i64 s,.slice a ts.length cap] 28)) w1->∀i,(w1.alloc (.cells #[.pointer none,.slice none 0 0] 196)).cell? ⟨w.heap.size,i,none⟩=#[.int .i64 k,.string n,.int .i64 s,.slice a ts.length cap][i]?:=λw1 hb i =>
  have G9:w.heap.size<w1.heap.size:=by have:=hb.size;simp at this;omega
  Lib.cell_of_heap ((Lib.alloc_old w1 _ _ G9).trans ((hb.block w.heap.size (by simp)).trans (show (w.heap.push _)[w.heap.size]?=some (.cells _ 28 (0,0)) from Array.getElem?_push_size))) i
 go_enter Tryz.func56,Tryz.ntmps56
 go_wp2_with (first
  |(go_at_call 48;refine hC'.mono ?_;rintro e w1 ⟨u,rfl,⟨hb1,hd1⟩,hu⟩;simp only[PV]at hu;subst hu;have c0:=box w1 hb1 0;have c1:=box w1 hb1 1;have c2:=box w1 hb1 2;have c3:=box w1 hb1 3;have L1:w.heap.size<=w1.heap.size:=(by have:=hb1.size;simp at this;omega);have hbW:=(hb0.trans (hb1.mono (by simp))).alloc L1 (.cells #[.pointer none,.slice none 0 0] 196);have hst2:=λb o (h:ok0 b o)=>(⟨Nat.lt_of_lt_of_le (hk b o h) L1,hbW.cell (p:=⟨b,o,none⟩) (hk b o h),λes clk he=>by rw[hbW.block b (hk b o h)];exact he⟩:(b<w1.heap.size)/\El w _ b o))
  |(go_at_call 126;refine(Tryz.write_ok w1.heap.size w1.heap.size _ (.mk k n s m ts) (zf9z _) Y3 T9 [] _ _ (Lib.fresh_isBuilder 196 5 w1) (x7 (ok':=λx _=>x<w1.heap.size) hst2 _ _ hp) (by simp;omega) (by simp) (Hf.of (hG.mono (ok':=λx _=>x<w1.heap.size) hst2) (λ_ _ h=>h))).mono ?_;rintro e w3 ⟨rfl,h3,hb3,hap3⟩)
  |(go_at_call 127;refine(Tryz.bldString w1.heap.size w1.heap.size _ _ (.inr h3) (by have:=hb3.size;simp at this;omega)).mono ?_;rintro e w4 ⟨rfl,hb4,hd4⟩))
 go_ret2
 refine⟨rfl,hbW.trans ((hb3.trans hb4).mono L1),λhd=>?_⟩;have a1:=hd1 hd;have a3:=hap3.drawn;simp only[World.drawn_alloc]at a1 a3;omega
def wO(t:Tm):Bool:=decide (EL t=0)&&Ta t&&decide (t.size<=1000)&&decide ((Km t).length<=1000000)
def ML:List AV->Option AV
 | [a]=>match cA a with|some t=>if wO t=true then some (.tup [.str ⟨(Km t).toArray⟩,.int .i64 0])else none|none=>none
 |_=>none
theorem Tryz.spec_format(args:List AV)(r:AV)(h:ML args=some r)(w:World)(ok0:Nat->Nat->Prop)(vs:Array Value)(hk:∀b o,ok0 b o->b<w.heap.size)(hG:DC w ok0)(hv:Aj w ok0 args vs.toList) :
  Calls Tryz.prog 56 vs w λe w'=>∃u,e=.returned u/\Bl w.heap.size w w'/\PV w' (λb o=>ok0 b o\/(w.heap.size<=b/\b<w'.heap.size)) r u:=by
 unfold ML at h;split at h
 .rename_i a;split at h
  .rename_i t ht;split at h
   .rename_i hb;cases h;unfold wO at hb;simp only[zf1z,decide_eq_true_eq]at hb;obtain⟨⟨⟨b1,b2⟩,b3⟩,b4⟩:=hb;rw[←RV ht]at hv;obtain⟨vs⟩:=vs;simp only[Aj]at hv;obtain⟨u,us,rfl,hu,rfl⟩:=hv;refine(Tryz.format_ok t b1 b2 (by omega) (by omega) w ok0 u hk hG hu).mono λe w' ⟨he,hb,hdr⟩=>?_;refine⟨_,he,⟨hb,hdr⟩,?_⟩;simp only[PV,Aj];exact⟨_,rfl,_,_,rfl,rfl,_,_,rfl,rfl,rfl⟩
   .cases h
  .cases h
 .cases h
end Go.Proofs
namespace Go.Abs.Q
open Go.Proofs
def TO(f:FuncId):Option (List AV->Option AV):=if f=X4 then some ML else HC f
noncomputable def Qf:Cfg:=⟨Q5,C2,TO,NG⟩
theorem aQ:∀n,Le (orc Q n) (orc Qf n)
 |0=>⟨λf a r h=>(nomatch h),λf a g r h=>(nomatch h),λs s' t x _ h=>(nomatch h)⟩
 |n+1=>by
  have ih:=aQ n;have hr:∀(f:FuncId) (args:List AV) (h:AH) (x:AV×AH),EW Q (orc Q n) f args h=some x->EW Qf (orc Qf n) f args h=some x:=λf args h x he=>by
   have:=MG (C:=Q) ih he;exact this
  refine⟨λf args r he=>?_,λf args h x he=>?_,λs s' t x hs he=>ER hs (zf9z _) he⟩
  .change Ck Q (orc Q n) f args=some r at he;show Ck Qf (orc Qf n) f args=some r;unfold Ck at he ⊢;by_cases hf:f=X4
   .subst hf;have e1:Q.spec X4=none:=rfl;have e2:Q.code X4=none:=rfl;have e3:Q.rspec X4=none:=rfl;rw[e1]at he;simp only[EW,e2,e3]at he;cases he
   .have e1:Qf.spec f=Q.spec f:=if_neg hf;rw[e1];cases hs:Q.spec f with
    |some s=>rw[hs]at he;exact he
    |none =>
     rw[hs]at he;simp only at he ⊢;cases hq:EW Q (orc Q n) f args AH.empty with
     |none=>rw[hq]at he;cases he
     |some y=>rw[hq]at he;rw[hr f args AH.empty y hq];exact he
  .change OY Q (orc Q n) f args h=some x at he;show OY Qf (orc Qf n) f args h=some x;unfold OY at he ⊢;cases hq:EW Q (orc Q n) f args h with
   |none=>rw[hq]at he;unfold Pp at he;split at he<;>cases he
   |some y =>
    rw[hq]at he;rw[hr f args h y hq];exact he
theorem IZ{f:FuncId}{args:I7}{r:AV}(h:pc Q f args=some r):pc Qf f args=some r:=by
 obtain⟨n,hn⟩:=Pk Q h;exact Xj Qf ((aQ n).pure f args r hn)
theorem QfS:CfgS Tryz.prog Qf:=by
 refine⟨QS.code,λf s hs args r hr=>?_,QS.mixed,QS.rspec⟩;have hs':TO f=some s:=hs;unfold TO at hs';split at hs'
 .rename_i hf;subst hf;cases hs';exact⟨by kernel_rfl,λw ok0 vs hk hG hv=>Tryz.spec_format args r hr w ok0 vs hk hG hv⟩
 .exact QS.spec f s hs' args r hr
theorem oh(f:FuncId)(args:I7)(r:AV)(h:X6 f args=some r):pc Qf f args=some r:=IZ (ge f args r h)
end Go.Abs.Q
namespace Go.Abs
theorem kD{O:Orc}{c:Ctx}{bs:List Nat}{ops:List RO}{fr G6:Fr}{h h':AH}{fs:List Foot}{Ψ:Ex->Fr->AH->Prop}(he:P3 O c ops fr (h.holes (Tu ops))=some (fs,G6,h'))(hp:Bu O c bs ops fr (h.holes (Tu ops)) fs=true)(hΨ:Ψ .normal G6 h') :
  L9 (A8 O c (.regd bs ops) (fr,h)) Ψ:=by
 have e:A8 O c (.regd bs ops) (fr,h)=some (.normal,(G6,h')):=by
  simp only[A8,he,hp,Bool.or_true,if_true]
 rw[e];simpa using hΨ
structure FLe (f g:Foot):Prop where
 rb:f.rb=g.rb
 wb:∀x∈f.wb,x∈g.wb
 rf:f.rf=g.rf
 wf:∀x∈f.wf,x∈g.wf
theorem ID{r:Option (List (Option Nat))}{w w':List (Option Nat)}(h:W7 r w'=true)(k:∀x∈w,x∈w'):W7 r w=true:=by
 cases r with
 |none =>
  cases w with
  |nil=>rfl
  |cons x w =>
   have:=k x List.mem_cons_self;cases w' with
   |nil=>cases this
   |cons _ _=>exact absurd h (by simp[W7])
 |some r =>
  simp only[W7,zf0z]at h ⊢;exact λx hx=>h x (k x hx)
theorem Rg{a b w:List (Option Nat)}(h:W7 (some b) w=true)(k:∀x∈a,x∈b):W7 (some a) w=true:=by
 simp only[W7,zf0z,zf7z,zf5z,decide_eq_false_iff_not]at h ⊢;exact λx hx hm=>h x hx (k x hm)
theorem MX{f g f' g':Foot}(h:FLe f g)(h':FLe f' g')(k:P4 g g'=true):P4 f f'=true:=by
 simp only[P4,zf1z]at k ⊢;obtain⟨⟨⟨⟨⟨k1,k2⟩,k3⟩,k4⟩,k5⟩,k6⟩:=k;refine⟨⟨⟨⟨⟨?_,?_⟩,?_⟩,?_⟩,?_⟩,?_⟩
 .rw[h.rb];exact ID k1 h'.wb
 .rw[h'.rb];exact ID k2 h.wb
 .exact Rg (ID k3 h'.wb) h.wb
 .rw[h.rf];exact ID k4 h'.wf
 .rw[h'.rf];exact ID k5 h.wf
 .exact Rg (ID k6 h'.wf) h.wf
def nO:List Foot->List Foot->Prop
 | [],[]=>True
 |f::fs,g::gs=>FLe f g/\nO fs gs
 |_,_=>False
theorem nO.get:∀{fs gs:List Foot},nO fs gs->∀{i:Nat} {g:Foot},gs[i]?=some g->∃f,fs[i]?=some f/\FLe f g
 | [],[],_,i,g,h=>by simp at h
 |f::fs,g'::gs,hl,0,g,h=>by
  simp only[zf3z,Option.some.injEq]at h;subst h;exact⟨f,rfl,hl.1⟩
 |f::fs,g'::gs,hl,i+1,g,h=>by
  simpa using nO.get hl.2 (i:=i) (by simpa using h)
theorem PO(a:List (List AV)):HM a a=[]:=by
 have:∀i:Nat,IU a[i]? a[i]?=true:=λi=>by
  cases a[i]? with
  |none=>rfl
  |some x=>exact R9 x
 simp[HM,this]
theorem di(x:Option Fam):Hh x x=true:=by
 cases x with
 |none=>rfl
 |some x=>simp[Hh,R9]
theorem IE(a:List Fam):JT a a=[]:=by
 simp[JT,di]
theorem LH(a:List (List AV))(k:Nat)(c:I7):∀x∈HM a (a.set k c),x∈[some k]:=by
 intro x hx;simp only[HM,List.length_set,if_true,List.nil_append,zg2z,zg0z]at hx;obtain⟨i,⟨_,h2⟩,rfl⟩:=hx;by_cases hik:k=i
 .subst hik;simp
 .rw[List.getElem?_set_ne hik]at h2;have:IU a[i]? a[i]?=true:=by
   cases a[i]? with
   |none=>rfl
   |some x=>exact R9 x
  rw[this]at h2;cases h2
def ZQ(O:Orc)(c:Ctx)(ops:List RO)(fr:Fr)(h:AH)(gs:List Foot)(G6:Fr)(h':AH):Prop:=∃fs,P3 O c ops fr h=some (fs,G6,h')/\nO fs gs
section
variable {O:Orc} {c:Ctx} {fr G6:Fr} {h h':AH} {gs:List Foot}
theorem ZQ.nil:ZQ O c [] fr h [] fr h:=⟨[],rfl,trivial⟩
theorem ZQ.r{d:Option Nat}{op:ROp}{rest:List RO}{v:AV}{rb rf:List (Option Nat)}(he:A0 O c op fr h=some (v,h))(h1:FG c h.boxes.length (get fr) op=some rb)(h2:Db c (get fr) op=some rf)(hr:ZQ O c rest (put fr d v) h gs G6 h') :
  ZQ O c (⟨d,op,none⟩::rest) fr h (⟨some rb,[],some rf,[]⟩::gs) G6 h':=by
 obtain⟨fs,e,l⟩:=hr;refine⟨o8 c ⟨d,op,none⟩ fr h h::fs,?_,?_,l⟩
 .simp only[P3,P1,he,e,zf2z]
 .refine⟨h1,?_,h2,?_⟩
  .show ∀x∈HM h.boxes h.boxes,x∈[];rw[PO];exact λ_ h=>h
  .show ∀x∈JT h.fams h.fams,x∈[];rw[IE];exact λ_ h=>h
theorem ZQ.w{d:Option Nat}{op:ROp}{rest:List RO}{v:AV}{k:Nat}{cs:I7}{rb rf:List (Option Nat)}(he:A0 O c op fr h=some (v,⟨h.boxes.set k cs,h.fams⟩))(h1:FG c h.boxes.length (get fr) op=some rb)(h2:Db c (get fr) op=some rf)(hr:ZQ O c rest (put fr d v) ⟨h.boxes.set k cs,h.fams⟩ gs G6 h') :
  ZQ O c (⟨d,op,none⟩::rest) fr h (⟨some rb,[some k],some rf,[]⟩::gs) G6 h':=by
 obtain⟨fs,e,l⟩:=hr;refine⟨o8 c ⟨d,op,none⟩ fr h ⟨h.boxes.set k cs,h.fams⟩::fs,?_,?_,l⟩
 .simp only[P3,P1,he,e,zf2z]
 .refine⟨h1,?_,h2,?_⟩
  .exact LH _ _ _
  .show ∀x∈JT h.fams h.fams,x∈[];rw[IE];exact λ_ h=>h
end
def Foot.map(f:Nat->Nat)(x:Foot):Foot:=⟨x.rb.map (·.map (·.map f)),x.wb.map (·.map f),x.rf.map (·.map (·.map f)),x.wf.map (·.map f)⟩
def qz:Foot:=⟨some [],[],some [],[]⟩
theorem Bk(w:List (Option Nat)):(w.all λx=>!([]:List (Option Nat)).contains x)=true:=by simp
inductive FK
 |nil
 |fl
 |pu
 |ro
 |rw
 |al (k:Nat)
 |sb (k:Nat)
 |rb (k:Nat)
 |cl (L:List Nat)
 |fw
 |bw
 |any
deriving DecidableEq
def FK.ap1:FK->FK->Bool
 | .nil,_=>true
 | .fl,_=>true
 | .pu,_=>true
 | .ro,.ro=>true
 | .ro,.rw=>true
 | .ro,.rb _=>true
 | .rw,.rw=>true
 | .rw,.rb _=>true
 | .rw,.al _=>true
 | .rw,.sb _=>true
 | .rb _,.rb _=>true
 | .rb i,.al j=>i != j
 | .rb i,.sb j=>i != j
 | .rb i,.cl L=>L.contains i
 | .al i,.al j=>i != j
 | .al i,.sb j=>i != j
 | .sb i,.sb j=>i != j
 | .fw,.bw=>true
 | .fw,.rb _=>true
 | .fw,.al _=>true
 | .fw,.sb _=>true
 |_,_=>false
def FK.apart(a b:FK):Bool:=a.ap1 b||b.ap1 a
def Nh(ix:Nat->Nat):FK->Foot->Prop
 | .nil,g=>g=qz
 | .fl,g=>g=qz
 | .pu,g=>g=qz
 | .ro,g=>g.wb=[]/\g.wf=[]
 | .rw,g=>g.rb=some []/\g.wb=[]/\g.wf=[]
 | .al k,g=>(∃L,g.rb=some L/\∀x∈L,x=none\/x=some (ix k))/\(∀x∈g.wb,x=some (ix k))/\g.rf=some []/\g.wf=[]
 | .sb k,g=>(∃L,g.rb=some L/\∀x∈L,x=some (ix k))/\(∀x∈g.wb,x=some (ix k))/\g.rf=some []/\g.wf=[]
 | .rb k,g=>(∃L,g.rb=some L/\∀x∈L,x=some (ix k))/\g.wb=[]/\g.rf=some []/\g.wf=[]
 | .cl L,g=>∀k∈L,some (ix k)∉g.wb
 | .fw,g=>g.rb=some []/\g.wb=[]
 | .bw,g=>g.rf=some []/\g.wf=[]
 | .any,_=>True
theorem Jo{L w:List (Option Nat)}(h:∀x∈L,x∉w):W7 (some L) w=true:=by
 simp only[W7,zf0z,zf7z,zf5z,decide_eq_false_iff_not];exact λx hx hm=>h x hm hx
theorem AG(r:Option (List (Option Nat))):W7 r []=true:=by cases r<;>rfl
theorem DQ{f g:Foot}(h1:W7 f.rb g.wb=true)(h2:W7 g.rb f.wb=true)(h3:W7 (some f.wb) g.wb=true)(h4:W7 f.rf g.wf=true)(h5:W7 g.rf f.wf=true)(h6:W7 (some f.wf) g.wf=true):P4 f g=true:=by
 simp only[P4,h1,h2,h3,h4,h5,h6,zf8z]
theorem Qi{f g:Foot}(h:P4 f g=true):P4 g f=true:=by
 simp only[P4,zf1z]at h;obtain⟨⟨⟨⟨⟨h1,h2⟩,h3⟩,h4⟩,h5⟩,h6⟩:=h;have sw:∀{a b:List (Option Nat)},W7 (some a) b=true->W7 (some b) a=true:=λ{a b} h=>by
  refine Jo λx hx hm=>?_;simp only[W7,zf0z,zf7z,zf5z,decide_eq_false_iff_not]at h;exact h x hx hm
 exact DQ h2 h1 (sw h3) h5 h4 (sw h6)
def Tou(b:Nat)(g:Foot):Prop:=(∃L,g.rb=some L/\∀x∈L,x=none\/x=some b)/\(∀x∈g.wb,x=some b)/\g.rf=some []/\g.wf=[]
theorem Tou.apart{a b:Nat}{f g:Foot}(ne:a≠b)(h:Tou a f)(h':Tou b g):P4 f g=true:=by
 obtain⟨⟨L,hL,k1⟩,k2,k3,k4⟩:=h;obtain⟨⟨L',hL',k5⟩,k6,k7,k8⟩:=h';refine DQ ?_ ?_ ?_ (by rw[k3];exact Bk _) (by rw[k7];exact Bk _) (by rw[k4];exact Bk _)
 .rw[hL];refine Jo λx hx hm=>?_;have h1:=k6 x hm;subst h1;rcases k1 _ hx with h|h
  .cases h
  .exact ne (Option.some.inj h).symm
 .rw[hL'];refine Jo λx hx hm=>?_;have h1:=k2 x hm;subst h1;rcases k5 _ hx with h|h
  .cases h
  .exact ne (Option.some.inj h)
 .refine Jo λx hx hm=>?_;have h1:=k2 x hx;subst h1;exact ne (Option.some.inj (k6 _ hm))
section
variable {ix:Nat->Nat} (hix:∀a b,ix a=ix b->a=b)
include hix
theorem Nh.ap1{a a':FK}{f g:Foot}(h:Nh ix a f)(h':Nh ix a' g)(e:a.ap1 a'=true):P4 f g=true:=by
 have nl:∀{f g:Foot},f=qz->P4 f g=true:=λ{f g} e=>by
  subst e;exact DQ (Bk _) (AG _) (Bk _) (Bk _) (AG _) (Bk _)
 have ap:∀{f g:Foot},f.wb=[]->f.wf=[]->g.wf=[]->W7 f.rb g.wb=true->P4 f g=true:=λ{f g} h1 h2 h3 h4 =>
  DQ h4 (by rw[h1];exact AG _) (by rw[h1];exact Bk _) (by rw[h3];exact AG _) (by rw[h2];exact AG _) (by rw[h2];exact Bk _)
 have fb:∀{f g:Foot},f.rb=some []->f.wb=[]->g.rf=some []->g.wf=[]->P4 f g=true:=λ{f g} h1 h2 h3 h4 =>
  DQ (by rw[h1];exact Bk _) (by rw[h2];exact AG _) (by rw[h2];exact Bk _) (by rw[h4];exact AG _) (by rw[h3];exact Bk _) (by rw[h4];exact AG _)
 have ne:∀{i j:Nat},(i != j)=true->ix i≠ix j:=λh hh=>by simp[hix _ _ hh]at h
 have ta:∀{k:Nat} {g:Foot},Nh ix (.al k) g->Tou (ix k) g:=λh=>h;have ts:∀{k:Nat} {g:Foot},Nh ix (.sb k) g->Tou (ix k) g:=λh=>⟨⟨_,h.1.choose_spec.1,λx hx=>.inr (h.1.choose_spec.2 x hx)⟩,h.2⟩;have tr:∀{k:Nat} {g:Foot},Nh ix (.rb k) g->Tou (ix k) g:=λh=>⟨⟨_,h.1.choose_spec.1,λx hx=>.inr (h.1.choose_spec.2 x hx)⟩,(λx hx=>by have e:_=[]:=h.2.1;rw[e]at hx;cases hx),h.2.2⟩;cases a<;>cases a'<;>first
  |(cases e;done)
  |exact nl h
  |exact nl h'
  |exact fb h.1 h.2 h'.1 h'.2
  |exact fb h.1 h.2 h'.2.2.1 h'.2.2.2
  |exact(ta h).apart (ne e) (ta h')
  |exact(ta h).apart (ne e) (ts h')
  |exact(ts h).apart (ne e) (ts h')
  |exact(tr h).apart (ne e) (ta h')
  |exact(tr h).apart (ne e) (ts h')
  |(
    simp only[Nh]at h h'
    first
    |exact ap (by simp[h]) (by simp[h]) (by simp[h']) (by rw[h.1];exact Bk _)
    |exact ap (by simp[h]) (by simp[h]) (by simp[h']) (by simp only[h',AG])
    |(
      obtain⟨⟨L,hL,k1⟩,k2,k3,k4⟩:=h;refine DQ ?_ (by rw[k2];exact AG _) (by rw[k2];exact Bk _) (by rw[k3];exact Bk _) (by rw[k4];exact AG _) (by rw[k4];exact Bk _);rw[hL];refine Jo λx hx hm=>?_;rw[k1 x hx]at hm;exact h' _ (by simpa[FK.ap1]using e) hm))
theorem Nh.apart{a a':FK}{f g:Foot}(h:Nh ix a f)(h':Nh ix a' g)(e:a.apart a'=true):P4 f g=true:=by
 simp only[FK.apart,zf4z]at e;rcases e with e|e
 .exact h.ap1 hix h' e
 .exact Qi (h'.ap1 hix h e)
end
def eT(bs:List Nat)(D5:List RO)(ns:List FK):Bool :=
 (zg3z D5.length).all λj=>(zg3z j).all λi =>
  match D5[i]?,D5[j]?,ns[i]?,ns[j]? with
  |some oi,some oj,some a,some b=>((bs.getD j 0).testBit i ||
   (
    (match oi.dst with|some d=>!oj.slots.contains d&&oj.dst != some d|none=>true) &&
    (match oj.dst with|some d=>!oi.slots.contains d|none=>true)&&a.apart b))&&(match oi.dst,oj.dst with|some d,some e=>d != e|_,_=>true)
  |_,_,_,_=>false
def dG(ix:Nat->Nat):List FK->List Foot->Prop
 | [],[]=>True
 |c::ns,g::gs=>Nh ix c g/\dG ix ns gs
 |_,_=>False
theorem dG.get{ix:Nat->Nat}:∀{ns:List FK} {gs:List Foot},dG ix ns gs->∀{i:Nat} {c:FK},ns[i]?=some c->∃g,gs[i]?=some g/\Nh ix c g
 | [],[],_,i,c,h=>by simp at h
 |a::ns,g::gs,hn,0,c,h=>by
  simp only[zf3z,Option.some.injEq]at h;subst h;exact⟨g,rfl,hn.1⟩
 |a::ns,g::gs,hn,i+1,c,h=>by simpa using dG.get hn.2 (i:=i) (by simpa using h)
theorem lS{ix:Nat->Nat}(hix:∀a b,ix a=ix b->a=b){bs:List Nat}{D5:List RO}{ns:List FK}{gs:List Foot}(hn:dG ix ns gs)(h:eT bs D5 ns=true):CY bs D5 gs=true:=by
 simp only[eT,CY,zf0z]at h ⊢;intro j hj i hi;have:=h j hj i hi;split at this
 .rename_i oi oj a b e1 e2 e3 e4;obtain⟨fi,h3,n3⟩:=hn.get e3;obtain⟨fj,h4,n4⟩:=hn.get e4;rw[e1,e2,h3,h4];simp only[zf1z,zf4z,MD]at this ⊢;refine⟨?_,this.2⟩;rcases this.1 with h5|⟨h5,h6⟩
  .exact .inl h5
  .exact .inr ⟨h5,n3.apart hix n4 h6⟩
 .cases this
theorem kh{a a':List (List AV)}{b:Nat}(hb:b<a.length)(h:a'[b]?=a[b]?):some b∉HM a a':=by
 intro hx;unfold HM at hx;rcases List.mem_append.1 hx with hx|hx
 .split at hx
  .cases hx
  .rcases zf6z.1 hx with e
   cases e
 .obtain⟨i,hi,e⟩:=zg2z.1 hx;cases e;have:=(zg0z.1 hi).2;rw[h,List.getElem?_eq_getElem hb]at this;simp only[IU,R9]at this;cases this
def FrL(K:AH->Prop):List RO->List (Fr×AH)->List Foot->List Foot->Prop
 | [],_,[],[]=>True
 |o::os,s::ts,f::fs,g::gs =>
  (FLe f g\/∃d agg n x b off v,o=⟨d,.ld agg n x,none⟩/\get s.1 x=.ptr b off/\(∀h,K h->U4 h agg n (.ptr b off)=some v)/\K s.2/\FLe {f with rb:=some []} g)/\FrL K os ts fs gs
 |_,_,_,_=>False
theorem UL{f g:Foot}(k:P4 f g=true):P4 {f with rb:=some []} g=true/\P4 f {g with rb:=some []}=true/\P4 {f with rb:=some []} {g with rb:=some []}=true:=by
 have h1:∀w:List (Option Nat),W7 (some []) w=true:=Bk;simp only[P4,zf1z,h1,true_and]at k ⊢;simp only[k.1.1.1.1.1,k.1.1.1.1.2,k.1.1.1.2,k.1.1.2,k.1.2,k.2,and_self]
theorem FrL.get{K:AH->Prop}:∀{os:List RO} {ts:List (Fr×AH)} {fs gs:List Foot},FrL K os ts fs gs->∀{i:Nat} {g:Foot},gs[i]?=some g->∃o s f,os[i]?=some o/\ts[i]?=some s/\fs[i]?=some f /\
  (FLe f g\/∃d agg n x b off v,o=⟨d,.ld agg n x,none⟩/\get s.1 x=.ptr b off/\(∀h,K h->U4 h agg n (.ptr b off)=some v)/\K s.2/\FLe {f with rb:=some []} g)
 | [],_,[],[],_,i,g,h=>by simp at h
 |o::os,s::ts,f::fs,g'::gs,hl,0,g,h=>by
  simp only[zf3z,Option.some.injEq]at h;subst h;exact⟨o,s,f,rfl,rfl,rfl,hl.1⟩
 |o::os,s::ts,f::fs,g'::gs,hl,i+1,g,h=>by
  simpa using FrL.get hl.2 (i:=i) (by simpa using h)
theorem qM(x:AV):eqO (some x) (some x)=true:=VC x
theorem ar{K:AH->Prop}{O:Orc}{c:Ctx}{bs:List Nat}{D5:List RO}{fr:Fr}{h:AH}{fs gs:List Foot}{ts:List (Fr×AH)}(ht:W9 O c D5 fr h=some ts)(hK:∀s∈ts,K s.2)(hl:FrL K D5 ts fs gs)(hp:CY bs D5 gs=true):Bu O c bs D5 fr h fs=true:=by
 have key:∀{i:Nat} {g:Foot},gs[i]?=some g->∃f f',(dL bs D5 ts fs)[i]?=some f/\FLe f' g/\(f=f'\/f={f' with rb:=some []}):=by
  intro i g hg;obtain⟨o,s,f,h1,h2,h3,h4⟩:=hl.get hg;have ha:(dL bs D5 ts fs)[i]?=some (if LM bs D5 ts i then {f with rb:=some []} else f):=by
   unfold dL;rw[List.getElem?_mapIdx,h3,zf2z]
  rw[ha];rcases h4 with h4|⟨d,agg,n,x,b,off,v,rfl,h5,h6,h7,h8⟩
  .refine⟨_,f,rfl,h4,?_⟩;split
   .exact .inr rfl
   .exact .inl rfl
  .have hfr:LM bs D5 ts i=true:=by
    unfold LM;obtain⟨sf,sh⟩:=s;rw[h1,h2];simp only at h5 h7 ⊢;rw[h5];simp only[zf0z];rintro⟨q,w⟩ hq;rw[zf4z];right;rw[h6 _ (hK q (List.mem_of_getElem? (List.mem_zipIdx_iff_getElem?.1 hq))),h6 _ h7];exact qM v
   rw[if_pos hfr];exact⟨_,_,rfl,h8,.inl rfl⟩
 unfold Bu;rw[ht];simp only[CY,zf0z]at hp ⊢;intro j hj i hi;have:=hp j hj i hi;split at this
 .rename_i oi oj gi gj e1 e2 e3 e4;obtain⟨fi,fi',h3,li,ci⟩:=key e3;obtain⟨fj,fj',h4,lj,cj⟩:=key e4;rw[e1,e2,h3,h4];simp only[MD,zf1z,zf4z]at this ⊢;refine⟨?_,this.2⟩;rcases this.1 with h5|⟨h5,h6⟩
  .exact .inl h5
  .have h7:=UL (MX li lj h6);refine .inr ⟨h5,?_⟩;rcases ci with rfl|rfl<;>rcases cj with rfl|rfl
   .exact MX li lj h6
   .exact h7.2.1
   .exact h7.1
   .exact h7.2.2
 .cases this
def ROp.blind:ROp->Bool
 | .mov _ | .pick .. | .nilck _ | .bin .. | .beq .. | .un .. | .faddr .. | .fld .. | .iaddr .. | .ext .. | .len .. | .build .. | .conv .. | .max .. | .min .. | .idx ..=>true
 |_=>false
def Fl(K:AH->Prop)(agg:Bool)(n:Nat)(p v:AV):Prop:=∀h,K h->U4 h agg n p=some v
def HJ(ix:Nat->Nat)(K:AH->Prop)(c:Ctx)(cl:FK)(op:ROp)(fr:Fr)(h:AH)(v:AV)(h1:AH):Prop :=
 match cl with
 | .nil=>op.blind=true
 | .fl=>(match op with | .ld agg n x=>(match get fr x with | .ptr b off=>Fl K agg n (.ptr b off) v|_=>False)|_=>False)
 | .pu=>(match op with | .call f args=>c.raw f=false/\(args.map (get fr)).all S0=true | .bslice _ _ ps=>ps.all (λp=>S0 (get fr p.2))=true|_=>False)
 | .fw=>(match op with | .app ..=>True|_=>False)
 | .bw=>(match op with | .alloc _=>True|_=>False)
 | .ro=>op.writesB c=false/\op.writesF c=false
 | .rw=>(match op with | .ld _ _ x=>(match get fr x with | .ep ..=>True | .pv _=>True|_=>False)|_=>False)
 | .al k=>(match op with | .allocAt r _=>h.boxes.length-r=ix k|_=>False)
 | .sb k=>(match op with | .st _ a _=>c.lay=false/\(match get fr a with | .ptr b _=>b=ix k|_=>False) | .stb _ a _=>(match get fr a with | .ptr b _=>b=ix k|_=>False)|_=>False)
 | .rb k=>(match op with | .ld _ _ x=>(match get fr x with | .ptr b _=>b=ix k|_=>False)|_=>False)
 | .cl L=>∀k∈L,ix k<h.boxes.length/\h1.boxes[ix k]?=h.boxes[ix k]?
 | .any=>True
section
variable (ix:Nat->Nat) (K:AH->Prop) (O:Orc) (c:Ctx)
mutual
def dJ:List RO->List FK->Fr->AH->(Fr->AH->Prop)->Prop
 | [],[],fr,h,Φ=>K h/\Φ fr h
 |⟨d,op,none⟩::D5,cl::ns,fr,h,Φ=>K h/\(match A0 O c op fr h with|some (v,h1)=>HJ ix K c cl op fr h v h1/\dJ D5 ns (put fr d v) h1 Φ|none=>False)
 |_,_,_,_,_=>False
end
end
def krd(ix:Nat->Nat)(K:AH->Prop)(O:Orc)(c:Ctx)(cl:FK)(d:Option Nat)(op:ROp)(D5:List RO)(ns:List FK)(fr:Fr)(h:AH)(Φ:Fr->AH->Prop)(r:Option (AV×AH)):Prop:=match r with|some (v,h1)=>HJ ix K c cl op fr h v h1/\dJ ix K O c D5 ns (put fr d v) h1 Φ|none=>False
@[congr] theorem krd_congr{ix:Nat->Nat}{K:AH->Prop}{O:Orc}{c:Ctx}{cl:FK}{d:Option Nat}{op:ROp}{D5:List RO}{ns:List FK}{fr:Fr}{h:AH}{Φ:Fr->AH->Prop}{r r':Option (AV×AH)}(e:r=r'):krd ix K O c cl d op D5 ns fr h Φ r=krd ix K O c cl d op D5 ns fr h Φ r':=by rw[e]
section
variable (ix:Nat->Nat) (K:AH->Prop) (O:Orc) (c:Ctx) (cl:FK) (d:Option Nat) (op:ROp) (D5:List RO) (ns:List FK) (fr:Fr) (h:AH) (Φ:Fr->AH->Prop)
@[simp]theorem nV:dJ ix K O c [] [] fr h Φ=(K h/\Φ fr h):=_root_.id rfl
@[simp]theorem kG:dJ ix K O c (⟨d,op,none⟩::D5) (cl::ns) fr h Φ=(K h/\krd ix K O c cl d op D5 ns fr h Φ (A0 O c op fr h)):=_root_.id rfl
@[simp]theorem ql(v:AV)(h1:AH):krd ix K O c cl d op D5 ns fr h Φ (some (v,h1))=(HJ ix K c cl op fr h v h1/\dJ ix K O c D5 ns (put fr d v) h1 Φ):=_root_.id rfl
@[simp]theorem ClOk_nil(v:AV)(h1:AH):HJ ix K c .nil op fr h v h1=(op.blind=true):=_root_.id rfl
@[simp]theorem ClOk_fl(agg:Bool)(n:Nat)(x:Opd)(v:AV)(h1:AH):HJ ix K c .fl (.ld agg n x) fr h v h1=(match get fr x with | .ptr b off=>Fl K agg n (.ptr b off) v|_=>False):=_root_.id rfl
@[simp]theorem ClOk_pu(f:FuncId)(args:List Opd)(v:AV)(h1:AH):HJ ix K c .pu (.call f args) fr h v h1=(c.raw f=false/\(args.map (get fr)).all S0=true):=_root_.id rfl
@[simp]theorem ClOk_pub(n:Nat)(z:AV)(ps:List (Nat×Opd))(v:AV)(h1:AH):HJ ix K c .pu (.bslice n z ps) fr h v h1=(ps.all (λp=>S0 (get fr p.2))=true):=_root_.id rfl
@[simp]theorem ClOk_fw(n b:Nat)(s x:Opd)(v:AV)(h1:AH):HJ ix K c .fw (.app n b s x) fr h v h1=True:=_root_.id rfl
@[simp]theorem ClOk_bw(z v:AV)(h1:AH):HJ ix K c .bw (.alloc z) fr h v h1=True:=_root_.id rfl
@[simp]theorem ClOk_ro(v:AV)(h1:AH):HJ ix K c .ro op fr h v h1=(op.writesB c=false/\op.writesF c=false):=_root_.id rfl
@[simp]theorem ClOk_rw(agg:Bool)(n:Nat)(x:Opd)(v:AV)(h1:AH):HJ ix K c .rw (.ld agg n x) fr h v h1=(match get fr x with | .ep ..=>True | .pv _=>True|_=>False):=_root_.id rfl
@[simp]theorem ClOk_al(k r:Nat)(z v:AV)(h1:AH):HJ ix K c (.al k) (.allocAt r z) fr h v h1=(h.boxes.length-r=ix k):=_root_.id rfl
@[simp]theorem ClOk_sb(k n:Nat)(a x:Opd)(v:AV)(h1:AH):HJ ix K c (.sb k) (.st n a x) fr h v h1=(c.lay=false/\(match get fr a with | .ptr b _=>b=ix k|_=>False)):=_root_.id rfl
@[simp]theorem ClOk_sbb(k n:Nat)(a x:Opd)(v:AV)(h1:AH):HJ ix K c (.sb k) (.stb n a x) fr h v h1=(match get fr a with | .ptr b _=>b=ix k|_=>False):=_root_.id rfl
@[simp]theorem ClOk_rb(k n:Nat)(agg:Bool)(x:Opd)(v:AV)(h1:AH):HJ ix K c (.rb k) (.ld agg n x) fr h v h1=(match get fr x with | .ptr b _=>b=ix k|_=>False):=_root_.id rfl
@[simp]theorem ClOk_cl(L:List Nat)(v:AV)(h1:AH):HJ ix K c (.cl L) op fr h v h1=(∀k∈L,ix k<h.boxes.length/\h1.boxes[ix k]?=h.boxes[ix k]?):=_root_.id rfl
@[simp]theorem ClOk_any(v:AV)(h1:AH):HJ ix K c .any op fr h v h1=True:=_root_.id rfl
end
theorem dR{c:Ctx}{nb:Nat}{g:Opd->AV}{op:ROp}(h:op.blind=true):FG c nb g op=some []/\Db c g op=some []/\op.writesB c=false/\op.writesF c=false:=by
 cases op<;>first|(simp only[ROp.blind,Bool.false_eq_true]at h;done)|exact⟨rfl,rfl,rfl,rfl⟩
theorem Ka{c:Ctx}{O:Orc}{d:Option Nat}{op:ROp}{fr:Fr}{h h1:AH}{v:AV}(he:A0 O c op fr h=some (v,h1))(k1:op.writesB c=false)(k2:op.writesF c=false):(o8 c ⟨d,op,none⟩ fr h h1).wb=[]/\(o8 c ⟨d,op,none⟩ fr h h1).wf=[]:=by
 have e1:=(FA he).1 k1;have e2:=(FA he).2 k2;constructor
 .show HM h.boxes h1.boxes=[];rw[e1,PO]
 .show JT h.fams h1.fams=[];rw[e2,IE]
theorem Foot.ext4{f:Foot}{a:Option (List (Option Nat))}{b:List (Option Nat)}{c:Option (List (Option Nat))}{d:List (Option Nat)}(h1:f.rb=a)(h2:f.wb=b)(h3:f.rf=c)(h4:f.wf=d):f=⟨a,b,c,d⟩:=by
 obtain⟨x,y,z,w⟩:=f;simp only at h1 h2 h3 h4;rw[h1,h2,h3,h4]
theorem ZV{ix:Nat->Nat}{K:AH->Prop}{O:Orc}{c:Ctx}{Φ:Fr->AH->Prop}:∀{ops:List RO} {ns:List FK} {fr:Fr} {h:AH},dJ ix K O c ops ns fr h Φ ->
  K h/\∃G6 h' fs ts gs,P3 O c ops fr h=some (fs,G6,h')/\W9 O c ops fr h=some ts/\(∀s∈ts,K s.2)/\FrL K ops ts fs gs/\dG ix ns gs/\Φ G6 h'
 | [],[],fr,h,H=>by
  simp only[nV]at H;exact⟨H.1,fr,h,[],[(fr,h)],[],rfl,rfl,λs hs=>by rw[zf6z.1 hs];exact H.1,trivial,trivial,H.2⟩
 |⟨d,op,none⟩::D5,cl::ns,fr,h,H=>by
  simp only[kG]at H;obtain⟨hK,H⟩:=H;cases he:A0 O c op fr h with
  |none=>rw[he]at H;exact H.elim
  |some p =>
   obtain⟨v,h1⟩:=p;rw[he]at H;simp only[ql]at H;obtain⟨hc,hr⟩:=H;obtain⟨_,G6,h',fs,ts,gs,k1,k2,k3,k4,k5,k6⟩:=ZV hr;have go:∀g,Nh ix cl g->(FLe (o8 c ⟨d,op,none⟩ fr h h1) g\/∃d' agg n x b off v,(⟨d,op,none⟩:RO)=⟨d',.ld agg n x,none⟩/\get fr x=.ptr b off/\(∀h,K h->U4 h agg n (.ptr b off)=some v)/\K h/\FLe {o8 c ⟨d,op,none⟩ fr h h1 with rb:=some []} g) ->
     K h/\∃G6 h' fs ts gs,P3 O c (⟨d,op,none⟩::D5) fr h=some (fs,G6,h')/\W9 O c (⟨d,op,none⟩::D5) fr h=some ts/\(∀s∈ts,K s.2)/\FrL K (⟨d,op,none⟩::D5) ts fs gs/\dG ix (cl::ns) gs/\Φ G6 h':=λg hg hl=>by
    refine⟨hK,G6,h',o8 c ⟨d,op,none⟩ fr h h1::fs,(fr,h)::ts,g::gs,?_,?_,λs hs=>?_,⟨hl,k4⟩,⟨hg,k5⟩,k6⟩
    .simp only[P3,P1,he,k1,zf2z]
    .simp only[W9,P1,he,k2,zf2z]
    .rcases List.mem_cons.1 hs with rfl|hs
     .exact hK
     .exact k3 s hs
   have self:FLe (o8 c ⟨d,op,none⟩ fr h h1) (o8 c ⟨d,op,none⟩ fr h h1):=⟨rfl,λ_ h=>h,rfl,λ_ h=>h⟩;cases cl with
   |nil =>
    obtain⟨b1,b2,b3,b4⟩:=dR (c:=c) (nb:=h.boxes.length) (g:=get fr) (show op.blind=true from hc);obtain⟨w1,w2⟩:=Ka (d:=d) he b3 b4;exact go _ (Foot.ext4 b1 w1 b2 w2) (.inl self)
   |fl =>
    cases op<;>simp only[HJ]at hc;rename_i agg n x;cases hx:get fr x<;>rw[hx]at hc<;>simp only at hc;rename_i b off;obtain⟨w1,w2⟩:=Ka (d:=d) he rfl rfl;refine go qz rfl (.inr ⟨d,agg,n,x,b,off,v,rfl,hx,hc,hK,rfl,?_,?_,?_⟩)
    .rw[w1];exact λ_ h=>h
    .show Db c (get fr) (.ld agg n x)=some [];simp only[Db,hx]
    .rw[w2];exact λ_ h=>h
   |pu =>
    cases op<;>simp only[HJ]at hc<;>first
     |(
       obtain⟨hc1,hc2⟩:=hc;rename_i f args;obtain⟨w1,w2⟩:=Ka (d:=d) he (by simp only[ROp.writesB,hc1,Bool.false_and]) (by simp only[ROp.writesF,hc1]);have e1:FG c h.boxes.length (get fr) (.call f args)=some []:=by
        simp only[FG,hc1,hc2,zg1z,zf8z,if_true]
       have e2:Db c (get fr) (.call f args)=some []:=by
        simp only[Db,hc1,hc2,zg1z,zf8z,if_true]
       exact go _ (Foot.ext4 e1 w1 e2 w2) (.inl self))
     |(
       rename_i n z ps;obtain⟨w1,w2⟩:=Ka (d:=d) he rfl rfl;have e1:FG c h.boxes.length (get fr) (.bslice n z ps)=some []:=if_pos hc;have e2:Db c (get fr) (.bslice n z ps)=some []:=if_pos hc;exact go _ (Foot.ext4 e1 w1 e2 w2) (.inl self))
   |fw =>
    cases op<;>simp only[HJ]at hc;have e1:=(FA he).1 rfl;exact go _ ⟨rfl,by show HM h.boxes h1.boxes=[];rw[e1,PO]⟩ (.inl self)
   |bw =>
    cases op<;>simp only[HJ]at hc;have e1:=(FA he).2 rfl;exact go _ ⟨rfl,by show JT h.fams h1.fams=[];rw[e1,IE]⟩ (.inl self)
   |ro=>exact go _ (Ka (d:=d) he hc.1 hc.2) (.inl self)
   |rw =>
    cases op<;>simp only[HJ]at hc;rename_i agg n x;obtain⟨w1,w2⟩:=Ka (d:=d) he rfl rfl;refine go _ ⟨?_,w1,w2⟩ (.inl self);show FG c h.boxes.length (get fr) (.ld agg n x)=some [];cases hx:get fr x<;>rw[hx]at hc<;>simp only at hc<;>simp only[FG,hx]
   |al k =>
    cases op<;>simp only[HJ]at hc;rename_i r z;have h4:h1.fams=h.fams/\∀x∈HM h.boxes h1.boxes,x=some (h.boxes.length-r):=by
     simp only[A0,AF]at he;split at he
     .split at he
      .cases he;exact⟨rfl,λx hx=>by simpa using LH _ _ _ x hx⟩
      .cases he
     .cases he
    refine go _ ⟨⟨_,rfl,λx hx=>?_⟩,λx hx=>?_,rfl,?_⟩ (.inl self)
    .rw[←hc];simpa using hx
    .rw[←hc];exact h4.2 x hx
    .show JT h.fams h1.fams=[];rw[h4.1,IE]
   |sb k =>
    have key:∀{b off:Nat},b=ix k->(FG c h.boxes.length (get fr) op=some [some b])->(Db c (get fr) op=some [])->(h1.fams=h.fams/\∀x∈HM h.boxes h1.boxes,x=some b)->_:=λ{b off} e1 e2 e3 e4=>go _ (show Nh ix (.sb k) _ from ⟨⟨_,e2,λx hx=>by rw[←e1];simpa using hx⟩,λx hx=>by rw[←e1];exact e4.2 x hx,e3,by show JT h.fams h1.fams=[];rw[e4.1,IE]⟩) (.inl self);have stT_ok:∀{b n off:Nat} {x:AV} {cs:List AV} {h2:AH},dC h b n off x cs=some h2->h2.fams=h.fams/\∀y∈HM h.boxes h2.boxes,y=some b:=λ{b n off x cs h2} e=>by
     unfold dC at e;split at e
     .split at e
      .cases e;exact⟨rfl,λx hx=>by simpa using LH _ _ _ x hx⟩
      .cases e
     .cases e
    cases op<;>simp only[HJ]at hc
    .rename_i n a x;obtain⟨hlay,hc⟩:=hc;have hl':∀{α:Type} (a b:α),(if c.lay=true then a else b)=b:=λa b=>by rw[hlay];rfl
     cases hx:get fr a<;>rw[hx]at hc<;>simp only at hc;rename_i b off;refine key (off:=off) hc (by simp only[FG,hl',hx]) (by simp only[Db,hl',hx]) ?_;simp only[A0,Pd,hl',hx,Ba]at he;cases hbb:h.boxes[b]? with
     |none=>rw[hbb]at he;simp only at he;cases he
     |some cs =>
      rw[hbb]at he;simp only at he;split at he
      .rename_i h2 V8;cases he;split at V8
       .cases V8;exact⟨rfl,λx hx=>by simpa using LH _ _ _ x hx⟩
       .exact stT_ok V8
      .cases he
    .rename_i n a x;cases hx:get fr a<;>rw[hx]at hc<;>simp only at hc;rename_i b off;refine key (off:=off) hc (by simp only[FG,hx]) (by simp only[Db];rfl) ?_;simp only[A0,hx,MP]at he;cases hbb:h.boxes[b]? with
     |none=>rw[hbb]at he;simp only at he;cases he
     |some cs =>
      rw[hbb]at he;simp only at he;split at he
      .cases he;exact⟨rfl,λx hx=>by simpa using LH _ _ _ x hx⟩
      .rw[Option.map_eq_some_iff]at he;obtain⟨h2,V8,e⟩:=he;cases e;exact stT_ok V8
   |rb k =>
    cases op<;>simp only[HJ]at hc;rename_i agg n x;cases hx:get fr x<;>rw[hx]at hc<;>simp only at hc;rename_i b off;obtain⟨w1,w2⟩:=Ka (d:=d) he rfl rfl;refine go _ ⟨⟨[some b],?_,λx hx=>?_⟩,w1,?_,w2⟩ (.inl self)
    .show FG c h.boxes.length (get fr) (.ld agg n x)=_;simp only[FG,hx]
    .rw[←hc];simpa using hx
    .show Db c (get fr) (.ld agg n x)=some [];simp only[Db,hx]
   |cl L=>exact go _ (λk hk=>kh (hc k hk).1 (hc k hk).2) (.inl self)
   |any=>exact go _ trivial (.inl self)
def NPK(Ψ:Ex->Fr->AH->Prop)(fr:Fr)(h:AH):Prop:=Ψ .normal fr h
@[simp]theorem NPK_eq(Ψ:Ex->Fr->AH->Prop)(fr:Fr)(h:AH):NPK Ψ fr h=Ψ .normal fr h:=_root_.id rfl
theorem M3{O:Orc}{c:Ctx}{bs:List Nat}{ops:List RO}{fr:Fr}{h:AH}{Ψ:Ex->Fr->AH->Prop}(ix:Nat->Nat)(K:AH->Prop)(ns:List FK)(n:Nat)(hix:∀a b,ix a=ix b->a=b)(hn:Tu ops=n)(hp:eT bs ops ns=true)
  (H:dJ ix K O c ops ns fr (h.holes n) (NPK Ψ)):L9 (A8 O c (.regd bs ops) (fr,h)) Ψ:=by
 subst hn;obtain⟨_,G6,h',fs,ts,gs,k1,k2,k3,k4,k5,k6⟩:=ZV H;exact kD k1 (ar k2 k3 k4 (lS hix k5 hp)) k6
@[simp]theorem holes_zero(h:AH):h.holes 0=h:=by simp[AH.holes]
attribute [simp] ROp.blind ROp.writesB ROp.writesF
end Go.Abs
