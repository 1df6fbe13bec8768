/- A part of the proof. -/
import Derived.Test.YtjhgilockkmniaaGreatDoorSH1
set_option linter.all false
open List renaming getElem?_eq_getElem->zf0z,getElem?_eq_some_iff->zf1z,range->zf5z
open Nat renaming lt_of_lt_of_le->zf2z,le_trans->zf3z,le_refl->zf4z,succ_mul->zf6z
namespace Go.Abs
def JW:Value->Option AV
 | .bool b=>some (.bool b)
 | .int k n=>some (.int k n)
 | .string s=>some (.str s)
 | .slice none 0 0=>some (.vs true 0 [])
 | .pointer none=>some .nilp
 | .map none=>some .nilm
 | .nilFunc=>some .nilf
 | .nilIface=>some .junk
 | .func (.func f) a b=>if a.size=0/\b.size=0 then some (.fn f [])else none
 |_=>none
def FG {α β:Type} (f:α->Option β):List α->Option (List β)
 | []=>some []
 |x::xs=>match f x,FG f xs with|some y,some ys=>some (y::ys)|_,_=>none
def KE:Value->Option AV
 | .agg cs=>(FG JW cs.toList).map .agg
 | .tuple vs=>if vs.size=0 then some (.tup [])else none
 |v=>JW v
def B6:Operand->Option Opd
 | .tmp t=>some (.t t)
 | .const v=>(KE v).map .c
 | .func f=>some (.c (.fn f []))
 | .global g=>(XC.find? λp=>Nat.beq p.1 g).map λp=>.c (.pv p.2)
def Dp:Option Operand->Option (Option Opd)
 |none=>some none
 |some x=>(B6 x).map some
def Program.agg? (P:Program) (t:TypeId):Option Bool :=
 match P.underlying t with
 |some (.struct _)|some (.array _ _)=>some true
 |some _=>some false
 |none=>none
def Program.size? (P:Program) (t:TypeId):Option Nat:=(P.info? t).map (·.size)
def Program.zeroA (P:Program) (t:TypeId):Option AV :=
 match P.info? t with
 |some i =>
  match i.zero with
  |some z =>
   match KE z with
   |some x=>if z.cells.size=i.size/\x.isTup=false then some x else none
   |none=>none
  |none=>none
 |none=>none
def Program.enterable (P:Program) (f:FuncId):Bool :=
 match P.funcs[f]? with
 |some fn=>fn.body.isSome&&!(fn.name == "runtime.NumGoroutine")
 |none=>false
def Nh (P:Program) (fs:Array Field) (p:Nat×Operand):Option (Nat×Nat×Opd) :=
 match fs[p.1]?,B6 p.2 with
 |some f,some x=>match Program.size? P f.type with|some n=>some (f.offset,n,x)|none=>none
 |_,_=>none
def Ng (p:Nat×Operand):Option (Nat×Opd):=(B6 p.2).map λx=>(p.1,x)
def Jf (P:Program) (kt:TypeId):Option Bool :=
 match P.underlying kt with
 |some .string=>some true
 |some (.int _)=>some false
 |_=>none
def Uk (t:TypeId) (z:AV):AV:=if rK=some t then .agg [.tbox t z.cells]else z
def Fi (P:Program) (kt:TypeId):Bool :=
 match P.underlying kt with
 |some (.struct fs) =>
  match fs.toList with
  | [f,g] =>
   match P.underlying f.type,P.underlying g.type with
   |some .string,some (.int _)=>f.name≠ "_"/\g.name≠ "_"/\f.offset=0/\g.offset=1/\Program.agg? P f.type=some false/\Program.agg? P g.type=some false/\P.stoodInHeld kt=false
   |_,_=>false
  |_=>false
 |_=>false
def P1 (P:Program):Op->Option ROp
 | .makeMap t none=>match P.underlying t with|some (.map _ _)=>some .mkmap|_=>none
 | .lookup t x k ok =>
  match P.underlying t with
  |some (.map kt et) =>
   match Jf P kt,Program.zeroA P et,B6 x,B6 k with
   |some b,some z,some x,some k=>some (.mlook b ok z x k)
   |none,some z,some x,some k=>if Fi P kt then some (.mlookp ok z x k)else none
   |_,_,_,_=>none
  |_=>none
 | .mapUpdate t m k x | .insert t m k x =>
  match P.underlying t with
  |some (.map kt _) =>
   match Jf P kt,B6 m,B6 k,B6 x with
   |some b,some m,some k,some x=>some (.mup b m k x)
   |none,some m,some k,some x=>if Fi P kt then some (.mupp m k x)else none
   |_,_,_,_=>none
  |_=>none
 | .move x=>(B6 x).map .mov
 | .assign x=>(B6 x).map .mov
 | .pick c a b=>match B6 c,B6 a,B6 b with|some c,some a,some b=>some (.pick c a b)|_,_,_=>none
 | .alloc t=>(Program.zeroA P t).map λz=>.alloc (Uk t z)
 | .box _ x=>(B6 x).map .box
 | .build t parts =>
  match P.underlying t,Program.zeroA P t with
  |some (.struct fs),some (.agg zs) =>
   if (fs.toList.mapM λf=>(P.info? f.type).map λi=>(f.offset,i.size)).isSome then (FG (Nh P fs) parts.toList).map (.build (.agg zs))else none
  |_,_=>none
 | .buildSlice t len parts =>
  match P.underlying t with
  |some (.slice e) =>
   match Program.zeroA P e,Program.size? P e,FG Ng parts.toList with
   |some z,some n,some ps=>if 0<n/\len*n<=2 ^ 24 then some (.bslice len z ps)else none
   |_,_,_=>none
  |_=>none
 | .load t x=>match Program.agg? P t,Program.size? P t,B6 x with|some b,some n,some x=>some (.ld b n x)|_,_,_=>none
 | .store t a x=>match Program.size? P t,B6 a,B6 x with|some n,some a,some x=>some (.st n a x)|_,_,_=>none
 | .nilCheck x=>(B6 x).map .nilck
 | .binOp op t x y _ =>
  match B6 x,B6 y with
  |some x,some y =>
   match P.underlying t,op with
   |some .bool,.eql=>some (.beq false x y)
   |some .bool,.neq=>some (.beq true x y)
   |some (.slice _),.eql=>match y with | .c (.vs true 0 [])=>some (.nileq false x)|_=>none
   |some (.slice _),.neq=>match y with | .c (.vs true 0 [])=>some (.nileq true x)|_=>none
   |_,_=>some (.bin op x y)
  |_,_=>none
 | .unOp op _ x=>(B6 x).map (.un op)
 | .convert s d x =>
  match P.underlying s,P.underlying d with
  |some (.int _),some (.int k)=>(B6 x).map (.conv k)
  |some .string,some .string=>(B6 x).map .cstr
  |some (.slice e),some .string=>match P.underlying e with|some (.int .u8)=>(B6 x).map .bstr|_=>none
  |_,_=>none
 | .makeFunc (.func f) first caps=>if first.size=0 then (FG B6 caps.toList).map (.clos f)else none
 | .makeSlice t l c =>
  match P.underlying t with
  |some (.slice e) =>
   match P.info? e,Program.zeroA P e,B6 l,B6 c with
   |some i,some z,some l,some c=>if 0<i.size then some (.mkslice z i.bytes l c)else none
   |_,_,_,_=>none
  |_=>none
 | .slice t x lo hi mx =>
  match P.underlying t,B6 x,Dp lo,Dp hi,Dp mx with
  |some .string,some x,some lo,some hi,some none=>some (.slc 0 x lo hi none)
  |some (.slice e),some x,some lo,some hi,some mx=>match Program.size? P e with|some n=>if 0<n then some (.slc n x lo hi mx)else none|none=>none
  |_,_,_,_,_=>none
 | .fieldAddr s x i =>
  match P.underlying s,B6 x with
  |some (.struct fs),some x =>
   match fs[i]? with
   |some f=>match Program.size? P f.type with|some n=>if 0<n then some (.faddr f.offset x)else none|none=>none
   |none=>none
  |_,_=>none
 | .field s x i =>
  match P.underlying s,B6 x with
  |some (.struct fs),some x =>
   match fs[i]? with
   |some f=>match Program.agg? P f.type,Program.size? P f.type with|some b,some n=>some (.fld b f.offset n x)|_,_=>none
   |none=>none
  |_,_=>none
 | .indexAddr t x i =>
  match P.underlying t,B6 x,B6 i with
  |some (.slice e),some x,some i=>match Program.size? P e with|some n=>if 0<n then some (.iaddr n x i)else none|none=>none
  |_,_,_=>none
 | .index t x i=>match P.underlying t,B6 x,B6 i with|some .string,some x,some i=>some (.idx x i)|_,_,_=>none
 | .extract x i=>(B6 x).map λx=>.ext x i
 | .call {callee:=.builtin .len,args,argTypes} =>
  match args.toList,argTypes.toList with
  | [x],[t] =>
   match P.underlying t with
   |some .string=>(B6 x).map (.len true)
   |some (.slice _)=>(B6 x).map (.len false)
   |some (.map _ _)=>(B6 x).map .mlen
   |_=>none
  |_,_=>none
 | .call {callee:=.builtin .append,args,argTypes} =>
  match args.toList,argTypes.toList with
  | [s,x],[t,u] =>
   match P.underlying t with
   |some (.slice e) =>
    match P.info? e,Program.zeroA P e,B6 s,B6 x with
    |some i,some _,some s,some x=>if 0<i.size/\t=u then some (.app i.size i.bytes s x)else (match P.underlying u with|some .string=>if i.size=1 then some (.apps i.bytes s x)else none|_=>none)
    |_,_,_,_=>none
   |_=>none
  |_,_=>none
 | .call {callee:=.builtin .clear,args,argTypes} =>
  match args.toList,argTypes.toList with
  | [x],[t] =>
   match P.underlying t with
   |some (.slice e)=>match Program.zeroA P e,B6 x with|some z,some x=>some (.clr z x)|_,_=>none
   |_=>none
  |_,_=>none
 | .call {callee:=.builtin .max,args,argTypes:=_} =>
  match args.toList with
  | [x,y]=>match B6 x,B6 y with|some x,some y=>some (.max x y)|_,_=>none
  |_=>none
 | .call {callee:=.builtin .min,args,argTypes:=_} =>
  match args.toList with
  | [x,y]=>match B6 x,B6 y with|some x,some y=>some (.min x y)|_,_=>none
  |_=>none
 | .call {callee:=.value (.func f),args,argTypes:=_}=>if Program.enterable P f then (FG B6 args.toList).map (.call f)else none
 | .call {callee:=.value (.tmp t),args,argTypes:=_}=>(FG B6 args.toList).map (.callv (.t t))
 |_=>none
def Li (ops:List Oper):Option (Nat×Bool)->Option (Option (Nat×Bool))
 |none=>some none
 |some (j,want) =>
  match ops[j]? with
  |some o=>match o.dst with|some d=>some (some (d,want))|none=>none
  |none=>none
def Mw (P:Program) (ops:List Oper) (o:Oper):Option RO :=
 match P1 P o.op,Li ops o.guard with
 |some r,some g=>some ⟨o.dst,r,g⟩
 |_,_=>none
def ROp.lax (m:Option Bool×Bool):ROp->ROp
 | .ld b n x=>.ldb b n x
 | .bslice n z ps=>.bslicev n z ps
 | .mkslice z b l q=>if m.2 then .mkv z b l q else .mkslice z b l q
 | .st n a x=>match m.1 with|none=>.st n a x|some true=>.ste n a x|some false=>.stb n a x
 |o=>o
def ROp.bxd:ROp->ROp
 | .mkslice z b l q=>.mkb z b l q
 |o=>o
def RO.bxd (o:RO):RO:={o with op:=o.op.bxd}
def qB (b:Bool) (C5:List RO):List RO:=if b then C5.map RO.bxd else C5
def RO.lax (m:Option Bool×Bool) (o:RO):RO:={o with op:=o.op.lax m}
def ROp.isIA:ROp->Bool
 | .iaddr ..=>true
 |_=>false
def Vf (C5:List RO):ROp->Bool
 | .st _ (.t d) _=>C5.any λp=>p.dst == some d&&p.op.isIA
 |_=>false
def Pd (k:Bool) (C5:List RO):List RO:=C5.map λo=>o.lax (some (Vf C5 o.op),k)
def Rm:Nat->List RO->List RO
 |_,[]=>[]
 |n,o::os=>match o.op with | .alloc z=>{o with op:=.allocAt n z}::Rm (n-1) os|_=>o::Rm n os
def tV (ops:List RO):Nat:=ops.countP λo=>match o.op with | .alloc _=>true|_=>false
def Oa (C5:List RO):List RO:=if 2<=tV C5 then Rm (tV C5) C5 else C5
def O8:List Oper->List Nat->List Nat
 | [],M8=>M8
 |o::rest,M8=>O8 rest (M8++[o.after.toList.foldl (λs e=>if Region.binds .any e then s ||| 2 ^ e.on ||| M8.getD e.on 0 else s) 0])
def cK (c:Ctx) (bj:Nat) (i:Nat) (oi oj:RO):Bool :=
 bj.testBit i ||
  (
   (match oi.dst with|some d=>!oj.slots.contains d&&oj.dst != some d|none=>true) &&
   (match oj.dst with|some d=>!oi.slots.contains d|none=>true) &&
   !(oi.op.writesB c&&oj.op.looksB)&&!(oi.op.looksB&&oj.op.writesB c)&&!(oi.op.writesF c&&oj.op.looksF)&&!(oi.op.looksF&&oj.op.writesF c))
def GU:List Oper->Nat->Bool
 | [],_=>true
 |o::rest,i=>o.after.toList.all (λe=>!Region.binds .any e||decide (e.on<i))&&GU rest (i+1)
def XL (c:Ctx) (bs:List Nat) (C5:List RO):Bool :=
 (zf5z C5.length).all λj=>(zf5z j).all λi =>
  match C5[i]?,C5[j]? with
  |some oi,some oj=>cK c (bs.getD j 0) i oi oj&&(match oi.dst,oj.dst with|some d,some e=>d != e|_,_=>true)
  |_,_=>false
def ROp.rdr (c:Ctx):ROp->Bool
 | .ld .. | .ldb .. | .bslice .. | .mlook ..=>true
 | .call f _=>!c.raw f
 |_=>false
def ROp.apd:ROp->Bool
 | .box _ | .alloc _ | .mkmap | .mkb ..=>true
 |_=>false
def Nd (c:Ctx) (bj:Nat) (i:Nat) (oi oj:RO):Bool :=
 bj.testBit i ||
  (
   (match oi.dst with|some d=>!oj.slots.contains d&&oj.dst != some d|none=>true) &&
   (match oj.dst with|some d=>!oi.slots.contains d|none=>true) &&
   !(oi.op.writesB c&&oj.op.looksB)&&(!(oi.op.looksB&&oj.op.writesB c)||(oi.op.rdr c&&oj.op.apd))&&!(oi.op.writesF c&&oj.op.looksF)&&!(oi.op.looksF&&oj.op.writesF c))
def IX (c:Ctx) (bs:List Nat) (C5:List RO):Bool :=
 (zf5z C5.length).all λj=>(zf5z j).all λi =>
  match C5[i]?,C5[j]? with
  |some oi,some oj=>Nd c (bs.getD j 0) i oi oj&&(match oi.dst,oj.dst with|some d,some e=>d != e|_,_=>true)
  |_,_=>false
def Jl (c:Ctx) (ops:List Oper) (C5:List RO):Bool:=GU ops 0&&IX c (O8 ops []) C5
def KL (c:Ctx) (ops:List Oper) (C5:List RO):Bool:=GU ops 0&&XL c (O8 ops []) C5
def P8 (P:Program) (c:Ctx):Code->Option RCode
 | .skip=>some .skip
 | .region _ ops draw =>
  match (FG (Mw P ops.toList) ops.toList).map (qB c.bx)with
  |some C5 =>
   if !draw||KL c ops.toList C5 then some (.region draw C5)
   else if KL c ops.toList (C5.map (RO.lax (none,false)))then some (.region true (C5.map (RO.lax (none,false))))
   else if KL c ops.toList (Pd false C5)then some (.region true (Pd false C5))
   else if KL c ops.toList (Pd true C5)then some (.region true (Pd true C5))
   else if Jl c ops.toList C5 then some (.region true C5)
   else if GU ops.toList 0 then some (.regd (O8 ops.toList []) (Oa C5))else some .bad
  |none=>some .bad
 | .seq a b=>match P8 P c a,P8 P c b with|some a,some b=>some (.seq a b)|_,_=>none
 | .cond q a b=>match B6 q,P8 P c a,P8 P c b with|some q,some a,some b=>some (.cond q a b)|_,_,_=>none
 | .block id a=>(P8 P c a).map (.block id)
 | .loop a=>(P8 P c a).map .loop
 | .exit id=>some (.exit id)
 | .ret=>some .ret
 |_=>some .bad
def SJ (P:Program):ResultVar->Option RRes
 | .tmp t=>some (.tmp t)
 | .cell a t=>match Program.agg? P t,Program.size? P t with|some b,some n=>some (.cell a b n)|_,_=>none
def SI (P:Program) (ctx:FuncId->Ctx) (f:FuncId):Option RFunc :=
 if Program.enterable P f then
  match P.funcs[f]? with
  |some fn =>
   match fn.body with
   |some b =>
    match FG (SJ P) fn.results.toList,P8 P (ctx f) b with
    |some rs,some rb=>some ⟨fn.ntmps,rs,rb⟩
    |_,_=>none
   |none=>none
  |none=>none
 else none
def DP (w w':World) (b o:Nat):Prop:=w'.cell? ⟨b,o,none⟩=w.cell? ⟨b,o,none⟩/\∀es clk,w.heap[b]?=some (.map es clk)->w'.heap[b]?=some (.map es clk)
theorem DP.refl (w:World) (b o:Nat):DP w w b o:=⟨rfl,λ_ _ h=>h⟩
theorem DP.trans {w w' w'':World} {b o:Nat} (h:DP w w' b o) (k:DP w' w'' b o):DP w w'' b o:=⟨k.1.trans h.1,λes clk e=>k.2 es clk (h.2 es clk e)⟩
mutual
def PV (w:World) (ok:Nat->Nat->Prop):AV->Value->Prop
 | .junk,v=>v.oneCell'=true
 | .bool b,v=>v=.bool b
 | .int k n,v=>v=.int k n
 | .str s,v=>v=.string s
 | .agg cs,v=>∃us:Array Value,v=.agg us/\(∀u∈us.toList,u.oneCell'=true)/\U3 w ok cs us.toList
 | .tup cs,v=>∃us:Array Value,v=.tuple us/\U3 w ok cs us.toList
 | .vs full sz xs,v=>∃a len cap,v=.slice a len cap/\len=xs.length/\len<=cap/\cap<=maxLen/\(full=true->cap=len)/\((a=none->cap=0)/\(a=none↔sz=0))/\(xs≠[]->∃b o,a=some ⟨b,o,none⟩/\0<sz/\JL w ok sz b o xs)
 | .pv cs,v=>∃b o,v=.pointer (some ⟨b,o,none⟩)/\BU w ok b o cs
 | .nilp,v=>v=.pointer none
 | .fn f caps,v=>∃us:Array Value,v=.func (.func f) #[] us/\U3 w ok caps us.toList
 | .nilf,v=>v=.nilFunc
 | .sl ..,_=>False
 | .ep ..,_=>False
 | .ptr ..,_=>False
 | .mp _,_=>False
 | .mbox ..,_=>False
 | .rbox _,_=>False
 | .tbox ..,_=>False
 | .bsl ..,_=>False
 | .nilm,v=>v=.map none
 | .vm ks vs,v=>∃b es clk,v=.map (some b)/\ok b 0/\w.heap[b]?=some (.map es clk)/\U3 w ok ks (es.toList.map (·.key))/\U3 w ok vs (es.toList.map (·.val))
def U3 (w:World) (ok:Nat->Nat->Prop):List AV->List Value->Prop
 | [],us=>us=[]
 |c::cs,us=>∃u us',us=u::us'/\PV w ok c u/\U3 w ok cs us'
def BU (w:World) (ok:Nat->Nat->Prop) (b o:Nat):List AV->Prop
 | []=>True
 |c::cs=>(∃u,ok b o/\w.cell? ⟨b,o,none⟩=some u/\u.oneCell'=true/\PV w ok c u)/\BU w ok b (o+1) cs
def JL (w:World) (ok:Nat->Nat->Prop) (sz b o:Nat):List AV->Prop
 | []=>True
 | .agg cs::xs=>cs.length=sz/\BU w ok b o cs/\JL w ok sz b (o+sz) xs
 |x::xs=>sz=1/\(∃u,ok b o/\w.cell? ⟨b,o,none⟩=some u/\u.oneCell'=true/\PV w ok x u)/\JL w ok sz b (o+sz) xs
end
def Sg (w:World) (ok:Nat->Nat->Prop) (sz b o:Nat) (x:AV):Prop:=x.cells.length=sz/\BU w ok b o x.cells
theorem Lu {w:World} {ok:Nat->Nat->Prop} {sz b o:Nat} {x:AV} {xs:C6} :
  JL w ok sz b o (x::xs)↔Sg w ok sz b o x/\JL w ok sz b (o+sz) xs:=by
 cases x with
 |agg cs=>simp only[JL,Sg,AV.cells,and_assoc]
 |_ =>
  simp only[JL,Sg,AV.cells,BU,and_true,List.length_cons,List.length_nil,Nat.zero_add];exact⟨λh=>⟨⟨h.1.symm,h.2.1⟩,h.2.2⟩,λh=>⟨h.1.1.symm,h.1.2,h.2⟩⟩
theorem Gq {w:World} {ok:Nat->Nat->Prop} {sz b:Nat} {xs:C6}:∀{o:Nat},JL w ok sz b o xs->∀{j:Nat} {x:AV},xs[j]?=some x->Sg w ok sz b (o+j*sz) x:=by
 induction xs with
 |nil=>intro o _ j x h;simp at h
 |cons y ys ih =>
  intro o h j x hj;rw[Lu]at h;cases j with
  |zero=>simp at hj;subst hj;simpa using h.1
  |succ j =>
   have:=ih h.2 (j:=j) (x:=x) (by simpa using hj)
   rwa [show o+sz+j*sz=o+(j+1)*sz from by rw[zf6z];omega]at this
theorem LC {w:World} {ok:Nat->Nat->Prop} {sz b:Nat} {xs:C6}:∀{o:Nat},(∀j x,xs[j]?=some x->Sg w ok sz b (o+j*sz) x)->JL w ok sz b o xs:=by
 induction xs with
 |nil=>intro o _;simp[JL]
 |cons y ys ih =>
  intro o h;rw[Lu];refine⟨by simpa using h 0 y rfl,ih λj x hj=>?_⟩;have:=h (j+1) x (by simpa using hj)
  rwa [show o+(j+1)*sz=o+sz+j*sz from by rw[zf6z];omega]at this
theorem n7 {w:World} {ok:Nat->Nat->Prop} {b:Nat} {cs:C6}:∀{o:Nat},BU w ok b o cs->∀{j:Nat} {c:AV},cs[j]?=some c ->
  ∃u,ok b (o+j)/\w.cell? ⟨b,o+j,none⟩=some u/\u.oneCell'=true/\PV w ok c u:=by
 induction cs with
 |nil=>intro o _ j c h;simp at h
 |cons y ys ih =>
  intro o h j c hj;simp only[BU]at h;cases j with
  |zero=>simp at hj;subst hj;simpa using h.1
  |succ j =>
   have:=ih h.2 (j:=j) (c:=c) (by simpa using hj)
   rwa [show o+1+j=o+(j+1) from by omega]at this
theorem Gg {w:World} {ok:Nat->Nat->Prop} {b:Nat} {cs:C6}:∀{o:Nat},(∀j c,cs[j]?=some c->∃u,ok b (o+j)/\w.cell? ⟨b,o+j,none⟩=some u/\u.oneCell'=true/\PV w ok c u)->BU w ok b o cs:=by
 induction cs with
 |nil=>intro o _;simp[BU]
 |cons y ys ih =>
  intro o h;simp only[BU];refine⟨by simpa using h 0 y rfl,ih λj c hj=>?_⟩;have:=h (j+1) c (by simpa using hj)
  rwa [show o+(j+1)=o+1+j from by omega]at this
theorem Al {w:World} {ok:Nat->Nat->Prop} {cs:C6}:∀{us:List Value},U3 w ok cs us->us.length=cs.length/\∀{j:Nat} {c:AV},cs[j]?=some c->∃u,us[j]?=some u/\PV w ok c u:=by
 induction cs with
 |nil=>intro us h;simp[U3]at h;subst h;simp
 |cons y ys ih =>
  intro us h;simp only[U3]at h;obtain⟨u,us',rfl,h1,h2⟩:=h;obtain⟨hl,hg⟩:=ih h2;refine⟨by simp[hl],λ{j c} hj=>?_⟩;cases j with
  |zero=>simp at hj;subst hj;exact⟨u,rfl,h1⟩
  |succ j=>simpa using hg (j:=j) (c:=c) (by simpa using hj)
theorem Qu {w:World} {ok:Nat->Nat->Prop} {cs:C6}:∀{us:List Value},us.length=cs.length->(∀(j:Nat) (c:AV) (u:Value),cs[j]?=some c->us[j]?=some u->PV w ok c u)->U3 w ok cs us:=by
 induction cs with
 |nil=>intro us hl _;simp[U3];simpa using hl
 |cons y ys ih =>
  intro us hl h;cases us with
  |nil=>simp at hl
  |cons u us' =>
   simp only[U3];exact⟨u,us',rfl,h 0 y u rfl rfl,ih (by simpa using hl) λj c v hc hv=>h (j+1) c v (by simpa using hc) (by simpa using hv)⟩
mutual
theorem Z2 {w w':World} {ok ok':Nat->Nat->Prop} (h:∀b o,ok b o->ok' b o/\DP w w' b o):∀(x:AV) (v:Value),PV w ok x v->PV w' ok' x v
 | .junk,v,hx=>by simpa[PV]using hx
 | .bool b,v,hx=>by simpa[PV]using hx
 | .int k n,v,hx=>by simpa[PV]using hx
 | .str s,v,hx=>by simpa[PV]using hx
 | .agg cs,v,hx=>by
  simp only[PV]at hx ⊢;obtain⟨us,rfl,h1,hu⟩:=hx;exact⟨us,rfl,h1,T6 h cs us.toList hu⟩
 | .tup cs,v,hx=>by
  simp only[PV]at hx ⊢;obtain⟨us,rfl,hu⟩:=hx;exact⟨us,rfl,T6 h cs us.toList hu⟩
 | .vs full sz xs,v,hx=>by
  simp only[PV]at hx ⊢;obtain⟨a,len,cap,rfl,h1,h2,h3,h4,h5,h6⟩:=hx;refine⟨a,len,cap,rfl,h1,h2,h3,h4,h5,λS6=>?_⟩;obtain⟨b,o,ha,hs,he⟩:=h6 S6;exact⟨b,o,ha,hs,Lv h sz b o xs he⟩
 | .pv cs,v,hx=>by
  simp only[PV]at hx ⊢;obtain⟨b,o,rfl,hc⟩:=hx;exact⟨b,o,rfl,Hb h b o cs hc⟩
 | .nilp,v,hx=>by simpa[PV]using hx
 | .fn f caps,v,hx=>by
  simp only[PV]at hx ⊢;obtain⟨us,rfl,hu⟩:=hx;exact⟨us,rfl,T6 h caps us.toList hu⟩
 | .nilf,v,hx=>by simpa[PV]using hx
 | .sl ..,_,hx=>by simp[PV]at hx
 | .ep ..,_,hx=>by simp[PV]at hx
 | .ptr ..,_,hx=>by simp[PV]at hx
 | .mp _,_,hx=>by simp[PV]at hx
 | .mbox ..,_,hx=>by simp[PV]at hx
 | .rbox _,_,hx=>by simp[PV]at hx
 | .tbox ..,_,hx=>by simp[PV]at hx
 | .bsl ..,_,hx=>by simp[PV]at hx
 | .nilm,v,hx=>by simpa[PV]using hx
 | .vm ks vs,v,hx=>by
  simp only[PV]at hx ⊢;obtain⟨b,es,clk,rfl,h1,h2,h3,h4⟩:=hx;exact⟨b,es,clk,rfl,(h b 0 h1).1,(h b 0 h1).2.2 es clk h2,T6 h ks _ h3,T6 h vs _ h4⟩
theorem T6 {w w':World} {ok ok':Nat->Nat->Prop} (h:∀b o,ok b o->ok' b o/\DP w w' b o):∀(cs:C6) (us:List Value),U3 w ok cs us->U3 w' ok' cs us
 | [],us,hx=>by simpa[U3]using hx
 |c::cs,us,hx=>by
  simp only[U3]at hx ⊢;obtain⟨u,us',rfl,h1,h2⟩:=hx;exact⟨u,us',rfl,Z2 h c u h1,T6 h cs us' h2⟩
theorem Hb {w w':World} {ok ok':Nat->Nat->Prop} (h:∀b o,ok b o->ok' b o/\DP w w' b o) (b o:Nat):∀(cs:C6),BU w ok b o cs->BU w' ok' b o cs
 | [],_=>by simp[BU]
 |c::cs,hx=>by
  simp only[BU]at hx ⊢;obtain⟨⟨u,h1,h2,h3,h4⟩,h5⟩:=hx;exact⟨⟨u,(h b o h1).1,by rw[(h b o h1).2.1];exact h2,h3,Z2 h c u h4⟩,Hb h b (o+1) cs h5⟩
theorem Lv {w w':World} {ok ok':Nat->Nat->Prop} (h:∀b o,ok b o->ok' b o/\DP w w' b o) (sz b o:Nat):∀(xs:C6),JL w ok sz b o xs->JL w' ok' sz b o xs
 | [],_=>by simp[JL]
 | .agg cs::xs,hx=>by
  simp only[JL]at hx ⊢;exact⟨hx.1,Hb h b o cs hx.2.1,Lv h sz b (o+sz) xs hx.2.2⟩
 |x::xs,hx=>by
  rw[Lu]at hx ⊢;refine⟨?_,Lv h sz b (o+sz) xs hx.2⟩;cases x with
  |agg cs=>exact⟨hx.1.1,Hb h b o cs hx.1.2⟩
  |_ =>
   refine⟨hx.1.1,?_⟩;have hc:=hx.1.2;simp only[AV.cells,BU]at hc ⊢;obtain⟨⟨u,h1,h2,h3,h4⟩,h5⟩:=hc;exact⟨⟨u,(h b o h1).1,by rw[(h b o h1).2.1];exact h2,h3,Z2 h _ u h4⟩,trivial⟩
end
structure Img where
 b:Nat
 o:Nat
 cap:Nat
 lo:Nat
structure Env where
 w:World
 base:Nat
 ok0:Nat->Nat->Prop
 nb:Nat->Nat
 im:Nat->Img
 h:AH
def Env.Live (E:Env) (i:Nat):Prop:=∃cs,E.h.boxes[i]?=some cs/\AY cs=false
theorem Env.Live.lt {E:Env} {i:Nat} (h:E.Live i):i<E.h.boxes.length:=by
 obtain⟨cs,h,_⟩:=h;exact(zf1z.1 h).1
theorem Env.Live.ne {E:Env} {i:Nat} {cs:C6} (h:E.Live i) (hi:E.h.boxes[i]?=some cs):AY cs=false:=by
 obtain⟨cs',h1,h2⟩:=h;rw[hi]at h1;cases h1;exact h2
theorem Am {E:Env} {i:Nat} {cs:C6} (hi:E.h.boxes[i]?=some cs) (h:AY cs=false):E.Live i:=⟨cs,hi,h⟩
theorem KH {E E':Env} (h:E'.h.boxes=E.h.boxes) {i:Nat}:E'.Live i↔E.Live i:=by unfold Env.Live;rw[h]
theorem n8 {cs:C6} (h:AZ cs=false):AY cs=false:=by
 unfold AY;split
 .simp[AZ]at h
 .rfl
def Env.ok (E:Env) (b o:Nat):Prop :=
 (b<E.base/\E.ok0 b o) \/
 (E.base<=b/\b<E.w.heap.size/\(∀i,E.Live i->E.nb i=b->∃cs,E.h.boxes[i]?=some [.rbox cs]) /\
  ∀k f,E.h.fams[k]?=some f->(E.im k).b=b->f.wr=false/\o<(E.im k).o+(f.xs.length-(E.im k).lo)*f.sz)
mutual
def VR (E:Env):AV->Value->Prop
 | .agg cs,v=>∃us:Array Value,v=.agg us/\(∀u∈us.toList,u.oneCell'=true)/\V6 E cs us.toList
 | .tup cs,v=>∃us:Array Value,v=.tuple us/\V6 E cs us.toList
 | .fn f caps,v=>∃us:Array Value,v=.func (.func f) #[] us/\V6 E caps us.toList
 | .sl k n off len,v=>∃a cap f,v=.slice a len cap/\E.h.fams[k]?=some f/\(n<=f.xs.length/\(len≠0->∃b o,a=some ⟨b,o,none⟩))/\(f.xs.length=n ->
   (E.im k).lo<=off/\off+len<=n/\cap+(off-(E.im k).lo)=(E.im k).cap/\a≠none /\
   (cap≠0->a=some ⟨(E.im k).b,(E.im k).o+(off-(E.im k).lo)*f.sz,none⟩))
 | .ep k n i c sz,v=>∃b o f,v=.pointer (some ⟨b,o,none⟩)/\E.h.fams[k]?=some f/\n<=f.xs.length/\(f.xs.length=n/\f.sz=sz ->
   (E.im k).lo<=i/\(⟨b,o,none⟩:Addr)=⟨(E.im k).b,(E.im k).o+(i-(E.im k).lo)*f.sz+c,none⟩)
 | .ptr b off,v=>E.Live b/\v=.pointer (some ⟨E.nb b,off,none⟩)
 | .mp b,v=>E.Live b/\v=.map (some (E.nb b))
 | .mbox ..,_=>False
 | .rbox _,_=>False
 | .tbox ..,_=>False
 | .bsl b _ off len,v=>E.Live b/\∃cap,v=.slice (some ⟨E.nb b,off,none⟩) len cap/\len<=cap/\cap<=maxLen
 | .nilm,v=>v=.map none
 | .vm ks vs,v=>PV E.w E.ok (.vm ks vs) v
 | .junk,v=>v.oneCell'=true
 | .bool b,v=>v=.bool b
 | .int k n,v=>v=.int k n
 | .str s,v=>v=.string s
 | .vs full sz xs,v=>PV E.w E.ok (.vs full sz xs) v
 | .pv cs,v=>PV E.w E.ok (.pv cs) v
 | .nilp,v=>v=.pointer none
 | .nilf,v=>v=.nilFunc
def V6 (E:Env):List AV->List Value->Prop
 | [],us=>us=[]
 |c::cs,us=>∃u us',us=u::us'/\VR E c u/\V6 E cs us'
end
theorem ES {E:Env} {cs:C6}:∀{us:List Value},V6 E cs us->us.length=cs.length/\∀{j:Nat} {c:AV},cs[j]?=some c->∃u,us[j]?=some u/\VR E c u:=by
 induction cs with
 |nil=>intro us h;simp[V6]at h;subst h;simp
 |cons y ys ih =>
  intro us h;simp only[V6]at h;obtain⟨u,us',rfl,h1,h2⟩:=h;obtain⟨hl,hg⟩:=ih h2;refine⟨by simp[hl],λ{j c} hj=>?_⟩;cases j with
  |zero=>simp at hj;subst hj;exact⟨u,rfl,h1⟩
  |succ j=>simpa using hg (j:=j) (c:=c) (by simpa using hj)
theorem Kh {E:Env} {cs:C6}:∀{us:List Value},us.length=cs.length->(∀(j:Nat) (c:AV) (u:Value),cs[j]?=some c->us[j]?=some u->VR E c u)->V6 E cs us:=by
 induction cs with
 |nil=>intro us hl _;simp[V6];simpa using hl
 |cons y ys ih =>
  intro us hl h;cases us with
  |nil=>simp at hl
  |cons u us' =>
   simp only[V6];exact⟨u,us',rfl,h 0 y u rfl rfl,ih (by simpa using hl) λj c v hc hv=>h (j+1) c v (by simpa using hc) (by simpa using hv)⟩
mutual
theorem X1 {E:Env}:∀(x:AV) (v:Value),PV E.w E.ok x v->VR E x v
 | .junk,v,hx=>by simpa[VR,PV]using hx
 | .bool b,v,hx=>by simpa[PV,VR]using hx
 | .int k n,v,hx=>by simpa[PV,VR]using hx
 | .str s,v,hx=>by simpa[PV,VR]using hx
 | .agg cs,v,hx=>by
  simp only[PV,VR]at hx ⊢;obtain⟨us,rfl,h1,hu⟩:=hx;exact⟨us,rfl,h1,Gt cs us.toList hu⟩
 | .tup cs,v,hx=>by
  simp only[PV,VR]at hx ⊢;obtain⟨us,rfl,hu⟩:=hx;exact⟨us,rfl,Gt cs us.toList hu⟩
 | .vs full sz xs,v,hx=>by simp only[VR];exact hx
 | .pv cs,v,hx=>by simp only[VR];exact hx
 | .nilp,v,hx=>by simpa[PV,VR]using hx
 | .fn f caps,v,hx=>by
  simp only[PV,VR]at hx ⊢;obtain⟨us,rfl,hu⟩:=hx;exact⟨us,rfl,Gt caps us.toList hu⟩
 | .nilf,v,hx=>by simpa[PV,VR]using hx
 | .sl ..,_,hx=>by simp[PV]at hx
 | .ep ..,_,hx=>by simp[PV]at hx
 | .ptr ..,_,hx=>by simp[PV]at hx
 | .mp _,_,hx=>by simp[PV]at hx
 | .mbox ..,_,hx=>by simp[PV]at hx
 | .rbox _,_,hx=>by simp[PV]at hx
 | .tbox ..,_,hx=>by simp[PV]at hx
 | .bsl ..,_,hx=>by simp[PV]at hx
 | .nilm,v,hx=>by simpa[PV,VR]using hx
 | .vm ks vs,v,hx=>by simp only[VR];exact hx
theorem Gt {E:Env}:∀(cs:C6) (us:List Value),U3 E.w E.ok cs us->V6 E cs us
 | [],us,hx=>by simpa[U3,V6]using hx
 |c::cs,us,hx=>by
  simp only[U3,V6]at hx ⊢;obtain⟨u,us',rfl,h1,h2⟩:=hx;exact⟨u,us',rfl,X1 c u h1,Gt cs us' h2⟩
end
structure Bl (B:Nat) (w w':World):Prop where
 below:Go.RowKit.Below B w w'
 drawn:Yv=true->w.drawn<=w'.drawn
theorem Bl.refl (B:Nat) (w:World):Bl B w w:=⟨Go.RowKit.Below.refl _ _,λ_=>zf4z _⟩
theorem Bl.trans {B:Nat} {a b c:World} (h:Bl B a b) (k:Bl B b c):Bl B a c:=⟨h.below.trans k.below,λe=>zf3z (h.drawn e) (k.drawn e)⟩
theorem Bl.size {B:Nat} {w w':World} (h:Bl B w w'):w.heap.size<=w'.heap.size:=h.below.size
theorem Bl.block {B:Nat} {w w':World} (h:Bl B w w'):∀k,k<B->w'.heap[k]?=w.heap[k]?:=h.below.block
theorem Bl.mono {B B':Nat} {w w':World} (h:Bl B w w') (hB:B'<=B):Bl B' w w':=⟨h.below.mono hB,h.drawn⟩
structure Ext (E E':Env):Prop where
 cells:∀b o,E.ok b o->E'.ok b o/\DP E.w E'.w b o
 boxes:E.h.boxes.length<=E'.h.boxes.length
 nb:∀i,E.Live i->E'.Live i/\E'.nb i=E.nb i
 fams:E.h.fams.length<=E'.h.fams.length
 im:∀k f f',E.h.fams[k]?=some f->E'.h.fams[k]?=some f'->f'.sz=f.sz/\f.xs.length<=f'.xs.length/\(f'.xs.length=f.xs.length->E'.im k=E.im k)
 base:E'.base=E.base
 ok0:E'.ok0=E.ok0
 below:Bl E.base E.w E'.w
theorem Ext.refl (E:Env):Ext E E :=
 ⟨λ_ _ h=>⟨h,DP.refl _ _ _⟩,zf4z _,λ_ h=>⟨h,rfl⟩,zf4z _,λk f f' h h'=>by rw[h]at h';cases h';exact⟨rfl,zf4z _,λ_=>rfl⟩,rfl,rfl,Bl.refl _ _⟩
theorem Ext.trans {E E' E'':Env} (h:Ext E E') (k:Ext E' E''):Ext E E'':=by
 refine⟨λb o ho=>?_,zf3z h.boxes k.boxes,λi hi=>⟨(k.nb i (h.nb i hi).1).1,(k.nb i (h.nb i hi).1).2.trans (h.nb i hi).2⟩,zf3z h.fams k.fams,λj f f'' hf hf''=>?_,k.base.trans h.base,k.ok0.trans h.ok0,?_⟩
 .obtain⟨h1,h2⟩:=h.cells b o ho;obtain⟨h3,h4⟩:=k.cells b o h1;exact⟨h3,h2.trans h4⟩
 .have A9:j<E'.h.fams.length:=zf2z (zf1z.1 hf).1 h.fams;obtain⟨a1,a2,a3⟩:=h.im j f _ hf (zf0z A9);obtain⟨b1,b2,b3⟩:=k.im j _ f'' (zf0z A9) hf'';refine⟨b1.trans a1,zf3z a2 b2,λhe=>?_⟩;rw[b3 (by omega),a3 (by omega)]
 .have hk:=k.below;rw[h.base]at hk;exact h.below.trans hk
mutual
theorem Nn {E E':Env} (h:Ext E E'):∀(x:AV) (v:Value),VR E x v->VR E' x v
 | .junk,v,hx=>by simpa[VR]using hx
 | .bool b,v,hx=>by simpa[VR]using hx
 | .int k n,v,hx=>by simpa[VR]using hx
 | .str s,v,hx=>by simpa[VR]using hx
 | .agg cs,v,hx=>by
  simp only[VR]at hx ⊢;obtain⟨us,rfl,h1,hu⟩:=hx;exact⟨us,rfl,h1,Cp h cs us.toList hu⟩
 | .tup cs,v,hx=>by
  simp only[VR]at hx ⊢;obtain⟨us,rfl,hu⟩:=hx;exact⟨us,rfl,Cp h cs us.toList hu⟩
 | .vs full sz xs,v,hx=>by
  simp only[VR]at hx ⊢;exact Z2 h.cells _ _ hx
 | .pv cs,v,hx=>by
  simp only[VR]at hx ⊢;exact Z2 h.cells _ _ hx
 | .nilp,v,hx=>by simpa[VR]using hx
 | .fn f caps,v,hx=>by
  simp only[VR]at hx ⊢;obtain⟨us,rfl,hu⟩:=hx;exact⟨us,rfl,Cp h caps us.toList hu⟩
 | .nilf,v,hx=>by simpa[VR]using hx
 | .sl k n off len,v,hx=>by
  simp only[VR]at hx ⊢;obtain⟨a,cap,f,rfl,hf,hn,hc⟩:=hx;have A9:k<E'.h.fams.length:=zf2z (zf1z.1 hf).1 h.fams;obtain⟨h1,h2,h3⟩:=h.im k f _ hf (zf0z A9);refine⟨a,cap,_,rfl,zf0z A9,⟨by omega,hn.2⟩,λhe=>?_⟩;rw[h3 (by omega),h1];exact hc (by omega)
 | .ep k n i c sz,v,hx=>by
  simp only[VR]at hx ⊢;obtain⟨b,o,f,rfl,hf,hn,hc⟩:=hx;have A9:k<E'.h.fams.length:=zf2z (zf1z.1 hf).1 h.fams;obtain⟨h1,h2,h3⟩:=h.im k f _ hf (zf0z A9);refine⟨b,o,_,rfl,zf0z A9,by omega,λhe=>?_⟩;rw[h3 (by omega),h1];exact hc ⟨by omega,by rw[←h1];exact he.2⟩
 | .ptr b off,v,hx=>by
  simp only[VR]at hx ⊢;exact⟨(h.nb b hx.1).1,by rw[(h.nb b hx.1).2];exact hx.2⟩
 | .mp b,v,hx=>by
  simp only[VR]at hx ⊢;exact⟨(h.nb b hx.1).1,by rw[(h.nb b hx.1).2];exact hx.2⟩
 | .mbox ..,_,hx=>by simp[VR]at hx
 | .rbox _,_,hx=>by simp[VR]at hx
 | .tbox ..,_,hx=>by simp[VR]at hx
 | .bsl b sz off len,v,hx=>by
  simp only[VR]at hx ⊢;exact⟨(h.nb b hx.1).1,by rw[(h.nb b hx.1).2];exact hx.2⟩
 | .nilm,v,hx=>by simpa[VR]using hx
 | .vm ks vs,v,hx=>by
  simp only[VR]at hx ⊢;exact Z2 h.cells _ _ hx
theorem Cp {E E':Env} (h:Ext E E'):∀(cs:C6) (us:List Value),V6 E cs us->V6 E' cs us
 | [],us,hx=>by simpa[V6]using hx
 |c::cs,us,hx=>by
  simp only[V6]at hx ⊢;obtain⟨u,us',rfl,h1,h2⟩:=hx;exact⟨u,us',rfl,Nn h c u h1,Cp h cs us' h2⟩
end
theorem Gs {E:Env} {cs:C6} {us:List Value} (h:V6 E cs us):AY cs=false:=by
 unfold AY;split
 .simp only[V6]at h;obtain⟨u,us',_,h1,_⟩:=h;simp[VR]at h1
 .rfl
end Go.Abs
