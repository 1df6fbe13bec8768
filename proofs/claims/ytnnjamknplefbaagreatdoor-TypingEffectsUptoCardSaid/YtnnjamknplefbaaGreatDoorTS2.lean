/- A part of the proof. -/
import Derived.Test.YtnnjamknplefbaaGreatDoorTS1
set_option linter.all false
open List renaming getElem?_eq_getElem->zf0z,getElem?_eq_some_iff->zf1z,range->zf5z
open Nat renaming lt_of_lt_of_le->zf2z,le_trans->zf3z,le_refl->zf4z,succ_mul->zf6z
set_option linter.all false
namespace Go.Abs
def LG:Value->Option AV
 | .bool b=>some (.bool b)
 | .int k n=>some (.int k n)
 | .string s=>some (.str s)
 | .slice none 0 0=>some (.vs true 0 [])
 | .pointer none=>some .nilp
 | .map none=>some .nilm
 | .nilFunc=>some .nilf
 | .nilIface=>some .junk
 | .func (.func f) a b=>if a.size=0/\b.size=0 then some (.fn f [])else none
 |_=>none
def GK{α β:Type}(f:α->Option β):List α->Option (List β)
 | []=>some []
 |x::xs=>match f x,GK f xs with|some y,some ys=>some (y::ys)|_,_=>none
def Ly:Value->Option AV
 | .agg cs=>(GK LG cs.toList).map .agg
 | .tuple vs=>if vs.size=0 then some (.tup [])else none
 |v=>LG v
def C5:Operand->Option Opd
 | .tmp t=>some (.t t)
 | .const v=>(Ly v).map .c
 | .func f=>some (.c (.fn f []))
 | .global g=>(iG.find? λp=>Nat.beq p.1 g).map λp=>.c (.pv p.2)
def FH:Option Operand->Option (Option Opd)
 |none=>some none
 |some x=>(C5 x).map some
def Program.agg? (P:Program) (t:TypeId):Option Bool :=
 match P.underlying t with
 |some (.struct _)|some (.array _ _)=>some true
 |some _=>some false
 |none=>none
def Program.size? (P:Program) (t:TypeId):Option Nat:=(P.info? t).map (·.size)
def Program.zeroA(P:Program)(t:TypeId):Option AV :=
 match P.info? t with
 |some i =>
  match i.zero with
  |some z =>
   match Ly z with
   |some x=>if z.cells.size=i.size/\x.isTup=false then some x else none
   |none=>none
  |none=>none
 |none=>none
def Program.enterable(P:Program)(f:FuncId):Bool :=
 match P.funcs[f]? with
 |some fn=>fn.body.isSome&&!(fn.name == "runtime.NumGoroutine")
 |none=>false
def RR(P:Program)(fs:Array Field)(p:Nat×Operand):Option (Nat×Nat×Opd) :=
 match fs[p.1]?,C5 p.2 with
 |some f,some x=>match Program.size? P f.type with|some n=>some (f.offset,n,x)|none=>none
 |_,_=>none
def RP(p:Nat×Operand):Option (Nat×Opd):=(C5 p.2).map λx=>(p.1,x)
def LO(P:Program)(kt:TypeId):Option Bool :=
 match P.underlying kt with
 |some .string=>some true
 |some (.int _)=>some false
 |_=>none
def Kk(t:TypeId)(z:AV):AV:=if bldT=some t then .agg [.tbox t z.cells]else z
def Gi(P:Program)(kt:TypeId):Bool :=
 match P.underlying kt with
 |some (.struct fs) =>
  match fs.toList with
  | [f,g] =>
   match P.underlying f.type,P.underlying g.type with
   |some .string,some (.int _)=>f.name≠ "_"/\g.name≠ "_"/\f.offset=0/\g.offset=1/\Program.agg? P f.type=some false/\Program.agg? P g.type=some false/\P.stoodInHeld kt=false
   |_,_=>false
  |_=>false
 |_=>false
def Z4(P:Program):Op->Option ROp
 | .makeMap t none=>match P.underlying t with|some (.map _ _)=>some .mkmap|_=>none
 | .lookup t x k ok =>
  match P.underlying t with
  |some (.map kt et) =>
   match LO P kt,Program.zeroA P et,C5 x,C5 k with
   |some b,some z,some x,some k=>some (.mlook b ok z x k)
   |none,some z,some x,some k=>if Gi P kt then some (.mlookp ok z x k)else none
   |_,_,_,_=>none
  |_=>none
 | .mapUpdate t m k x | .insert t m k x =>
  match P.underlying t with
  |some (.map kt _) =>
   match LO P kt,C5 m,C5 k,C5 x with
   |some b,some m,some k,some x=>some (.mup b m k x)
   |none,some m,some k,some x=>if Gi P kt then some (.mupp m k x)else none
   |_,_,_,_=>none
  |_=>none
 | .move x=>(C5 x).map .mov
 | .assign x=>(C5 x).map .mov
 | .pick c a b=>match C5 c,C5 a,C5 b with|some c,some a,some b=>some (.pick c a b)|_,_,_=>none
 | .alloc t=>(Program.zeroA P t).map λz=>.alloc (Kk t z)
 | .box _ x=>(C5 x).map .box
 | .build t parts =>
  match P.underlying t,Program.zeroA P t with
  |some (.struct fs),some (.agg zs) =>
   if (fs.toList.mapM λf=>(P.info? f.type).map λi=>(f.offset,i.size)).isSome then (GK (RR P fs) parts.toList).map (.build (.agg zs))else none
  |_,_=>none
 | .buildSlice t len parts =>
  match P.underlying t with
  |some (.slice e) =>
   match Program.zeroA P e,Program.size? P e,GK RP parts.toList with
   |some z,some n,some ps=>if 0<n/\len*n<=2 ^ 24 then some (.bslice len z ps)else none
   |_,_,_=>none
  |_=>none
 | .load t x=>match Program.agg? P t,Program.size? P t,C5 x with|some b,some n,some x=>some (.ld b n x)|_,_,_=>none
 | .store t a x=>match Program.size? P t,C5 a,C5 x with|some n,some a,some x=>some (.st n a x)|_,_,_=>none
 | .nilCheck x=>(C5 x).map .nilck
 | .binOp op t x y _ =>
  match C5 x,C5 y with
  |some x,some y =>
   match P.underlying t,op with
   |some .bool,.eql=>some (.beq false x y)
   |some .bool,.neq=>some (.beq true x y)
   |some (.slice _),.eql=>match y with | .c (.vs true 0 [])=>some (.nileq false x)|_=>none
   |some (.slice _),.neq=>match y with | .c (.vs true 0 [])=>some (.nileq true x)|_=>none
   |_,_=>some (.bin op x y)
  |_,_=>none
 | .unOp op _ x=>(C5 x).map (.un op)
 | .convert s d x =>
  match P.underlying s,P.underlying d with
  |some (.int _),some (.int k)=>(C5 x).map (.conv k)
  |some .string,some .string=>(C5 x).map .cstr
  |some (.slice e),some .string=>match P.underlying e with|some (.int .u8)=>(C5 x).map .bstr|_=>none
  |_,_=>none
 | .makeFunc (.func f) first caps=>if first.size=0 then (GK C5 caps.toList).map (.clos f)else none
 | .makeSlice t l c =>
  match P.underlying t with
  |some (.slice e) =>
   match P.info? e,Program.zeroA P e,C5 l,C5 c with
   |some i,some z,some l,some c=>if 0<i.size then some (.mkslice z i.bytes l c)else none
   |_,_,_,_=>none
  |_=>none
 | .slice t x lo hi mx =>
  match P.underlying t,C5 x,FH lo,FH hi,FH mx with
  |some .string,some x,some lo,some hi,some none=>some (.slc 0 x lo hi none)
  |some (.slice e),some x,some lo,some hi,some mx=>match Program.size? P e with|some n=>if 0<n then some (.slc n x lo hi mx)else none|none=>none
  |_,_,_,_,_=>none
 | .fieldAddr s x i =>
  match P.underlying s,C5 x with
  |some (.struct fs),some x =>
   match fs[i]? with
   |some f=>match Program.size? P f.type with|some n=>if 0<n then some (.faddr f.offset x)else none|none=>none
   |none=>none
  |_,_=>none
 | .field s x i =>
  match P.underlying s,C5 x with
  |some (.struct fs),some x =>
   match fs[i]? with
   |some f=>match Program.agg? P f.type,Program.size? P f.type with|some b,some n=>some (.fld b f.offset n x)|_,_=>none
   |none=>none
  |_,_=>none
 | .indexAddr t x i =>
  match P.underlying t,C5 x,C5 i with
  |some (.slice e),some x,some i=>match Program.size? P e with|some n=>if 0<n then some (.iaddr n x i)else none|none=>none
  |_,_,_=>none
 | .index t x i=>match P.underlying t,C5 x,C5 i with|some .string,some x,some i=>some (.idx x i)|_,_,_=>none
 | .extract x i=>(C5 x).map λx=>.ext x i
 | .call {callee:=.builtin .len,args,argTypes} =>
  match args.toList,argTypes.toList with
  | [x],[t] =>
   match P.underlying t with
   |some .string=>(C5 x).map (.len true)
   |some (.slice _)=>(C5 x).map (.len false)
   |some (.map _ _)=>(C5 x).map .mlen
   |_=>none
  |_,_=>none
 | .call {callee:=.builtin .append,args,argTypes} =>
  match args.toList,argTypes.toList with
  | [s,x],[t,u] =>
   match P.underlying t with
   |some (.slice e) =>
    match P.info? e,Program.zeroA P e,C5 s,C5 x with
    |some i,some _,some s,some x=>if 0<i.size/\t=u then some (.app i.size i.bytes s x)else (match P.underlying u with|some .string=>if i.size=1 then some (.apps i.bytes s x)else none|_=>none)
    |_,_,_,_=>none
   |_=>none
  |_,_=>none
 | .call {callee:=.builtin .clear,args,argTypes} =>
  match args.toList,argTypes.toList with
  | [x],[t] =>
   match P.underlying t with
   |some (.slice e)=>match Program.zeroA P e,C5 x with|some z,some x=>some (.clr z x)|_,_=>none
   |_=>none
  |_,_=>none
 | .call {callee:=.builtin .max,args,argTypes:=_} =>
  match args.toList with
  | [x,y]=>match C5 x,C5 y with|some x,some y=>some (.max x y)|_,_=>none
  |_=>none
 | .call {callee:=.builtin .min,args,argTypes:=_} =>
  match args.toList with
  | [x,y]=>match C5 x,C5 y with|some x,some y=>some (.min x y)|_,_=>none
  |_=>none
 | .call {callee:=.value (.func f),args,argTypes:=_}=>if Program.enterable P f then (GK C5 args.toList).map (.call f)else none
 | .call {callee:=.value (.tmp t),args,argTypes:=_}=>(GK C5 args.toList).map (.callv (.t t))
 |_=>none
def Oc(ops:List Oper):Option (Nat×Bool)->Option (Option (Nat×Bool))
 |none=>some none
 |some (j,want) =>
  match ops[j]? with
  |some o=>match o.dst with|some d=>some (some (d,want))|none=>none
  |none=>none
def QZ(P:Program)(ops:List Oper)(o:Oper):Option RO :=
 match Z4 P o.op,Oc ops o.guard with
 |some r,some g=>some ⟨o.dst,r,g⟩
 |_,_=>none
def ROp.lax(m:Option Bool×Bool):ROp->ROp
 | .ld b n x=>.ldb b n x
 | .bslice n z ps=>.bslicev n z ps
 | .mkslice z b l q=>if m.2 then .mkv z b l q else .mkslice z b l q
 | .st n a x=>match m.1 with|none=>.st n a x|some true=>.ste n a x|some false=>.stb n a x
 |o=>o
def ROp.bxd:ROp->ROp
 | .mkslice z b l q=>.mkb z b l q
 |o=>o
def RO.bxd(o:RO):RO:={o with op:=o.op.bxd}
def bxS(b:Bool)(D5:List RO):List RO:=if b then D5.map RO.bxd else D5
def RO.lax(m:Option Bool×Bool)(o:RO):RO:={o with op:=o.op.lax m}
def ROp.isIA:ROp->Bool
 | .iaddr ..=>true
 |_=>false
def eA(D5:List RO):ROp->Bool
 | .st _ (.t d) _=>D5.any λp=>p.dst == some d&&p.op.isIA
 |_=>false
def UO(k:Bool)(D5:List RO):List RO:=D5.map λo=>o.lax (some (eA D5 o.op),k)
def Xe:Nat->List RO->List RO
 |_,[]=>[]
 |n,o::os=>match o.op with | .alloc z=>{o with op:=.allocAt n z}::Xe (n-1) os|_=>o::Xe n os
def nAl(ops:List RO):Nat:=ops.countP λo=>match o.op with | .alloc _=>true|_=>false
def OL(D5:List RO):List RO:=if 2<=nAl D5 then Xe (nAl D5) D5 else D5
def S7:List Oper->List Nat->List Nat
 | [],j6=>j6
 |o::rest,j6=>S7 rest (j6++[o.after.toList.foldl (λs e=>if Region.binds .any e then s ||| 2 ^ e.on ||| j6.getD e.on 0 else s) 0])
def rK(c:Ctx)(bj:Nat)(i:Nat)(oi oj:RO):Bool :=
 bj.testBit i ||
  (
   (match oi.dst with|some d=>!oj.slots.contains d&&oj.dst != some d|none=>true) &&
   (match oj.dst with|some d=>!oi.slots.contains d|none=>true) &&
   !(oi.op.writesB c&&oj.op.looksB)&&!(oi.op.looksB&&oj.op.writesB c)&&!(oi.op.writesF c&&oj.op.looksF)&&!(oi.op.looksF&&oj.op.writesF c))
def Hk:List Oper->Nat->Bool
 | [],_=>true
 |o::rest,i=>o.after.toList.all (λe=>!Region.binds .any e||decide (e.on<i))&&Hk rest (i+1)
def iS(c:Ctx)(bs:List Nat)(D5:List RO):Bool :=
 (zf5z D5.length).all λj=>(zf5z j).all λi =>
  match D5[i]?,D5[j]? with
  |some oi,some oj=>rK c (bs.getD j 0) i oi oj&&(match oi.dst,oj.dst with|some d,some e=>d != e|_,_=>true)
  |_,_=>false
def ROp.rdr(c:Ctx):ROp->Bool
 | .ld .. | .ldb .. | .bslice .. | .mlook ..=>true
 | .call f _=>!c.raw f
 |_=>false
def ROp.apd:ROp->Bool
 | .box _ | .alloc _ | .mkmap | .mkb ..=>true
 |_=>false
def RH(c:Ctx)(bj:Nat)(i:Nat)(oi oj:RO):Bool :=
 bj.testBit i ||
  (
   (match oi.dst with|some d=>!oj.slots.contains d&&oj.dst != some d|none=>true) &&
   (match oj.dst with|some d=>!oi.slots.contains d|none=>true) &&
   !(oi.op.writesB c&&oj.op.looksB)&&(!(oi.op.looksB&&oj.op.writesB c)||(oi.op.rdr c&&oj.op.apd))&&!(oi.op.writesF c&&oj.op.looksF)&&!(oi.op.looksF&&oj.op.writesF c))
def KE(c:Ctx)(bs:List Nat)(D5:List RO):Bool :=
 (zf5z D5.length).all λj=>(zf5z j).all λi =>
  match D5[i]?,D5[j]? with
  |some oi,some oj=>RH c (bs.getD j 0) i oi oj&&(match oi.dst,oj.dst with|some d,some e=>d != e|_,_=>true)
  |_,_=>false
def LT(c:Ctx)(ops:List Oper)(D5:List RO):Bool:=Hk ops 0&&KE c (S7 ops []) D5
def MC(c:Ctx)(ops:List Oper)(D5:List RO):Bool:=Hk ops 0&&iS c (S7 ops []) D5
def b7(P:Program)(c:Ctx):Code->Option RCode
 | .skip=>some .skip
 | .region _ ops draw =>
  match (GK (QZ P ops.toList) ops.toList).map (bxS c.bx)with
  |some D5 =>
   if !draw||MC c ops.toList D5 then some (.region draw D5)
   else if MC c ops.toList (D5.map (RO.lax (none,false)))then some (.region true (D5.map (RO.lax (none,false))))
   else if MC c ops.toList (UO false D5)then some (.region true (UO false D5))
   else if MC c ops.toList (UO true D5)then some (.region true (UO true D5))
   else if LT c ops.toList D5 then some (.region true D5)
   else if Hk ops.toList 0 then some (.regd (S7 ops.toList []) (OL D5))else some .bad
  |none=>some .bad
 | .seq a b=>match b7 P c a,b7 P c b with|some a,some b=>some (.seq a b)|_,_=>none
 | .cond q a b=>match C5 q,b7 P c a,b7 P c b with|some q,some a,some b=>some (.cond q a b)|_,_,_=>none
 | .block id a=>(b7 P c a).map (.block id)
 | .loop a=>(b7 P c a).map .loop
 | .exit id=>some (.exit id)
 | .ret=>some .ret
 |_=>some .bad
def YQ(P:Program):ResultVar->Option RRes
 | .tmp t=>some (.tmp t)
 | .cell a t=>match Program.agg? P t,Program.size? P t with|some b,some n=>some (.cell a b n)|_,_=>none
def RQ(P:Program)(ctx:FuncId->Ctx)(f:FuncId):Option RFunc :=
 if Program.enterable P f then
  match P.funcs[f]? with
  |some fn =>
   match fn.body with
   |some b =>
    match GK (YQ P) fn.results.toList,b7 P (ctx f) b with
    |some rs,some rb=>some ⟨fn.ntmps,rs,rb⟩
    |_,_=>none
   |none=>none
  |none=>none
 else none
def El(w w':World)(b o:Nat):Prop:=w'.cell? ⟨b,o,none⟩=w.cell? ⟨b,o,none⟩/\∀es clk,w.heap[b]?=some (.map es clk)->w'.heap[b]?=some (.map es clk)
theorem El.refl(w:World)(b o:Nat):El w w b o:=⟨rfl,λ_ _ h=>h⟩
theorem El.trans{w w' w'':World}{b o:Nat}(h:El w w' b o)(k:El w' w'' b o):El w w'' b o:=⟨k.1.trans h.1,λes clk e=>k.2 es clk (h.2 es clk e)⟩
mutual
def PV(w:World)(ok:Nat->Nat->Prop):AV->Value->Prop
 | .junk,v=>v.oneCell'=true
 | .bool b,v=>v=.bool b
 | .int k n,v=>v=.int k n
 | .str s,v=>v=.string s
 | .agg cs,v=>∃us:Array Value,v=.agg us/\(∀u∈us.toList,u.oneCell'=true)/\Aj w ok cs us.toList
 | .tup cs,v=>∃us:Array Value,v=.tuple us/\Aj w ok cs us.toList
 | .vs full sz xs,v=>∃a len cap,v=.slice a len cap/\len=xs.length/\len<=cap/\cap<=maxLen/\(full=true->cap=len)/\((a=none->cap=0)/\(a=none↔sz=0))/\(xs≠[]->∃b o,a=some ⟨b,o,none⟩/\0<sz/\Jn w ok sz b o xs)
 | .pv cs,v=>∃b o,v=.pointer (some ⟨b,o,none⟩)/\Ae w ok b o cs
 | .nilp,v=>v=.pointer none
 | .fn f caps,v=>∃us:Array Value,v=.func (.func f) #[] us/\Aj w ok caps us.toList
 | .nilf,v=>v=.nilFunc
 | .sl ..,_=>False
 | .ep ..,_=>False
 | .ptr ..,_=>False
 | .mp _,_=>False
 | .mbox ..,_=>False
 | .rbox _,_=>False
 | .tbox ..,_=>False
 | .bsl ..,_=>False
 | .nilm,v=>v=.map none
 | .vm ks vs,v=>∃b es clk,v=.map (some b)/\ok b 0/\w.heap[b]?=some (.map es clk)/\Aj w ok ks (es.toList.map (·.key))/\Aj w ok vs (es.toList.map (·.val))
def Aj(w:World)(ok:Nat->Nat->Prop):List AV->List Value->Prop
 | [],us=>us=[]
 |c::cs,us=>∃u us',us=u::us'/\PV w ok c u/\Aj w ok cs us'
def Ae(w:World)(ok:Nat->Nat->Prop)(b o:Nat):List AV->Prop
 | []=>True
 |c::cs=>(∃u,ok b o/\w.cell? ⟨b,o,none⟩=some u/\u.oneCell'=true/\PV w ok c u)/\Ae w ok b (o+1) cs
def Jn(w:World)(ok:Nat->Nat->Prop)(sz b o:Nat):List AV->Prop
 | []=>True
 | .agg cs::xs=>cs.length=sz/\Ae w ok b o cs/\Jn w ok sz b (o+sz) xs
 |x::xs=>sz=1/\(∃u,ok b o/\w.cell? ⟨b,o,none⟩=some u/\u.oneCell'=true/\PV w ok x u)/\Jn w ok sz b (o+sz) xs
end
def ZT(w:World)(ok:Nat->Nat->Prop)(sz b o:Nat)(x:AV):Prop:=x.cells.length=sz/\Ae w ok b o x.cells
theorem Lu{w:World}{ok:Nat->Nat->Prop}{sz b o:Nat}{x:AV}{xs:I7} :
  Jn w ok sz b o (x::xs)↔ZT w ok sz b o x/\Jn w ok sz b (o+sz) xs:=by
 cases x with
 |agg cs=>simp only[Jn,ZT,AV.cells,and_assoc]
 |_ =>
  simp only[Jn,ZT,AV.cells,Ae,and_true,List.length_cons,List.length_nil,Nat.zero_add];exact⟨λh=>⟨⟨h.1.symm,h.2.1⟩,h.2.2⟩,λh=>⟨h.1.1.symm,h.1.2,h.2⟩⟩
theorem IM{w:World}{ok:Nat->Nat->Prop}{sz b:Nat}{xs:I7}:∀{o:Nat},Jn w ok sz b o xs->∀{j:Nat} {x:AV},xs[j]?=some x->ZT w ok sz b (o+j*sz) x:=by
 induction xs with
 |nil=>intro o _ j x h;simp at h
 |cons y ys ih =>
  intro o h j x hj;rw[Lu]at h;cases j with
  |zero=>simp at hj;subst hj;simpa using h.1
  |succ j =>
   have:=ih h.2 (j:=j) (x:=x) (by simpa using hj)
   rwa [show o+sz+j*sz=o+(j+1)*sz from by rw[zf6z];omega]at this
theorem Nk{w:World}{ok:Nat->Nat->Prop}{sz b:Nat}{xs:I7}:∀{o:Nat},(∀j x,xs[j]?=some x->ZT w ok sz b (o+j*sz) x)->Jn w ok sz b o xs:=by
 induction xs with
 |nil=>intro o _;simp[Jn]
 |cons y ys ih =>
  intro o h;rw[Lu];refine⟨by simpa using h 0 y rfl,ih λj x hj=>?_⟩;have:=h (j+1) x (by simpa using hj)
  rwa [show o+(j+1)*sz=o+sz+j*sz from by rw[zf6z];omega]at this
theorem Af{w:World}{ok:Nat->Nat->Prop}{b:Nat}{cs:I7}:∀{o:Nat},Ae w ok b o cs->∀{j:Nat} {c:AV},cs[j]?=some c ->
  ∃u,ok b (o+j)/\w.cell? ⟨b,o+j,none⟩=some u/\u.oneCell'=true/\PV w ok c u:=by
 induction cs with
 |nil=>intro o _ j c h;simp at h
 |cons y ys ih =>
  intro o h j c hj;simp only[Ae]at h;cases j with
  |zero=>simp at hj;subst hj;simpa using h.1
  |succ j =>
   have:=ih h.2 (j:=j) (c:=c) (by simpa using hj)
   rwa [show o+1+j=o+(j+1) from by omega]at this
theorem IC{w:World}{ok:Nat->Nat->Prop}{b:Nat}{cs:I7}:∀{o:Nat},(∀j c,cs[j]?=some c->∃u,ok b (o+j)/\w.cell? ⟨b,o+j,none⟩=some u/\u.oneCell'=true/\PV w ok c u)->Ae w ok b o cs:=by
 induction cs with
 |nil=>intro o _;simp[Ae]
 |cons y ys ih =>
  intro o h;simp only[Ae];refine⟨by simpa using h 0 y rfl,ih λj c hj=>?_⟩;have:=h (j+1) c (by simpa using hj)
  rwa [show o+(j+1)=o+1+j from by omega]at this
theorem Eu{w:World}{ok:Nat->Nat->Prop}{cs:I7}:∀{us:List Value},Aj w ok cs us->us.length=cs.length/\∀{j:Nat} {c:AV},cs[j]?=some c->∃u,us[j]?=some u/\PV w ok c u:=by
 induction cs with
 |nil=>intro us h;simp[Aj]at h;subst h;simp
 |cons y ys ih =>
  intro us h;simp only[Aj]at h;obtain⟨u,us',rfl,h1,h2⟩:=h;obtain⟨hl,hg⟩:=ih h2;refine⟨by simp[hl],λ{j c} hj=>?_⟩;cases j with
  |zero=>simp at hj;subst hj;exact⟨u,rfl,h1⟩
  |succ j=>simpa using hg (j:=j) (c:=c) (by simpa using hj)
theorem Rb{w:World}{ok:Nat->Nat->Prop}{cs:I7}:∀{us:List Value},us.length=cs.length->(∀(j:Nat) (c:AV) (u:Value),cs[j]?=some c->us[j]?=some u->PV w ok c u)->Aj w ok cs us:=by
 induction cs with
 |nil=>intro us hl _;simp[Aj];simpa using hl
 |cons y ys ih =>
  intro us hl h;cases us with
  |nil=>simp at hl
  |cons u us' =>
   simp only[Aj];exact⟨u,us',rfl,h 0 y u rfl rfl,ih (by simpa using hl) λj c v hc hv=>h (j+1) c v (by simpa using hc) (by simpa using hv)⟩
mutual
theorem x7{w w':World}{ok ok':Nat->Nat->Prop}(h:∀b o,ok b o->ok' b o/\El w w' b o):∀(x:AV) (v:Value),PV w ok x v->PV w' ok' x v
 | .junk,v,hx=>by simpa[PV]using hx
 | .bool b,v,hx=>by simpa[PV]using hx
 | .int k n,v,hx=>by simpa[PV]using hx
 | .str s,v,hx=>by simpa[PV]using hx
 | .agg cs,v,hx=>by
  simp only[PV]at hx ⊢;obtain⟨us,rfl,h1,hu⟩:=hx;exact⟨us,rfl,h1,Bh h cs us.toList hu⟩
 | .tup cs,v,hx=>by
  simp only[PV]at hx ⊢;obtain⟨us,rfl,hu⟩:=hx;exact⟨us,rfl,Bh h cs us.toList hu⟩
 | .vs full sz xs,v,hx=>by
  simp only[PV]at hx ⊢;obtain⟨a,len,cap,rfl,h1,h2,h3,h4,h5,h6⟩:=hx;refine⟨a,len,cap,rfl,h1,h2,h3,h4,h5,λs9=>?_⟩;obtain⟨b,o,ha,hs,he⟩:=h6 s9;exact⟨b,o,ha,hs,PB h sz b o xs he⟩
 | .pv cs,v,hx=>by
  simp only[PV]at hx ⊢;obtain⟨b,o,rfl,hc⟩:=hx;exact⟨b,o,rfl,JF h b o cs hc⟩
 | .nilp,v,hx=>by simpa[PV]using hx
 | .fn f caps,v,hx=>by
  simp only[PV]at hx ⊢;obtain⟨us,rfl,hu⟩:=hx;exact⟨us,rfl,Bh h caps us.toList hu⟩
 | .nilf,v,hx=>by simpa[PV]using hx
 | .sl ..,_,hx=>by simp[PV]at hx
 | .ep ..,_,hx=>by simp[PV]at hx
 | .ptr ..,_,hx=>by simp[PV]at hx
 | .mp _,_,hx=>by simp[PV]at hx
 | .mbox ..,_,hx=>by simp[PV]at hx
 | .rbox _,_,hx=>by simp[PV]at hx
 | .tbox ..,_,hx=>by simp[PV]at hx
 | .bsl ..,_,hx=>by simp[PV]at hx
 | .nilm,v,hx=>by simpa[PV]using hx
 | .vm ks vs,v,hx=>by
  simp only[PV]at hx ⊢;obtain⟨b,es,clk,rfl,h1,h2,h3,h4⟩:=hx;exact⟨b,es,clk,rfl,(h b 0 h1).1,(h b 0 h1).2.2 es clk h2,Bh h ks _ h3,Bh h vs _ h4⟩
theorem Bh{w w':World}{ok ok':Nat->Nat->Prop}(h:∀b o,ok b o->ok' b o/\El w w' b o):∀(cs:I7) (us:List Value),Aj w ok cs us->Aj w' ok' cs us
 | [],us,hx=>by simpa[Aj]using hx
 |c::cs,us,hx=>by
  simp only[Aj]at hx ⊢;obtain⟨u,us',rfl,h1,h2⟩:=hx;exact⟨u,us',rfl,x7 h c u h1,Bh h cs us' h2⟩
theorem JF{w w':World}{ok ok':Nat->Nat->Prop}(h:∀b o,ok b o->ok' b o/\El w w' b o)(b o:Nat):∀(cs:I7),Ae w ok b o cs->Ae w' ok' b o cs
 | [],_=>by simp[Ae]
 |c::cs,hx=>by
  simp only[Ae]at hx ⊢;obtain⟨⟨u,h1,h2,h3,h4⟩,h5⟩:=hx;exact⟨⟨u,(h b o h1).1,by rw[(h b o h1).2.1];exact h2,h3,x7 h c u h4⟩,JF h b (o+1) cs h5⟩
theorem PB{w w':World}{ok ok':Nat->Nat->Prop}(h:∀b o,ok b o->ok' b o/\El w w' b o)(sz b o:Nat):∀(xs:I7),Jn w ok sz b o xs->Jn w' ok' sz b o xs
 | [],_=>by simp[Jn]
 | .agg cs::xs,hx=>by
  simp only[Jn]at hx ⊢;exact⟨hx.1,JF h b o cs hx.2.1,PB h sz b (o+sz) xs hx.2.2⟩
 |x::xs,hx=>by
  rw[Lu]at hx ⊢;refine⟨?_,PB h sz b (o+sz) xs hx.2⟩;cases x with
  |agg cs=>exact⟨hx.1.1,JF h b o cs hx.1.2⟩
  |_ =>
   refine⟨hx.1.1,?_⟩;have hc:=hx.1.2;simp only[AV.cells,Ae]at hc ⊢;obtain⟨⟨u,h1,h2,h3,h4⟩,h5⟩:=hc;exact⟨⟨u,(h b o h1).1,by rw[(h b o h1).2.1];exact h2,h3,x7 h _ u h4⟩,trivial⟩
end
structure Img where
 b:Nat
 o:Nat
 cap:Nat
 lo:Nat
structure Env where
 w:World
 base:Nat
 ok0:Nat->Nat->Prop
 nb:Nat->Nat
 im:Nat->Img
 h:AH
def Env.Live(E:Env)(i:Nat):Prop:=∃cs,E.h.boxes[i]?=some cs/\Ak cs=false
theorem Env.Live.lt{E:Env}{i:Nat}(h:E.Live i):i<E.h.boxes.length:=by
 obtain⟨cs,h,_⟩:=h;exact(zf1z.1 h).1
theorem Env.Live.ne{E:Env}{i:Nat}{cs:I7}(h:E.Live i)(hi:E.h.boxes[i]?=some cs):Ak cs=false:=by
 obtain⟨cs',h1,h2⟩:=h;rw[hi]at h1;cases h1;exact h2
theorem CM{E:Env}{i:Nat}{cs:I7}(hi:E.h.boxes[i]?=some cs)(h:Ak cs=false):E.Live i:=⟨cs,hi,h⟩
theorem Jw{E E':Env}(h:E'.h.boxes=E.h.boxes){i:Nat}:E'.Live i↔E.Live i:=by unfold Env.Live;rw[h]
theorem BK{cs:I7}(h:u6 cs=false):Ak cs=false:=by
 unfold Ak;split
 .simp[u6]at h
 .rfl
def Env.ok(E:Env)(b o:Nat):Prop :=
 (b<E.base/\E.ok0 b o) \/
 (E.base<=b/\b<E.w.heap.size/\(∀i,E.Live i->E.nb i=b->∃cs,E.h.boxes[i]?=some [.rbox cs]) /\
  ∀k f,E.h.fams[k]?=some f->(E.im k).b=b->f.wr=false/\o<(E.im k).o+(f.xs.length-(E.im k).lo)*f.sz)
mutual
def VR(E:Env):AV->Value->Prop
 | .agg cs,v=>∃us:Array Value,v=.agg us/\(∀u∈us.toList,u.oneCell'=true)/\W5 E cs us.toList
 | .tup cs,v=>∃us:Array Value,v=.tuple us/\W5 E cs us.toList
 | .fn f caps,v=>∃us:Array Value,v=.func (.func f) #[] us/\W5 E caps us.toList
 | .sl k n off len,v=>∃a cap f,v=.slice a len cap/\E.h.fams[k]?=some f/\(n<=f.xs.length/\(len≠0->∃b o,a=some ⟨b,o,none⟩))/\(f.xs.length=n ->
   (E.im k).lo<=off/\off+len<=n/\cap+(off-(E.im k).lo)=(E.im k).cap/\a≠none /\
   (cap≠0->a=some ⟨(E.im k).b,(E.im k).o+(off-(E.im k).lo)*f.sz,none⟩))
 | .ep k n i c sz,v=>∃b o f,v=.pointer (some ⟨b,o,none⟩)/\E.h.fams[k]?=some f/\n<=f.xs.length/\(f.xs.length=n/\f.sz=sz ->
   (E.im k).lo<=i/\(⟨b,o,none⟩:Addr)=⟨(E.im k).b,(E.im k).o+(i-(E.im k).lo)*f.sz+c,none⟩)
 | .ptr b off,v=>E.Live b/\v=.pointer (some ⟨E.nb b,off,none⟩)
 | .mp b,v=>E.Live b/\v=.map (some (E.nb b))
 | .mbox ..,_=>False
 | .rbox _,_=>False
 | .tbox ..,_=>False
 | .bsl b _ off len,v=>E.Live b/\∃cap,v=.slice (some ⟨E.nb b,off,none⟩) len cap/\len<=cap/\cap<=maxLen
 | .nilm,v=>v=.map none
 | .vm ks vs,v=>PV E.w E.ok (.vm ks vs) v
 | .junk,v=>v.oneCell'=true
 | .bool b,v=>v=.bool b
 | .int k n,v=>v=.int k n
 | .str s,v=>v=.string s
 | .vs full sz xs,v=>PV E.w E.ok (.vs full sz xs) v
 | .pv cs,v=>PV E.w E.ok (.pv cs) v
 | .nilp,v=>v=.pointer none
 | .nilf,v=>v=.nilFunc
def W5(E:Env):List AV->List Value->Prop
 | [],us=>us=[]
 |c::cs,us=>∃u us',us=u::us'/\VR E c u/\W5 E cs us'
end
theorem Bi{E:Env}{cs:I7}:∀{us:List Value},W5 E cs us->us.length=cs.length/\∀{j:Nat} {c:AV},cs[j]?=some c->∃u,us[j]?=some u/\VR E c u:=by
 induction cs with
 |nil=>intro us h;simp[W5]at h;subst h;simp
 |cons y ys ih =>
  intro us h;simp only[W5]at h;obtain⟨u,us',rfl,h1,h2⟩:=h;obtain⟨hl,hg⟩:=ih h2;refine⟨by simp[hl],λ{j c} hj=>?_⟩;cases j with
  |zero=>simp at hj;subst hj;exact⟨u,rfl,h1⟩
  |succ j=>simpa using hg (j:=j) (c:=c) (by simpa using hj)
theorem LB{E:Env}{cs:I7}:∀{us:List Value},us.length=cs.length->(∀(j:Nat) (c:AV) (u:Value),cs[j]?=some c->us[j]?=some u->VR E c u)->W5 E cs us:=by
 induction cs with
 |nil=>intro us hl _;simp[W5];simpa using hl
 |cons y ys ih =>
  intro us hl h;cases us with
  |nil=>simp at hl
  |cons u us' =>
   simp only[W5];exact⟨u,us',rfl,h 0 y u rfl rfl,ih (by simpa using hl) λj c v hc hv=>h (j+1) c v (by simpa using hc) (by simpa using hv)⟩
mutual
theorem r9{E:Env}:∀(x:AV) (v:Value),PV E.w E.ok x v->VR E x v
 | .junk,v,hx=>by simpa[VR,PV]using hx
 | .bool b,v,hx=>by simpa[PV,VR]using hx
 | .int k n,v,hx=>by simpa[PV,VR]using hx
 | .str s,v,hx=>by simpa[PV,VR]using hx
 | .agg cs,v,hx=>by
  simp only[PV,VR]at hx ⊢;obtain⟨us,rfl,h1,hu⟩:=hx;exact⟨us,rfl,h1,GD cs us.toList hu⟩
 | .tup cs,v,hx=>by
  simp only[PV,VR]at hx ⊢;obtain⟨us,rfl,hu⟩:=hx;exact⟨us,rfl,GD cs us.toList hu⟩
 | .vs full sz xs,v,hx=>by simp only[VR];exact hx
 | .pv cs,v,hx=>by simp only[VR];exact hx
 | .nilp,v,hx=>by simpa[PV,VR]using hx
 | .fn f caps,v,hx=>by
  simp only[PV,VR]at hx ⊢;obtain⟨us,rfl,hu⟩:=hx;exact⟨us,rfl,GD caps us.toList hu⟩
 | .nilf,v,hx=>by simpa[PV,VR]using hx
 | .sl ..,_,hx=>by simp[PV]at hx
 | .ep ..,_,hx=>by simp[PV]at hx
 | .ptr ..,_,hx=>by simp[PV]at hx
 | .mp _,_,hx=>by simp[PV]at hx
 | .mbox ..,_,hx=>by simp[PV]at hx
 | .rbox _,_,hx=>by simp[PV]at hx
 | .tbox ..,_,hx=>by simp[PV]at hx
 | .bsl ..,_,hx=>by simp[PV]at hx
 | .nilm,v,hx=>by simpa[PV,VR]using hx
 | .vm ks vs,v,hx=>by simp only[VR];exact hx
theorem GD{E:Env}:∀(cs:I7) (us:List Value),Aj E.w E.ok cs us->W5 E cs us
 | [],us,hx=>by simpa[Aj,W5]using hx
 |c::cs,us,hx=>by
  simp only[Aj,W5]at hx ⊢;obtain⟨u,us',rfl,h1,h2⟩:=hx;exact⟨u,us',rfl,r9 c u h1,GD cs us' h2⟩
end
structure Bl (B:Nat) (w w':World):Prop where
 below:Go.RowKit.Below B w w'
 drawn:VZ=true->w.drawn<=w'.drawn
theorem Bl.refl(B:Nat)(w:World):Bl B w w:=⟨Go.RowKit.Below.refl _ _,λ_=>zf4z _⟩
theorem Bl.trans{B:Nat}{a b c:World}(h:Bl B a b)(k:Bl B b c):Bl B a c:=⟨h.below.trans k.below,λe=>zf3z (h.drawn e) (k.drawn e)⟩
theorem Bl.size{B:Nat}{w w':World}(h:Bl B w w'):w.heap.size<=w'.heap.size:=h.below.size
theorem Bl.block{B:Nat}{w w':World}(h:Bl B w w'):∀k,k<B->w'.heap[k]?=w.heap[k]?:=h.below.block
theorem Bl.mono{B B':Nat}{w w':World}(h:Bl B w w')(hB:B'<=B):Bl B' w w':=⟨h.below.mono hB,h.drawn⟩
structure Ext (E E':Env):Prop where
 cells:∀b o,E.ok b o->E'.ok b o/\El E.w E'.w b o
 boxes:E.h.boxes.length<=E'.h.boxes.length
 nb:∀i,E.Live i->E'.Live i/\E'.nb i=E.nb i
 fams:E.h.fams.length<=E'.h.fams.length
 im:∀k f f',E.h.fams[k]?=some f->E'.h.fams[k]?=some f'->f'.sz=f.sz/\f.xs.length<=f'.xs.length/\(f'.xs.length=f.xs.length->E'.im k=E.im k)
 base:E'.base=E.base
 ok0:E'.ok0=E.ok0
 below:Bl E.base E.w E'.w
theorem Ext.refl(E:Env):Ext E E :=
 ⟨λ_ _ h=>⟨h,El.refl _ _ _⟩,zf4z _,λ_ h=>⟨h,rfl⟩,zf4z _,λk f f' h h'=>by rw[h]at h';cases h';exact⟨rfl,zf4z _,λ_=>rfl⟩,rfl,rfl,Bl.refl _ _⟩
theorem Ext.trans{E E' E'':Env}(h:Ext E E')(k:Ext E' E''):Ext E E'':=by
 refine⟨λb o ho=>?_,zf3z h.boxes k.boxes,λi hi=>⟨(k.nb i (h.nb i hi).1).1,(k.nb i (h.nb i hi).1).2.trans (h.nb i hi).2⟩,zf3z h.fams k.fams,λj f f'' hf hf''=>?_,k.base.trans h.base,k.ok0.trans h.ok0,?_⟩
 .obtain⟨h1,h2⟩:=h.cells b o ho;obtain⟨h3,h4⟩:=k.cells b o h1;exact⟨h3,h2.trans h4⟩
 .have G9:j<E'.h.fams.length:=zf2z (zf1z.1 hf).1 h.fams;obtain⟨a1,a2,a3⟩:=h.im j f _ hf (zf0z G9);obtain⟨b1,b2,b3⟩:=k.im j _ f'' (zf0z G9) hf'';refine⟨b1.trans a1,zf3z a2 b2,λhe=>?_⟩;rw[b3 (by omega),a3 (by omega)]
 .have hk:=k.below;rw[h.base]at hk;exact h.below.trans hk
mutual
theorem PG{E E':Env}(h:Ext E E'):∀(x:AV) (v:Value),VR E x v->VR E' x v
 | .junk,v,hx=>by simpa[VR]using hx
 | .bool b,v,hx=>by simpa[VR]using hx
 | .int k n,v,hx=>by simpa[VR]using hx
 | .str s,v,hx=>by simpa[VR]using hx
 | .agg cs,v,hx=>by
  simp only[VR]at hx ⊢;obtain⟨us,rfl,h1,hu⟩:=hx;exact⟨us,rfl,h1,CK h cs us.toList hu⟩
 | .tup cs,v,hx=>by
  simp only[VR]at hx ⊢;obtain⟨us,rfl,hu⟩:=hx;exact⟨us,rfl,CK h cs us.toList hu⟩
 | .vs full sz xs,v,hx=>by
  simp only[VR]at hx ⊢;exact x7 h.cells _ _ hx
 | .pv cs,v,hx=>by
  simp only[VR]at hx ⊢;exact x7 h.cells _ _ hx
 | .nilp,v,hx=>by simpa[VR]using hx
 | .fn f caps,v,hx=>by
  simp only[VR]at hx ⊢;obtain⟨us,rfl,hu⟩:=hx;exact⟨us,rfl,CK h caps us.toList hu⟩
 | .nilf,v,hx=>by simpa[VR]using hx
 | .sl k n off len,v,hx=>by
  simp only[VR]at hx ⊢;obtain⟨a,cap,f,rfl,hf,hn,hc⟩:=hx;have G9:k<E'.h.fams.length:=zf2z (zf1z.1 hf).1 h.fams;obtain⟨h1,h2,h3⟩:=h.im k f _ hf (zf0z G9);refine⟨a,cap,_,rfl,zf0z G9,⟨by omega,hn.2⟩,λhe=>?_⟩;rw[h3 (by omega),h1];exact hc (by omega)
 | .ep k n i c sz,v,hx=>by
  simp only[VR]at hx ⊢;obtain⟨b,o,f,rfl,hf,hn,hc⟩:=hx;have G9:k<E'.h.fams.length:=zf2z (zf1z.1 hf).1 h.fams;obtain⟨h1,h2,h3⟩:=h.im k f _ hf (zf0z G9);refine⟨b,o,_,rfl,zf0z G9,by omega,λhe=>?_⟩;rw[h3 (by omega),h1];exact hc ⟨by omega,by rw[←h1];exact he.2⟩
 | .ptr b off,v,hx=>by
  simp only[VR]at hx ⊢;exact⟨(h.nb b hx.1).1,by rw[(h.nb b hx.1).2];exact hx.2⟩
 | .mp b,v,hx=>by
  simp only[VR]at hx ⊢;exact⟨(h.nb b hx.1).1,by rw[(h.nb b hx.1).2];exact hx.2⟩
 | .mbox ..,_,hx=>by simp[VR]at hx
 | .rbox _,_,hx=>by simp[VR]at hx
 | .tbox ..,_,hx=>by simp[VR]at hx
 | .bsl b sz off len,v,hx=>by
  simp only[VR]at hx ⊢;exact⟨(h.nb b hx.1).1,by rw[(h.nb b hx.1).2];exact hx.2⟩
 | .nilm,v,hx=>by simpa[VR]using hx
 | .vm ks vs,v,hx=>by
  simp only[VR]at hx ⊢;exact x7 h.cells _ _ hx
theorem CK{E E':Env}(h:Ext E E'):∀(cs:I7) (us:List Value),W5 E cs us->W5 E' cs us
 | [],us,hx=>by simpa[W5]using hx
 |c::cs,us,hx=>by
  simp only[W5]at hx ⊢;obtain⟨u,us',rfl,h1,h2⟩:=hx;exact⟨u,us',rfl,PG h c u h1,CK h cs us' h2⟩
end
theorem IP{E:Env}{cs:I7}{us:List Value}(h:W5 E cs us):Ak cs=false:=by
 unfold Ak;split
 .simp only[W5]at h;obtain⟨u,us',_,h1,_⟩:=h;simp[VR]at h1
 .rfl
end Go.Abs
