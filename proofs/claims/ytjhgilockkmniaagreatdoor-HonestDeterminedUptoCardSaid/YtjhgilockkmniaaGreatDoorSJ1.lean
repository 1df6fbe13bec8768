/- A part of the proof. -/
import Derived.WalkKit
set_option linter.all false
open Bool renaming and_eq_true->zf0z
open List renaming replicate->zf1z,range->zf2z
namespace Go.Abs
abbrev R7:=ByteArray
abbrev U8:=Bool×Bool
inductive AV where
 |junk
 |bool (b:Bool)
 |int (k:IntKind) (n:Int)
 |str (s:ByteArray)
 |agg (cs:List AV)
 |tup (vs:List AV)
 |vs (full:Bool) (sz:Nat) (xs:List AV)
 |sl (k n off len:Nat)
 |pv (cs:List AV)
 |ep (k n i c sz:Nat)
 |ptr (b off:Nat)
 |nilp
 |fn (f:FuncId) (caps:List AV)
 |nilf
 |mp (b:Nat)
 |vm (ks vs:List AV)
 |nilm
 |mbox (ks vs:List AV)
 |rbox (cs:List AV)
 |bsl (b sz off len:Nat)
 |tbox (t:TypeId) (cs:List AV)
 deriving Inhabited
abbrev C6:=List AV
def AV.cells:AV->List AV
 | .agg cs=>cs
 |v=>[v]
def B3:AV:=.tup []
def AV.isTup:AV->Bool
 | .tup _=>true
 |_=>false
structure Fam where
 xs:List AV
 sz:Nat
 wr:Bool
structure AH where
 boxes:List (List AV)
 fams:List Fam
def AH.empty:AH:=⟨[],[]⟩
inductive Opd where
 |t (n:Nat)
 |c (v:AV)
inductive ROp where
 |mov (x:Opd)
 |pick (c a b:Opd)
 |box (x:Opd)
 |mkmap
 |mlook (str ok:Bool) (z:AV) (x k:Opd)
 |mup (str:Bool) (x k v:Opd)
 |mlookp (ok:Bool) (z:AV) (x k:Opd)
 |mupp (x k v:Opd)
 |alloc (z:AV)
 |allocAt (r:Nat) (z:AV)
 |build (z:AV) (parts:List (Nat×Nat×Opd))
 |bslice (n:Nat) (z:AV) (parts:List (Nat×Opd))
 |bslicev (n:Nat) (z:AV) (parts:List (Nat×Opd))
 |ld (agg:Bool) (n:Nat) (x:Opd)
 |ldb (agg:Bool) (n:Nat) (x:Opd)
 |st (n:Nat) (a x:Opd)
 |ste (n:Nat) (a x:Opd)
 |stb (n:Nat) (a x:Opd)
 |clr (z:AV) (x:Opd)
 |nilck (x:Opd)
 |bin (op:BinOp) (x y:Opd)
 |beq (neg:Bool) (x y:Opd)
 |nileq (neg:Bool) (x:Opd)
 |un (op:UnOp) (x:Opd)
 |conv (k:IntKind) (x:Opd)
 |cstr (x:Opd)
 |bstr (x:Opd)
 |clos (f:FuncId) (caps:List Opd)
 |mkslice (z:AV) (bytes:Nat) (len cap:Opd)
 |mkv (z:AV) (bytes:Nat) (len cap:Opd)
 |mkb (z:AV) (bytes:Nat) (len cap:Opd)
 |slc (sz:Nat) (x:Opd) (lo hi mx:Option Opd)
 |faddr (off:Nat) (x:Opd)
 |fld (agg:Bool) (off n:Nat) (x:Opd)
 |iaddr (sz:Nat) (x i:Opd)
 |iaddrv (sz:Nat) (x i:Opd)
 |idx (x i:Opd)
 |ext (x:Opd) (i:Nat)
 |len (str:Bool) (x:Opd)
 |app (sz bytes:Nat) (s x:Opd)
 |apps (bytes:Nat) (s x:Opd)
 |max (x y:Opd)
 |min (x y:Opd)
 |mlen (x:Opd)
 |call (f:FuncId) (args:List Opd)
 |callv (x:Opd) (args:List Opd)
structure RO where
 dst:Option Nat
 op:ROp
 guard:Option (Nat×Bool)
inductive RCode where
 |skip
 |region (draw:Bool) (ops:List RO)
 |regd (bs:List Nat) (ops:List RO)
 |seq (a b:RCode)
 |cond (c:Opd) (a b:RCode)
 |block (id:Nat) (a:RCode)
 |loop (a:RCode)
 |exit (id:Nat)
 |ret
 |bad
inductive RRes where
 |tmp (t:Nat)
 |cell (a:Nat) (agg:Bool) (n:Nat)
structure RFunc where
 ntmps:Nat
 results:List RRes
 body:RCode
inductive Ex where
 |normal
 |exit (id:Nat)
 |ret
abbrev Fr:=List AV
abbrev St:=Fr×AH
structure Orc where
 pure:FuncId->List AV->Option AV
 raw:FuncId->List AV->AH->Option (AV×AH)
 loop:(St->Option (Ex×St))->St->Option (Ex×St)
structure Ctx where
 raw:FuncId->Bool
 mutApp:Bool
 rawv:Bool:=true
 ro:Bool:=false
 noB:FuncId->Bool:=λ_=>false
 bx:Bool:=false
 rst:Bool:=false
def get (fr:Fr):Opd->AV
 | .t n=>fr.getD n B3
 | .c v=>v
def put (fr:Fr) (dst:Option Nat) (v:AV):Fr :=
 match dst with
 |some d=>fr.set d v
 |none=>fr
def T1 (agg:Bool) (n:Nat) (cs:List AV):Option AV :=
 match agg with
 |true=>if n<=cs.length then some (.agg (cs.take n))else none
 |false=>cs.head?
def AV.reform (x:AV) (cs:List AV):Option AV :=
 match x with
 | .agg _=>some (.agg cs)
 |_=>cs.head?
def elems (h:AH) (sz:Nat):AV->Option (List AV)
 | .vs _ z xs=>if z=sz\/xs.length=0 then some xs else none
 | .sl k n off len =>
  match h.fams[k]? with
  |some f=>if f.xs.length=n/\f.sz=sz/\off+len<=n then some ((f.xs.drop off).take len)else none
  |none=>none
 |_=>none
def BA:List AV->Bool
 | [.mbox ..]=>true
 | [.rbox _]=>true
 | [.tbox ..]=>true
 |_=>false
def AV.flat:AV->Bool
 | .sl .. | .ep .. | .ptr .. | .agg _ | .tup _ | .mp _ | .mbox .. | .rbox _ | .bsl .. | .tbox ..=>false
 | .fn _ cs=>cs.isEmpty
 |_=>true
def BJ:AV->Bool
 | .agg cs=>cs.all AV.flat
 | .tup _=>false
 |x=>x.flat
def Vy (h:AH) (am:Bool):AV->Option AV
 | .sl k n off len =>
  match h.fams[k]? with
  |some f=>if f.xs.length=n/\off+len<=n/\(am||!f.wr)=true then some (.vs false f.sz ((f.xs.drop off).take len))else none
  |none=>none
 | .ep ..=>none
 | .ptr ..=>none
 | .agg _=>none
 | .tup _=>none
 | .mbox ..=>none
 | .rbox _=>none
 | .tbox ..=>none
 | .bsl ..=>none
 | .mp b=>match h.boxes[b]? with|some [.mbox ks vs]=>if am then some (.vm ks vs)else none|_=>none
 | .fn f caps=>if caps.all AV.flat then some (.fn f caps)else none
 |x=>some x
def Mq (h:AH) (am:Bool):List AV->Option (List AV)
 | []=>some []
 |x::xs=>(Vy h am x).bind λy=>(Mq h am xs).map (y::·)
def OF (sz:Nat) (cs:List AV):Nat->List AV
 |0=>[]
 |n+1=>(if sz=1 then cs.headD .junk else .agg (cs.take sz))::OF sz (cs.drop sz) n
def cE (h:AH) (am:Bool) (b sz off len:Nat):Option AV :=
 match h.boxes[b]? with
 |some cs=>if am=true/\BA cs=false/\0<sz/\off+len*sz<=cs.length then (Mq h am ((cs.drop off).take (len*sz))).map λys=>.vs false sz (OF sz ys len)else none
 |none=>none
def AS (h:AH) (am:Bool):AV->Option AV
 | .bsl b sz off len=>cE h am b sz off len
 | .sl k n off len =>
  match h.fams[k]? with
  |some f=>if f.xs.length=n/\off+len<=n/\(am||!f.wr)=true then some (.vs false f.sz ((f.xs.drop off).take len))else none
  |none=>none
 | .ep ..=>none
 | .ptr ..=>none
 | .agg _=>none
 | .tup _=>none
 | .mbox ..=>none
 | .rbox _=>none
 | .tbox ..=>none
 | .mp b=>match h.boxes[b]? with|some [.mbox ks vs]=>if am then some (.vm ks vs)else none|_=>none
 | .fn f caps=>if caps.all AV.flat then some (.fn f caps)else none
 |x=>some x
def Hx (h:AH) (am:Bool):List AV->Option (List AV)
 | []=>some []
 |x::xs=>(AS h am x).bind λy=>(Hx h am xs).map (y::·)
def frz (h:AH) (am:Bool):AV->Option AV
 | .agg cs=>(Hx h am cs).map .agg
 |x=>AS h am x
def j7 (h:AH) (am:Bool):List AV->Option (List AV)
 | []=>some []
 |x::xs=>(frz h am x).bind λy=>(j7 h am xs).map (y::·)
def Cg (h:AH):AV->Option AV
 | .tup vs=>(j7 h true vs).map .tup
 |x=>frz h true x
def AV.scalar1:AV->Bool
 | .bool _ | .int .. | .str _ | .nilp | .nilf=>true
 |_=>false
def AV.scalar0:AV->Bool
 | .agg cs=>cs.all AV.scalar1
 |v=>v.scalar1
def AV.scalar:AV->Bool
 | .tup us=>us.all AV.scalar0
 |v=>v.scalar0
def DQ (h:AH):AV->Bool
 | .sl k _ _ _=>match h.fams[k]? with|some f=>!f.wr|none=>false
 | .mp _=>false
 | .bsl ..=>false
 |_=>true
def tame (h:AH):AV->Bool
 | .agg cs=>cs.all (DQ h)
 |v=>DQ h v
def gu (agg:Bool) (n off:Nat):List AV->Option AV
 | [.rbox ys]=>T1 agg n (ys.drop off)
 | [.tbox _ ys]=>T1 agg n (ys.drop off)
 |_=>none
def x7 (h:AH) (agg:Bool) (n:Nat):AV->Option AV
 | .pv cs=>T1 agg n cs
 | .ptr b off =>
  match h.boxes[b]? with
  |some cs=>if BA cs then gu agg n off cs else T1 agg n (cs.drop off)
  |none=>none
 | .ep k m i c sz =>
  match h.fams[k]? with
  |some f=>if f.xs.length=m/\f.sz=sz then (match f.xs[i]? with|some x=>T1 agg n (x.cells.drop c)|none=>none)else none
  |none=>none
 |_=>none
def S5 (cs:List AV) (off:Nat) (new:List AV):List AV:=cs.take off++new++cs.drop (off+new.length)
def FB (h:AH) (n:Nat) (v:AV) (k m i c sz:Nat):Option AH :=
 match h.fams[k]? with
 |some f =>
  if f.xs.length=m/\f.sz=sz/\f.wr=true then
   match f.xs[i]?,frz h false v with
   |some x,some u =>
    if u.cells.length=n/\c+n<=x.cells.length then
     (x.reform (S5 x.cells c u.cells)).map λy=>{h with fams:=h.fams.set k {f with xs:=f.xs.set i y}}
    else none
   |_,_=>none
  else none
 |none=>none
def dy (h:AH):AV->AH
 | .sl k _ _ _=>match h.fams[k]? with|some f=>{h with fams:=h.fams.set k {f with wr:=false}} | none=>h
 |_=>h
def gz:AH->List AV->AH
 |h,[]=>h
 |h,x::xs=>gz (dy h x) xs
def gy (h:AH):AV->AH
 | .agg cs=>gz h cs
 |x=>dy h x
def kS:AH->List AV->AH
 |h,[]=>h
 |h,x::xs=>kS (gy h x) xs
def iA (h:AH):AV->AH
 | .tup vs=>kS h vs
 |x=>gy h x
def Uw (h:AH):AV->Option AH
 | .agg cs=>some (gz h cs)
 | .sl k _ _ _ =>
  match h.fams[k]? with
  |some f=>some {h with fams:=h.fams.set k {f with wr:=false}}
  |none=>none
 |_=>none
def Rr (h:AH) (v:AV):Option AH:=match frz h false v with|some _=>some h|none=>Uw h v
def al (h:AH) (b n off:Nat) (v:AV):List AV->Option AH
 | [.tbox t ys]=>if v.isTup=false/\v.cells.length=n/\off+n<=ys.length then some {h with boxes:=h.boxes.set b [.tbox t (S5 ys off v.cells)]} else none
 |_=>none
def x9 (h:AH) (n:Nat) (v:AV):AV->Option AH
 | .ptr b off =>
  match h.boxes[b]? with
  |some cs=>if BA cs=false/\v.isTup=false/\v.cells.length=n/\off+n<=cs.length then some {h with boxes:=h.boxes.set b (S5 cs off v.cells)} else al h b n off v cs
  |none=>none
 | .ep k m i c sz=>match Rr h v with|some h1=>FB h1 n v k m i c sz|none=>none
 |_=>none
def E9 (op:BinOp):AV->AV->Option AV
 | .int k a,.int k' b =>
  match op with
  | .add=>if k=k' then some (.int k (k.wrap (a+b)))else none
  | .sub=>if k=k' then some (.int k (k.wrap (a-b)))else none
  | .mul=>if k=k' then some (.int k (k.wrap (a*b)))else none
  | .quo=>if k=k'/\b≠0 then some (.int k (k.wrap (a.tdiv b)))else none
  | .rem=>if k=k'/\b≠0 then some (.int k (a.tmod b))else none
  | .eql=>if k=k' then some (.bool (a == b))else none
  | .neq=>if k=k' then some (.bool (a != b))else none
  | .lss=>if k=k' then some (.bool (decide (a<b)))else none
  | .leq=>if k=k' then some (.bool (decide (a<=b)))else none
  | .gtr=>if k=k' then some (.bool (decide (a > b)))else none
  | .geq=>if k=k' then some (.bool (decide (a≥b)))else none
  | .shl=>if 0<=b then some (.int k (k.wrap (a*2 ^ (min b.toNat k.bits))))else none
  | .shr=>if 0<=b then some (.int k (a.fdiv (2 ^ (min b.toNat k.bits))))else none
  | .and=>if k=k' then some (.int k (k.wrap (BitVec.ofInt k.bits a &&& BitVec.ofInt k.bits b).toNat))else none
  | .or=>if k=k' then some (.int k (k.wrap (BitVec.ofInt k.bits a ||| BitVec.ofInt k.bits b).toNat))else none
  | .xor=>if k=k' then some (.int k (k.wrap (BitVec.ofInt k.bits a ^^^ BitVec.ofInt k.bits b).toNat))else none
  |_=>none
 | .str a,.str b =>
  match op with
  | .add=>if ((a.size+b.size:Nat):Int) > IntKind.i64.max then none else some (.str (a++b))
  | .eql=>some (.bool (a.toList == b.toList))
  | .neq=>some (.bool !(a.toList == b.toList))
  | .lss=>some (.bool (Op.bytesLess a.toList b.toList))
  | .leq=>some (.bool (Op.bytesLess a.toList b.toList||a.toList == b.toList))
  | .gtr=>some (.bool !(Op.bytesLess a.toList b.toList||a.toList == b.toList))
  | .geq=>some (.bool !(Op.bytesLess a.toList b.toList))
  |_=>none
 |_,_=>none
def Jm (op:UnOp):AV->Option AV
 | .bool b=>match op with | .not=>some (.bool !b)|_=>none
 | .int k n=>match op with | .neg=>some (.int k (k.wrap (0-n)))|_=>none
 |_=>none
def Q3 (cs:List AV):List (Nat×AV)->List AV
 | []=>cs
 |(off,v)::rest=>Q3 (S5 cs off v.cells) rest
def F8 (fr:Fr) (len:Nat):List (Nat×Nat×Opd)->Option (List (Nat×AV))
 | []=>some []
 |(off,n,x)::rest =>
  if (get fr x).isTup=false/\(get fr x).cells.length=n/\off+n<=len then (F8 fr len rest).map ((off,get fr x)::·)else none
def B5 (fr:Fr) (h:AH) (xs:List AV):List (Nat×Opd)->Option (List AV)
 | []=>some xs
 |(i,x)::rest =>
  match xs[i]?,frz h false (get fr x)with
  |some z,some y=>if y.cells.length=z.cells.length then B5 fr h (xs.set i y) rest else none
  |_,_=>none
def F0 (fr:Fr):Option Opd->Option (Option Int)
 |none=>some none
 |some x=>match get fr x with | .int _ i=>some (some i)|_=>none
def Ez (H:AH) (sz:Nat) (x:AV) (lo hi mx:Option Int):Option AV :=
 match x with
 | .str s =>
  let l:=lo.getD 0
  let h:=hi.getD s.size
  if sz=0/\mx=none/\0<=l/\l<=h/\h<=s.size then some (.str (s.extract l.toNat h.toNat))else none
 | .vs full z xs =>
  let l:=lo.getD 0
  let h:=hi.getD xs.length
  if 0<sz/\(z=sz\/xs.length=0)then
   match mx with
   |none =>
    if 0<=l/\l<=h/\h<=xs.length then some (.vs (full&&decide (h=xs.length)) z ((xs.drop l.toNat).take (h-l).toNat))else none
   |some m =>
    if hi.isSome/\0<=l/\l<=h/\h<=m/\m<=xs.length then some (.vs (decide (m=h)) z ((xs.drop l.toNat).take (h-l).toNat))else none
  else none
 | .sl k n off len =>
  let l:=lo.getD 0
  let h:=hi.getD len
  match H.fams[k]? with
  |some f =>
   if 0<sz/\f.sz=sz/\f.xs.length=n then
    match mx with
    |none=>if 0<=l/\l<=h/\h<=len then some (.sl k n (off+l.toNat) (h-l).toNat)else if 0<=l/\l<=h/\off+h<=n then some (.sl k n (off+l.toNat) (h-l).toNat)else none
    |some m=>if hi.isSome/\l=0/\h=0/\m=0 then some (.vs true sz [])else if hi.isSome/\0<=l/\l<=h/\h<=m/\off+m<=n then some .junk else none
   else none
  |none=>none
 |_=>none
def I0:Nat:=140737488355328
def U4 (c:Ctx) (h:AH) (sz bytes:Nat) (s:AV) (ys:List AV):Option (AV×AH) :=
 match s with
 | .vs true z xs =>
  if ys.length=0 then some (.vs true z xs,h)
  else if (z=sz\/xs.length=0)/\(xs.length+ys.length)*bytes<=I0/\xs.length+ys.length<=maxLen then
   some (.sl h.fams.length (xs.length+ys.length) 0 (xs.length+ys.length),{h with fams:=h.fams++[⟨xs++ys,sz,c.mutApp⟩]})
  else none
 | .sl k n off len =>
  match h.fams[k]? with
  |some f =>
   if f.xs.length=n/\f.sz=sz/\off+len=n/\(n+ys.length)*bytes<=I0/\n+ys.length<=maxLen then
    some (.sl k (n+ys.length) off (len+ys.length),{h with fams:=h.fams.set k {f with xs:=f.xs++ys}})
   else if f.xs.length=n/\f.sz=sz/\f.wr=true/\off+len+ys.length<=n then
    some (.sl k n off (len+ys.length),{h with fams:=h.fams.set k {f with xs:=f.xs.take (off+len)++ys++f.xs.drop (off+len+ys.length)}})
   else none
  |none=>none
 |_=>none
def N7 (c:Ctx) (h:AH) (sz bytes:Nat) (s x:AV):Option (AV×AH) :=
 match elems h sz x with
 |none=>none
 |some ys=>U4 c h sz bytes s ys
def Hv (s:ByteArray):List AV:=s.data.toList.map λb=>.int .u8 b.toNat
def OA (c:Ctx) (h:AH) (bytes:Nat) (s x:AV):Option (AV×AH) :=
 match x with
 | .str str=>U4 c h 1 bytes s (Hv str)
 |_=>none
def Ct:AH->List AV->Option (List AV×AH)
 |h,[]=>some ([],h)
 |h,.ptr b off::xs =>
  if off=0 then
   match h.boxes[b]? with
   |some cs=>if BA cs=false/\cs.all AV.flat=true then (Ct {h with boxes:=h.boxes.set b [.rbox cs]} xs).map λp=>(.pv cs::p.1,p.2)else none
   |none=>none
  else none
 |h,x::xs=>(Ct h xs).map λp=>(x::p.1,p.2)
def HD:List AV->Option (List Int)
 | []=>some []
 | .int .u8 n::xs=>(HD xs).map (n::·)
 |_=>none
def YI (ns:List Int):ByteArray:=⟨(ns.map λn=>UInt8.ofNat n.toNat).toArray⟩
def LQ (h:AH) (x:AV):Option (AV×AH) :=
 match elems h 1 x with
 |some ys=>(match HD ys with|some ns=>some (.str (YI ns),h)|none=>none)
 |none=>none
def TW (str:Bool):AV->AV->Option Bool
 | .str a,.str b=>if str then some (a == b)else none
 | .int k a,.int k' b=>if !str/\k=k' then some (a == b)else none
 |_,_=>none
def Kf (str:Bool) (k:AV):List AV->Nat->Option (Option Nat)
 | [],_=>some none
 |x::xs,i =>
  match TW str k x with
  |some true=>some (some i)
  |some false=>Kf str k xs (i+1)
  |none=>none
def w9 (h:AH):AV->Option (List AV×List AV)
 | .vm ks vs=>some (ks,vs)
 | .mp b=>match h.boxes[b]? with|some [.mbox ks vs]=>some (ks,vs)|_=>none
 | .nilm=>some ([],[])
 |_=>none
def LY (str:Bool):AV->Bool
 | .str _=>str
 | .int ..=>!str
 |_=>false
def Eh (str ok:Bool) (z:AV) (h:AH) (x k:AV):Option (AV×AH) :=
 if LY str k then
  match w9 h x with
  |some (ks,vs) =>
   match Kf str k ks 0 with
   |some (some i)=>match vs[i]? with|some v=>some (if ok then .tup [v,.bool true]else v,h)|none=>none
   |some none=>some (if ok then .tup [z,.bool false]else z,h)
   |none=>none
  |none=>none
 else none
def UK (str:Bool) (h:AH) (x k v:AV):Option (AV×AH) :=
 match x with
 | .mp b =>
  match h.boxes[b]?,frz h false v with
  |some [.mbox ks vs],some u =>
   if LY str k/\u.isTup=false then
    match Kf str k ks 0 with
    |some (some i)=>some (B3,{h with boxes:=h.boxes.set b [.mbox ks (vs.set i u)]})
    |some none=>some (B3,{h with boxes:=h.boxes.set b [.mbox (ks++[k]) (vs++[u])]})
    |none=>none
   else none
  |_,_=>none
 |_=>none
def Vu:AV->AV->Option Bool
 | .agg [.str a,.int k n],.agg [.str b,.int k' m]=>if k=k' then some (a == b&&n == m)else none
 |_,_=>none
def Ku (k:AV):List AV->Nat->Option (Option Nat)
 | [],_=>some none
 |x::xs,i =>
  match Vu k x with
  |some true=>some (some i)
  |some false=>Ku k xs (i+1)
  |none=>none
def Rp:AV->Bool
 | .agg [.str _,.int _ _]=>true
 |_=>false
def Ky (ok:Bool) (z:AV) (h:AH) (x k:AV):Option (AV×AH) :=
 if Rp k then
  match w9 h x with
  |some (ks,vs) =>
   match Ku k ks 0 with
   |some (some i)=>match vs[i]? with|some v=>some (if ok then .tup [v,.bool true]else v,h)|none=>none
   |some none=>some (if ok then .tup [z,.bool false]else z,h)
   |none=>none
  |none=>none
 else none
def ZS (h:AH) (x k v:AV):Option (AV×AH) :=
 match x with
 | .mp b =>
  match h.boxes[b]?,frz h false v with
  |some [.mbox ks vs],some u =>
   if Rp k/\u.isTup=false then
    match Ku k ks 0 with
    |some (some i)=>some (B3,{h with boxes:=h.boxes.set b [.mbox ks (vs.set i u)]})
    |some none=>some (B3,{h with boxes:=h.boxes.set b [.mbox (ks++[k]) (vs++[u])]})
    |none=>none
   else none
  |_,_=>none
 |_=>none
mutual
def Ip:AV->AV->Bool
 | .junk,.junk | .nilp,.nilp | .nilf,.nilf | .nilm,.nilm=>true
 | .bool a,.bool b=>decide (a=b)
 | .int k n,.int k' n'=>decide (k=k'/\n=n')
 | .str a,.str b=>decide (a=b)
 | .agg a,.agg b | .tup a,.tup b | .pv a,.pv b | .rbox a,.rbox b=>HG a b
 | .vs f s a,.vs f' s' b=>decide (f=f'/\s=s')&&HG a b
 | .sl k n o l,.sl k' n' o' l'=>decide (k=k'/\n=n'/\o=o'/\l=l')
 | .ep k n i c s,.ep k' n' i' c' s'=>decide (k=k'/\n=n'/\i=i'/\c=c'/\s=s')
 | .ptr b o,.ptr b' o'=>decide (b=b'/\o=o')
 | .fn f a,.fn g b=>decide (f=g)&&HG a b
 | .mp a,.mp b=>decide (a=b)
 | .bsl a b c d,.bsl a' b' c' d'=>decide (a=a'/\b=b'/\c=c'/\d=d')
 | .vm a b,.vm a' b' | .mbox a b,.mbox a' b'=>HG a a'&&HG b b'
 | .tbox t a,.tbox t' b=>decide (t=t')&&HG a b
 |_,_=>false
def HG:List AV->List AV->Bool
 | [],[]=>true
 |x::xs,y::ys=>Ip x y&&HG xs ys
 |_,_=>false
end
mutual
theorem fh:∀{x y:AV},Ip x y=true->x=y
 | .agg a,.agg b,h=>by simp only[Ip]at h;rw[j1 h]
 | .tup a,.tup b,h=>by simp only[Ip]at h;rw[j1 h]
 | .pv a,.pv b,h=>by simp only[Ip]at h;rw[j1 h]
 | .rbox a,.rbox b,h=>by simp only[Ip]at h;rw[j1 h]
 | .vs f s a,.vs f' s' b,h=>by simp only[Ip,zf0z,decide_eq_true_eq]at h;obtain⟨⟨rfl,rfl⟩,h⟩:=h;rw[j1 h]
 | .fn f a,.fn g b,h=>by simp only[Ip,zf0z,decide_eq_true_eq]at h;obtain⟨rfl,h⟩:=h;rw[j1 h]
 | .tbox t a,.tbox t' b,h=>by simp only[Ip,zf0z,decide_eq_true_eq]at h;obtain⟨rfl,h⟩:=h;rw[j1 h]
 | .vm a b,.vm a' b',h=>by simp only[Ip,zf0z]at h;rw[j1 h.1,j1 h.2]
 | .mbox a b,.mbox a' b',h=>by simp only[Ip,zf0z]at h;rw[j1 h.1,j1 h.2]
 | .junk,y,h | .nilp,y,h | .nilf,y,h | .nilm,y,h | .bool _,y,h | .int _ _,y,h | .str _,y,h | .sl _ _ _ _,y,h | .bsl _ _ _ _,y,h | .ep _ _ _ _ _,y,h | .ptr _ _,y,h | .mp _,y,h=>by
  cases y<;>simp_all [Ip]
theorem j1:∀{x y:C6},HG x y=true->x=y
 | [],[],_=>rfl
 |x::xs,y::ys,h=>by simp only[HG,zf0z]at h;rw[fh h.1,j1 h.2]
end
mutual
theorem Yn:∀x:AV,Ip x x=true
 | .agg a=>M6 a
 | .tup a=>M6 a
 | .pv a=>M6 a
 | .rbox a=>M6 a
 | .vs f s a=>by simp only[Ip,M6 a];simp
 | .fn f a=>by simp only[Ip,M6 a];simp
 | .tbox t a=>by simp only[Ip,M6 a];simp
 | .vm a b=>by simp only[Ip,M6 a,M6 b];simp
 | .mbox a b=>by simp only[Ip,M6 a,M6 b];simp
 | .junk | .nilp | .nilf | .nilm | .bool _ | .int _ _ | .str _ | .sl _ _ _ _ | .bsl _ _ _ _ | .ep _ _ _ _ _ | .ptr _ _ | .mp _=>by simp[Ip]
theorem M6:∀x:List AV,HG x x=true
 | []=>rfl
 |x::xs=>by simp only[HG,Yn x,M6 xs];rfl
end
def Iq:List (List AV)->List (List AV)->Bool
 | [],[]=>true
 |x::xs,y::ys=>HG x y&&Iq xs ys
 |_,_=>false
theorem Ks:∀{x y:List (List AV)},Iq x y=true->x=y
 | [],[],_=>rfl
 |x::xs,y::ys,h=>by simp only[Iq,zf0z]at h;rw[j1 h.1,Ks h.2]
theorem LU:∀x:List (List AV),Iq x x=true
 | []=>rfl
 |x::xs=>by simp only[Iq,M6 x,LU xs];rfl
def LS (h:AH) (z x:AV):Option (AV×AH) :=
 match x with
 | .vs _ _ xs=>if xs.length=0 then some (B3,h)else none
 | .sl k n off len =>
  match h.fams[k]? with
  |some f=>if f.xs.length=n/\off+len<=n/\f.wr=true/\z.cells.length=f.sz then some (B3,{h with fams:=h.fams.set k {f with xs:=f.xs.take off++zf1z len z++f.xs.drop (off+len)}})else none
  |none=>none
 |_=>none
def Wb (h:AH) (z:AV) (bytes:Nat) (l q:AV):Option (AV×AH) :=
 match l,q with
 | .int _ a,.int _ b=>if 0<=a/\a=b/\b*bytes<=I0/\b<=maxLen then some (.vs true z.cells.length (zf1z a.toNat z),h)else none
 |_,_=>none
def Og (h:AH) (z:AV) (bytes:Nat) (l q:AV):Option (AV×AH) :=
 match l,q with
 | .int _ a,.int _ b=>if 0<=a/\a=b/\b*bytes<=I0/\b<=maxLen then some (.bsl h.boxes.length z.cells.length 0 a.toNat,{h with boxes:=h.boxes++[(zf1z a.toNat z.cells).flatten]})else none
 |_,_=>none
def NY (h:AH) (n:Nat) (p x:AV):Option (AV×AH) :=
 match p with
 | .ep k m i q s=>if BJ x then (match FB h n x k m i q s with|some h'=>some (B3,h')|none=>none)else none
 |_=>none
def Me (h:AH) (n:Nat) (p x:AV):Option (AV×AH) :=
 match p with
 | .ptr b o =>
  match h.boxes[b]? with
  |some cs=>if BA cs=false/\x.isTup=false/\x.cells.length=n/\o+n<=cs.length then some (B3,{h with boxes:=h.boxes.set b (S5 cs o x.cells)})else (al h b n o x cs).map λh'=>(B3,h')
  |none=>none
 |_=>none
mutual
def Jt:AV->Bool
 | .ptr .. | .mp _ | .bsl ..=>false
 | .agg cs=>MS cs
 | .tup cs=>MS cs
 | .fn _ cs=>MS cs
 |_=>true
def MS:List AV->Bool
 | []=>true
 |x::xs=>Jt x&&MS xs
end
def Yw (b:Bool) (h:AH) (r:Option (AV×AH)):Option (AV×AH) :=
 if b then (match r with|some (v,h')=>if Iq h'.boxes h.boxes||(Jt v&&Iq (h'.boxes.take h.boxes.length) h.boxes)then some (v,⟨h.boxes,h'.fams⟩)else none|none=>none)else r
theorem Tu {b:Bool} {h:AH} {r:Option (AV×AH)} {x:AV×AH} (he:Yw b h r=some x):∃h',r=some (x.1,h')/\(h'=x.2\/(Jt x.1=true/\h'.boxes.take h.boxes.length=h.boxes/\x.2=⟨h.boxes,h'.fams⟩)):=by
 unfold Yw at he;split at he
 .split at he
  .split at he
   .rename_i v h' hq;cases he;refine⟨h',rfl,?_⟩;rw[Bool.or_eq_true]at hq;rcases hq with hq|hq
    .exact .inl (by rw[←Ks hq])
    .rw[zf0z]at hq;exact .inr ⟨hq.1,Ks hq.2,rfl⟩
   .cases he
  .cases he
 .exact⟨x.2,he,.inl rfl⟩
theorem Tv {b:Bool} {h:AH} {r:Option (AV×AH)} {x:AV×AH} (he:Yw b h r=some x):∃y,r=some y:=by
 obtain⟨h',e,_⟩:=Tu he;exact⟨_,e⟩
theorem Yx {h h':AH} {r:Option (AV×AH)} {v:AV} (he:Yw true h r=some (v,h')):h'.boxes=h.boxes:=by
 unfold Yw at he;rw[if_pos rfl]at he;split at he
 .split at he
  .cases he;rfl
  .cases he
 .cases he
def DO (O:Orc) (c:Ctx) (f:FuncId) (args:List AV) (h:AH):Option (AV×AH) :=
 if c.raw f then Yw (c.noB f) h (O.raw f args h)
 else
  match j7 h true args with
  |none=>none
  |some aas =>
   match O.pure f aas with
   |none=>none
   |some r=>if r.scalar||args.all (tame h)then some (r,h)else none
def gF (neg:Bool) (h:AH) (x:AV):Option (AV×AH) :=
 match x with
 | .vs _ z _=>some (.bool (if neg then !(z == 0)else z == 0),h)
 | .sl _ _ _ len=>if len=0 then none else some (.bool neg,h)
 | .bsl ..=>some (.bool neg,h)
 |_=>none
def DP:List AV:=[.mbox [.junk] []]
def An:List AV->Bool
 | [.mbox [.junk] []]=>true
 |_=>false
def AH.holes (h:AH) (k:Nat):AH:={h with boxes:=h.boxes++zf1z k DP}
def BH (h:AH) (r:Nat) (z:AV):Option (AV×AH) :=
 match h.boxes[h.boxes.length-r]? with
 |some cs=>if An cs then some (.ptr (h.boxes.length-r) 0,{h with boxes:=h.boxes.set (h.boxes.length-r) z.cells})else none
 |none=>none
def A3 (O:Orc) (c:Ctx) (o:ROp) (fr:Fr) (h:AH):Option (AV×AH) :=
 match o with
 | .mov x=>some (get fr x,h)
 | .pick q a b=>match get fr q with | .bool t=>some (if t then get fr a else get fr b,h)|_=>none
 | .box x=>if (get fr x).isTup then none else some (.ptr h.boxes.length 0,{h with boxes:=h.boxes++[(get fr x).cells]})
 | .mkmap=>some (.mp h.boxes.length,{h with boxes:=h.boxes++[[.mbox [] []]]})
 | .mlook str ok z x k=>Eh str ok z h (get fr x) (get fr k)
 | .mup str x k v=>UK str h (get fr x) (get fr k) (get fr v)
 | .mlookp ok z x k=>Ky ok z h (get fr x) (get fr k)
 | .mupp x k v=>ZS h (get fr x) (get fr k) (get fr v)
 | .alloc z=>some (.ptr h.boxes.length 0,{h with boxes:=h.boxes++[z.cells]})
 | .allocAt r z=>BH h r z
 | .build z parts=>match F8 fr z.cells.length parts with|some ps=>some (.agg (Q3 z.cells ps),h)|none=>none
 | .bslice n z parts=>match B5 fr h (zf1z n z) parts with|some xs=>some (.vs true z.cells.length xs,h)|none=>none
 | .bslicev n z parts=>if parts.all (λp=>BJ (get fr p.2))then (match B5 fr h (zf1z n z) parts with|some xs=>some (.vs true z.cells.length xs,h)|none=>none)else none
 | .ldb agg n x=>match get fr x with | .ep ..=>none|p=>(match x7 h agg n p with|some v=>some (v,h)|none=>none)
 | .ld agg n x=>match x7 h agg n (get fr x)with|some v=>some (v,h)|none=>none
 | .st n a x=>match x9 h n (get fr x) (get fr a)with|some h'=>some (B3,h')|none=>none
 | .ste n a x=>NY h n (get fr a) (get fr x)
 | .mkv z bytes l q=>Wb h z bytes (get fr l) (get fr q)
 | .mkb z bytes l q=>Og h z bytes (get fr l) (get fr q)
 | .stb n a x=>Me h n (get fr a) (get fr x)
 | .clr z x=>LS h z (get fr x)
 | .nilck x=>match get fr x with | .pv cs=>some (.pv cs,h) | .ptr b o=>some (.ptr b o,h) | .ep k n i q s=>some (.ep k n i q s,h) | .fn f cs=>some (.fn f cs,h)|_=>none
 | .bin op x y=>match E9 op (get fr x) (get fr y)with|some v=>some (v,h)|none=>none
 | .beq neg x y=>match get fr x,get fr y with | .bool a,.bool b=>some (.bool (if neg then !(a == b)else a == b),h)|_,_=>none
 | .nileq neg x=>gF neg h (get fr x)
 | .un op x=>match Jm op (get fr x)with|some v=>some (v,h)|none=>none
 | .conv k x=>match get fr x with | .int _ n=>some (.int k (k.wrap n),h)|_=>none
 | .cstr x=>match get fr x with | .str s=>some (.str s,h)|_=>none
 | .bstr x=>LQ h (get fr x)
 | .clos f caps=>if c.ro then (Ct h (caps.map (get fr))).map λp=>(.fn f p.1,p.2)else some (.fn f (caps.map (get fr)),h)
 | .mkslice z bytes l q =>
  match get fr l,get fr q with
  | .int _ a,.int _ b =>
   if 0<=a/\a<=b/\b*bytes<=I0/\b<=maxLen then
    some (.sl h.fams.length a.toNat 0 a.toNat,{h with fams:=h.fams++[⟨zf1z a.toNat z,z.cells.length,true⟩]})
   else none
  |_,_=>none
 | .slc sz x lo hi mx =>
  match F0 fr lo,F0 fr hi,F0 fr mx with
  |some l,some u,some m=>match Ez h sz (get fr x) l u m with|some v=>some (v,h)|none=>none
  |_,_,_=>none
 | .faddr off x=>match get fr x with | .pv cs=>some (.pv (cs.drop off),h) | .ptr b o=>some (.ptr b (o+off),h) | .ep k n i q s=>some (.ep k n i (q+off) s,h)|_=>none
 | .fld agg off n x=>match get fr x with | .agg cs=>(match T1 agg n (cs.drop off)with|some v=>some (v,h)|none=>none)|_=>none
 | .iaddr sz x i =>
  match get fr x,get fr i with
  | .vs _ z xs,.int _ j=>if 0<=j/\z=sz then (match xs[j.toNat]? with|some e=>some (.pv e.cells,h)|none=>none)else none
  | .sl k n off len,.int _ j=>if 0<=j/\j<len then some (.ep k n (off+j.toNat) 0 sz,h)else none
  | .bsl b s off len,.int _ j=>if 0<=j/\j<len/\s=sz then some (.ptr b (off+j.toNat*sz),h)else none
  |_,_=>none
 | .iaddrv sz x i =>
  match get fr x,get fr i with
  | .vs _ z xs,.int _ j=>if 0<=j/\z=sz then (match xs[j.toNat]? with|some e=>some (.pv e.cells,h)|none=>none)else none
  |_,_=>none
 | .idx x i =>
  match get fr x,get fr i with
  | .str s,.int _ j=>if 0<=j then (match s[j.toNat]? with|some b=>some (.int .u8 b.toNat,h)|none=>none)else none
  |_,_=>none
 | .ext x i=>match get fr x with | .tup vs=>(match vs[i]? with|some v=>some (v,h)|none=>none)|_=>none
 | .len true x=>match get fr x with | .str s=>some (.int .i64 s.size,h)|_=>none
 | .len false x =>
  match get fr x with
  | .vs _ _ xs=>some (.int .i64 xs.length,h)
  | .sl _ _ _ len=>some (.int .i64 len,h)
  | .bsl _ _ _ len=>some (.int .i64 len,h)
  |_=>none
 | .app sz bytes s x=>N7 c h sz bytes (get fr s) (get fr x)
 | .apps bytes s x=>OA c h bytes (get fr s) (get fr x)
 | .max x y=>match get fr x,get fr y with | .int k a,.int k' b=>if k=k' then some (.int k (if b > a then b else a),h)else none|_,_=>none
 | .min x y=>match get fr x,get fr y with | .int k a,.int k' b=>if k=k' then some (.int k (if b<a then b else a),h)else none|_,_=>none
 | .mlen x=>match w9 h (get fr x)with|some (ks,_)=>some (.int .i64 ks.length,h)|none=>none
 | .call f args=>DO O c f (args.map (get fr)) h
 | .callv x args=>match get fr x with | .fn f caps=>if c.raw f&&!c.rawv then none else DO O c f (args.map (get fr)++caps) h|_=>none
def N3 (fr:Fr):Option (Nat×Bool)->Option Bool
 |none=>some true
 |some (s,want) =>
  match fr.getD s B3 with
  | .bool b=>some (b == want)
  | .tup _=>some false
  |_=>none
def F5 (O:Orc) (c:Ctx):List RO->Fr->AH->Option (Fr×AH)
 | [],fr,h=>some (fr,h)
 |o::rest,fr,h =>
  match N3 fr o.guard with
  |some true =>
   match A3 O c o.op fr h with
   |some (v,h')=>F5 O c rest (put fr o.dst v) h'
   |none=>none
  |some false=>F5 O c rest (put fr o.dst B3) h
  |none=>none
def Opd.slots:Opd->List Nat
 | .t n=>[n]
 | .c _=>[]
def Lg:Option Opd->List Nat
 |some x=>x.slots
 |none=>[]
def ROp.slots:ROp->List Nat
 | .mov x | .box x | .ld _ _ x | .ldb _ _ x | .nilck x | .un _ x | .nileq _ x | .conv _ x | .cstr x | .bstr x | .faddr _ x | .fld _ _ _ x | .ext x _ | .len _ x | .mlen x=>x.slots
 | .pick c a b=>c.slots++a.slots++b.slots
 | .alloc _ | .allocAt .. | .mkmap=>[]
 | .mlook _ _ _ x k=>x.slots++k.slots
 | .mup _ x k v | .mupp x k v=>x.slots++k.slots++v.slots
 | .mlookp _ _ x k=>x.slots++k.slots
 | .build _ ps=>ps.flatMap λp=>p.2.2.slots
 | .bslice _ _ ps | .bslicev _ _ ps=>ps.flatMap λp=>p.2.slots
 | .clr _ x=>x.slots
 | .mkv _ _ a x | .mkb _ _ a x=>a.slots++x.slots
 | .st _ a x | .ste _ a x | .stb _ a x | .bin _ a x | .beq _ a x | .mkslice _ _ a x | .iaddr _ a x | .iaddrv _ a x | .idx a x | .app _ _ a x | .apps _ a x | .max a x | .min a x=>a.slots++x.slots
 | .clos _ cs=>cs.flatMap Opd.slots
 | .slc _ x a b c=>x.slots++Lg a++Lg b++Lg c
 | .call _ aas=>aas.flatMap Opd.slots
 | .callv x aas=>x.slots++aas.flatMap Opd.slots
def RO.slots (o:RO):List Nat:=o.op.slots++(match o.guard with|some (s,_)=>[s]|none=>[])
def ROp.writesB (c:Ctx):ROp->Bool
 | .box _ | .alloc _ | .allocAt .. | .st .. | .stb .. | .mkmap | .mup .. | .mupp .. | .mkb ..=>true
 | .callv ..=>c.rawv
 | .clos ..=>c.ro
 | .call f _=>c.raw f&&!c.noB f
 |_=>false
def ROp.writesF (c:Ctx):ROp->Bool
 | .st .. | .ste .. | .clr .. | .mkslice .. | .app .. | .apps ..=>true
 | .callv ..=>c.rawv
 | .call f _=>c.raw f
 |_=>false
def ROp.looksB:ROp->Bool
 | .box _ | .alloc _ | .allocAt .. | .st .. | .stb .. | .mkb .. | .callv .. | .ld .. | .ldb .. | .call .. | .mkmap | .mlook .. | .mlookp .. | .mlen _ | .mup .. | .mupp .. | .bslice .. | .clos ..=>true
 |_=>false
def ROp.looksF:ROp->Bool
 | .st .. | .ste .. | .clr .. | .mkslice .. | .app .. | .apps .. | .callv .. | .call .. | .ld .. | .bslice .. | .slc .. | .mup .. | .mupp .. | .bstr .. | .clos ..=>true
 |_=>false
def FL (c:Ctx) (nb:Nat) (g:Opd->AV):ROp->Option (List (Option Nat))
 | .ld _ _ x | .ldb _ _ x=>match g x with | .pv _=>some [] | .ptr b _=>some [some b] | .ep ..=>some []|_=>none
 | .st _ a _ | .stb _ a _=>match g a with | .ptr b _=>some [some b]|_=>none
 | .box _ | .alloc _ | .mkmap | .mkb ..=>some [none]
 | .allocAt r _=>some [none,some (nb-r)]
 | .call f args=>if !c.raw f&&(args.map g).all BJ then some []else none
 | .bslice _ _ ps=>if ps.all (λp=>BJ (g p.2))then some []else none
 |r=>if r.looksB then none else some []
def DY (c:Ctx) (g:Opd->AV):ROp->Option (List (Option Nat))
 | .ld _ _ x | .ldb _ _ x=>match g x with | .pv _=>some [] | .ptr ..=>some [] | .ep k _ _ _ _=>some [some k]|_=>none
 | .st _ a _=>match g a with | .ptr ..=>some []|_=>none
 | .ste _ a _=>match g a with | .ep k _ _ _ _=>some [some k]|_=>none
 | .app _ _ s x =>
  match g s,g x with
  | .vs ..,.vs ..=>some [none]
  | .vs ..,.sl k _ _ _=>some [none,some k]
  | .sl k _ _ _,.vs ..=>some [some k]
  | .sl k _ _ _,.sl j _ _ _=>some [some k,some j]
  |_,_=>none
 | .slc _ x _ _ _=>match g x with | .vs .. | .str _ | .bsl ..=>some [] | .sl k _ _ _=>some [some k]|_=>none
 | .mkslice ..=>some [none]
 | .clr _ x=>match g x with | .sl k _ _ _=>some [some k]|_=>none
 | .call f args=>if !c.raw f&&(args.map g).all BJ then some []else none
 | .bslice _ _ ps=>if ps.all (λp=>BJ (g p.2))then some []else none
 |r=>if r.looksF then none else some []
def QT:Option (List AV)->Option (List AV)->Bool
 |none,none=>true
 |some a,some b=>HG a b
 |_,_=>false
def Ml:Option Fam->Option Fam->Bool
 |none,none=>true
 |some a,some b=>HG a.xs b.xs&&decide (a.sz=b.sz)&&decide (a.wr=b.wr)
 |_,_=>false
def Kr (a b:List (List AV)):List (Option Nat) :=
 (if a.length=b.length then []else [none])++((zf2z (max a.length b.length)).filter λi=>!QT a[i]? b[i]?).map some
def Pn (a b:List Fam):List (Option Nat) :=
 (if a.length=b.length then []else [none])++((zf2z (max a.length b.length)).filter λi=>!Ml a[i]? b[i]?).map some
structure Foot where
 rb:Option (List (Option Nat))
 wb:List (Option Nat)
 rf:Option (List (Option Nat))
 wf:List (Option Nat)
def Mp (c:Ctx) (w:Option Bool) (g:Opd->AV) (r:ROp) (h h1:AH):Foot :=
 match w with
 |some true=>⟨FL c h.boxes.length g r,Kr h.boxes h1.boxes,DY c g r,Pn h.fams h1.fams⟩
 |_=>⟨some [],[],some [],[]⟩
def Am (c:Ctx) (o:RO) (fr:Fr) (h h1:AH):Foot:=Mp c (N3 fr o.guard) (get fr) o.op h h1
def J1 (O:Orc) (c:Ctx):List RO->Fr->AH->Option (List Foot×Fr×AH)
 | [],fr,h=>some ([],fr,h)
 |o::rest,fr,h =>
  match N3 fr o.guard with
  |some true =>
   match A3 O c o.op fr h with
   |some (v,h')=>(J1 O c rest (put fr o.dst v) h').map λp=>(Am c o fr h h'::p.1,p.2)
   |none=>none
  |some false=>(J1 O c rest (put fr o.dst B3) h).map λp=>(Am c o fr h h::p.1,p.2)
  |none=>none
def x8:Option (List (Option Nat))->List (Option Nat)->Bool
 |none,w=>w.isEmpty
 |some r,w=>w.all λx=>!r.contains x
def i3 (a b:Foot):Bool:=x8 a.rb b.wb&&x8 b.rb a.wb&&x8 (some a.wb) b.wb&&x8 a.rf b.wf&&x8 b.rf a.wf&&x8 (some a.wf) b.wf
def KR (bj:Nat) (i:Nat) (oi oj:RO) (fi fj:Foot):Bool :=
 bj.testBit i ||
  (
   (match oi.dst with|some d=>!oj.slots.contains d&&oj.dst != some d|none=>true) &&
   (match oj.dst with|some d=>!oi.slots.contains d|none=>true)&&i3 fi fj)
def Z1 (bs:List Nat) (C5:List RO) (fs:List Foot):Bool :=
 (zf2z C5.length).all λj=>(zf2z j).all λi =>
  match C5[i]?,C5[j]?,fs[i]?,fs[j]? with
  |some oi,some oj,some fi,some fj=>KR (bs.getD j 0) i oi oj fi fj&&(match oi.dst,oj.dst with|some d,some e=>d != e|_,_=>true)
  |_,_,_,_=>false
def ROp.isAt:ROp->Bool
 | .allocAt ..=>true
 |_=>false
def VY (ops:List RO):Nat:=ops.countP λo=>o.op.isAt
def A4 (O:Orc) (c:Ctx):RCode->St->Option (Ex×St)
 | .skip,s=>some (.normal,s)
 | .region _ ops,s =>
  match F5 O c ops s.1 s.2 with
  |some s'=>some (.normal,s')
  |none=>none
 | .regd bs ops,s =>
  match J1 O c ops s.1 (s.2.holes (VY ops))with
  |some (fs,s')=>if Z1 bs ops fs then some (.normal,s')else none
  |none=>none
 | .seq a b,s =>
  match A4 O c a s with
  |some (.normal,s')=>A4 O c b s'
  |r=>r
 | .cond q a b,s =>
  match get s.1 q with
  | .bool true=>A4 O c a s
  | .bool false=>A4 O c b s
  |_=>none
 | .block id a,s =>
  match A4 O c a s with
  |some (.exit id',s')=>if id'=id then some (.normal,s')else some (.exit id',s')
  |r=>r
 | .loop a,s=>O.loop (A4 O c a) s
 | .exit id,s=>some (.exit id,s)
 | .ret,s=>some (.ret,s)
 | .bad,_=>none
def Gm (fr:Fr) (h:AH):List RRes->Option (List AV)
 | []=>some []
 | .tmp t::rest=>(Gm fr h rest).map (fr.getD t B3::·)
 | .cell a agg n::rest=>(x7 h agg n (fr.getD a B3)).bind λv=>(Gm fr h rest).map (v::·)
def H6:List AV->AV
 | [v]=>v
 |vs=>.tup vs
structure RSpec where
 run:Orc->List AV->AH->Option (AV×AH)
 fin:∀(O:Orc) (args:List AV) (h:AH) (x:AV×AH),run O args h=some x->∃l:List (FuncId×List AV×AV),(∀p∈l,O.pure p.1 p.2.1=some p.2.2)/\∀O':Orc,(∀p∈l,O'.pure p.1 p.2.1=some p.2.2)->run O' args h=some x
structure Cfg where
 code:FuncId->Option RFunc
 ctx:FuncId->Ctx
 spec:FuncId->Option (List AV->Option AV)
 rspec:FuncId->Option RSpec:=λ_=>none
def BF (rf:RFunc) (args:List AV):Fr:=args++zf1z (rf.ntmps-args.length) B3
def GD (O:Orc) (c:Ctx) (rf:RFunc) (args:List AV) (h:AH):Option (AV×AH) :=
 match A4 O c rf.body (BF rf args,h)with
 |some (.normal,s)=>(Gm s.1 s.2 rf.results).map λvs=>(H6 vs,s.2)
 |some (.ret,s)=>(Gm s.1 s.2 rf.results).map λvs=>(H6 vs,s.2)
 |_=>none
def Gl (C:Cfg) (O:Orc) (f:FuncId) (args:List AV) (h:AH):Option (AV×AH) :=
 match C.code f with
 |some rf=>GD O (C.ctx f) rf args h
 |none=>match C.rspec f with|some s=>s.run O args h|none=>none
def Ux (b:Bool) (r:Option (AV×AH)):Option (AV×AH):=if b then r.map λp=>(p.1,iA p.2 p.1)else r
def hZ (b:Bool) (x:AV×AH):AV×AH:=if b then (x.1,iA x.2 x.1)else x
theorem MY (b:Bool) (x:AV×AH):Ux b (some x)=some (hZ b x):=by cases b<;>rfl
def PI (C:Cfg) (O:Orc) (f:FuncId) (args:List AV) (h:AH):Option (AV×AH):=Ux (C.ctx f).rst (Gl C O f args h)
def Ey (C:Cfg) (O:Orc) (f:FuncId) (args:List AV):Option AV :=
 match C.spec f with
 |some s=>s args
 |none =>
  match Gl C O f args AH.empty with
  |some (r,h)=>Cg h r
  |none=>none
def GO (step:St->Option (Ex×St)):Nat->St->Option (Ex×St)
 |0,_=>none
 |n+1,s =>
  match step s with
  |some (.normal,s')=>GO step n s'
  |r=>r
def orc (C:Cfg):Nat->Orc
 |0=>⟨λ_ _=>none,λ_ _ _=>none,λ_ _=>none⟩
 |n+1=>⟨Ey C (orc C n),PI C (orc C n),λstep s=>GO step (n+1) s⟩
def Xh:List (Nat×List AV):=[(2,[.vs false 1 ([[97,110,121],[97,103,101,110,116],[110,111,110,99,101],[107,101,121],[100,97,116,97],[116,97,103]].map λl=>.str ⟨(l.map UInt8.ofNat).toArray⟩)])]
def sN:Option TypeId:=some 310
def ZT:Bool:=false
end Go.Abs
