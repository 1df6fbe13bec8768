/- A part of the proof. -/
import Derived.WalkKit
set_option linter.all false
open Bool renaming and_eq_true->zf0z
open List renaming replicate->zf1z,range->zf2z
set_option linter.all false
namespace Go.Abs
abbrev AD:=ByteArray
abbrev HH:=Bool×Bool
inductive AV where
 |junk
 |bool (b:Bool)
 |int (k:IntKind) (n:Int)
 |str (s:ByteArray)
 |agg (cs:List AV)
 |tup (vs:List AV)
 |vs (full:Bool) (sz:Nat) (xs:List AV)
 |sl (k n off len:Nat)
 |pv (cs:List AV)
 |ep (k n i c sz:Nat)
 |ptr (b off:Nat)
 |nilp
 |fn (f:FuncId) (caps:List AV)
 |nilf
 |mp (b:Nat)
 |vm (ks vs:List AV)
 |nilm
 |mbox (ks vs:List AV)
 |rbox (cs:List AV)
 |bsl (b sz off len:Nat)
 |tbox (t:TypeId) (cs:List AV)
 deriving Inhabited
abbrev I7:=List AV
def AV.cells:AV->List AV
 | .agg cs=>cs
 |v=>[v]
def B4:AV:=.tup []
def AV.isTup:AV->Bool
 | .tup _=>true
 |_=>false
structure Fam where
 xs:List AV
 sz:Nat
 wr:Bool
structure AH where
 boxes:List (List AV)
 fams:List Fam
def AH.empty:AH:=⟨[],[]⟩
inductive Opd where
 |t (n:Nat)
 |c (v:AV)
inductive ROp where
 |mov (x:Opd)
 |pick (c a b:Opd)
 |box (x:Opd)
 |mkmap
 |mlook (str ok:Bool) (z:AV) (x k:Opd)
 |mup (str:Bool) (x k v:Opd)
 |mlookp (ok:Bool) (z:AV) (x k:Opd)
 |mupp (x k v:Opd)
 |alloc (z:AV)
 |allocAt (r:Nat) (z:AV)
 |build (z:AV) (parts:List (Nat×Nat×Opd))
 |bslice (n:Nat) (z:AV) (parts:List (Nat×Opd))
 |bslicev (n:Nat) (z:AV) (parts:List (Nat×Opd))
 |ld (agg:Bool) (n:Nat) (x:Opd)
 |ldb (agg:Bool) (n:Nat) (x:Opd)
 |st (n:Nat) (a x:Opd)
 |ste (n:Nat) (a x:Opd)
 |stb (n:Nat) (a x:Opd)
 |clr (z:AV) (x:Opd)
 |nilck (x:Opd)
 |bin (op:BinOp) (x y:Opd)
 |beq (neg:Bool) (x y:Opd)
 |nileq (neg:Bool) (x:Opd)
 |un (op:UnOp) (x:Opd)
 |conv (k:IntKind) (x:Opd)
 |cstr (x:Opd)
 |bstr (x:Opd)
 |clos (f:FuncId) (caps:List Opd)
 |mkslice (z:AV) (bytes:Nat) (len cap:Opd)
 |mkv (z:AV) (bytes:Nat) (len cap:Opd)
 |mkb (z:AV) (bytes:Nat) (len cap:Opd)
 |slc (sz:Nat) (x:Opd) (lo hi mx:Option Opd)
 |faddr (off:Nat) (x:Opd)
 |fld (agg:Bool) (off n:Nat) (x:Opd)
 |iaddr (sz:Nat) (x i:Opd)
 |iaddrv (sz:Nat) (x i:Opd)
 |idx (x i:Opd)
 |ext (x:Opd) (i:Nat)
 |len (str:Bool) (x:Opd)
 |app (sz bytes:Nat) (s x:Opd)
 |apps (bytes:Nat) (s x:Opd)
 |max (x y:Opd)
 |min (x y:Opd)
 |mlen (x:Opd)
 |call (f:FuncId) (args:List Opd)
 |callv (x:Opd) (args:List Opd)
structure RO where
 dst:Option Nat
 op:ROp
 guard:Option (Nat×Bool)
inductive RCode where
 |skip
 |region (draw:Bool) (ops:List RO)
 |regd (bs:List Nat) (ops:List RO)
 |seq (a b:RCode)
 |cond (c:Opd) (a b:RCode)
 |block (id:Nat) (a:RCode)
 |loop (a:RCode)
 |exit (id:Nat)
 |ret
 |bad
inductive RRes where
 |tmp (t:Nat)
 |cell (a:Nat) (agg:Bool) (n:Nat)
structure RFunc where
 ntmps:Nat
 results:List RRes
 body:RCode
inductive Ex where
 |normal
 |exit (id:Nat)
 |ret
abbrev Fr:=List AV
abbrev St:=Fr×AH
structure Orc where
 pure:FuncId->List AV->Option AV
 raw:FuncId->List AV->AH->Option (AV×AH)
 loop:(St->Option (Ex×St))->St->Option (Ex×St)
structure Ctx where
 raw:FuncId->Bool
 mutApp:Bool
 rawv:Bool:=true
 ro:Bool:=false
 noB:FuncId->Bool:=λ_=>false
 bx:Bool:=false
 rst:Bool:=false
 lay:Bool:=false
def get(fr:Fr):Opd->AV
 | .t n=>fr.getD n B4
 | .c v=>v
def put(fr:Fr)(dst:Option Nat)(v:AV):Fr :=
 match dst with
 |some d=>fr.set d v
 |none=>fr
def P9(agg:Bool)(n:Nat)(cs:List AV):Option AV :=
 match agg with
 |true=>if n<=cs.length then some (.agg (cs.take n))else none
 |false=>cs.head?
def AV.reform(x:AV)(cs:List AV):Option AV :=
 match x with
 | .agg _=>some (.agg cs)
 |_=>cs.head?
def elems(h:AH)(sz:Nat):AV->Option (List AV)
 | .vs _ z xs=>if z=sz\/xs.length=0 then some xs else none
 | .sl k n off len =>
  match h.fams[k]? with
  |some f=>if f.xs.length=n/\f.sz=sz/\off+len<=n then some ((f.xs.drop off).take len)else none
  |none=>none
 |_=>none
def u6:List AV->Bool
 | [.mbox ..]=>true
 | [.rbox _]=>true
 | [.tbox ..]=>true
 |_=>false
def AV.flat:AV->Bool
 | .sl .. | .ep .. | .ptr .. | .agg _ | .tup _ | .mp _ | .mbox .. | .rbox _ | .bsl .. | .tbox ..=>false
 | .fn _ cs=>cs.isEmpty
 |_=>true
def S0:AV->Bool
 | .agg cs=>cs.all AV.flat
 | .tup _=>false
 |x=>x.flat
def lA(h:AH)(am:Bool):AV->Option AV
 | .sl k n off len =>
  match h.fams[k]? with
  |some f=>if f.xs.length=n/\off+len<=n/\(am||!f.wr)=true then some (.vs false f.sz ((f.xs.drop off).take len))else none
  |none=>none
 |x=>if S0 x then some x else none
def MZ(h:AH)(am:Bool):List AV->Option (List AV)
 | []=>some []
 |x::xs=>(lA h am x).bind λy=>(MZ h am xs).map (y::·)
def dq(h:AH)(am:Bool):AV->Option AV
 | .sl k n off len =>
  match h.fams[k]? with
  |some f=>if f.xs.length=n/\off+len<=n/\(am||!f.wr)=true then some (.vs false f.sz ((f.xs.drop off).take len))else none
  |none=>none
 | .ep ..=>none
 | .ptr ..=>none
 | .agg _=>none
 | .tup _=>none
 | .mbox ..=>none
 | .rbox _=>none
 | .tbox ..=>none
 | .bsl ..=>none
 | .mp b=>match h.boxes[b]? with|some [.mbox ks vs]=>if am then (MZ h am vs).map (.vm ks)else none|_=>none
 | .fn f caps=>if caps.all AV.flat then some (.fn f caps)else none
 |x=>some x
def MY(h:AH)(am:Bool):List AV->Option (List AV)
 | []=>some []
 |x::xs=>(dq h am x).bind λy=>(MY h am xs).map (y::·)
def MU(sz:Nat)(cs:List AV):Nat->List AV
 |0=>[]
 |n+1=>(if sz=1 then cs.headD .junk else .agg (cs.take sz))::MU sz (cs.drop sz) n
def boxC:List AV->Option (List AV)
 | [.tbox _ ys]=>some ys
 |_=>none
def wP(h:AH)(am:Bool)(sz off len:Nat)(cs:List AV):Option AV :=
 match boxC cs with
 |some ys=>if am=true/\0<sz/\off+len*sz<=ys.length then (MY h am ((ys.drop off).take (len*sz))).map λzs=>.vs false sz (MU sz zs len)else none
 |none=>none
def kz(h:AH)(am:Bool)(b sz off len:Nat):Option AV :=
 match h.boxes[b]? with
 |some cs=>if am=true/\u6 cs=false/\0<sz/\off+len*sz<=cs.length then (MY h am ((cs.drop off).take (len*sz))).map λys=>.vs false sz (MU sz ys len)else wP h am sz off len cs
 |none=>none
def Bo(h:AH)(am:Bool):AV->Option AV
 | .bsl b sz off len=>kz h am b sz off len
 | .sl k n off len =>
  match h.fams[k]? with
  |some f=>if f.xs.length=n/\off+len<=n/\(am||!f.wr)=true then some (.vs false f.sz ((f.xs.drop off).take len))else none
  |none=>none
 | .ep ..=>none
 | .ptr ..=>none
 | .agg _=>none
 | .tup _=>none
 | .mbox ..=>none
 | .rbox _=>none
 | .tbox ..=>none
 | .mp b=>match h.boxes[b]? with|some [.mbox ks vs]=>if am then (MZ h am vs).map (.vm ks)else none|_=>none
 | .fn f caps=>if caps.all AV.flat then some (.fn f caps)else none
 |x=>some x
def IX(h:AH)(am:Bool):List AV->Option (List AV)
 | []=>some []
 |x::xs=>(Bo h am x).bind λy=>(IX h am xs).map (y::·)
def frz(h:AH)(am:Bool):AV->Option AV
 | .agg cs=>(IX h am cs).map .agg
 |x=>Bo h am x
def j8(h:AH)(am:Bool):List AV->Option (List AV)
 | []=>some []
 |x::xs=>(frz h am x).bind λy=>(j8 h am xs).map (y::·)
def Dv(h:AH):AV->Option AV
 | .tup vs=>(j8 h true vs).map .tup
 |x=>frz h true x
def AV.scalar1:AV->Bool
 | .bool _ | .int .. | .str _ | .nilp | .nilf=>true
 |_=>false
def AV.scalar0:AV->Bool
 | .agg cs=>cs.all AV.scalar1
 |v=>v.scalar1
def AV.scalar:AV->Bool
 | .tup us=>us.all AV.scalar0
 |v=>v.scalar0
def Dn(h:AH):AV->Bool
 | .sl k _ _ _=>match h.fams[k]? with|some f=>!f.wr|none=>false
 | .mp _=>false
 | .bsl ..=>false
 |_=>true
def tame(h:AH):AV->Bool
 | .agg cs=>cs.all (Dn h)
 |v=>Dn h v
def Qm(agg:Bool)(n off:Nat):List AV->Option AV
 | [.rbox ys]=>P9 agg n (ys.drop off)
 | [.tbox _ ys]=>P9 agg n (ys.drop off)
 |_=>none
def U4(h:AH)(agg:Bool)(n:Nat):AV->Option AV
 | .pv cs=>P9 agg n cs
 | .ptr b off =>
  match h.boxes[b]? with
  |some cs=>if u6 cs then Qm agg n off cs else P9 agg n (cs.drop off)
  |none=>none
 | .ep k m i c sz =>
  match h.fams[k]? with
  |some f=>if f.xs.length=m/\f.sz=sz then (match f.xs[i]? with|some x=>P9 agg n (x.cells.drop c)|none=>none)else none
  |none=>none
 |_=>none
def Y0(cs:List AV)(off:Nat)(new:List AV):List AV:=cs.take off++new++cs.drop (off+new.length)
def Ej(h:AH)(n:Nat)(v:AV)(k m i c sz:Nat):Option AH :=
 match h.fams[k]? with
 |some f =>
  if f.xs.length=m/\f.sz=sz/\f.wr=true then
   match f.xs[i]?,frz h false v with
   |some x,some u =>
    if u.cells.length=n/\c+n<=x.cells.length then
     (x.reform (Y0 x.cells c u.cells)).map λy=>{h with fams:=h.fams.set k {f with xs:=f.xs.set i y}}
    else none
   |_,_=>none
  else none
 |none=>none
def sX(h:AH):AV->AH
 | .sl k _ _ _=>match h.fams[k]? with|some f=>{h with fams:=h.fams.set k {f with wr:=false}} | none=>h
 |_=>h
def xe:AH->List AV->AH
 |h,[]=>h
 |h,x::xs=>xe (sX h x) xs
def sW(h:AH):AV->AH
 | .agg cs=>xe h cs
 |x=>sX h x
def rstT:AH->List AV->AH
 |h,[]=>h
 |h,x::xs=>rstT (sW h x) xs
def xh(h:AH):AV->AH
 | .tup vs=>rstT h vs
 |x=>sW h x
def bZ(h:AH):AV->Option AH
 | .agg cs=>some (xe h cs)
 | .sl k _ _ _ =>
  match h.fams[k]? with
  |some f=>some {h with fams:=h.fams.set k {f with wr:=false}}
  |none=>none
 |_=>none
def aN(h:AH)(v:AV):Option AH:=match frz h false v with|some _=>some h|none=>bZ h v
def dC(h:AH)(b n off:Nat)(v:AV):List AV->Option AH
 | [.tbox t ys]=>if v.isTup=false/\v.cells.length=n/\off+n<=ys.length then some {h with boxes:=h.boxes.set b [.tbox t (Y0 ys off v.cells)]} else none
 |_=>none
def Ba(h:AH)(n:Nat)(v:AV):AV->Option AH
 | .ptr b off =>
  match h.boxes[b]? with
  |some cs=>if u6 cs=false/\v.isTup=false/\v.cells.length=n/\off+n<=cs.length then some {h with boxes:=h.boxes.set b (Y0 cs off v.cells)} else dC h b n off v cs
  |none=>none
 | .ep k m i c sz=>match aN h v with|some h1=>Ej h1 n v k m i c sz|none=>none
 |_=>none
def P0(op:BinOp):AV->AV->Option AV
 | .int k a,.int k' b =>
  match op with
  | .add=>if k=k' then some (.int k (k.wrap (a+b)))else none
  | .sub=>if k=k' then some (.int k (k.wrap (a-b)))else none
  | .mul=>if k=k' then some (.int k (k.wrap (a*b)))else none
  | .quo=>if k=k'/\b≠0 then some (.int k (k.wrap (a.tdiv b)))else none
  | .rem=>if k=k'/\b≠0 then some (.int k (a.tmod b))else none
  | .eql=>if k=k' then some (.bool (a == b))else none
  | .neq=>if k=k' then some (.bool (a != b))else none
  | .lss=>if k=k' then some (.bool (decide (a<b)))else none
  | .leq=>if k=k' then some (.bool (decide (a<=b)))else none
  | .gtr=>if k=k' then some (.bool (decide (a > b)))else none
  | .geq=>if k=k' then some (.bool (decide (a≥b)))else none
  | .shl=>if 0<=b then some (.int k (k.wrap (a*2 ^ (min b.toNat k.bits))))else none
  | .shr=>if 0<=b then some (.int k (a.fdiv (2 ^ (min b.toNat k.bits))))else none
  | .and=>if k=k' then some (.int k (k.wrap (BitVec.ofInt k.bits a &&& BitVec.ofInt k.bits b).toNat))else none
  | .or=>if k=k' then some (.int k (k.wrap (BitVec.ofInt k.bits a ||| BitVec.ofInt k.bits b).toNat))else none
  | .xor=>if k=k' then some (.int k (k.wrap (BitVec.ofInt k.bits a ^^^ BitVec.ofInt k.bits b).toNat))else none
  |_=>none
 | .str a,.str b =>
  match op with
  | .add=>if ((a.size+b.size:Nat):Int) > IntKind.i64.max then none else some (.str (a++b))
  | .eql=>some (.bool (a.toList == b.toList))
  | .neq=>some (.bool !(a.toList == b.toList))
  | .lss=>some (.bool (Op.bytesLess a.toList b.toList))
  | .leq=>some (.bool (Op.bytesLess a.toList b.toList||a.toList == b.toList))
  | .gtr=>some (.bool !(Op.bytesLess a.toList b.toList||a.toList == b.toList))
  | .geq=>some (.bool !(Op.bytesLess a.toList b.toList))
  |_=>none
 |_,_=>none
def LL(op:UnOp):AV->Option AV
 | .bool b=>match op with | .not=>some (.bool !b)|_=>none
 | .int k n=>match op with | .neg=>some (.int k (k.wrap (0-n)))|_=>none
 |_=>none
def C9(cs:List AV):List (Nat×AV)->List AV
 | []=>cs
 |(off,v)::rest=>C9 (Y0 cs off v.cells) rest
def B6(fr:Fr)(len:Nat):List (Nat×Nat×Opd)->Option (List (Nat×AV))
 | []=>some []
 |(off,n,x)::rest =>
  if (get fr x).isTup=false/\(get fr x).cells.length=n/\off+n<=len then (B6 fr len rest).map ((off,get fr x)::·)else none
def OD(h:AH):AV->Option AV
 | .agg cs=>some (.agg (cs.map λc=>(Bo h false c).getD .junk))
 |_=>none
def B2(fr:Fr)(h:AH)(xs:List AV):List (Nat×Opd)->Option (List AV)
 | []=>some xs
 |(i,x)::rest =>
  match xs[i]?,(frz h false (get fr x)).or (OD h (get fr x))with
  |some z,some y=>if y.cells.length=z.cells.length then B2 fr h (xs.set i y) rest else none
  |_,_=>none
def i4(fr:Fr):Option Opd->Option (Option Int)
 |none=>some none
 |some x=>match get fr x with | .int _ i=>some (some i)|_=>none
def Fq(H:AH)(sz:Nat)(x:AV)(lo hi mx:Option Int):Option AV :=
 match x with
 | .str s =>
  let l:=lo.getD 0
  let h:=hi.getD s.size
  if sz=0/\mx=none/\0<=l/\l<=h/\h<=s.size then some (.str (s.extract l.toNat h.toNat))else none
 | .vs full z xs =>
  let l:=lo.getD 0
  let h:=hi.getD xs.length
  if 0<sz/\(z=sz\/xs.length=0)then
   match mx with
   |none =>
    if 0<=l/\l<=h/\h<=xs.length then some (.vs (full&&decide (h=xs.length)) z ((xs.drop l.toNat).take (h-l).toNat))else none
   |some m =>
    if hi.isSome/\0<=l/\l<=h/\h<=m/\m<=xs.length then some (.vs (decide (m=h)) z ((xs.drop l.toNat).take (h-l).toNat))else none
  else none
 | .sl k n off len =>
  let l:=lo.getD 0
  let h:=hi.getD len
  match H.fams[k]? with
  |some f =>
   if 0<sz/\f.sz=sz/\f.xs.length=n then
    match mx with
    |none=>if 0<=l/\l<=h/\h<=len then some (.sl k n (off+l.toNat) (h-l).toNat)else if 0<=l/\l<=h/\off+h<=n then some (.sl k n (off+l.toNat) (h-l).toNat)else none
    |some m=>if hi.isSome/\l=0/\h=0/\m=0 then some (.vs true sz [])else if hi.isSome/\0<=l/\l<=h/\h<=m/\off+m<=n then some .junk else none
   else none
  |none=>none
 |_=>none
def P7:Nat:=140737488355328
def Z2(c:Ctx)(h:AH)(sz bytes:Nat)(s:AV)(ys:List AV):Option (AV×AH) :=
 match s with
 | .vs true z xs =>
  if ys.length=0 then some (.vs true z xs,h)
  else if (z=sz\/xs.length=0)/\(xs.length+ys.length)*bytes<=P7/\xs.length+ys.length<=maxLen then
   some (.sl h.fams.length (xs.length+ys.length) 0 (xs.length+ys.length),{h with fams:=h.fams++[⟨xs++ys,sz,c.mutApp⟩]})
  else none
 | .sl k n off len =>
  match h.fams[k]? with
  |some f =>
   if f.xs.length=n/\f.sz=sz/\off+len=n/\(n+ys.length)*bytes<=P7/\n+ys.length<=maxLen then
    some (.sl k (n+ys.length) off (len+ys.length),{h with fams:=h.fams.set k {f with xs:=f.xs++ys}})
   else if f.xs.length=n/\f.sz=sz/\f.wr=true/\off+len+ys.length<=n then
    some (.sl k n off (len+ys.length),{h with fams:=h.fams.set k {f with xs:=f.xs.take (off+len)++ys++f.xs.drop (off+len+ys.length)}})
   else none
  |none=>none
 |_=>none
def R7(c:Ctx)(h:AH)(sz bytes:Nat)(s x:AV):Option (AV×AH) :=
 match elems h sz x with
 |none=>none
 |some ys=>Z2 c h sz bytes s ys
def JR(s:ByteArray):List AV:=s.data.toList.map λb=>.int .u8 b.toNat
def Rl(c:Ctx)(h:AH)(bytes:Nat)(s x:AV):Option (AV×AH) :=
 match x with
 | .str str=>Z2 c h 1 bytes s (JR str)
 |_=>none
def p8:AH->List AV->Option (List AV×AH)
 |h,[]=>some ([],h)
 |h,.ptr b off::xs =>
  if off=0 then
   match h.boxes[b]? with
   |some cs=>if u6 cs=false/\cs.all AV.flat=true then (p8 {h with boxes:=h.boxes.set b [.rbox cs]} xs).map λp=>(.pv cs::p.1,p.2)else none
   |none=>none
  else none
 |h,x::xs=>(p8 h xs).map λp=>(x::p.1,p.2)
def LD:List AV->Option (List Int)
 | []=>some []
 | .int .u8 n::xs=>(LD xs).map (n::·)
 |_=>none
def tB(ns:List Int):ByteArray:=⟨(ns.map λn=>UInt8.ofNat n.toNat).toArray⟩
def Rp(h:AH)(x:AV):Option (AV×AH) :=
 match elems h 1 x with
 |some ys=>(match LD ys with|some ns=>some (.str (tB ns),h)|none=>none)
 |none=>none
def Zs(str:Bool):AV->AV->Option Bool
 | .str a,.str b=>if str then some (a == b)else none
 | .int k a,.int k' b=>if !str/\k=k' then some (a == b)else none
 |_,_=>none
def IW(str:Bool)(k:AV):List AV->Nat->Option (Option Nat)
 | [],_=>some none
 |x::xs,i =>
  match Zs str k x with
  |some true=>some (some i)
  |some false=>IW str k xs (i+1)
  |none=>none
def BQ(h:AH):AV->Option (List AV×List AV)
 | .vm ks vs=>some (ks,vs)
 | .mp b=>match h.boxes[b]? with|some [.mbox ks vs]=>some (ks,vs)|_=>none
 | .nilm=>some ([],[])
 |_=>none
def OE(str:Bool):AV->Bool
 | .str _=>str
 | .int ..=>!str
 |_=>false
def Ff(str ok:Bool)(z:AV)(h:AH)(x k:AV):Option (AV×AH) :=
 if OE str k then
  match BQ h x with
  |some (ks,vs) =>
   match IW str k ks 0 with
   |some (some i)=>match vs[i]? with|some v=>some (if ok then .tup [v,.bool true]else v,h)|none=>none
   |some none=>some (if ok then .tup [z,.bool false]else z,h)
   |none=>none
  |none=>none
 else none
def lN(h:AH):AV->Option AV
 | .sl k n off len=>some (.sl k n off len)
 |x=>frz h false x
def UQ(str:Bool)(h:AH)(x k v:AV):Option (AV×AH) :=
 match x with
 | .mp b =>
  match h.boxes[b]?,lN h v with
  |some [.mbox ks vs],some u =>
   if OE str k/\u.isTup=false then
    match IW str k ks 0 with
    |some (some i)=>some (B4,{h with boxes:=h.boxes.set b [.mbox ks (vs.set i u)]})
    |some none=>some (B4,{h with boxes:=h.boxes.set b [.mbox (ks++[k]) (vs++[u])]})
    |none=>none
   else none
  |_,_=>none
 |_=>none
def dj:AV->AV->Option Bool
 | .agg [.str a,.int k n],.agg [.str b,.int k' m]=>if k=k' then some (a == b&&n == m)else none
 |_,_=>none
def Mu(k:AV):List AV->Nat->Option (Option Nat)
 | [],_=>some none
 |x::xs,i =>
  match dj k x with
  |some true=>some (some i)
  |some false=>Mu k xs (i+1)
  |none=>none
def XW:AV->Bool
 | .agg [.str _,.int _ _]=>true
 |_=>false
def NA(ok:Bool)(z:AV)(h:AH)(x k:AV):Option (AV×AH) :=
 if XW k then
  match BQ h x with
  |some (ks,vs) =>
   match Mu k ks 0 with
   |some (some i)=>match vs[i]? with|some v=>some (if ok then .tup [v,.bool true]else v,h)|none=>none
   |some none=>some (if ok then .tup [z,.bool false]else z,h)
   |none=>none
  |none=>none
 else none
def lM(h:AH)(x k v:AV):Option (AV×AH) :=
 match x with
 | .mp b =>
  match h.boxes[b]?,frz h false v with
  |some [.mbox ks vs],some u =>
   if XW k/\u.isTup=false then
    match Mu k ks 0 with
    |some (some i)=>some (B4,{h with boxes:=h.boxes.set b [.mbox ks (vs.set i u)]})
    |some none=>some (B4,{h with boxes:=h.boxes.set b [.mbox (ks++[k]) (vs++[u])]})
    |none=>none
   else none
  |_,_=>none
 |_=>none
mutual
def Jr:AV->AV->Bool
 | .junk,.junk | .nilp,.nilp | .nilf,.nilf | .nilm,.nilm=>true
 | .bool a,.bool b=>decide (a=b)
 | .int k n,.int k' n'=>decide (k=k'/\n=n')
 | .str a,.str b=>decide (a=b)
 | .agg a,.agg b | .tup a,.tup b | .pv a,.pv b | .rbox a,.rbox b=>Hg a b
 | .vs f s a,.vs f' s' b=>decide (f=f'/\s=s')&&Hg a b
 | .sl k n o l,.sl k' n' o' l'=>decide (k=k'/\n=n'/\o=o'/\l=l')
 | .ep k n i c s,.ep k' n' i' c' s'=>decide (k=k'/\n=n'/\i=i'/\c=c'/\s=s')
 | .ptr b o,.ptr b' o'=>decide (b=b'/\o=o')
 | .fn f a,.fn g b=>decide (f=g)&&Hg a b
 | .mp a,.mp b=>decide (a=b)
 | .bsl a b c d,.bsl a' b' c' d'=>decide (a=a'/\b=b'/\c=c'/\d=d')
 | .vm a b,.vm a' b' | .mbox a b,.mbox a' b'=>Hg a a'&&Hg b b'
 | .tbox t a,.tbox t' b=>decide (t=t')&&Hg a b
 |_,_=>false
def Hg:List AV->List AV->Bool
 | [],[]=>true
 |x::xs,y::ys=>Jr x y&&Hg xs ys
 |_,_=>false
end
mutual
theorem hY:∀{x y:AV},Jr x y=true->x=y
 | .agg a,.agg b,h=>by simp only[Jr]at h;rw[AI h]
 | .tup a,.tup b,h=>by simp only[Jr]at h;rw[AI h]
 | .pv a,.pv b,h=>by simp only[Jr]at h;rw[AI h]
 | .rbox a,.rbox b,h=>by simp only[Jr]at h;rw[AI h]
 | .vs f s a,.vs f' s' b,h=>by simp only[Jr,zf0z,decide_eq_true_eq]at h;obtain⟨⟨rfl,rfl⟩,h⟩:=h;rw[AI h]
 | .fn f a,.fn g b,h=>by simp only[Jr,zf0z,decide_eq_true_eq]at h;obtain⟨rfl,h⟩:=h;rw[AI h]
 | .tbox t a,.tbox t' b,h=>by simp only[Jr,zf0z,decide_eq_true_eq]at h;obtain⟨rfl,h⟩:=h;rw[AI h]
 | .vm a b,.vm a' b',h=>by simp only[Jr,zf0z]at h;rw[AI h.1,AI h.2]
 | .mbox a b,.mbox a' b',h=>by simp only[Jr,zf0z]at h;rw[AI h.1,AI h.2]
 | .junk,y,h | .nilp,y,h | .nilf,y,h | .nilm,y,h | .bool _,y,h | .int _ _,y,h | .str _,y,h | .sl _ _ _ _,y,h | .bsl _ _ _ _,y,h | .ep _ _ _ _ _,y,h | .ptr _ _,y,h | .mp _,y,h=>by
  cases y<;>simp_all [Jr]
theorem AI:∀{x y:I7},Hg x y=true->x=y
 | [],[],_=>rfl
 |x::xs,y::ys,h=>by simp only[Hg,zf0z]at h;rw[hY h.1,AI h.2]
end
mutual
theorem VC:∀x:AV,Jr x x=true
 | .agg a=>R9 a
 | .tup a=>R9 a
 | .pv a=>R9 a
 | .rbox a=>R9 a
 | .vs f s a=>by simp only[Jr,R9 a];simp
 | .fn f a=>by simp only[Jr,R9 a];simp
 | .tbox t a=>by simp only[Jr,R9 a];simp
 | .vm a b=>by simp only[Jr,R9 a,R9 b];simp
 | .mbox a b=>by simp only[Jr,R9 a,R9 b];simp
 | .junk | .nilp | .nilf | .nilm | .bool _ | .int _ _ | .str _ | .sl _ _ _ _ | .bsl _ _ _ _ | .ep _ _ _ _ _ | .ptr _ _ | .mp _=>by simp[Jr]
theorem R9:∀x:List AV,Hg x x=true
 | []=>rfl
 |x::xs=>by simp only[Hg,VC x,R9 xs];rfl
end
def EQ:List (List AV)->List (List AV)->Bool
 | [],[]=>true
 |x::xs,y::ys=>Hg x y&&EQ xs ys
 |_,_=>false
theorem IV:∀{x y:List (List AV)},EQ x y=true->x=y
 | [],[],_=>rfl
 |x::xs,y::ys,h=>by simp only[EQ,zf0z]at h;rw[AI h.1,IV h.2]
theorem KV:∀x:List (List AV),EQ x x=true
 | []=>rfl
 |x::xs=>by simp only[EQ,R9 x,KV xs];rfl
def Ns(h:AH)(z x:AV):Option (AV×AH) :=
 match x with
 | .vs _ _ xs=>if xs.length=0 then some (B4,h)else none
 | .sl k n off len =>
  match h.fams[k]? with
  |some f=>if f.xs.length=n/\off+len<=n/\f.wr=true/\z.cells.length=f.sz then some (B4,{h with fams:=h.fams.set k {f with xs:=f.xs.take off++zf1z len z++f.xs.drop (off+len)}})else none
  |none=>none
 |_=>none
def eN(h:AH)(z:AV)(bytes:Nat)(l q:AV):Option (AV×AH) :=
 match l,q with
 | .int _ a,.int _ b=>if 0<=a/\a=b/\b*bytes<=P7/\b<=maxLen then some (.vs true z.cells.length (zf1z a.toNat z),h)else none
 |_,_=>none
def Sa(h:AH)(z:AV)(bytes:Nat)(l q:AV):Option (AV×AH) :=
 match l,q with
 | .int _ a,.int _ b=>if 0<=a/\a=b/\b*bytes<=P7/\b<=maxLen then some (.bsl h.boxes.length z.cells.length 0 a.toNat,{h with boxes:=h.boxes++[(zf1z a.toNat z.cells).flatten]})else none
 |_,_=>none
def Og(h:AH)(n:Nat)(p x:AV):Option (AV×AH) :=
 match p with
 | .ep k m i q s=>if S0 x then (match Ej h n x k m i q s with|some h'=>some (B4,h')|none=>none)else none
 |_=>none
def MP(h:AH)(n:Nat)(p x:AV):Option (AV×AH) :=
 match p with
 | .ptr b o =>
  match h.boxes[b]? with
  |some cs=>if u6 cs=false/\x.isTup=false/\x.cells.length=n/\o+n<=cs.length then some (B4,{h with boxes:=h.boxes.set b (Y0 cs o x.cells)})else (dC h b n o x cs).map λh'=>(B4,h')
  |none=>none
 |_=>none
mutual
def JJ:AV->Bool
 | .ptr .. | .mp _ | .bsl ..=>false
 | .agg cs=>Pf cs
 | .tup cs=>Pf cs
 | .fn _ cs=>Pf cs
 |_=>true
def Pf:List AV->Bool
 | []=>true
 |x::xs=>JJ x&&Pf xs
end
def mz(b:Bool)(h:AH)(r:Option (AV×AH)):Option (AV×AH) :=
 if b then (match r with|some (v,h')=>if EQ h'.boxes h.boxes||(JJ v&&EQ (h'.boxes.take h.boxes.length) h.boxes)then some (v,⟨h.boxes,h'.fams⟩)else none|none=>none)else r
theorem aL{b:Bool}{h:AH}{r:Option (AV×AH)}{x:AV×AH}(he:mz b h r=some x):∃h',r=some (x.1,h')/\(h'=x.2\/(JJ x.1=true/\h'.boxes.take h.boxes.length=h.boxes/\x.2=⟨h.boxes,h'.fams⟩)):=by
 unfold mz at he;split at he
 .split at he
  .split at he
   .rename_i v h' hq;cases he;refine⟨h',rfl,?_⟩;rw[Bool.or_eq_true]at hq;rcases hq with hq|hq
    .exact .inl (by rw[←IV hq])
    .rw[zf0z]at hq;exact .inr ⟨hq.1,IV hq.2,rfl⟩
   .cases he
  .cases he
 .exact⟨x.2,he,.inl rfl⟩
theorem aM{b:Bool}{h:AH}{r:Option (AV×AH)}{x:AV×AH}(he:mz b h r=some x):∃y,r=some y:=by
 obtain⟨h',e,_⟩:=aL he;exact⟨_,e⟩
theorem lH{h h':AH}{r:Option (AV×AH)}{v:AV}(he:mz true h r=some (v,h')):h'.boxes=h.boxes:=by
 unfold mz at he;rw[if_pos rfl]at he;split at he
 .split at he
  .cases he;rfl
  .cases he
 .cases he
def Di(O:Orc)(c:Ctx)(f:FuncId)(args:List AV)(h:AH):Option (AV×AH) :=
 if c.raw f then mz (c.noB f) h (O.raw f args h)
 else
  match j8 h true args with
  |none=>none
  |some aas =>
   match O.pure f aas with
   |none=>none
   |some r=>if r.scalar||args.all (tame h)then some (r,h)else none
def wi(neg:Bool)(h:AH)(x:AV):Option (AV×AH) :=
 match x with
 | .vs _ z _=>some (.bool (if neg then !(z == 0)else z == 0),h)
 | .sl _ _ _ len=>if len=0 then none else some (.bool neg,h)
 | .bsl ..=>some (.bool neg,h)
 |_=>none
def Dw:List AV:=[.mbox [.junk] []]
def Ak:List AV->Bool
 | [.mbox [.junk] []]=>true
 |_=>false
def AH.holes(h:AH)(k:Nat):AH:={h with boxes:=h.boxes++zf1z k Dw}
def AF(h:AH)(r:Nat)(z:AV):Option (AV×AH) :=
 match h.boxes[h.boxes.length-r]? with
 |some cs=>if Ak cs then some (.ptr (h.boxes.length-r) 0,{h with boxes:=h.boxes.set (h.boxes.length-r) z.cells})else none
 |none=>none
def Pd(b:Bool)(h:AH)(x:AV):AH:=if b then sW h x else h
def A0(O:Orc)(c:Ctx)(o:ROp)(fr:Fr)(h:AH):Option (AV×AH) :=
 match o with
 | .mov x=>some (get fr x,h)
 | .pick q a b=>match get fr q with | .bool t=>some (if t then get fr a else get fr b,h)|_=>none
 | .box x=>if (get fr x).isTup then none else some (.ptr h.boxes.length 0,{h with boxes:=h.boxes++[(get fr x).cells]})
 | .mkmap=>some (.mp h.boxes.length,{h with boxes:=h.boxes++[[.mbox [] []]]})
 | .mlook str ok z x k=>Ff str ok z h (get fr x) (get fr k)
 | .mup str x k v=>UQ str h (get fr x) (get fr k) (get fr v)
 | .mlookp ok z x k=>NA ok z h (get fr x) (get fr k)
 | .mupp x k v=>lM h (get fr x) (get fr k) (get fr v)
 | .alloc z=>some (.ptr h.boxes.length 0,{h with boxes:=h.boxes++[z.cells]})
 | .allocAt r z=>AF h r z
 | .build z parts=>match B6 fr z.cells.length parts with|some ps=>some (.agg (C9 z.cells ps),h)|none=>none
 | .bslice n z parts=>match B2 fr h (zf1z n z) parts with|some xs=>some (.vs true z.cells.length xs,h)|none=>none
 | .bslicev n z parts=>if parts.all (λp=>S0 (get fr p.2))then (match B2 fr h (zf1z n z) parts with|some xs=>some (.vs true z.cells.length xs,h)|none=>none)else none
 | .ldb agg n x=>match get fr x with | .ep ..=>none|p=>(match U4 h agg n p with|some v=>some (v,h)|none=>none)
 | .ld agg n x=>match U4 h agg n (get fr x)with|some v=>some (v,h)|none=>none
 | .st n a x=>match Ba h n (get fr x) (get fr a)with|some h'=>some (B4,Pd c.lay h' (get fr x))|none=>none
 | .ste n a x=>Og h n (get fr a) (get fr x)
 | .mkv z bytes l q=>eN h z bytes (get fr l) (get fr q)
 | .mkb z bytes l q=>Sa h z bytes (get fr l) (get fr q)
 | .stb n a x=>MP h n (get fr a) (get fr x)
 | .clr z x=>Ns h z (get fr x)
 | .nilck x=>match get fr x with | .pv cs=>some (.pv cs,h) | .ptr b o=>some (.ptr b o,h) | .ep k n i q s=>some (.ep k n i q s,h) | .fn f cs=>some (.fn f cs,h)|_=>none
 | .bin op x y=>match P0 op (get fr x) (get fr y)with|some v=>some (v,h)|none=>none
 | .beq neg x y=>match get fr x,get fr y with | .bool a,.bool b=>some (.bool (if neg then !(a == b)else a == b),h)|_,_=>none
 | .nileq neg x=>wi neg h (get fr x)
 | .un op x=>match LL op (get fr x)with|some v=>some (v,h)|none=>none
 | .conv k x=>match get fr x with | .int _ n=>some (.int k (k.wrap n),h)|_=>none
 | .cstr x=>match get fr x with | .str s=>some (.str s,h)|_=>none
 | .bstr x=>Rp h (get fr x)
 | .clos f caps=>if c.ro then (p8 h (caps.map (get fr))).map λp=>(.fn f p.1,p.2)else some (.fn f (caps.map (get fr)),h)
 | .mkslice z bytes l q =>
  match get fr l,get fr q with
  | .int _ a,.int _ b =>
   if 0<=a/\a<=b/\b*bytes<=P7/\b<=maxLen then
    some (.sl h.fams.length a.toNat 0 a.toNat,{h with fams:=h.fams++[⟨zf1z a.toNat z,z.cells.length,true⟩]})
   else none
  |_,_=>none
 | .slc sz x lo hi mx =>
  match i4 fr lo,i4 fr hi,i4 fr mx with
  |some l,some u,some m=>match Fq h sz (get fr x) l u m with|some v=>some (v,h)|none=>none
  |_,_,_=>none
 | .faddr off x=>match get fr x with | .pv cs=>some (.pv (cs.drop off),h) | .ptr b o=>some (.ptr b (o+off),h) | .ep k n i q s=>some (.ep k n i (q+off) s,h)|_=>none
 | .fld agg off n x=>match get fr x with | .agg cs=>(match P9 agg n (cs.drop off)with|some v=>some (v,h)|none=>none)|_=>none
 | .iaddr sz x i =>
  match get fr x,get fr i with
  | .vs _ z xs,.int _ j=>if 0<=j/\z=sz then (match xs[j.toNat]? with|some e=>some (.pv e.cells,h)|none=>none)else none
  | .sl k n off len,.int _ j=>if 0<=j/\j<len then some (.ep k n (off+j.toNat) 0 sz,h)else none
  | .bsl b s off len,.int _ j=>if 0<=j/\j<len/\s=sz then some (.ptr b (off+j.toNat*sz),h)else none
  |_,_=>none
 | .iaddrv sz x i =>
  match get fr x,get fr i with
  | .vs _ z xs,.int _ j=>if 0<=j/\z=sz then (match xs[j.toNat]? with|some e=>some (.pv e.cells,h)|none=>none)else none
  |_,_=>none
 | .idx x i =>
  match get fr x,get fr i with
  | .str s,.int _ j=>if 0<=j then (match s[j.toNat]? with|some b=>some (.int .u8 b.toNat,h)|none=>none)else none
  |_,_=>none
 | .ext x i=>match get fr x with | .tup vs=>(match vs[i]? with|some v=>some (v,h)|none=>none)|_=>none
 | .len true x=>match get fr x with | .str s=>some (.int .i64 s.size,h)|_=>none
 | .len false x =>
  match get fr x with
  | .vs _ _ xs=>some (.int .i64 xs.length,h)
  | .sl _ _ _ len=>some (.int .i64 len,h)
  | .bsl _ _ _ len=>some (.int .i64 len,h)
  |_=>none
 | .app sz bytes s x=>R7 c h sz bytes (get fr s) (get fr x)
 | .apps bytes s x=>Rl c h bytes (get fr s) (get fr x)
 | .max x y=>match get fr x,get fr y with | .int k a,.int k' b=>if k=k' then some (.int k (if b > a then b else a),h)else none|_,_=>none
 | .min x y=>match get fr x,get fr y with | .int k a,.int k' b=>if k=k' then some (.int k (if b<a then b else a),h)else none|_,_=>none
 | .mlen x=>match BQ h (get fr x)with|some (ks,_)=>some (.int .i64 ks.length,h)|none=>none
 | .call f args=>Di O c f (args.map (get fr)) h
 | .callv x args=>match get fr x with | .fn f caps=>if c.raw f&&!c.rawv then none else Di O c f (args.map (get fr)++caps) h|_=>none
def P1(fr:Fr):Option (Nat×Bool)->Option Bool
 |none=>some true
 |some (s,want) =>
  match fr.getD s B4 with
  | .bool b=>some (b == want)
  | .tup _=>some false
  |_=>none
def N6(O:Orc)(c:Ctx):List RO->Fr->AH->Option (Fr×AH)
 | [],fr,h=>some (fr,h)
 |o::rest,fr,h =>
  match P1 fr o.guard with
  |some true =>
   match A0 O c o.op fr h with
   |some (v,h')=>N6 O c rest (put fr o.dst v) h'
   |none=>none
  |some false=>N6 O c rest (put fr o.dst B4) h
  |none=>none
def Opd.slots:Opd->List Nat
 | .t n=>[n]
 | .c _=>[]
def OP:Option Opd->List Nat
 |some x=>x.slots
 |none=>[]
def ROp.slots:ROp->List Nat
 | .mov x | .box x | .ld _ _ x | .ldb _ _ x | .nilck x | .un _ x | .nileq _ x | .conv _ x | .cstr x | .bstr x | .faddr _ x | .fld _ _ _ x | .ext x _ | .len _ x | .mlen x=>x.slots
 | .pick c a b=>c.slots++a.slots++b.slots
 | .alloc _ | .allocAt .. | .mkmap=>[]
 | .mlook _ _ _ x k=>x.slots++k.slots
 | .mup _ x k v | .mupp x k v=>x.slots++k.slots++v.slots
 | .mlookp _ _ x k=>x.slots++k.slots
 | .build _ ps=>ps.flatMap λp=>p.2.2.slots
 | .bslice _ _ ps | .bslicev _ _ ps=>ps.flatMap λp=>p.2.slots
 | .clr _ x=>x.slots
 | .mkv _ _ a x | .mkb _ _ a x=>a.slots++x.slots
 | .st _ a x | .ste _ a x | .stb _ a x | .bin _ a x | .beq _ a x | .mkslice _ _ a x | .iaddr _ a x | .iaddrv _ a x | .idx a x | .app _ _ a x | .apps _ a x | .max a x | .min a x=>a.slots++x.slots
 | .clos _ cs=>cs.flatMap Opd.slots
 | .slc _ x a b c=>x.slots++OP a++OP b++OP c
 | .call _ aas=>aas.flatMap Opd.slots
 | .callv x aas=>x.slots++aas.flatMap Opd.slots
def RO.slots(o:RO):List Nat:=o.op.slots++(match o.guard with|some (s,_)=>[s]|none=>[])
def ROp.writesB(c:Ctx):ROp->Bool
 | .box _ | .alloc _ | .allocAt .. | .st .. | .stb .. | .mkmap | .mup .. | .mupp .. | .mkb ..=>true
 | .callv ..=>c.rawv
 | .clos ..=>c.ro
 | .call f _=>c.raw f&&!c.noB f
 |_=>false
def ROp.writesF(c:Ctx):ROp->Bool
 | .st .. | .ste .. | .clr .. | .mkslice .. | .app .. | .apps ..=>true
 | .callv ..=>c.rawv
 | .call f _=>c.raw f
 |_=>false
def ROp.looksB:ROp->Bool
 | .box _ | .alloc _ | .allocAt .. | .st .. | .stb .. | .mkb .. | .callv .. | .ld .. | .ldb .. | .call .. | .mkmap | .mlook .. | .mlookp .. | .mlen _ | .mup .. | .mupp .. | .bslice .. | .clos ..=>true
 |_=>false
def ROp.looksF:ROp->Bool
 | .st .. | .ste .. | .clr .. | .mkslice .. | .app .. | .apps .. | .callv .. | .call .. | .ld .. | .bslice .. | .slc .. | .mup .. | .mupp .. | .bstr .. | .clos ..=>true
 |_=>false
def FG(c:Ctx)(nb:Nat)(g:Opd->AV):ROp->Option (List (Option Nat))
 | .ld _ _ x | .ldb _ _ x=>match g x with | .pv _=>some [] | .ptr b _=>some [some b] | .ep ..=>some []|_=>none
 | .st _ a _=>if c.lay then none else (match g a with | .ptr b _=>some [some b]|_=>none)
 | .stb _ a _=>match g a with | .ptr b _=>some [some b]|_=>none
 | .box _ | .alloc _ | .mkmap | .mkb ..=>some [none]
 | .allocAt r _=>some [none,some (nb-r)]
 | .call f args=>if !c.raw f&&(args.map g).all S0 then some []else none
 | .bslice _ _ ps=>if ps.all (λp=>S0 (g p.2))then some []else none
 |r=>if r.looksB then none else some []
def Db(c:Ctx)(g:Opd->AV):ROp->Option (List (Option Nat))
 | .ld _ _ x | .ldb _ _ x=>match g x with | .pv _=>some [] | .ptr ..=>some [] | .ep k _ _ _ _=>some [some k]|_=>none
 | .st _ a _=>if c.lay then none else (match g a with | .ptr ..=>some []|_=>none)
 | .ste _ a _=>match g a with | .ep k _ _ _ _=>some [some k]|_=>none
 | .app _ _ s x =>
  match g s,g x with
  | .vs ..,.vs ..=>some [none]
  | .vs ..,.sl k _ _ _=>some [none,some k]
  | .sl k _ _ _,.vs ..=>some [some k]
  | .sl k _ _ _,.sl j _ _ _=>some [some k,some j]
  |_,_=>none
 | .slc _ x _ _ _=>match g x with | .vs .. | .str _ | .bsl ..=>some [] | .sl k _ _ _=>some [some k]|_=>none
 | .mkslice ..=>some [none]
 | .clr _ x=>match g x with | .sl k _ _ _=>some [some k]|_=>none
 | .call f args=>if !c.raw f&&(args.map g).all S0 then some []else none
 | .bslice _ _ ps=>if ps.all (λp=>S0 (g p.2))then some []else none
 |r=>if r.looksF then none else some []
def IU:Option (List AV)->Option (List AV)->Bool
 |none,none=>true
 |some a,some b=>Hg a b
 |_,_=>false
def Hh:Option Fam->Option Fam->Bool
 |none,none=>true
 |some a,some b=>Hg a.xs b.xs&&decide (a.sz=b.sz)&&decide (a.wr=b.wr)
 |_,_=>false
def HM(a b:List (List AV)):List (Option Nat) :=
 (if a.length=b.length then []else [none])++((zf2z (max a.length b.length)).filter λi=>!IU a[i]? b[i]?).map some
def JT(a b:List Fam):List (Option Nat) :=
 (if a.length=b.length then []else [none])++((zf2z (max a.length b.length)).filter λi=>!Hh a[i]? b[i]?).map some
structure Foot where
 rb:Option (List (Option Nat))
 wb:List (Option Nat)
 rf:Option (List (Option Nat))
 wf:List (Option Nat)
def QH(c:Ctx)(w:Option Bool)(g:Opd->AV)(r:ROp)(h h1:AH):Foot :=
 match w with
 |some true=>⟨FG c h.boxes.length g r,HM h.boxes h1.boxes,Db c g r,JT h.fams h1.fams⟩
 |_=>⟨some [],[],some [],[]⟩
def o8(c:Ctx)(o:RO)(fr:Fr)(h h1:AH):Foot:=QH c (P1 fr o.guard) (get fr) o.op h h1
def P3(O:Orc)(c:Ctx):List RO->Fr->AH->Option (List Foot×Fr×AH)
 | [],fr,h=>some ([],fr,h)
 |o::rest,fr,h =>
  match P1 fr o.guard with
  |some true =>
   match A0 O c o.op fr h with
   |some (v,h')=>(P3 O c rest (put fr o.dst v) h').map λp=>(o8 c o fr h h'::p.1,p.2)
   |none=>none
  |some false=>(P3 O c rest (put fr o.dst B4) h).map λp=>(o8 c o fr h h::p.1,p.2)
  |none=>none
def W7:Option (List (Option Nat))->List (Option Nat)->Bool
 |none,w=>w.isEmpty
 |some r,w=>w.all λx=>!r.contains x
def P4(a b:Foot):Bool:=W7 a.rb b.wb&&W7 b.rb a.wb&&W7 (some a.wb) b.wb&&W7 a.rf b.wf&&W7 b.rf a.wf&&W7 (some a.wf) b.wf
def MD(bj:Nat)(i:Nat)(oi oj:RO)(fi fj:Foot):Bool :=
 bj.testBit i ||
  (
   (match oi.dst with|some d=>!oj.slots.contains d&&oj.dst != some d|none=>true) &&
   (match oj.dst with|some d=>!oi.slots.contains d|none=>true)&&P4 fi fj)
def CY(bs:List Nat)(D5:List RO)(fs:List Foot):Bool :=
 (zf2z D5.length).all λj=>(zf2z j).all λi =>
  match D5[i]?,D5[j]?,fs[i]?,fs[j]? with
  |some oi,some oj,some fi,some fj=>MD (bs.getD j 0) i oi oj fi fj&&(match oi.dst,oj.dst with|some d,some e=>d != e|_,_=>true)
  |_,_,_,_=>false
def W9(O:Orc)(c:Ctx):List RO->Fr->AH->Option (List (Fr×AH))
 | [],fr,h=>some [(fr,h)]
 |o::rest,fr,h =>
  match P1 fr o.guard with
  |some true =>
   match A0 O c o.op fr h with
   |some (v,h')=>(W9 O c rest (put fr o.dst v) h').map ((fr,h)::·)
   |none=>none
  |some false=>(W9 O c rest (put fr o.dst B4) h).map ((fr,h)::·)
  |none=>none
def eqO:Option AV->Option AV->Bool
 |some a,some b=>Jr a b
 |_,_=>false
def LM(bs:List Nat)(D5:List RO)(ts:List (Fr×AH))(i:Nat):Bool :=
 match D5[i]?,ts[i]? with
 |some ⟨_,.ld agg n x,none⟩,some (fr,h)=>(match get fr x with | .ptr b off=>ts.zipIdx.all λs=>(s.2 != 0&&(bs.getD (s.2-1) 0).testBit i)||eqO (U4 s.1.2 agg n (.ptr b off)) (U4 h agg n (.ptr b off))|_=>false)
 |_,_=>false
def dL(bs:List Nat)(D5:List RO)(ts:List (Fr×AH))(fs:List Foot):List Foot:=fs.mapIdx λi f=>if LM bs D5 ts i then {f with rb:=some []} else f
def Bu(O:Orc)(c:Ctx)(bs:List Nat)(D5:List RO)(fr:Fr)(h:AH)(fs:List Foot):Bool :=
 match W9 O c D5 fr h with
 |some ts=>CY bs D5 (dL bs D5 ts fs)
 |none=>false
def ROp.isAt:ROp->Bool
 | .allocAt ..=>true
 |_=>false
def Tu(ops:List RO):Nat:=ops.countP λo=>o.op.isAt
def A8(O:Orc)(c:Ctx):RCode->St->Option (Ex×St)
 | .skip,s=>some (.normal,s)
 | .region _ ops,s =>
  match N6 O c ops s.1 s.2 with
  |some s'=>some (.normal,s')
  |none=>none
 | .regd bs ops,s =>
  match P3 O c ops s.1 (s.2.holes (Tu ops))with
  |some (fs,s')=>if CY bs ops fs||Bu O c bs ops s.1 (s.2.holes (Tu ops)) fs then some (.normal,s')else none
  |none=>none
 | .seq a b,s =>
  match A8 O c a s with
  |some (.normal,s')=>A8 O c b s'
  |r=>r
 | .cond q a b,s =>
  match get s.1 q with
  | .bool true=>A8 O c a s
  | .bool false=>A8 O c b s
  |_=>none
 | .block id a,s =>
  match A8 O c a s with
  |some (.exit id',s')=>if id'=id then some (.normal,s')else some (.exit id',s')
  |r=>r
 | .loop a,s=>O.loop (A8 O c a) s
 | .exit id,s=>some (.exit id,s)
 | .ret,s=>some (.ret,s)
 | .bad,_=>none
def Hz(fr:Fr)(h:AH):List RRes->Option (List AV)
 | []=>some []
 | .tmp t::rest=>(Hz fr h rest).map (fr.getD t B4::·)
 | .cell a agg n::rest=>(U4 h agg n (fr.getD a B4)).bind λv=>(Hz fr h rest).map (v::·)
def M6:List AV->AV
 | [v]=>v
 |vs=>.tup vs
structure RSpec where
 run:Orc->List AV->AH->Option (AV×AH)
 fin:∀(O:Orc) (args:List AV) (h:AH) (x:AV×AH),run O args h=some x->∃l:List (FuncId×List AV×AV),(∀p∈l,O.pure p.1 p.2.1=some p.2.2)/\∀O':Orc,(∀p∈l,O'.pure p.1 p.2.1=some p.2.2)->run O' args h=some x
structure Cfg where
 code:FuncId->Option RFunc
 ctx:FuncId->Ctx
 spec:FuncId->Option (List AV->Option AV)
 rspec:FuncId->Option RSpec:=λ_=>none
def CP(rf:RFunc)(args:List AV):Fr:=args++zf1z (rf.ntmps-args.length) B4
def En(O:Orc)(c:Ctx)(rf:RFunc)(args:List AV)(h:AH):Option (AV×AH) :=
 match A8 O c rf.body (CP rf args,h)with
 |some (.normal,s)=>(Hz s.1 s.2 rf.results).map λvs=>(M6 vs,s.2)
 |some (.ret,s)=>(Hz s.1 s.2 rf.results).map λvs=>(M6 vs,s.2)
 |_=>none
def EW(C:Cfg)(O:Orc)(f:FuncId)(args:List AV)(h:AH):Option (AV×AH) :=
 match C.code f with
 |some rf=>En O (C.ctx f) rf args h
 |none=>match C.rspec f with|some s=>s.run O args h|none=>none
def Pp(b:Bool)(r:Option (AV×AH)):Option (AV×AH):=if b then r.map λp=>(p.1,xh p.2 p.1)else r
def xg(b:Bool)(x:AV×AH):AV×AH:=if b then (x.1,xh x.2 x.1)else x
theorem MJ(b:Bool)(x:AV×AH):Pp b (some x)=some (xg b x):=by cases b<;>rfl
def OY(C:Cfg)(O:Orc)(f:FuncId)(args:List AV)(h:AH):Option (AV×AH):=Pp (C.ctx f).rst (EW C O f args h)
def Ck(C:Cfg)(O:Orc)(f:FuncId)(args:List AV):Option AV :=
 match C.spec f with
 |some s=>s args
 |none =>
  match EW C O f args AH.empty with
  |some (r,h)=>Dv h r
  |none=>none
def HN(step:St->Option (Ex×St)):Nat->St->Option (Ex×St)
 |0,_=>none
 |n+1,s =>
  match step s with
  |some (.normal,s')=>HN step n s'
  |r=>r
def orc(C:Cfg):Nat->Orc
 |0=>⟨λ_ _=>none,λ_ _ _=>none,λ_ _=>none⟩
 |n+1=>⟨Ck C (orc C n),OY C (orc C n),λstep s=>HN step (n+1) s⟩
def iG:List (Nat×List AV):=[(0,[.vs false 1 ([[97,110,121],[97,103,101,110,116],[110,111,110,99,101],[107,101,121],[100,97,116,97],[116,97,103]].map λl=>.str ⟨(l.map UInt8.ofNat).toArray⟩)])]
def bldT:Option TypeId:=some 196
def VZ:Bool:=false
end Go.Abs
