/- A part of the proof. -/
import Derived.WalkKit
set_option linter.all false
open Bool renaming and_eq_true->xk
open List renaming replicate->xl,range->xm
namespace Go.Abs
abbrev H7:=ByteArray
abbrev I8:=Bool×Bool
inductive AV where
 |junk
 |bool (b:Bool)
 |int (k:IntKind) (n:Int)
 |str (s:ByteArray)
 |agg (cs:List AV)
 |tup (vs:List AV)
 |vs (full:Bool) (sz:Nat) (xs:List AV)
 |sl (k n off len:Nat)
 |pv (cs:List AV)
 |ep (k n i c sz:Nat)
 |ptr (b off:Nat)
 |nilp
 |fn (f:FuncId) (caps:List AV)
 |nilf
 |mp (b:Nat)
 |vm (ks vs:List AV)
 |nilm
 |mbox (ks vs:List AV)
 |rbox (cs:List AV)
 |bsl (b sz off len:Nat)
 deriving Inhabited
abbrev E6:=List AV
def AV.cells:AV->List AV
 | .agg cs=>cs
 |v=>[v]
def A9:AV:=.tup []
def AV.isTup:AV->Bool
 | .tup _=>true
 |_=>false
structure Fam where
 xs:List AV
 sz:Nat
 wr:Bool
structure AH where
 boxes:List (List AV)
 fams:List Fam
def AH.empty:AH:=⟨[],[]⟩
inductive Opd where
 |t (n:Nat)
 |c (v:AV)
inductive ROp where
 |mov (x:Opd)
 |pick (c a b:Opd)
 |box (x:Opd)
 |mkmap
 |mlook (str ok:Bool) (z:AV) (x k:Opd)
 |mup (str:Bool) (x k v:Opd)
 |alloc (z:AV)
 |build (z:AV) (parts:List (Nat×Nat×Opd))
 |bslice (n:Nat) (z:AV) (parts:List (Nat×Opd))
 |bslicev (n:Nat) (z:AV) (parts:List (Nat×Opd))
 |ld (agg:Bool) (n:Nat) (x:Opd)
 |ldb (agg:Bool) (n:Nat) (x:Opd)
 |st (n:Nat) (a x:Opd)
 |ste (n:Nat) (a x:Opd)
 |stb (n:Nat) (a x:Opd)
 |clr (z:AV) (x:Opd)
 |nilck (x:Opd)
 |bin (op:BinOp) (x y:Opd)
 |beq (neg:Bool) (x y:Opd)
 |nileq (neg:Bool) (x:Opd)
 |un (op:UnOp) (x:Opd)
 |conv (k:IntKind) (x:Opd)
 |cstr (x:Opd)
 |bstr (x:Opd)
 |clos (f:FuncId) (caps:List Opd)
 |mkslice (z:AV) (bytes:Nat) (len cap:Opd)
 |mkv (z:AV) (bytes:Nat) (len cap:Opd)
 |mkb (z:AV) (bytes:Nat) (len cap:Opd)
 |slc (sz:Nat) (x:Opd) (lo hi mx:Option Opd)
 |faddr (off:Nat) (x:Opd)
 |fld (agg:Bool) (off n:Nat) (x:Opd)
 |iaddr (sz:Nat) (x i:Opd)
 |iaddrv (sz:Nat) (x i:Opd)
 |idx (x i:Opd)
 |ext (x:Opd) (i:Nat)
 |len (str:Bool) (x:Opd)
 |app (sz bytes:Nat) (s x:Opd)
 |max (x y:Opd)
 |call (f:FuncId) (args:List Opd)
 |callv (x:Opd) (args:List Opd)
structure RO where
 dst:Option Nat
 op:ROp
 guard:Option (Nat×Bool)
inductive RCode where
 |skip
 |region (draw:Bool) (ops:List RO)
 |seq (a b:RCode)
 |cond (c:Opd) (a b:RCode)
 |block (id:Nat) (a:RCode)
 |loop (a:RCode)
 |exit (id:Nat)
 |ret
 |bad
inductive RRes where
 |tmp (t:Nat)
 |cell (a:Nat) (agg:Bool) (n:Nat)
structure RFunc where
 ntmps:Nat
 results:List RRes
 body:RCode
inductive Ex where
 |normal
 |exit (id:Nat)
 |ret
abbrev Fr:=List AV
abbrev St:=Fr×AH
structure Orc where
 pure:FuncId->List AV->Option AV
 raw:FuncId->List AV->AH->Option (AV×AH)
 loop:(St->Option (Ex×St))->St->Option (Ex×St)
structure Ctx where
 raw:FuncId->Bool
 mutApp:Bool
 rawv:Bool:=true
 ro:Bool:=false
 noB:FuncId->Bool:=λ_=>false
 bx:Bool:=false
def get (fr:Fr):Opd->AV
 | .t n=>fr.getD n A9
 | .c v=>v
def put (fr:Fr) (dst:Option Nat) (v:AV):Fr :=
 match dst with
 |some d=>fr.set d v
 |none=>fr
def d5 (agg:Bool) (n:Nat) (cs:List AV):Option AV :=
 match agg with
 |true=>if n<=cs.length then some (.agg (cs.take n))else none
 |false=>cs.head?
def AV.reform (x:AV) (cs:List AV):Option AV :=
 match x with
 | .agg _=>some (.agg cs)
 |_=>cs.head?
def elems (h:AH) (sz:Nat):AV->Option (List AV)
 | .vs _ z xs=>if z=sz\/xs.length=0 then some xs else none
 | .sl k n off len =>
  match h.fams[k]? with
  |some f=>if f.xs.length=n/\f.sz=sz/\off+len<=n then some ((f.xs.drop off).take len)else none
  |none=>none
 |_=>none
def CJ:List AV->Bool
 | [.mbox ..]=>true
 | [.rbox _]=>true
 |_=>false
def AV.flat:AV->Bool
 | .sl .. | .ep .. | .ptr .. | .agg _ | .tup _ | .mp _ | .mbox .. | .rbox _ | .bsl ..=>false
 | .fn _ cs=>cs.isEmpty
 |_=>true
def KI:AV->Bool
 | .agg cs=>cs.all AV.flat
 | .tup _=>false
 |x=>x.flat
def ZN (h:AH) (am:Bool):AV->Option AV
 | .sl k n off len =>
  match h.fams[k]? with
  |some f=>if f.xs.length=n/\off+len<=n/\(am||!f.wr)=true then some (.vs false f.sz ((f.xs.drop off).take len))else none
  |none=>none
 | .ep ..=>none
 | .ptr ..=>none
 | .agg _=>none
 | .tup _=>none
 | .mbox ..=>none
 | .rbox _=>none
 | .bsl ..=>none
 | .mp b=>match h.boxes[b]? with|some [.mbox ks vs]=>if am then some (.vm ks vs)else none|_=>none
 | .fn f caps=>if caps.all AV.flat then some (.fn f caps)else none
 |x=>some x
def QT (h:AH) (am:Bool):List AV->Option (List AV)
 | []=>some []
 |x::xs=>(ZN h am x).bind λy=>(QT h am xs).map (y::·)
def Rb (sz:Nat) (cs:List AV):Nat->List AV
 |0=>[]
 |n+1=>(if sz=1 then cs.headD .junk else .agg (cs.take sz))::Rb sz (cs.drop sz) n
def gD (h:AH) (am:Bool) (b sz off len:Nat):Option AV :=
 match h.boxes[b]? with
 |some cs=>if am=true/\CJ cs=false/\0<sz/\off+len*sz<=cs.length then (QT h am ((cs.drop off).take (len*sz))).map λys=>.vs false sz (Rb sz ys len)else none
 |none=>none
def y8 (h:AH) (am:Bool):AV->Option AV
 | .bsl b sz off len=>gD h am b sz off len
 | .sl k n off len =>
  match h.fams[k]? with
  |some f=>if f.xs.length=n/\off+len<=n/\(am||!f.wr)=true then some (.vs false f.sz ((f.xs.drop off).take len))else none
  |none=>none
 | .ep ..=>none
 | .ptr ..=>none
 | .agg _=>none
 | .tup _=>none
 | .mbox ..=>none
 | .rbox _=>none
 | .mp b=>match h.boxes[b]? with|some [.mbox ks vs]=>if am then some (.vm ks vs)else none|_=>none
 | .fn f caps=>if caps.all AV.flat then some (.fn f caps)else none
 |x=>some x
def Ja (h:AH) (am:Bool):List AV->Option (List AV)
 | []=>some []
 |x::xs=>(y8 h am x).bind λy=>(Ja h am xs).map (y::·)
def frz (h:AH) (am:Bool):AV->Option AV
 | .agg cs=>(Ja h am cs).map .agg
 |x=>y8 h am x
def f8 (h:AH) (am:Bool):List AV->Option (List AV)
 | []=>some []
 |x::xs=>(frz h am x).bind λy=>(f8 h am xs).map (y::·)
def Bn (h:AH):AV->Option AV
 | .tup vs=>(f8 h true vs).map .tup
 |x=>frz h true x
def AV.scalar1:AV->Bool
 | .bool _ | .int .. | .str _ | .nilp | .nilf=>true
 |_=>false
def AV.scalar0:AV->Bool
 | .agg cs=>cs.all AV.scalar1
 |v=>v.scalar1
def AV.scalar:AV->Bool
 | .tup us=>us.all AV.scalar0
 |v=>v.scalar0
def GQ (h:AH):AV->Bool
 | .sl k _ _ _=>match h.fams[k]? with|some f=>!f.wr|none=>false
 | .mp _=>false
 | .bsl ..=>false
 |_=>true
def tame (h:AH):AV->Bool
 | .agg cs=>cs.all (GQ h)
 |v=>GQ h v
def lM (agg:Bool) (n off:Nat):List AV->Option AV
 | [.rbox ys]=>d5 agg n (ys.drop off)
 |_=>none
def DS (h:AH) (agg:Bool) (n:Nat):AV->Option AV
 | .pv cs=>d5 agg n cs
 | .ptr b off =>
  match h.boxes[b]? with
  |some cs=>if CJ cs then lM agg n off cs else d5 agg n (cs.drop off)
  |none=>none
 | .ep k m i c sz =>
  match h.fams[k]? with
  |some f=>if f.xs.length=m/\f.sz=sz then (match f.xs[i]? with|some x=>d5 agg n (x.cells.drop c)|none=>none)else none
  |none=>none
 |_=>none
def I9 (cs:List AV) (off:Nat) (new:List AV):List AV:=cs.take off++new++cs.drop (off+new.length)
def Ew (h:AH) (n:Nat) (v:AV) (k m i c sz:Nat):Option AH :=
 match h.fams[k]? with
 |some f =>
  if f.xs.length=m/\f.sz=sz/\f.wr=true then
   match f.xs[i]?,frz h false v with
   |some x,some u =>
    if u.cells.length=n/\c+n<=x.cells.length then
     (x.reform (I9 x.cells c u.cells)).map λy=>{h with fams:=h.fams.set k {f with xs:=f.xs.set i y}}
    else none
   |_,_=>none
  else none
 |none=>none
def ef (h:AH):AV->Option AH
 | .sl k _ _ _ =>
  match h.fams[k]? with
  |some f=>some {h with fams:=h.fams.set k {f with wr:=false}}
  |none=>none
 |_=>none
def VW (h:AH) (v:AV):Option AH:=match frz h false v with|some _=>some h|none=>ef h v
def HX (h:AH) (n:Nat) (v:AV):AV->Option AH
 | .ptr b off =>
  match h.boxes[b]? with
  |some cs=>if CJ cs=false/\v.isTup=false/\v.cells.length=n/\off+n<=cs.length then some {h with boxes:=h.boxes.set b (I9 cs off v.cells)} else none
  |none=>none
 | .ep k m i c sz=>match VW h v with|some h1=>Ew h1 n v k m i c sz|none=>none
 |_=>none
def D6 (op:BinOp):AV->AV->Option AV
 | .int k a,.int k' b =>
  match op with
  | .add=>if k=k' then some (.int k (k.wrap (a+b)))else none
  | .sub=>if k=k' then some (.int k (k.wrap (a-b)))else none
  | .mul=>if k=k' then some (.int k (k.wrap (a*b)))else none
  | .quo=>if k=k'/\b≠0 then some (.int k (k.wrap (a.tdiv b)))else none
  | .rem=>if k=k'/\b≠0 then some (.int k (a.tmod b))else none
  | .eql=>if k=k' then some (.bool (a == b))else none
  | .neq=>if k=k' then some (.bool (a != b))else none
  | .lss=>if k=k' then some (.bool (decide (a<b)))else none
  | .leq=>if k=k' then some (.bool (decide (a<=b)))else none
  | .gtr=>if k=k' then some (.bool (decide (a > b)))else none
  | .geq=>if k=k' then some (.bool (decide (a≥b)))else none
  | .shl=>if 0<=b then some (.int k (k.wrap (a*2 ^ (min b.toNat k.bits))))else none
  | .shr=>if 0<=b then some (.int k (a.fdiv (2 ^ (min b.toNat k.bits))))else none
  | .and=>if k=k' then some (.int k (k.wrap (BitVec.ofInt k.bits a &&& BitVec.ofInt k.bits b).toNat))else none
  | .or=>if k=k' then some (.int k (k.wrap (BitVec.ofInt k.bits a ||| BitVec.ofInt k.bits b).toNat))else none
  | .xor=>if k=k' then some (.int k (k.wrap (BitVec.ofInt k.bits a ^^^ BitVec.ofInt k.bits b).toNat))else none
  |_=>none
 | .str a,.str b =>
  match op with
  | .add=>if ((a.size+b.size:Nat):Int) > IntKind.i64.max then none else some (.str (a++b))
  | .eql=>some (.bool (a.toList == b.toList))
  | .neq=>some (.bool !(a.toList == b.toList))
  | .lss=>some (.bool (Op.bytesLess a.toList b.toList))
  | .leq=>some (.bool (Op.bytesLess a.toList b.toList||a.toList == b.toList))
  | .gtr=>some (.bool !(Op.bytesLess a.toList b.toList||a.toList == b.toList))
  | .geq=>some (.bool !(Op.bytesLess a.toList b.toList))
  |_=>none
 |_,_=>none
def Ny (op:UnOp):AV->Option AV
 | .bool b=>match op with | .not=>some (.bool !b)|_=>none
 | .int k n=>match op with | .neg=>some (.int k (k.wrap (0-n)))|_=>none
 |_=>none
def E8 (cs:List AV):List (Nat×AV)->List AV
 | []=>cs
 |(off,v)::rest=>E8 (I9 cs off v.cells) rest
def D2 (fr:Fr) (len:Nat):List (Nat×Nat×Opd)->Option (List (Nat×AV))
 | []=>some []
 |(off,n,x)::rest =>
  if (get fr x).isTup=false/\(get fr x).cells.length=n/\off+n<=len then (D2 fr len rest).map ((off,get fr x)::·)else none
def A4 (fr:Fr) (h:AH) (xs:List AV):List (Nat×Opd)->Option (List AV)
 | []=>some xs
 |(i,x)::rest =>
  match xs[i]?,frz h false (get fr x)with
  |some z,some y=>if y.cells.length=z.cells.length then A4 fr h (xs.set i y) rest else none
  |_,_=>none
def O8 (fr:Fr):Option Opd->Option (Option Int)
 |none=>some none
 |some x=>match get fr x with | .int _ i=>some (some i)|_=>none
def Jn (H:AH) (sz:Nat) (x:AV) (lo hi mx:Option Int):Option AV :=
 match x with
 | .str s =>
  let l:=lo.getD 0
  let h:=hi.getD s.size
  if sz=0/\mx=none/\0<=l/\l<=h/\h<=s.size then some (.str (s.extract l.toNat h.toNat))else none
 | .vs full z xs =>
  let l:=lo.getD 0
  let h:=hi.getD xs.length
  if 0<sz/\(z=sz\/xs.length=0)then
   match mx with
   |none =>
    if 0<=l/\l<=h/\h<=xs.length then some (.vs (full&&decide (h=xs.length)) z ((xs.drop l.toNat).take (h-l).toNat))else none
   |some m =>
    if hi.isSome/\0<=l/\l<=h/\h<=m/\m<=xs.length then some (.vs (decide (m=h)) z ((xs.drop l.toNat).take (h-l).toNat))else none
  else none
 | .sl k n off len =>
  let l:=lo.getD 0
  let h:=hi.getD len
  match H.fams[k]? with
  |some f =>
   if 0<sz/\f.sz=sz/\f.xs.length=n then
    match mx with
    |none=>if 0<=l/\l<=h/\h<=len then some (.sl k n (off+l.toNat) (h-l).toNat)else none
    |some m=>if hi.isSome/\l=0/\h=0/\m=0 then some (.vs true sz [])else none
   else none
  |none=>none
 |_=>none
def G4:Nat:=140737488355328
def L5 (c:Ctx) (h:AH) (sz bytes:Nat) (s x:AV):Option (AV×AH) :=
 match elems h sz x with
 |none=>none
 |some ys =>
  match s with
  | .vs true z xs =>
   if ys.length=0 then some (.vs true z xs,h)
   else if (z=sz\/xs.length=0)/\(xs.length+ys.length)*bytes<=G4/\xs.length+ys.length<=maxLen then
    some (.sl h.fams.length (xs.length+ys.length) 0 (xs.length+ys.length),{h with fams:=h.fams++[⟨xs++ys,sz,c.mutApp⟩]})
   else none
  | .sl k n off len =>
   match h.fams[k]? with
   |some f =>
    if f.xs.length=n/\f.sz=sz/\off+len=n/\(n+ys.length)*bytes<=G4/\n+ys.length<=maxLen then
     some (.sl k (n+ys.length) off (len+ys.length),{h with fams:=h.fams.set k {f with xs:=f.xs++ys}})
    else none
   |none=>none
  |_=>none
def Ak:AH->List AV->Option (List AV×AH)
 |h,[]=>some ([],h)
 |h,.ptr b off::xs =>
  if off=0 then
   match h.boxes[b]? with
   |some cs=>if CJ cs=false/\cs.all AV.flat=true then (Ak {h with boxes:=h.boxes.set b [.rbox cs]} xs).map λp=>(.pv cs::p.1,p.2)else none
   |none=>none
  else none
 |h,x::xs=>(Ak h xs).map λp=>(x::p.1,p.2)
def ME:List AV->Option (List Int)
 | []=>some []
 | .int .u8 n::xs=>(ME xs).map (n::·)
 |_=>none
def jB (ns:List Int):ByteArray:=⟨(ns.map λn=>UInt8.ofNat n.toNat).toArray⟩
def Ts (h:AH) (x:AV):Option (AV×AH) :=
 match elems h 1 x with
 |some ys=>(match ME ys with|some ns=>some (.str (jB ns),h)|none=>none)
 |none=>none
def Ww (str:Bool):AV->AV->Option Bool
 | .str a,.str b=>if str then some (a == b)else none
 | .int k a,.int k' b=>if !str/\k=k' then some (a == b)else none
 |_,_=>none
def Ng (str:Bool) (k:AV):List AV->Nat->Option (Option Nat)
 | [],_=>some none
 |x::xs,i =>
  match Ww str k x with
  |some true=>some (some i)
  |some false=>Ng str k xs (i+1)
  |none=>none
def CN (h:AH):AV->Option (List AV×List AV)
 | .vm ks vs=>some (ks,vs)
 | .mp b=>match h.boxes[b]? with|some [.mbox ks vs]=>some (ks,vs)|_=>none
 | .nilm=>some ([],[])
 |_=>none
def Ow (str:Bool):AV->Bool
 | .str _=>str
 | .int ..=>!str
 |_=>false
def Es (str ok:Bool) (z:AV) (h:AH) (x k:AV):Option (AV×AH) :=
 if Ow str k then
  match CN h x with
  |some (ks,vs) =>
   match Ng str k ks 0 with
   |some (some i)=>match vs[i]? with|some v=>some (if ok then .tup [v,.bool true]else v,h)|none=>none
   |some none=>some (if ok then .tup [z,.bool false]else z,h)
   |none=>none
  |none=>none
 else none
def Ze (str:Bool) (h:AH) (x k v:AV):Option (AV×AH) :=
 match x with
 | .mp b =>
  match h.boxes[b]?,frz h false v with
  |some [.mbox ks vs],some u =>
   if Ow str k/\u.isTup=false then
    match Ng str k ks 0 with
    |some (some i)=>some (A9,{h with boxes:=h.boxes.set b [.mbox ks (vs.set i u)]})
    |some none=>some (A9,{h with boxes:=h.boxes.set b [.mbox (ks++[k]) (vs++[u])]})
    |none=>none
   else none
  |_,_=>none
 |_=>none
mutual
def MI:AV->AV->Bool
 | .junk,.junk | .nilp,.nilp | .nilf,.nilf | .nilm,.nilm=>true
 | .bool a,.bool b=>decide (a=b)
 | .int k n,.int k' n'=>decide (k=k'/\n=n')
 | .str a,.str b=>decide (a=b)
 | .agg a,.agg b | .tup a,.tup b | .pv a,.pv b | .rbox a,.rbox b=>MJ a b
 | .vs f s a,.vs f' s' b=>decide (f=f'/\s=s')&&MJ a b
 | .sl k n o l,.sl k' n' o' l'=>decide (k=k'/\n=n'/\o=o'/\l=l')
 | .ep k n i c s,.ep k' n' i' c' s'=>decide (k=k'/\n=n'/\i=i'/\c=c'/\s=s')
 | .ptr b o,.ptr b' o'=>decide (b=b'/\o=o')
 | .fn f a,.fn g b=>decide (f=g)&&MJ a b
 | .mp a,.mp b=>decide (a=b)
 | .bsl a b c d,.bsl a' b' c' d'=>decide (a=a'/\b=b'/\c=c'/\d=d')
 | .vm a b,.vm a' b' | .mbox a b,.mbox a' b'=>MJ a a'&&MJ b b'
 |_,_=>false
def MJ:List AV->List AV->Bool
 | [],[]=>true
 |x::xs,y::ys=>MI x y&&MJ xs ys
 |_,_=>false
end
mutual
theorem js:∀{x y:AV},MI x y=true->x=y
 | .agg a,.agg b,h=>by simp only[MI]at h;rw[Cg h]
 | .tup a,.tup b,h=>by simp only[MI]at h;rw[Cg h]
 | .pv a,.pv b,h=>by simp only[MI]at h;rw[Cg h]
 | .rbox a,.rbox b,h=>by simp only[MI]at h;rw[Cg h]
 | .vs f s a,.vs f' s' b,h=>by simp only[MI,xk,decide_eq_true_eq]at h;obtain⟨⟨rfl,rfl⟩,h⟩:=h;rw[Cg h]
 | .fn f a,.fn g b,h=>by simp only[MI,xk,decide_eq_true_eq]at h;obtain⟨rfl,h⟩:=h;rw[Cg h]
 | .vm a b,.vm a' b',h=>by simp only[MI,xk]at h;rw[Cg h.1,Cg h.2]
 | .mbox a b,.mbox a' b',h=>by simp only[MI,xk]at h;rw[Cg h.1,Cg h.2]
 | .junk,y,h | .nilp,y,h | .nilf,y,h | .nilm,y,h | .bool _,y,h | .int _ _,y,h | .str _,y,h | .sl _ _ _ _,y,h | .bsl _ _ _ _,y,h | .ep _ _ _ _ _,y,h | .ptr _ _,y,h | .mp _,y,h=>by
  cases y<;>simp_all [MI]
theorem Cg:∀{x y:E6},MJ x y=true->x=y
 | [],[],_=>rfl
 |x::xs,y::ys,h=>by simp only[MJ,xk]at h;rw[js h.1,Cg h.2]
end
mutual
theorem cv:∀x:AV,MI x x=true
 | .agg a=>p9 a
 | .tup a=>p9 a
 | .pv a=>p9 a
 | .rbox a=>p9 a
 | .vs f s a=>by simp only[MI,p9 a];simp
 | .fn f a=>by simp only[MI,p9 a];simp
 | .vm a b=>by simp only[MI,p9 a,p9 b];simp
 | .mbox a b=>by simp only[MI,p9 a,p9 b];simp
 | .junk | .nilp | .nilf | .nilm | .bool _ | .int _ _ | .str _ | .sl _ _ _ _ | .bsl _ _ _ _ | .ep _ _ _ _ _ | .ptr _ _ | .mp _=>by simp[MI]
theorem p9:∀x:List AV,MJ x x=true
 | []=>rfl
 |x::xs=>by simp only[MJ,cv x,p9 xs];rfl
end
def Kj:List (List AV)->List (List AV)->Bool
 | [],[]=>true
 |x::xs,y::ys=>MJ x y&&Kj xs ys
 |_,_=>false
theorem Nw:∀{x y:List (List AV)},Kj x y=true->x=y
 | [],[],_=>rfl
 |x::xs,y::ys,h=>by simp only[Kj,xk]at h;rw[Cg h.1,Nw h.2]
theorem Kk:∀x:List (List AV),Kj x x=true
 | []=>rfl
 |x::xs=>by simp only[Kj,p9 x,Kk xs];rfl
def Pg (h:AH) (z x:AV):Option (AV×AH) :=
 match x with
 | .vs _ _ xs=>if xs.length=0 then some (A9,h)else none
 | .sl k n off len =>
  match h.fams[k]? with
  |some f=>if f.xs.length=n/\off+len<=n/\f.wr=true/\z.cells.length=f.sz then some (A9,{h with fams:=h.fams.set k {f with xs:=f.xs.take off++xl len z++f.xs.drop (off+len)}})else none
  |none=>none
 |_=>none
def Zc (h:AH) (z:AV) (bytes:Nat) (l q:AV):Option (AV×AH) :=
 match l,q with
 | .int _ a,.int _ b=>if 0<=a/\a=b/\b*bytes<=G4/\b<=maxLen then some (.vs true z.cells.length (xl a.toNat z),h)else none
 |_,_=>none
def Vc (h:AH) (z:AV) (bytes:Nat) (l q:AV):Option (AV×AH) :=
 match l,q with
 | .int _ a,.int _ b=>if 0<=a/\a=b/\b*bytes<=G4/\b<=maxLen then some (.bsl h.boxes.length z.cells.length 0 a.toNat,{h with boxes:=h.boxes++[(xl a.toNat z.cells).flatten]})else none
 |_,_=>none
def Sx (h:AH) (n:Nat) (p x:AV):Option (AV×AH) :=
 match p with
 | .ep k m i q s=>if KI x then (match Ew h n x k m i q s with|some h'=>some (A9,h')|none=>none)else none
 |_=>none
def Sw (h:AH) (n:Nat) (p x:AV):Option (AV×AH) :=
 match p with
 | .ptr b o =>
  match h.boxes[b]? with
  |some cs=>if CJ cs=false/\x.isTup=false/\x.cells.length=n/\o+n<=cs.length then some (A9,{h with boxes:=h.boxes.set b (I9 cs o x.cells)})else none
  |none=>none
 |_=>none
mutual
def KO:AV->Bool
 | .ptr .. | .mp _ | .bsl ..=>false
 | .agg cs=>Pr cs
 | .tup cs=>Pr cs
 | .fn _ cs=>Pr cs
 |_=>true
def Pr:List AV->Bool
 | []=>true
 |x::xs=>KO x&&Pr xs
end
def US (b:Bool) (h:AH) (r:Option (AV×AH)):Option (AV×AH) :=
 if b then (match r with|some (v,h')=>if Kj h'.boxes h.boxes||(KO v&&Kj (h'.boxes.take h.boxes.length) h.boxes)then some (v,⟨h.boxes,h'.fams⟩)else none|none=>none)else r
theorem XN {b:Bool} {h:AH} {r:Option (AV×AH)} {x:AV×AH} (he:US b h r=some x):∃h',r=some (x.1,h')/\(h'=x.2\/(KO x.1=true/\h'.boxes.take h.boxes.length=h.boxes/\x.2=⟨h.boxes,h'.fams⟩)):=by
 unfold US at he;split at he
 .split at he
  .split at he
   .rename_i v h' hq;cases he;refine⟨h',rfl,?_⟩;rw[Bool.or_eq_true]at hq;rcases hq with hq|hq
    .exact .inl (by rw[←Nw hq])
    .rw[xk]at hq;exact .inr ⟨hq.1,Nw hq.2,rfl⟩
   .cases he
  .cases he
 .exact⟨x.2,he,.inl rfl⟩
theorem XO {b:Bool} {h:AH} {r:Option (AV×AH)} {x:AV×AH} (he:US b h r=some x):∃y,r=some y:=by
 obtain⟨h',e,_⟩:=XN he;exact⟨_,e⟩
theorem dJ {h h':AH} {r:Option (AV×AH)} {v:AV} (he:US true h r=some (v,h')):h'.boxes=h.boxes:=by
 unfold US at he;rw[if_pos rfl]at he;split at he
 .split at he
  .cases he;rfl
  .cases he
 .cases he
def GM (O:Orc) (c:Ctx) (f:FuncId) (args:List AV) (h:AH):Option (AV×AH) :=
 if c.raw f then US (c.noB f) h (O.raw f args h)
 else
  match f8 h true args with
  |none=>none
  |some aas =>
   match O.pure f aas with
   |none=>none
   |some r=>if r.scalar||args.all (tame h)then some (r,h)else none
def A2 (O:Orc) (c:Ctx) (o:ROp) (fr:Fr) (h:AH):Option (AV×AH) :=
 match o with
 | .mov x=>some (get fr x,h)
 | .pick q a b=>match get fr q with | .bool t=>some (if t then get fr a else get fr b,h)|_=>none
 | .box x=>if (get fr x).isTup then none else some (.ptr h.boxes.length 0,{h with boxes:=h.boxes++[(get fr x).cells]})
 | .mkmap=>some (.mp h.boxes.length,{h with boxes:=h.boxes++[[.mbox [] []]]})
 | .mlook str ok z x k=>Es str ok z h (get fr x) (get fr k)
 | .mup str x k v=>Ze str h (get fr x) (get fr k) (get fr v)
 | .alloc z=>some (.ptr h.boxes.length 0,{h with boxes:=h.boxes++[z.cells]})
 | .build z parts=>match D2 fr z.cells.length parts with|some ps=>some (.agg (E8 z.cells ps),h)|none=>none
 | .bslice n z parts=>match A4 fr h (xl n z) parts with|some xs=>some (.vs true z.cells.length xs,h)|none=>none
 | .bslicev n z parts=>if parts.all (λp=>KI (get fr p.2))then (match A4 fr h (xl n z) parts with|some xs=>some (.vs true z.cells.length xs,h)|none=>none)else none
 | .ldb agg n x=>match get fr x with | .ep ..=>none|p=>(match DS h agg n p with|some v=>some (v,h)|none=>none)
 | .ld agg n x=>match DS h agg n (get fr x)with|some v=>some (v,h)|none=>none
 | .st n a x=>match HX h n (get fr x) (get fr a)with|some h'=>some (A9,h')|none=>none
 | .ste n a x=>Sx h n (get fr a) (get fr x)
 | .mkv z bytes l q=>Zc h z bytes (get fr l) (get fr q)
 | .mkb z bytes l q=>Vc h z bytes (get fr l) (get fr q)
 | .stb n a x=>Sw h n (get fr a) (get fr x)
 | .clr z x=>Pg h z (get fr x)
 | .nilck x=>match get fr x with | .pv cs=>some (.pv cs,h) | .ptr b o=>some (.ptr b o,h) | .ep k n i q s=>some (.ep k n i q s,h) | .fn f cs=>some (.fn f cs,h)|_=>none
 | .bin op x y=>match D6 op (get fr x) (get fr y)with|some v=>some (v,h)|none=>none
 | .beq neg x y=>match get fr x,get fr y with | .bool a,.bool b=>some (.bool (if neg then !(a == b)else a == b),h)|_,_=>none
 | .nileq neg x=>match get fr x with | .vs _ z _=>some (.bool (if neg then !(z == 0)else z == 0),h)|_=>none
 | .un op x=>match Ny op (get fr x)with|some v=>some (v,h)|none=>none
 | .conv k x=>match get fr x with | .int _ n=>some (.int k (k.wrap n),h)|_=>none
 | .cstr x=>match get fr x with | .str s=>some (.str s,h)|_=>none
 | .bstr x=>Ts h (get fr x)
 | .clos f caps=>if c.ro then (Ak h (caps.map (get fr))).map λp=>(.fn f p.1,p.2)else some (.fn f (caps.map (get fr)),h)
 | .mkslice z bytes l q =>
  match get fr l,get fr q with
  | .int _ a,.int _ b =>
   if 0<=a/\a<=b/\b*bytes<=G4/\b<=maxLen then
    some (.sl h.fams.length a.toNat 0 a.toNat,{h with fams:=h.fams++[⟨xl a.toNat z,z.cells.length,true⟩]})
   else none
  |_,_=>none
 | .slc sz x lo hi mx =>
  match O8 fr lo,O8 fr hi,O8 fr mx with
  |some l,some u,some m=>match Jn h sz (get fr x) l u m with|some v=>some (v,h)|none=>none
  |_,_,_=>none
 | .faddr off x=>match get fr x with | .pv cs=>some (.pv (cs.drop off),h) | .ptr b o=>some (.ptr b (o+off),h) | .ep k n i q s=>some (.ep k n i (q+off) s,h)|_=>none
 | .fld agg off n x=>match get fr x with | .agg cs=>(match d5 agg n (cs.drop off)with|some v=>some (v,h)|none=>none)|_=>none
 | .iaddr sz x i =>
  match get fr x,get fr i with
  | .vs _ z xs,.int _ j=>if 0<=j/\z=sz then (match xs[j.toNat]? with|some e=>some (.pv e.cells,h)|none=>none)else none
  | .sl k n off len,.int _ j=>if 0<=j/\j<len then some (.ep k n (off+j.toNat) 0 sz,h)else none
  | .bsl b s off len,.int _ j=>if 0<=j/\j<len/\s=sz then some (.ptr b (off+j.toNat*sz),h)else none
  |_,_=>none
 | .iaddrv sz x i =>
  match get fr x,get fr i with
  | .vs _ z xs,.int _ j=>if 0<=j/\z=sz then (match xs[j.toNat]? with|some e=>some (.pv e.cells,h)|none=>none)else none
  |_,_=>none
 | .idx x i =>
  match get fr x,get fr i with
  | .str s,.int _ j=>if 0<=j then (match s[j.toNat]? with|some b=>some (.int .u8 b.toNat,h)|none=>none)else none
  |_,_=>none
 | .ext x i=>match get fr x with | .tup vs=>(match vs[i]? with|some v=>some (v,h)|none=>none)|_=>none
 | .len true x=>match get fr x with | .str s=>some (.int .i64 s.size,h)|_=>none
 | .len false x =>
  match get fr x with
  | .vs _ _ xs=>some (.int .i64 xs.length,h)
  | .sl _ _ _ len=>some (.int .i64 len,h)
  | .bsl _ _ _ len=>some (.int .i64 len,h)
  |_=>none
 | .app sz bytes s x=>L5 c h sz bytes (get fr s) (get fr x)
 | .max x y=>match get fr x,get fr y with | .int k a,.int k' b=>if k=k' then some (.int k (if b > a then b else a),h)else none|_,_=>none
 | .call f args=>GM O c f (args.map (get fr)) h
 | .callv x args=>match get fr x with | .fn f caps=>if c.raw f&&!c.rawv then none else GM O c f (args.map (get fr)++caps) h|_=>none
def DO (fr:Fr):Option (Nat×Bool)->Option Bool
 |none=>some true
 |some (s,want) =>
  match fr.getD s A9 with
  | .bool b=>some (b == want)
  | .tup _=>some false
  |_=>none
def J2 (O:Orc) (c:Ctx):List RO->Fr->AH->Option (Fr×AH)
 | [],fr,h=>some (fr,h)
 |o::rest,fr,h =>
  match DO fr o.guard with
  |some true =>
   match A2 O c o.op fr h with
   |some (v,h')=>J2 O c rest (put fr o.dst v) h'
   |none=>none
  |some false=>J2 O c rest (put fr o.dst A9) h
  |none=>none
def A1 (O:Orc) (c:Ctx):RCode->St->Option (Ex×St)
 | .skip,s=>some (.normal,s)
 | .region _ ops,s =>
  match J2 O c ops s.1 s.2 with
  |some s'=>some (.normal,s')
  |none=>none
 | .seq a b,s =>
  match A1 O c a s with
  |some (.normal,s')=>A1 O c b s'
  |r=>r
 | .cond q a b,s =>
  match get s.1 q with
  | .bool true=>A1 O c a s
  | .bool false=>A1 O c b s
  |_=>none
 | .block id a,s =>
  match A1 O c a s with
  |some (.exit id',s')=>if id'=id then some (.normal,s')else some (.exit id',s')
  |r=>r
 | .loop a,s=>O.loop (A1 O c a) s
 | .exit id,s=>some (.exit id,s)
 | .ret,s=>some (.ret,s)
 | .bad,_=>none
def Jl (fr:Fr) (h:AH):List RRes->Option (List AV)
 | []=>some []
 | .tmp t::rest=>(Jl fr h rest).map (fr.getD t A9::·)
 | .cell a agg n::rest=>(DS h agg n (fr.getD a A9)).bind λv=>(Jl fr h rest).map (v::·)
def I1:List AV->AV
 | [v]=>v
 |vs=>.tup vs
structure RSpec where
 run:Orc->List AV->AH->Option (AV×AH)
 fin:∀(O:Orc) (args:List AV) (h:AH) (x:AV×AH),run O args h=some x->∃l:List (FuncId×List AV×AV),(∀p∈l,O.pure p.1 p.2.1=some p.2.2)/\∀O':Orc,(∀p∈l,O'.pure p.1 p.2.1=some p.2.2)->run O' args h=some x
structure Cfg where
 code:FuncId->Option RFunc
 ctx:FuncId->Ctx
 spec:FuncId->Option (List AV->Option AV)
 rspec:FuncId->Option RSpec:=λ_=>none
def Dy (rf:RFunc) (args:List AV):Fr:=args++xl (rf.ntmps-args.length) A9
def KH (O:Orc) (c:Ctx) (rf:RFunc) (args:List AV) (h:AH):Option (AV×AH) :=
 match A1 O c rf.body (Dy rf args,h)with
 |some (.normal,s)=>(Jl s.1 s.2 rf.results).map λvs=>(I1 vs,s.2)
 |some (.ret,s)=>(Jl s.1 s.2 rf.results).map λvs=>(I1 vs,s.2)
 |_=>none
def Na (C:Cfg) (O:Orc) (f:FuncId) (args:List AV) (h:AH):Option (AV×AH) :=
 match C.code f with
 |some rf=>KH O (C.ctx f) rf args h
 |none=>match C.rspec f with|some s=>s.run O args h|none=>none
def JT (C:Cfg) (O:Orc) (f:FuncId) (args:List AV):Option AV :=
 match C.spec f with
 |some s=>s args
 |none =>
  match Na C O f args AH.empty with
  |some (r,h)=>Bn h r
  |none=>none
def IM (step:St->Option (Ex×St)):Nat->St->Option (Ex×St)
 |0,_=>none
 |n+1,s =>
  match step s with
  |some (.normal,s')=>IM step n s'
  |r=>r
def RG (C:Cfg):Nat->Orc
 |0=>⟨λ_ _=>none,λ_ _ _=>none,λ_ _=>none⟩
 |n+1=>⟨JT C (RG C n),Na C (RG C n),λstep s=>IM step (n+1) s⟩
def MF:Value->Option AV
 | .bool b=>some (.bool b)
 | .int k n=>some (.int k n)
 | .string s=>some (.str s)
 | .slice none 0 0=>some (.vs true 0 [])
 | .pointer none=>some .nilp
 | .map none=>some .nilm
 | .nilFunc=>some .nilf
 | .func (.func f) a b=>if a.size=0/\b.size=0 then some (.fn f [])else none
 |_=>none
def GZ {α β:Type} (f:α->Option β):List α->Option (List β)
 | []=>some []
 |x::xs=>match f x,GZ f xs with|some y,some ys=>some (y::ys)|_,_=>none
def NF:Value->Option AV
 | .agg cs=>(GZ MF cs.toList).map .agg
 | .tuple vs=>if vs.size=0 then some (.tup [])else none
 |v=>MF v
def C5:Operand->Option Opd
 | .tmp t=>some (.t t)
 | .const v=>(NF v).map .c
 | .func f=>some (.c (.fn f []))
 | .global _=>none
def Ev:Option Operand->Option (Option Opd)
 |none=>some none
 |some x=>(C5 x).map some
def Program.agg? (P:Program) (t:TypeId):Option Bool :=
 match P.underlying t with
 |some (.struct _)|some (.array _ _)=>some true
 |some _=>some false
 |none=>none
def Program.size? (P:Program) (t:TypeId):Option Nat:=(P.info? t).map (·.size)
def Program.zeroA (P:Program) (t:TypeId):Option AV :=
 match P.info? t with
 |some i =>
  match i.zero with
  |some z =>
   match NF z with
   |some x=>if z.cells.size=i.size/\x.isTup=false then some x else none
   |none=>none
  |none=>none
 |none=>none
def Program.enterable (P:Program) (f:FuncId):Bool :=
 match P.funcs[f]? with
 |some fn=>fn.body.isSome&&!(fn.name == "runtime.NumGoroutine")
 |none=>false
def RL (P:Program) (fs:Array Field) (p:Nat×Operand):Option (Nat×Nat×Opd) :=
 match fs[p.1]?,C5 p.2 with
 |some f,some x=>match Program.size? P f.type with|some n=>some (f.offset,n,x)|none=>none
 |_,_=>none
def RK (p:Nat×Operand):Option (Nat×Opd):=(C5 p.2).map λx=>(p.1,x)
def MU (P:Program) (kt:TypeId):Option Bool :=
 match P.underlying kt with
 |some .string=>some true
 |some (.int _)=>some false
 |_=>none
def V0 (P:Program):Op->Option ROp
 | .makeMap t none=>match P.underlying t with|some (.map _ _)=>some .mkmap|_=>none
 | .lookup t x k ok =>
  match P.underlying t with
  |some (.map kt et) =>
   match MU P kt,Program.zeroA P et,C5 x,C5 k with
   |some b,some z,some x,some k=>some (.mlook b ok z x k)
   |_,_,_,_=>none
  |_=>none
 | .mapUpdate t m k x | .insert t m k x =>
  match P.underlying t with
  |some (.map kt _) =>
   match MU P kt,C5 m,C5 k,C5 x with
   |some b,some m,some k,some x=>some (.mup b m k x)
   |_,_,_,_=>none
  |_=>none
 | .move x=>(C5 x).map .mov
 | .assign x=>(C5 x).map .mov
 | .pick c a b=>match C5 c,C5 a,C5 b with|some c,some a,some b=>some (.pick c a b)|_,_,_=>none
 | .alloc t=>(Program.zeroA P t).map .alloc
 | .box _ x=>(C5 x).map .box
 | .build t parts =>
  match P.underlying t,Program.zeroA P t with
  |some (.struct fs),some (.agg zs) =>
   if (fs.toList.mapM λf=>(P.info? f.type).map λi=>(f.offset,i.size)).isSome then (GZ (RL P fs) parts.toList).map (.build (.agg zs))else none
  |_,_=>none
 | .buildSlice t len parts =>
  match P.underlying t with
  |some (.slice e) =>
   match Program.zeroA P e,Program.size? P e,GZ RK parts.toList with
   |some z,some n,some ps=>if 0<n/\len*n<=2 ^ 24 then some (.bslice len z ps)else none
   |_,_,_=>none
  |_=>none
 | .load t x=>match Program.agg? P t,Program.size? P t,C5 x with|some b,some n,some x=>some (.ld b n x)|_,_,_=>none
 | .store t a x=>match Program.size? P t,C5 a,C5 x with|some n,some a,some x=>some (.st n a x)|_,_,_=>none
 | .nilCheck x=>(C5 x).map .nilck
 | .binOp op t x y _ =>
  match C5 x,C5 y with
  |some x,some y =>
   match P.underlying t,op with
   |some .bool,.eql=>some (.beq false x y)
   |some .bool,.neq=>some (.beq true x y)
   |some (.slice _),.eql=>match y with | .c (.vs true 0 [])=>some (.nileq false x)|_=>none
   |some (.slice _),.neq=>match y with | .c (.vs true 0 [])=>some (.nileq true x)|_=>none
   |_,_=>some (.bin op x y)
  |_,_=>none
 | .unOp op _ x=>(C5 x).map (.un op)
 | .convert s d x =>
  match P.underlying s,P.underlying d with
  |some (.int _),some (.int k)=>(C5 x).map (.conv k)
  |some .string,some .string=>(C5 x).map .cstr
  |some (.slice e),some .string=>match P.underlying e with|some (.int .u8)=>(C5 x).map .bstr|_=>none
  |_,_=>none
 | .makeFunc (.func f) first caps=>if first.size=0 then (GZ C5 caps.toList).map (.clos f)else none
 | .makeSlice t l c =>
  match P.underlying t with
  |some (.slice e) =>
   match P.info? e,Program.zeroA P e,C5 l,C5 c with
   |some i,some z,some l,some c=>if 0<i.size then some (.mkslice z i.bytes l c)else none
   |_,_,_,_=>none
  |_=>none
 | .slice t x lo hi mx =>
  match P.underlying t,C5 x,Ev lo,Ev hi,Ev mx with
  |some .string,some x,some lo,some hi,some none=>some (.slc 0 x lo hi none)
  |some (.slice e),some x,some lo,some hi,some mx=>match Program.size? P e with|some n=>if 0<n then some (.slc n x lo hi mx)else none|none=>none
  |_,_,_,_,_=>none
 | .fieldAddr s x i =>
  match P.underlying s,C5 x with
  |some (.struct fs),some x =>
   match fs[i]? with
   |some f=>match Program.size? P f.type with|some n=>if 0<n then some (.faddr f.offset x)else none|none=>none
   |none=>none
  |_,_=>none
 | .field s x i =>
  match P.underlying s,C5 x with
  |some (.struct fs),some x =>
   match fs[i]? with
   |some f=>match Program.agg? P f.type,Program.size? P f.type with|some b,some n=>some (.fld b f.offset n x)|_,_=>none
   |none=>none
  |_,_=>none
 | .indexAddr t x i =>
  match P.underlying t,C5 x,C5 i with
  |some (.slice e),some x,some i=>match Program.size? P e with|some n=>if 0<n then some (.iaddr n x i)else none|none=>none
  |_,_,_=>none
 | .index t x i=>match P.underlying t,C5 x,C5 i with|some .string,some x,some i=>some (.idx x i)|_,_,_=>none
 | .extract x i=>(C5 x).map λx=>.ext x i
 | .call {callee:=.builtin .len,args,argTypes} =>
  match args.toList,argTypes.toList with
  | [x],[t] =>
   match P.underlying t with
   |some .string=>(C5 x).map (.len true)
   |some (.slice _)=>(C5 x).map (.len false)
   |_=>none
  |_,_=>none
 | .call {callee:=.builtin .append,args,argTypes} =>
  match args.toList,argTypes.toList with
  | [s,x],[t,u] =>
   match P.underlying t with
   |some (.slice e) =>
    match P.info? e,Program.zeroA P e,C5 s,C5 x with
    |some i,some _,some s,some x=>if 0<i.size/\t=u then some (.app i.size i.bytes s x)else none
    |_,_,_,_=>none
   |_=>none
  |_,_=>none
 | .call {callee:=.builtin .clear,args,argTypes} =>
  match args.toList,argTypes.toList with
  | [x],[t] =>
   match P.underlying t with
   |some (.slice e)=>match Program.zeroA P e,C5 x with|some z,some x=>some (.clr z x)|_,_=>none
   |_=>none
  |_,_=>none
 | .call {callee:=.builtin .max,args,argTypes:=_} =>
  match args.toList with
  | [x,y]=>match C5 x,C5 y with|some x,some y=>some (.max x y)|_,_=>none
  |_=>none
 | .call {callee:=.value (.func f),args,argTypes:=_}=>if Program.enterable P f then (GZ C5 args.toList).map (.call f)else none
 | .call {callee:=.value (.tmp t),args,argTypes:=_}=>(GZ C5 args.toList).map (.callv (.t t))
 |_=>none
def PK (ops:List Oper):Option (Nat×Bool)->Option (Option (Nat×Bool))
 |none=>some none
 |some (j,want) =>
  match ops[j]? with
  |some o=>match o.dst with|some d=>some (some (d,want))|none=>none
  |none=>none
def Uk (P:Program) (ops:List Oper) (o:Oper):Option RO :=
 match V0 P o.op,PK ops o.guard with
 |some r,some g=>some ⟨o.dst,r,g⟩
 |_,_=>none
def Opd.slots:Opd->List Nat
 | .t n=>[n]
 | .c _=>[]
def PB:Option Opd->List Nat
 |some x=>x.slots
 |none=>[]
def ROp.slots:ROp->List Nat
 | .mov x | .box x | .ld _ _ x | .ldb _ _ x | .nilck x | .un _ x | .nileq _ x | .conv _ x | .cstr x | .bstr x | .faddr _ x | .fld _ _ _ x | .ext x _ | .len _ x=>x.slots
 | .pick c a b=>c.slots++a.slots++b.slots
 | .alloc _ | .mkmap=>[]
 | .mlook _ _ _ x k=>x.slots++k.slots
 | .mup _ x k v=>x.slots++k.slots++v.slots
 | .build _ ps=>ps.flatMap λp=>p.2.2.slots
 | .bslice _ _ ps | .bslicev _ _ ps=>ps.flatMap λp=>p.2.slots
 | .clr _ x=>x.slots
 | .mkv _ _ a x | .mkb _ _ a x=>a.slots++x.slots
 | .st _ a x | .ste _ a x | .stb _ a x | .bin _ a x | .beq _ a x | .mkslice _ _ a x | .iaddr _ a x | .iaddrv _ a x | .idx a x | .app _ _ a x | .max a x=>a.slots++x.slots
 | .clos _ cs=>cs.flatMap Opd.slots
 | .slc _ x a b c=>x.slots++PB a++PB b++PB c
 | .call _ aas=>aas.flatMap Opd.slots
 | .callv x aas=>x.slots++aas.flatMap Opd.slots
def RO.slots (o:RO):List Nat:=o.op.slots++(match o.guard with|some (s,_)=>[s]|none=>[])
def ROp.writesB (c:Ctx):ROp->Bool
 | .box _ | .alloc _ | .st .. | .stb .. | .mkmap | .mup .. | .mkb ..=>true
 | .callv ..=>c.rawv
 | .clos ..=>c.ro
 | .call f _=>c.raw f&&!c.noB f
 |_=>false
def ROp.writesF (c:Ctx):ROp->Bool
 | .st .. | .ste .. | .clr .. | .mkslice .. | .app ..=>true
 | .callv ..=>c.rawv
 | .call f _=>c.raw f
 |_=>false
def ROp.looksB:ROp->Bool
 | .box _ | .alloc _ | .st .. | .stb .. | .mkb .. | .callv .. | .ld .. | .ldb .. | .call .. | .mkmap | .mlook .. | .mup .. | .bslice .. | .clos ..=>true
 |_=>false
def ROp.looksF:ROp->Bool
 | .st .. | .ste .. | .clr .. | .mkslice .. | .app .. | .callv .. | .call .. | .ld .. | .bslice .. | .slc .. | .mup .. | .bstr .. | .clos ..=>true
 |_=>false
def ROp.lax (m:Option Bool×Bool):ROp->ROp
 | .ld b n x=>.ldb b n x
 | .bslice n z ps=>.bslicev n z ps
 | .mkslice z b l q=>if m.2 then .mkv z b l q else .mkslice z b l q
 | .st n a x=>match m.1 with|none=>.st n a x|some true=>.ste n a x|some false=>.stb n a x
 |o=>o
def ROp.bxd:ROp->ROp
 | .mkslice z b l q=>.mkb z b l q
 |o=>o
def RO.bxd (o:RO):RO:={o with op:=o.op.bxd}
def uK (b:Bool) (I6:List RO):List RO:=if b then I6.map RO.bxd else I6
def RO.lax (m:Option Bool×Bool) (o:RO):RO:={o with op:=o.op.lax m}
def ROp.isIA:ROp->Bool
 | .iaddr ..=>true
 |_=>false
def ZT (I6:List RO):ROp->Bool
 | .st _ (.t d) _=>I6.any λp=>p.dst == some d&&p.op.isIA
 |_=>false
def TO (k:Bool) (I6:List RO):List RO:=I6.map λo=>o.lax (some (ZT I6 o.op),k)
def Y2:List Oper->List Nat->List Nat
 | [],G1=>G1
 |o::rest,G1=>Y2 rest (G1++[o.after.toList.foldl (λs e=>if Region.binds .any e then s ||| 2 ^ e.on ||| G1.getD e.on 0 else s) 0])
def iE (c:Ctx) (bj:Nat) (i:Nat) (oi oj:RO):Bool :=
 bj.testBit i ||
  (
   (match oi.dst with|some d=>!oj.slots.contains d&&oj.dst != some d|none=>true) &&
   (match oj.dst with|some d=>!oi.slots.contains d|none=>true) &&
   !(oi.op.writesB c&&oj.op.looksB)&&!(oi.op.looksB&&oj.op.writesB c)&&!(oi.op.writesF c&&oj.op.looksF)&&!(oi.op.looksF&&oj.op.writesF c))
def NI:List Oper->Nat->Bool
 | [],_=>true
 |o::rest,i=>o.after.toList.all (λe=>!Region.binds .any e||decide (e.on<i))&&NI rest (i+1)
def bQ (c:Ctx) (bs:List Nat) (I6:List RO):Bool :=
 (xm I6.length).all λj=>(xm j).all λi =>
  match I6[i]?,I6[j]? with
  |some oi,some oj=>iE c (bs.getD j 0) i oi oj&&(match oi.dst,oj.dst with|some d,some e=>d != e|_,_=>true)
  |_,_=>false
def ROp.rdr (c:Ctx):ROp->Bool
 | .ld .. | .ldb .. | .bslice .. | .mlook ..=>true
 | .call f _=>!c.raw f
 |_=>false
def ROp.apd:ROp->Bool
 | .box _ | .alloc _ | .mkmap | .mkb ..=>true
 |_=>false
def RH (c:Ctx) (bj:Nat) (i:Nat) (oi oj:RO):Bool :=
 bj.testBit i ||
  (
   (match oi.dst with|some d=>!oj.slots.contains d&&oj.dst != some d|none=>true) &&
   (match oj.dst with|some d=>!oi.slots.contains d|none=>true) &&
   !(oi.op.writesB c&&oj.op.looksB)&&(!(oi.op.looksB&&oj.op.writesB c)||(oi.op.rdr c&&oj.op.apd))&&!(oi.op.writesF c&&oj.op.looksF)&&!(oi.op.looksF&&oj.op.writesF c))
def KP (c:Ctx) (bs:List Nat) (I6:List RO):Bool :=
 (xm I6.length).all λj=>(xm j).all λi =>
  match I6[i]?,I6[j]? with
  |some oi,some oj=>RH c (bs.getD j 0) i oi oj&&(match oi.dst,oj.dst with|some d,some e=>d != e|_,_=>true)
  |_,_=>false
def Ma (c:Ctx) (ops:List Oper) (I6:List RO):Bool:=NI ops 0&&KP c (Y2 ops []) I6
def NP (c:Ctx) (ops:List Oper) (I6:List RO):Bool:=NI ops 0&&bQ c (Y2 ops []) I6
def X1 (P:Program) (c:Ctx):Code->Option RCode
 | .skip=>some .skip
 | .region _ ops draw =>
  match (GZ (Uk P ops.toList) ops.toList).map (uK c.bx)with
  |some I6 =>
   if !draw||NP c ops.toList I6 then some (.region draw I6)
   else if NP c ops.toList (I6.map (RO.lax (none,false)))then some (.region true (I6.map (RO.lax (none,false))))
   else if NP c ops.toList (TO false I6)then some (.region true (TO false I6))
   else if NP c ops.toList (TO true I6)then some (.region true (TO true I6))
   else if Ma c ops.toList I6 then some (.region true I6)else some .bad
  |none=>some .bad
 | .seq a b=>match X1 P c a,X1 P c b with|some a,some b=>some (.seq a b)|_,_=>none
 | .cond q a b=>match C5 q,X1 P c a,X1 P c b with|some q,some a,some b=>some (.cond q a b)|_,_,_=>none
 | .block id a=>(X1 P c a).map (.block id)
 | .loop a=>(X1 P c a).map .loop
 | .exit id=>some (.exit id)
 | .ret=>some .ret
 |_=>some .bad
def Vz (P:Program):ResultVar->Option RRes
 | .tmp t=>some (.tmp t)
 | .cell a t=>match Program.agg? P t,Program.size? P t with|some b,some n=>some (.cell a b n)|_,_=>none
def Vy (P:Program) (ctx:FuncId->Ctx) (f:FuncId):Option RFunc :=
 if Program.enterable P f then
  match P.funcs[f]? with
  |some fn =>
   match fn.body with
   |some b =>
    match GZ (Vz P) fn.results.toList,X1 P (ctx f) b with
    |some rs,some rb=>some ⟨fn.ntmps,rs,rb⟩
    |_,_=>none
   |none=>none
  |none=>none
 else none
end Go.Abs
