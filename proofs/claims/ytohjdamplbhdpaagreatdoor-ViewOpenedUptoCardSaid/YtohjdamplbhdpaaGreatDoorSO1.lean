/- A part of the proof. -/
import Derived.WalkKit
set_option linter.all false
open List renaming getElem?_eq_some_iff->A0Q,getElem?_set_ne->A0S,getElem?_eq_getElem->A0T,getElem?_append_left->A0V,replicate->A0Y,range->A0a
open Nat renaming le_refl->A0R,lt_of_lt_of_le->A0U,le_trans->A0X,succ_mul->A0Z
open Bool renaming and_eq_true->A0W
namespace Go.Abs
abbrev J2:=ByteArray
abbrev I7:=Bool×Bool
inductive AV where
 |junk
 |bool (b:Bool)
 |int (k:IntKind) (n:Int)
 |str (s:ByteArray)
 |agg (cs:List AV)
 |tup (vs:List AV)
 |vs (full:Bool) (sz:Nat) (xs:List AV)
 |sl (k n off len:Nat)
 |pv (cs:List AV)
 |ep (k n i c sz:Nat)
 |ptr (b off:Nat)
 |nilp
 |fn (f:FuncId) (caps:List AV)
 |nilf
 |mp (b:Nat)
 |vm (ks vs:List AV)
 |nilm
 |mbox (ks vs:List AV)
 |rbox (cs:List AV)
 deriving Inhabited
abbrev G3:=List AV
def AV.cells:AV->List AV
 | .agg cs=>cs
 |v=>[v]
def C5:AV:=.tup []
def AV.isTup:AV->Bool
 | .tup _=>true
 |_=>false
structure Fam where
 xs:List AV
 sz:Nat
 wr:Bool
structure AH where
 boxes:List (List AV)
 fams:List Fam
def AH.empty:AH:=⟨[],[]⟩
inductive Opd where
 |t (n:Nat)
 |c (v:AV)
inductive ROp where
 |mov (x:Opd)
 |pick (c a b:Opd)
 |box (x:Opd)
 |mkmap
 |mlook (str ok:Bool) (z:AV) (x k:Opd)
 |mup (str:Bool) (x k v:Opd)
 |alloc (z:AV)
 |build (z:AV) (parts:List (Nat×Nat×Opd))
 |bslice (n:Nat) (z:AV) (parts:List (Nat×Opd))
 |bslicev (n:Nat) (z:AV) (parts:List (Nat×Opd))
 |ld (agg:Bool) (n:Nat) (x:Opd)
 |ldb (agg:Bool) (n:Nat) (x:Opd)
 |st (n:Nat) (a x:Opd)
 |ste (n:Nat) (a x:Opd)
 |stb (n:Nat) (a x:Opd)
 |clr (z:AV) (x:Opd)
 |nilck (x:Opd)
 |bin (op:BinOp) (x y:Opd)
 |beq (neg:Bool) (x y:Opd)
 |nileq (neg:Bool) (x:Opd)
 |un (op:UnOp) (x:Opd)
 |conv (k:IntKind) (x:Opd)
 |cstr (x:Opd)
 |bstr (x:Opd)
 |clos (f:FuncId) (caps:List Opd)
 |mkslice (z:AV) (bytes:Nat) (len cap:Opd)
 |mkv (z:AV) (bytes:Nat) (len cap:Opd)
 |slc (sz:Nat) (x:Opd) (lo hi mx:Option Opd)
 |faddr (off:Nat) (x:Opd)
 |fld (agg:Bool) (off n:Nat) (x:Opd)
 |iaddr (sz:Nat) (x i:Opd)
 |iaddrv (sz:Nat) (x i:Opd)
 |idx (x i:Opd)
 |ext (x:Opd) (i:Nat)
 |len (str:Bool) (x:Opd)
 |app (sz bytes:Nat) (s x:Opd)
 |max (x y:Opd)
 |call (f:FuncId) (args:List Opd)
 |callv (x:Opd) (args:List Opd)
structure RO where
 dst:Option Nat
 op:ROp
 guard:Option (Nat×Bool)
inductive RCode where
 |skip
 |region (draw:Bool) (ops:List RO)
 |seq (a b:RCode)
 |cond (c:Opd) (a b:RCode)
 |block (id:Nat) (a:RCode)
 |loop (a:RCode)
 |exit (id:Nat)
 |ret
 |bad
inductive RRes where
 |tmp (t:Nat)
 |cell (a:Nat) (agg:Bool) (n:Nat)
structure RFunc where
 ntmps:Nat
 results:List RRes
 body:RCode
inductive Ex where
 |normal
 |exit (id:Nat)
 |ret
abbrev Fr:=List AV
abbrev St:=Fr×AH
structure Orc where
 pure:FuncId->List AV->Option AV
 raw:FuncId->List AV->AH->Option (AV×AH)
 loop:(St->Option (Ex×St))->St->Option (Ex×St)
structure Ctx where
 raw:FuncId->Bool
 mutApp:Bool
 rawv:Bool:=true
 ro:Bool:=false
 noB:FuncId->Bool:=λ_=>false
def get (fr:Fr):Opd->AV
 | .t n=>fr.getD n C5
 | .c v=>v
def put (fr:Fr) (dst:Option Nat) (v:AV):Fr :=
 match dst with
 |some d=>fr.set d v
 |none=>fr
def AJ (agg:Bool) (n:Nat) (cs:List AV):Option AV :=
 match agg with
 |true=>if n<=cs.length then some (.agg (cs.take n))else none
 |false=>cs.head?
def AV.reform (x:AV) (cs:List AV):Option AV :=
 match x with
 | .agg _=>some (.agg cs)
 |_=>cs.head?
def AR (h:AH) (sz:Nat):AV->Option (List AV)
 | .vs _ z xs=>if z=sz\/xs.length=0 then some xs else none
 | .sl k n off len =>
  match h.fams[k]? with
  |some f=>if f.xs.length=n/\f.sz=sz/\off+len<=n then some ((f.xs.drop off).take len)else none
  |none=>none
 |_=>none
def AV.flat:AV->Bool
 | .sl .. | .ep .. | .ptr .. | .agg _ | .tup _ | .mp _ | .mbox .. | .rbox _=>false
 | .fn _ cs=>cs.isEmpty
 |_=>true
def OD:AV->Bool
 | .agg cs=>cs.all AV.flat
 | .tup _=>false
 |x=>x.flat
def Ej (h:AH) (am:Bool):AV->Option AV
 | .sl k n off len =>
  match h.fams[k]? with
  |some f=>if f.xs.length=n/\off+len<=n/\(am||!f.wr)=true then some (.vs false f.sz ((f.xs.drop off).take len))else none
  |none=>none
 | .ep ..=>none
 | .ptr ..=>none
 | .agg _=>none
 | .tup _=>none
 | .mbox ..=>none
 | .rbox _=>none
 | .mp b=>match h.boxes[b]? with|some [.mbox ks vs]=>if am then some (.vm ks vs)else none|_=>none
 | .fn f caps=>if caps.all AV.flat then some (.fn f caps)else none
 |x=>some x
def TV (h:AH) (am:Bool):List AV->Option (List AV)
 | []=>some []
 |x::xs=>(Ej h am x).bind λy=>(TV h am xs).map (y::·)
def KH (h:AH) (am:Bool):AV->Option AV
 | .agg cs=>(TV h am cs).map .agg
 |x=>Ej h am x
def Bj (h:AH) (am:Bool):List AV->Option (List AV)
 | []=>some []
 |x::xs=>(KH h am x).bind λy=>(Bj h am xs).map (y::·)
def DX (h:AH):AV->Option AV
 | .tup vs=>(Bj h true vs).map .tup
 |x=>KH h true x
def AV.scalar1:AV->Bool
 | .bool _ | .int .. | .str _ | .nilp | .nilf=>true
 |_=>false
def AV.scalar0:AV->Bool
 | .agg cs=>cs.all AV.scalar1
 |v=>v.scalar1
def AV.scalar:AV->Bool
 | .tup us=>us.all AV.scalar0
 |v=>v.scalar0
def KO (h:AH):AV->Bool
 | .sl k _ _ _=>match h.fams[k]? with|some f=>!f.wr|none=>false
 | .mp _=>false
 |_=>true
def CM (h:AH):AV->Bool
 | .agg cs=>cs.all (KO h)
 |v=>KO h v
def Es:List AV->Bool
 | [.mbox ..]=>true
 | [.rbox _]=>true
 |_=>false
def vz (agg:Bool) (n off:Nat):List AV->Option AV
 | [.rbox ys]=>AJ agg n (ys.drop off)
 |_=>none
def JT (h:AH) (agg:Bool) (n:Nat):AV->Option AV
 | .pv cs=>AJ agg n cs
 | .ptr b off =>
  match h.boxes[b]? with
  |some cs=>if Es cs then vz agg n off cs else AJ agg n (cs.drop off)
  |none=>none
 | .ep k m i c sz =>
  match h.fams[k]? with
  |some f=>if f.xs.length=m/\f.sz=sz then (match f.xs[i]? with|some x=>AJ agg n (x.cells.drop c)|none=>none)else none
  |none=>none
 |_=>none
def M5 (cs:List AV) (off:Nat) (new:List AV):List AV:=cs.take off++new++cs.drop (off+new.length)
def Im (h:AH) (n:Nat) (v:AV) (k m i c sz:Nat):Option AH :=
 match h.fams[k]? with
 |some f =>
  if f.xs.length=m/\f.sz=sz/\f.wr=true then
   match f.xs[i]?,KH h false v with
   |some x,some u =>
    if u.cells.length=n/\c+n<=x.cells.length then
     (x.reform (M5 x.cells c u.cells)).map λy=>{h with fams:=h.fams.set k {f with xs:=f.xs.set i y}}
    else none
   |_,_=>none
  else none
 |none=>none
def pm (h:AH):AV->Option AH
 | .sl k _ _ _ =>
  match h.fams[k]? with
  |some f=>some {h with fams:=h.fams.set k {f with wr:=false}}
  |none=>none
 |_=>none
def bY (h:AH) (v:AV):Option AH:=match KH h false v with|some _=>some h|none=>pm h v
def Ly (h:AH) (n:Nat) (v:AV):AV->Option AH
 | .ptr b off =>
  match h.boxes[b]? with
  |some cs=>if Es cs=false/\v.isTup=false/\v.cells.length=n/\off+n<=cs.length then some {h with boxes:=h.boxes.set b (M5 cs off v.cells)} else none
  |none=>none
 | .ep k m i c sz=>match bY h v with|some h1=>Im h1 n v k m i c sz|none=>none
 |_=>none
def G5 (op:BinOp):AV->AV->Option AV
 | .int k a,.int k' b =>
  match op with
  | .add=>if k=k' then some (.int k (k.wrap (a+b)))else none
  | .sub=>if k=k' then some (.int k (k.wrap (a-b)))else none
  | .mul=>if k=k' then some (.int k (k.wrap (a*b)))else none
  | .quo=>if k=k'/\b≠0 then some (.int k (k.wrap (a.tdiv b)))else none
  | .rem=>if k=k'/\b≠0 then some (.int k (a.tmod b))else none
  | .eql=>if k=k' then some (.bool (a == b))else none
  | .neq=>if k=k' then some (.bool (a != b))else none
  | .lss=>if k=k' then some (.bool (decide (a<b)))else none
  | .leq=>if k=k' then some (.bool (decide (a<=b)))else none
  | .gtr=>if k=k' then some (.bool (decide (a > b)))else none
  | .geq=>if k=k' then some (.bool (decide (a≥b)))else none
  | .shl=>if 0<=b then some (.int k (k.wrap (a*2 ^ (min b.toNat k.bits))))else none
  | .shr=>if 0<=b then some (.int k (a.fdiv (2 ^ (min b.toNat k.bits))))else none
  | .and=>if k=k' then some (.int k (k.wrap (BitVec.ofInt k.bits a &&& BitVec.ofInt k.bits b).toNat))else none
  | .or=>if k=k' then some (.int k (k.wrap (BitVec.ofInt k.bits a ||| BitVec.ofInt k.bits b).toNat))else none
  | .xor=>if k=k' then some (.int k (k.wrap (BitVec.ofInt k.bits a ^^^ BitVec.ofInt k.bits b).toNat))else none
  |_=>none
 | .str a,.str b =>
  match op with
  | .add=>if ((a.size+b.size:Nat):Int) > IntKind.i64.max then none else some (.str (a++b))
  | .eql=>some (.bool (a.toList == b.toList))
  | .neq=>some (.bool !(a.toList == b.toList))
  | .lss=>some (.bool (Op.bytesLess a.toList b.toList))
  | .leq=>some (.bool (Op.bytesLess a.toList b.toList||a.toList == b.toList))
  | .gtr=>some (.bool !(Op.bytesLess a.toList b.toList||a.toList == b.toList))
  | .geq=>some (.bool !(Op.bytesLess a.toList b.toList))
  |_=>none
 |_,_=>none
def TR (op:UnOp):AV->Option AV
 | .bool b=>match op with | .not=>some (.bool !b)|_=>none
 | .int k n=>match op with | .neg=>some (.int k (k.wrap (0-n)))|_=>none
 |_=>none
def E6 (cs:List AV):List (Nat×AV)->List AV
 | []=>cs
 |(off,v)::rest=>E6 (M5 cs off v.cells) rest
def D2 (fr:Fr) (len:Nat):List (Nat×Nat×Opd)->Option (List (Nat×AV))
 | []=>some []
 |(off,n,x)::rest =>
  if (get fr x).isTup=false/\(get fr x).cells.length=n/\off+n<=len then (D2 fr len rest).map ((off,get fr x)::·)else none
def A5 (fr:Fr) (h:AH) (xs:List AV):List (Nat×Opd)->Option (List AV)
 | []=>some xs
 |(i,x)::rest =>
  match xs[i]?,KH h false (get fr x)with
  |some z,some y=>if y.cells.length=z.cells.length then A5 fr h (xs.set i y) rest else none
  |_,_=>none
def L6 (fr:Fr):Option Opd->Option (Option Int)
 |none=>some none
 |some x=>match get fr x with | .int _ i=>some (some i)|_=>none
def Oc (H:AH) (sz:Nat) (x:AV) (lo hi mx:Option Int):Option AV :=
 match x with
 | .str s =>
  let l:=lo.getD 0
  let h:=hi.getD s.size
  if sz=0/\mx=none/\0<=l/\l<=h/\h<=s.size then some (.str (s.extract l.toNat h.toNat))else none
 | .vs full z xs =>
  let l:=lo.getD 0
  let h:=hi.getD xs.length
  if 0<sz/\(z=sz\/xs.length=0)then
   match mx with
   |none =>
    if 0<=l/\l<=h/\h<=xs.length then some (.vs (full&&decide (h=xs.length)) z ((xs.drop l.toNat).take (h-l).toNat))else none
   |some m =>
    if hi.isSome/\0<=l/\l<=h/\h<=m/\m<=xs.length then some (.vs (decide (m=h)) z ((xs.drop l.toNat).take (h-l).toNat))else none
  else none
 | .sl k n off len =>
  let l:=lo.getD 0
  let h:=hi.getD len
  match H.fams[k]? with
  |some f =>
   if 0<sz/\f.sz=sz/\f.xs.length=n then
    match mx with
    |none=>if 0<=l/\l<=h/\h<=len then some (.sl k n (off+l.toNat) (h-l).toNat)else none
    |some m=>if hi.isSome/\l=0/\h=0/\m=0 then some (.vs true sz [])else none
   else none
  |none=>none
 |_=>none
def H2:Nat:=140737488355328
def K1 (c:Ctx) (h:AH) (sz bytes:Nat) (s x:AV):Option (AV×AH) :=
 match AR h sz x with
 |none=>none
 |some ys =>
  match s with
  | .vs true z xs =>
   if ys.length=0 then some (.vs true z xs,h)
   else if (z=sz\/xs.length=0)/\(xs.length+ys.length)*bytes<=H2/\xs.length+ys.length<=maxLen then
    some (.sl h.fams.length (xs.length+ys.length) 0 (xs.length+ys.length),{h with fams:=h.fams++[⟨xs++ys,sz,c.mutApp⟩]})
   else none
  | .sl k n off len =>
   match h.fams[k]? with
   |some f =>
    if f.xs.length=n/\f.sz=sz/\off+len=n/\(n+ys.length)*bytes<=H2/\n+ys.length<=maxLen then
     some (.sl k (n+ys.length) off (len+ys.length),{h with fams:=h.fams.set k {f with xs:=f.xs++ys}})
    else none
   |none=>none
  |_=>none
def Bs:AH->List AV->Option (List AV×AH)
 |h,[]=>some ([],h)
 |h,.ptr b off::xs =>
  if off=0 then
   match h.boxes[b]? with
   |some cs=>if Es cs=false/\cs.all AV.flat=true then (Bs {h with boxes:=h.boxes.set b [.rbox cs]} xs).map λp=>(.pv cs::p.1,p.2)else none
   |none=>none
  else none
 |h,x::xs=>(Bs h xs).map λp=>(x::p.1,p.2)
def LW:List AV->Option (List Int)
 | []=>some []
 | .int .u8 n::xs=>(LW xs).map (n::·)
 |_=>none
def lk (ns:List Int):ByteArray:=⟨(ns.map λn=>UInt8.ofNat n.toNat).toArray⟩
def Su (h:AH) (x:AV):Option (AV×AH) :=
 match AR h 1 x with
 |some ys=>(match LW ys with|some ns=>some (.str (lk ns),h)|none=>none)
 |none=>none
def XC (str:Bool):AV->AV->Option Bool
 | .str a,.str b=>if str then some (a == b)else none
 | .int k a,.int k' b=>if !str/\k=k' then some (a == b)else none
 |_,_=>none
def Mq (str:Bool) (k:AV):List AV->Nat->Option (Option Nat)
 | [],_=>some none
 |x::xs,i =>
  match XC str k x with
  |some true=>some (some i)
  |some false=>Mq str k xs (i+1)
  |none=>none
def GL (h:AH):AV->Option (List AV×List AV)
 | .vm ks vs=>some (ks,vs)
 | .mp b=>match h.boxes[b]? with|some [.mbox ks vs]=>some (ks,vs)|_=>none
 | .nilm=>some ([],[])
 |_=>none
def Sw (str:Bool):AV->Bool
 | .str _=>str
 | .int ..=>!str
 |_=>false
def Gb (str ok:Bool) (z:AV) (h:AH) (x k:AV):Option (AV×AH) :=
 if Sw str k then
  match GL h x with
  |some (ks,vs) =>
   match Mq str k ks 0 with
   |some (some i)=>match vs[i]? with|some v=>some (if ok then .tup [v,.bool true]else v,h)|none=>none
   |some none=>some (if ok then .tup [z,.bool false]else z,h)
   |none=>none
  |none=>none
 else none
def Yt (str:Bool) (h:AH) (x k v:AV):Option (AV×AH) :=
 match x with
 | .mp b =>
  match h.boxes[b]?,KH h false v with
  |some [.mbox ks vs],some u =>
   if Sw str k/\u.isTup=false then
    match Mq str k ks 0 with
    |some (some i)=>some (C5,{h with boxes:=h.boxes.set b [.mbox ks (vs.set i u)]})
    |some none=>some (C5,{h with boxes:=h.boxes.set b [.mbox (ks++[k]) (vs++[u])]})
    |none=>none
   else none
  |_,_=>none
 |_=>none
mutual
def RE:AV->AV->Bool
 | .junk,.junk | .nilp,.nilp | .nilf,.nilf | .nilm,.nilm=>true
 | .bool a,.bool b=>decide (a=b)
 | .int k n,.int k' n'=>decide (k=k'/\n=n')
 | .str a,.str b=>decide (a=b)
 | .agg a,.agg b | .tup a,.tup b | .pv a,.pv b | .rbox a,.rbox b=>RF a b
 | .vs f s a,.vs f' s' b=>decide (f=f'/\s=s')&&RF a b
 | .sl k n o l,.sl k' n' o' l'=>decide (k=k'/\n=n'/\o=o'/\l=l')
 | .ep k n i c s,.ep k' n' i' c' s'=>decide (k=k'/\n=n'/\i=i'/\c=c'/\s=s')
 | .ptr b o,.ptr b' o'=>decide (b=b'/\o=o')
 | .fn f a,.fn g b=>decide (f=g)&&RF a b
 | .mp a,.mp b=>decide (a=b)
 | .vm a b,.vm a' b' | .mbox a b,.mbox a' b'=>RF a a'&&RF b b'
 |_,_=>false
def RF:List AV->List AV->Bool
 | [],[]=>true
 |x::xs,y::ys=>RE x y&&RF xs ys
 |_,_=>false
end
mutual
theorem uj:∀{x y:AV},RE x y=true->x=y
 | .agg a,.agg b,h=>by simp only[RE]at h;rw[FQ h]
 | .tup a,.tup b,h=>by simp only[RE]at h;rw[FQ h]
 | .pv a,.pv b,h=>by simp only[RE]at h;rw[FQ h]
 | .rbox a,.rbox b,h=>by simp only[RE]at h;rw[FQ h]
 | .vs f s a,.vs f' s' b,h=>by simp only[RE,A0W,decide_eq_true_eq]at h;obtain⟨⟨rfl,rfl⟩,h⟩:=h;rw[FQ h]
 | .fn f a,.fn g b,h=>by simp only[RE,A0W,decide_eq_true_eq]at h;obtain⟨rfl,h⟩:=h;rw[FQ h]
 | .vm a b,.vm a' b',h=>by simp only[RE,A0W]at h;rw[FQ h.1,FQ h.2]
 | .mbox a b,.mbox a' b',h=>by simp only[RE,A0W]at h;rw[FQ h.1,FQ h.2]
 | .junk,y,h | .nilp,y,h | .nilf,y,h | .nilm,y,h | .bool _,y,h | .int _ _,y,h | .str _,y,h | .sl _ _ _ _,y,h | .ep _ _ _ _ _,y,h | .ptr _ _,y,h | .mp _,y,h=>by
  cases y<;>simp_all [RE]
theorem FQ:∀{x y:G3},RF x y=true->x=y
 | [],[],_=>rfl
 |x::xs,y::ys,h=>by simp only[RF,A0W]at h;rw[uj h.1,FQ h.2]
end
mutual
theorem mg:∀x:AV,RE x x=true
 | .agg a=>As a
 | .tup a=>As a
 | .pv a=>As a
 | .rbox a=>As a
 | .vs f s a=>by simp only[RE,As a];simp
 | .fn f a=>by simp only[RE,As a];simp
 | .vm a b=>by simp only[RE,As a,As b];simp
 | .mbox a b=>by simp only[RE,As a,As b];simp
 | .junk | .nilp | .nilf | .nilm | .bool _ | .int _ _ | .str _ | .sl _ _ _ _ | .ep _ _ _ _ _ | .ptr _ _ | .mp _=>by simp[RE]
theorem As:∀x:List AV,RF x x=true
 | []=>rfl
 |x::xs=>by simp only[RF,mg x,As xs];rfl
end
def Pn:List (List AV)->List (List AV)->Bool
 | [],[]=>true
 |x::xs,y::ys=>RF x y&&Pn xs ys
 |_,_=>false
theorem TQ:∀{x y:List (List AV)},Pn x y=true->x=y
 | [],[],_=>rfl
 |x::xs,y::ys,h=>by simp only[Pn,A0W]at h;rw[FQ h.1,TQ h.2]
theorem Po:∀x:List (List AV),Pn x x=true
 | []=>rfl
 |x::xs=>by simp only[Pn,As x,Po xs];rfl
def Uz (h:AH) (z x:AV):Option (AV×AH) :=
 match x with
 | .vs _ _ xs=>if xs.length=0 then some (C5,h)else none
 | .sl k n off len =>
  match h.fams[k]? with
  |some f=>if f.xs.length=n/\off+len<=n/\f.wr=true/\z.cells.length=f.sz then some (C5,{h with fams:=h.fams.set k {f with xs:=f.xs.take off++A0Y len z++f.xs.drop (off+len)}})else none
  |none=>none
 |_=>none
def jO (h:AH) (z:AV) (bytes:Nat) (l q:AV):Option (AV×AH) :=
 match l,q with
 | .int _ a,.int _ b=>if 0<=a/\a=b/\b*bytes<=H2/\b<=maxLen then some (.vs true z.cells.length (A0Y a.toNat z),h)else none
 |_,_=>none
def YX (h:AH) (n:Nat) (p x:AV):Option (AV×AH) :=
 match p with
 | .ep k m i q s=>if OD x then (match Im h n x k m i q s with|some h'=>some (C5,h')|none=>none)else none
 |_=>none
def YW (h:AH) (n:Nat) (p x:AV):Option (AV×AH) :=
 match p with
 | .ptr b o =>
  match h.boxes[b]? with
  |some cs=>if Es cs=false/\x.isTup=false/\x.cells.length=n/\o+n<=cs.length then some (C5,{h with boxes:=h.boxes.set b (M5 cs o x.cells)})else none
  |none=>none
 |_=>none
mutual
def PS:AV->Bool
 | .ptr .. | .mp _=>false
 | .agg cs=>VG cs
 | .tup cs=>VG cs
 | .fn _ cs=>VG cs
 |_=>true
def VG:List AV->Bool
 | []=>true
 |x::xs=>PS x&&VG xs
end
def XQ (b:Bool) (h:AH) (r:Option (AV×AH)):Option (AV×AH) :=
 if b then (match r with|some (v,h')=>if Pn h'.boxes h.boxes||(PS v&&Pn (h'.boxes.take h.boxes.length) h.boxes)then some (v,⟨h.boxes,h'.fams⟩)else none|none=>none)else r
theorem eL {b:Bool} {h:AH} {r:Option (AV×AH)} {x:AV×AH} (he:XQ b h r=some x):∃h',r=some (x.1,h')/\(h'=x.2\/(PS x.1=true/\h'.boxes.take h.boxes.length=h.boxes/\x.2=⟨h.boxes,h'.fams⟩)):=by
 unfold XQ at he;split at he
 .split at he
  .split at he
   .rename_i v h' hq;cases he;refine⟨h',rfl,?_⟩;rw[Bool.or_eq_true]at hq;rcases hq with hq|hq
    .exact .inl (by rw[←TQ hq])
    .rw[A0W]at hq;exact .inr ⟨hq.1,TQ hq.2,rfl⟩
   .cases he
  .cases he
 .exact⟨x.2,he,.inl rfl⟩
theorem eM {b:Bool} {h:AH} {r:Option (AV×AH)} {x:AV×AH} (he:XQ b h r=some x):∃y,r=some y:=by
 obtain⟨h',e,_⟩:=eL he;exact⟨_,e⟩
theorem mq {h h':AH} {r:Option (AV×AH)} {v:AV} (he:XQ true h r=some (v,h')):h'.boxes=h.boxes:=by
 unfold XQ at he;rw[if_pos rfl]at he;split at he
 .split at he
  .cases he;rfl
  .cases he
 .cases he
def LX (O:Orc) (c:Ctx) (f:FuncId) (args:List AV) (h:AH):Option (AV×AH) :=
 if c.raw f then XQ (c.noB f) h (O.raw f args h)
 else
  match Bj h true args with
  |none=>none
  |some aas =>
   match O.pure f aas with
   |none=>none
   |some r=>if r.scalar||args.all (CM h)then some (r,h)else none
def A9 (O:Orc) (c:Ctx) (o:ROp) (fr:Fr) (h:AH):Option (AV×AH) :=
 match o with
 | .mov x=>some (get fr x,h)
 | .pick q a b=>match get fr q with | .bool t=>some (if t then get fr a else get fr b,h)|_=>none
 | .box x=>if (get fr x).isTup then none else some (.ptr h.boxes.length 0,{h with boxes:=h.boxes++[(get fr x).cells]})
 | .mkmap=>some (.mp h.boxes.length,{h with boxes:=h.boxes++[[.mbox [] []]]})
 | .mlook str ok z x k=>Gb str ok z h (get fr x) (get fr k)
 | .mup str x k v=>Yt str h (get fr x) (get fr k) (get fr v)
 | .alloc z=>some (.ptr h.boxes.length 0,{h with boxes:=h.boxes++[z.cells]})
 | .build z parts=>match D2 fr z.cells.length parts with|some ps=>some (.agg (E6 z.cells ps),h)|none=>none
 | .bslice n z parts=>match A5 fr h (A0Y n z) parts with|some xs=>some (.vs true z.cells.length xs,h)|none=>none
 | .bslicev n z parts=>if parts.all (λp=>OD (get fr p.2))then (match A5 fr h (A0Y n z) parts with|some xs=>some (.vs true z.cells.length xs,h)|none=>none)else none
 | .ldb agg n x=>match get fr x with | .ep ..=>none|p=>(match JT h agg n p with|some v=>some (v,h)|none=>none)
 | .ld agg n x=>match JT h agg n (get fr x)with|some v=>some (v,h)|none=>none
 | .st n a x=>match Ly h n (get fr x) (get fr a)with|some h'=>some (C5,h')|none=>none
 | .ste n a x=>YX h n (get fr a) (get fr x)
 | .mkv z bytes l q=>jO h z bytes (get fr l) (get fr q)
 | .stb n a x=>YW h n (get fr a) (get fr x)
 | .clr z x=>Uz h z (get fr x)
 | .nilck x=>match get fr x with | .pv cs=>some (.pv cs,h) | .ptr b o=>some (.ptr b o,h) | .ep k n i q s=>some (.ep k n i q s,h) | .fn f cs=>some (.fn f cs,h)|_=>none
 | .bin op x y=>match G5 op (get fr x) (get fr y)with|some v=>some (v,h)|none=>none
 | .beq neg x y=>match get fr x,get fr y with | .bool a,.bool b=>some (.bool (if neg then !(a == b)else a == b),h)|_,_=>none
 | .nileq neg x=>match get fr x with | .vs _ z _=>some (.bool (if neg then !(z == 0)else z == 0),h)|_=>none
 | .un op x=>match TR op (get fr x)with|some v=>some (v,h)|none=>none
 | .conv k x=>match get fr x with | .int _ n=>some (.int k (k.wrap n),h)|_=>none
 | .cstr x=>match get fr x with | .str s=>some (.str s,h)|_=>none
 | .bstr x=>Su h (get fr x)
 | .clos f caps=>if c.ro then (Bs h (caps.map (get fr))).map λp=>(.fn f p.1,p.2)else some (.fn f (caps.map (get fr)),h)
 | .mkslice z bytes l q =>
  match get fr l,get fr q with
  | .int _ a,.int _ b =>
   if 0<=a/\a<=b/\b*bytes<=H2/\b<=maxLen then
    some (.sl h.fams.length a.toNat 0 a.toNat,{h with fams:=h.fams++[⟨A0Y a.toNat z,z.cells.length,true⟩]})
   else none
  |_,_=>none
 | .slc sz x lo hi mx =>
  match L6 fr lo,L6 fr hi,L6 fr mx with
  |some l,some u,some m=>match Oc h sz (get fr x) l u m with|some v=>some (v,h)|none=>none
  |_,_,_=>none
 | .faddr off x=>match get fr x with | .pv cs=>some (.pv (cs.drop off),h) | .ptr b o=>some (.ptr b (o+off),h) | .ep k n i q s=>some (.ep k n i (q+off) s,h)|_=>none
 | .fld agg off n x=>match get fr x with | .agg cs=>(match AJ agg n (cs.drop off)with|some v=>some (v,h)|none=>none)|_=>none
 | .iaddr sz x i =>
  match get fr x,get fr i with
  | .vs _ z xs,.int _ j=>if 0<=j/\z=sz then (match xs[j.toNat]? with|some e=>some (.pv e.cells,h)|none=>none)else none
  | .sl k n off len,.int _ j=>if 0<=j/\j<len then some (.ep k n (off+j.toNat) 0 sz,h)else none
  |_,_=>none
 | .iaddrv sz x i =>
  match get fr x,get fr i with
  | .vs _ z xs,.int _ j=>if 0<=j/\z=sz then (match xs[j.toNat]? with|some e=>some (.pv e.cells,h)|none=>none)else none
  |_,_=>none
 | .idx x i =>
  match get fr x,get fr i with
  | .str s,.int _ j=>if 0<=j then (match s[j.toNat]? with|some b=>some (.int .u8 b.toNat,h)|none=>none)else none
  |_,_=>none
 | .ext x i=>match get fr x with | .tup vs=>(match vs[i]? with|some v=>some (v,h)|none=>none)|_=>none
 | .len true x=>match get fr x with | .str s=>some (.int .i64 s.size,h)|_=>none
 | .len false x =>
  match get fr x with
  | .vs _ _ xs=>some (.int .i64 xs.length,h)
  | .sl _ _ _ len=>some (.int .i64 len,h)
  |_=>none
 | .app sz bytes s x=>K1 c h sz bytes (get fr s) (get fr x)
 | .max x y=>match get fr x,get fr y with | .int k a,.int k' b=>if k=k' then some (.int k (if b > a then b else a),h)else none|_,_=>none
 | .call f args=>LX O c f (args.map (get fr)) h
 | .callv x args=>match get fr x with | .fn f caps=>if c.raw f&&!c.rawv then none else LX O c f (args.map (get fr)++caps) h|_=>none
def GR (fr:Fr):Option (Nat×Bool)->Option Bool
 |none=>some true
 |some (s,want) =>
  match fr.getD s C5 with
  | .bool b=>some (b == want)
  | .tup _=>some false
  |_=>none
def L7 (O:Orc) (c:Ctx):List RO->Fr->AH->Option (Fr×AH)
 | [],fr,h=>some (fr,h)
 |o::rest,fr,h =>
  match GR fr o.guard with
  |some true =>
   match A9 O c o.op fr h with
   |some (v,h')=>L7 O c rest (put fr o.dst v) h'
   |none=>none
  |some false=>L7 O c rest (put fr o.dst C5) h
  |none=>none
def A2 (O:Orc) (c:Ctx):RCode->St->Option (Ex×St)
 | .skip,s=>some (.normal,s)
 | .region _ ops,s =>
  match L7 O c ops s.1 s.2 with
  |some s'=>some (.normal,s')
  |none=>none
 | .seq a b,s =>
  match A2 O c a s with
  |some (.normal,s')=>A2 O c b s'
  |r=>r
 | .cond q a b,s =>
  match get s.1 q with
  | .bool true=>A2 O c a s
  | .bool false=>A2 O c b s
  |_=>none
 | .block id a,s =>
  match A2 O c a s with
  |some (.exit id',s')=>if id'=id then some (.normal,s')else some (.exit id',s')
  |r=>r
 | .loop a,s=>O.loop (A2 O c a) s
 | .exit id,s=>some (.exit id,s)
 | .ret,s=>some (.ret,s)
 | .bad,_=>none
def Oa (fr:Fr) (h:AH):List RRes->Option (List AV)
 | []=>some []
 | .tmp t::rest=>(Oa fr h rest).map (fr.getD t C5::·)
 | .cell a agg n::rest=>(JT h agg n (fr.getD a C5)).bind λv=>(Oa fr h rest).map (v::·)
def J7:List AV->AV
 | [v]=>v
 |vs=>.tup vs
structure RSpec where
 run:Orc->List AV->AH->Option (AV×AH)
 fin:∀(O:Orc) (args:List AV) (h:AH) (x:AV×AH),run O args h=some x->∃l:List (FuncId×List AV×AV),(∀p∈l,O.pure p.1 p.2.1=some p.2.2)/\∀O':Orc,(∀p∈l,O'.pure p.1 p.2.1=some p.2.2)->run O' args h=some x
structure Cfg where
 code:FuncId->Option RFunc
 ctx:FuncId->Ctx
 spec:FuncId->Option (List AV->Option AV)
 rspec:FuncId->Option RSpec:=λ_=>none
def HV (rf:RFunc) (args:List AV):Fr:=args++A0Y (rf.ntmps-args.length) C5
def PI (O:Orc) (c:Ctx) (rf:RFunc) (args:List AV) (h:AH):Option (AV×AH) :=
 match A2 O c rf.body (HV rf args,h)with
 |some (.normal,s)=>(Oa s.1 s.2 rf.results).map λvs=>(J7 vs,s.2)
 |some (.ret,s)=>(Oa s.1 s.2 rf.results).map λvs=>(J7 vs,s.2)
 |_=>none
def Sq (C:Cfg) (O:Orc) (f:FuncId) (args:List AV) (h:AH):Option (AV×AH) :=
 match C.code f with
 |some rf=>PI O (C.ctx f) rf args h
 |none=>match C.rspec f with|some s=>s.run O args h|none=>none
def OL (C:Cfg) (O:Orc) (f:FuncId) (args:List AV):Option AV :=
 match C.spec f with
 |some s=>s args
 |none =>
  match Sq C O f args AH.empty with
  |some (r,h)=>DX h r
  |none=>none
def Mr (step:St->Option (Ex×St)):Nat->St->Option (Ex×St)
 |0,_=>none
 |n+1,s =>
  match step s with
  |some (.normal,s')=>Mr step n s'
  |r=>r
def Wc (C:Cfg):Nat->Orc
 |0=>⟨λ_ _=>none,λ_ _ _=>none,λ_ _=>none⟩
 |n+1=>⟨OL C (Wc C n),Sq C (Wc C n),λstep s=>Mr step (n+1) s⟩
def RB:Value->Option AV
 | .bool b=>some (.bool b)
 | .int k n=>some (.int k n)
 | .string s=>some (.str s)
 | .slice none 0 0=>some (.vs true 0 [])
 | .pointer none=>some .nilp
 | .map none=>some .nilm
 | .nilFunc=>some .nilf
 | .func (.func f) a b=>if a.size=0/\b.size=0 then some (.fn f [])else none
 |_=>none
def KZ {α β:Type} (f:α->Option β):List α->Option (List β)
 | []=>some []
 |x::xs=>match f x,KZ f xs with|some y,some ys=>some (y::ys)|_,_=>none
def SN:Value->Option AV
 | .agg cs=>(KZ RB cs.toList).map .agg
 | .tuple vs=>if vs.size=0 then some (.tup [])else none
 |v=>RB v
def D7:Operand->Option Opd
 | .tmp t=>some (.t t)
 | .const v=>(SN v).map .c
 | .func f=>some (.c (.fn f []))
 | .global _=>none
def Ij:Option Operand->Option (Option Opd)
 |none=>some none
 |some x=>(D7 x).map some
def Program.agg? (P:Program) (t:TypeId):Option Bool :=
 match P.underlying t with
 |some (.struct _)|some (.array _ _)=>some true
 |some _=>some false
 |none=>none
def Program.size? (P:Program) (t:TypeId):Option Nat:=(P.info? t).map (·.size)
def Program.zeroA (P:Program) (t:TypeId):Option AV :=
 match P.info? t with
 |some i =>
  match i.zero with
  |some z =>
   match SN z with
   |some x=>if z.cells.size=i.size/\x.isTup=false then some x else none
   |none=>none
  |none=>none
 |none=>none
def Program.enterable (P:Program) (f:FuncId):Bool :=
 match P.funcs[f]? with
 |some fn=>fn.body.isSome&&!(fn.name == "runtime.NumGoroutine")
 |none=>false
def Wg (P:Program) (fs:Array Field) (p:Nat×Operand):Option (Nat×Nat×Opd) :=
 match fs[p.1]?,D7 p.2 with
 |some f,some x=>match Program.size? P f.type with|some n=>some (f.offset,n,x)|none=>none
 |_,_=>none
def Wf (p:Nat×Operand):Option (Nat×Opd):=(D7 p.2).map λx=>(p.1,x)
def RN (P:Program) (kt:TypeId):Option Bool :=
 match P.underlying kt with
 |some .string=>some true
 |some (.int _)=>some false
 |_=>none
def u5 (P:Program):Op->Option ROp
 | .makeMap t none=>match P.underlying t with|some (.map _ _)=>some .mkmap|_=>none
 | .lookup t x k ok =>
  match P.underlying t with
  |some (.map kt et) =>
   match RN P kt,Program.zeroA P et,D7 x,D7 k with
   |some b,some z,some x,some k=>some (.mlook b ok z x k)
   |_,_,_,_=>none
  |_=>none
 | .mapUpdate t m k x | .insert t m k x =>
  match P.underlying t with
  |some (.map kt _) =>
   match RN P kt,D7 m,D7 k,D7 x with
   |some b,some m,some k,some x=>some (.mup b m k x)
   |_,_,_,_=>none
  |_=>none
 | .move x=>(D7 x).map .mov
 | .assign x=>(D7 x).map .mov
 | .pick c a b=>match D7 c,D7 a,D7 b with|some c,some a,some b=>some (.pick c a b)|_,_,_=>none
 | .alloc t=>(Program.zeroA P t).map .alloc
 | .box _ x=>(D7 x).map .box
 | .build t parts =>
  match P.underlying t,Program.zeroA P t with
  |some (.struct fs),some (.agg zs) =>
   if (fs.toList.mapM λf=>(P.info? f.type).map λi=>(f.offset,i.size)).isSome then (KZ (Wg P fs) parts.toList).map (.build (.agg zs))else none
  |_,_=>none
 | .buildSlice t len parts =>
  match P.underlying t with
  |some (.slice e) =>
   match Program.zeroA P e,Program.size? P e,KZ Wf parts.toList with
   |some z,some n,some ps=>if 0<n/\len*n<=2 ^ 24 then some (.bslice len z ps)else none
   |_,_,_=>none
  |_=>none
 | .load t x=>match Program.agg? P t,Program.size? P t,D7 x with|some b,some n,some x=>some (.ld b n x)|_,_,_=>none
 | .store t a x=>match Program.size? P t,D7 a,D7 x with|some n,some a,some x=>some (.st n a x)|_,_,_=>none
 | .nilCheck x=>(D7 x).map .nilck
 | .binOp op t x y _ =>
  match D7 x,D7 y with
  |some x,some y =>
   match P.underlying t,op with
   |some .bool,.eql=>some (.beq false x y)
   |some .bool,.neq=>some (.beq true x y)
   |some (.slice _),.eql=>match y with | .c (.vs true 0 [])=>some (.nileq false x)|_=>none
   |some (.slice _),.neq=>match y with | .c (.vs true 0 [])=>some (.nileq true x)|_=>none
   |_,_=>some (.bin op x y)
  |_,_=>none
 | .unOp op _ x=>(D7 x).map (.un op)
 | .convert s d x =>
  match P.underlying s,P.underlying d with
  |some (.int _),some (.int k)=>(D7 x).map (.conv k)
  |some .string,some .string=>(D7 x).map .cstr
  |some (.slice e),some .string=>match P.underlying e with|some (.int .u8)=>(D7 x).map .bstr|_=>none
  |_,_=>none
 | .makeFunc (.func f) first caps=>if first.size=0 then (KZ D7 caps.toList).map (.clos f)else none
 | .makeSlice t l c =>
  match P.underlying t with
  |some (.slice e) =>
   match P.info? e,Program.zeroA P e,D7 l,D7 c with
   |some i,some z,some l,some c=>if 0<i.size then some (.mkslice z i.bytes l c)else none
   |_,_,_,_=>none
  |_=>none
 | .slice t x lo hi mx =>
  match P.underlying t,D7 x,Ij lo,Ij hi,Ij mx with
  |some .string,some x,some lo,some hi,some none=>some (.slc 0 x lo hi none)
  |some (.slice e),some x,some lo,some hi,some mx=>match Program.size? P e with|some n=>if 0<n then some (.slc n x lo hi mx)else none|none=>none
  |_,_,_,_,_=>none
 | .fieldAddr s x i =>
  match P.underlying s,D7 x with
  |some (.struct fs),some x =>
   match fs[i]? with
   |some f=>match Program.size? P f.type with|some n=>if 0<n then some (.faddr f.offset x)else none|none=>none
   |none=>none
  |_,_=>none
 | .field s x i =>
  match P.underlying s,D7 x with
  |some (.struct fs),some x =>
   match fs[i]? with
   |some f=>match Program.agg? P f.type,Program.size? P f.type with|some b,some n=>some (.fld b f.offset n x)|_,_=>none
   |none=>none
  |_,_=>none
 | .indexAddr t x i =>
  match P.underlying t,D7 x,D7 i with
  |some (.slice e),some x,some i=>match Program.size? P e with|some n=>if 0<n then some (.iaddr n x i)else none|none=>none
  |_,_,_=>none
 | .index t x i=>match P.underlying t,D7 x,D7 i with|some .string,some x,some i=>some (.idx x i)|_,_,_=>none
 | .extract x i=>(D7 x).map λx=>.ext x i
 | .call {callee:=.builtin .len,args,argTypes} =>
  match args.toList,argTypes.toList with
  | [x],[t] =>
   match P.underlying t with
   |some .string=>(D7 x).map (.len true)
   |some (.slice _)=>(D7 x).map (.len false)
   |_=>none
  |_,_=>none
 | .call {callee:=.builtin .append,args,argTypes} =>
  match args.toList,argTypes.toList with
  | [s,x],[t,u] =>
   match P.underlying t with
   |some (.slice e) =>
    match P.info? e,Program.zeroA P e,D7 s,D7 x with
    |some i,some _,some s,some x=>if 0<i.size/\t=u then some (.app i.size i.bytes s x)else none
    |_,_,_,_=>none
   |_=>none
  |_,_=>none
 | .call {callee:=.builtin .clear,args,argTypes} =>
  match args.toList,argTypes.toList with
  | [x],[t] =>
   match P.underlying t with
   |some (.slice e)=>match Program.zeroA P e,D7 x with|some z,some x=>some (.clr z x)|_,_=>none
   |_=>none
  |_,_=>none
 | .call {callee:=.builtin .max,args,argTypes:=_} =>
  match args.toList with
  | [x,y]=>match D7 x,D7 y with|some x,some y=>some (.max x y)|_,_=>none
  |_=>none
 | .call {callee:=.value (.func f),args,argTypes:=_}=>if Program.enterable P f then (KZ D7 args.toList).map (.call f)else none
 | .call {callee:=.value (.tmp t),args,argTypes:=_}=>(KZ D7 args.toList).map (.callv (.t t))
 |_=>none
def UW (ops:List Oper):Option (Nat×Bool)->Option (Option (Nat×Bool))
 |none=>some none
 |some (j,want) =>
  match ops[j]? with
  |some o=>match o.dst with|some d=>some (some (d,want))|none=>none
  |none=>none
def aQ (P:Program) (ops:List Oper) (o:Oper):Option RO :=
 match u5 P o.op,UW ops o.guard with
 |some r,some g=>some ⟨o.dst,r,g⟩
 |_,_=>none
def Opd.slots:Opd->List Nat
 | .t n=>[n]
 | .c _=>[]
def UM:Option Opd->List Nat
 |some x=>x.slots
 |none=>[]
def ROp.slots:ROp->List Nat
 | .mov x | .box x | .ld _ _ x | .ldb _ _ x | .nilck x | .un _ x | .nileq _ x | .conv _ x | .cstr x | .bstr x | .faddr _ x | .fld _ _ _ x | .ext x _ | .len _ x=>x.slots
 | .pick c a b=>c.slots++a.slots++b.slots
 | .alloc _ | .mkmap=>[]
 | .mlook _ _ _ x k=>x.slots++k.slots
 | .mup _ x k v=>x.slots++k.slots++v.slots
 | .build _ ps=>ps.flatMap λp=>p.2.2.slots
 | .bslice _ _ ps | .bslicev _ _ ps=>ps.flatMap λp=>p.2.slots
 | .clr _ x=>x.slots
 | .mkv _ _ a x=>a.slots++x.slots
 | .st _ a x | .ste _ a x | .stb _ a x | .bin _ a x | .beq _ a x | .mkslice _ _ a x | .iaddr _ a x | .iaddrv _ a x | .idx a x | .app _ _ a x | .max a x=>a.slots++x.slots
 | .clos _ cs=>cs.flatMap Opd.slots
 | .slc _ x a b c=>x.slots++UM a++UM b++UM c
 | .call _ aas=>aas.flatMap Opd.slots
 | .callv x aas=>x.slots++aas.flatMap Opd.slots
def RO.slots (o:RO):List Nat:=o.op.slots++(match o.guard with|some (s,_)=>[s]|none=>[])
def ROp.writesB (c:Ctx):ROp->Bool
 | .box _ | .alloc _ | .st .. | .stb .. | .mkmap | .mup ..=>true
 | .callv ..=>c.rawv
 | .clos ..=>c.ro
 | .call f _=>c.raw f&&!c.noB f
 |_=>false
def ROp.writesF (c:Ctx):ROp->Bool
 | .st .. | .ste .. | .clr .. | .mkslice .. | .app ..=>true
 | .callv ..=>c.rawv
 | .call f _=>c.raw f
 |_=>false
def ROp.looksB:ROp->Bool
 | .box _ | .alloc _ | .st .. | .stb .. | .callv .. | .ld .. | .ldb .. | .call .. | .mkmap | .mlook .. | .mup .. | .bslice .. | .clos ..=>true
 |_=>false
def ROp.looksF:ROp->Bool
 | .st .. | .ste .. | .clr .. | .mkslice .. | .app .. | .callv .. | .call .. | .ld .. | .bslice .. | .slc .. | .mup .. | .bstr .. | .clos ..=>true
 |_=>false
def ROp.lax (m:Option Bool×Bool):ROp->ROp
 | .ld b n x=>.ldb b n x
 | .bslice n z ps=>.bslicev n z ps
 | .mkslice z b l q=>if m.2 then .mkv z b l q else .mkslice z b l q
 | .st n a x=>match m.1 with|none=>.st n a x|some true=>.ste n a x|some false=>.stb n a x
 |o=>o
def RO.lax (m:Option Bool×Bool) (o:RO):RO:={o with op:=o.op.lax m}
def ROp.isIA:ROp->Bool
 | .iaddr ..=>true
 |_=>false
def iY (N8:List RO):ROp->Bool
 | .st _ (.t d) _=>N8.any λp=>p.dst == some d&&p.op.isIA
 |_=>false
def Yo (k:Bool) (N8:List RO):List RO:=N8.map λo=>o.lax (some (iY N8 o.op),k)
def w6:List Oper->List Nat->List Nat
 | [],acc=>acc
 |o::rest,acc=>w6 rest (acc++[o.after.toList.foldl (λs e=>if Region.binds .any e then s ||| 2 ^ e.on ||| acc.getD e.on 0 else s) 0])
def jT (c:Ctx) (bj:Nat) (i:Nat) (oi oj:RO):Bool :=
 bj.testBit i ||
  (
   (match oi.dst with|some d=>!oj.slots.contains d&&oj.dst != some d|none=>true) &&
   (match oj.dst with|some d=>!oi.slots.contains d|none=>true) &&
   !(oi.op.writesB c&&oj.op.looksB)&&!(oi.op.looksB&&oj.op.writesB c)&&!(oi.op.writesF c&&oj.op.looksF)&&!(oi.op.looksF&&oj.op.writesF c))
def UB:List Oper->Nat->Bool
 | [],_=>true
 |o::rest,i=>o.after.toList.all (λe=>!Region.binds .any e||decide (e.on<i))&&UB rest (i+1)
def UN (c:Ctx) (bs:List Nat) (N8:List RO):Bool :=
 (A0a N8.length).all λj=>(A0a j).all λi =>
  match N8[i]?,N8[j]? with
  |some oi,some oj=>jT c (bs.getD j 0) i oi oj&&(match oi.dst,oj.dst with|some d,some e=>d != e|_,_=>true)
  |_,_=>false
def Sa (c:Ctx) (ops:List Oper) (N8:List RO):Bool:=UB ops 0&&UN c (w6 ops []) N8
def j8 (P:Program) (c:Ctx):Code->Option RCode
 | .skip=>some .skip
 | .region _ ops draw =>
  match KZ (aQ P ops.toList) ops.toList with
  |some N8 =>
   if !draw||Sa c ops.toList N8 then some (.region draw N8)
   else if Sa c ops.toList (N8.map (RO.lax (none,false)))then some (.region true (N8.map (RO.lax (none,false))))
   else if Sa c ops.toList (Yo false N8)then some (.region true (Yo false N8))
   else if Sa c ops.toList (Yo true N8)then some (.region true (Yo true N8))else some .bad
  |none=>some .bad
 | .seq a b=>match j8 P c a,j8 P c b with|some a,some b=>some (.seq a b)|_,_=>none
 | .cond q a b=>match D7 q,j8 P c a,j8 P c b with|some q,some a,some b=>some (.cond q a b)|_,_,_=>none
 | .block id a=>(j8 P c a).map (.block id)
 | .loop a=>(j8 P c a).map .loop
 | .exit id=>some (.exit id)
 | .ret=>some .ret
 |_=>some .bad
def cp (P:Program):ResultVar->Option RRes
 | .tmp t=>some (.tmp t)
 | .cell a t=>match Program.agg? P t,Program.size? P t with|some b,some n=>some (.cell a b n)|_,_=>none
def cn (P:Program) (ctx:FuncId->Ctx) (f:FuncId):Option RFunc :=
 if Program.enterable P f then
  match P.funcs[f]? with
  |some fn =>
   match fn.body with
   |some b =>
    match KZ (cp P) fn.results.toList,j8 P (ctx f) b with
    |some rs,some rb=>some ⟨fn.ntmps,rs,rb⟩
    |_,_=>none
   |none=>none
  |none=>none
 else none
def KG (w w':World) (b o:Nat):Prop:=w'.cell? ⟨b,o,none⟩=w.cell? ⟨b,o,none⟩/\∀es clk,w.heap[b]?=some (.map es clk)->w'.heap[b]?=some (.map es clk)
theorem KG.refl (w:World) (b o:Nat):KG w w b o:=⟨rfl,λ_ _ h=>h⟩
theorem KG.trans {w w' w'':World} {b o:Nat} (h:KG w w' b o) (k:KG w' w'' b o):KG w w'' b o:=⟨k.1.trans h.1,λes clk e=>k.2 es clk (h.2 es clk e)⟩
mutual
def PV (w:World) (ok:Nat->Nat->Prop):AV->Value->Prop
 | .junk,v=>v.oneCell'=true
 | .bool b,v=>v=.bool b
 | .int k n,v=>v=.int k n
 | .str s,v=>v=.string s
 | .agg cs,v=>∃us:Array Value,v=.agg us/\(∀u∈us.toList,u.oneCell'=true)/\Dg w ok cs us.toList
 | .tup cs,v=>∃us:Array Value,v=.tuple us/\Dg w ok cs us.toList
 | .vs full sz xs,v=>∃a len cap,v=.slice a len cap/\len=xs.length/\len<=cap/\cap<=maxLen/\(full=true->cap=len)/\((a=none->cap=0)/\(a=none↔sz=0))/\(xs≠[]->∃b o,a=some ⟨b,o,none⟩/\0<sz/\Sl w ok sz b o xs)
 | .pv cs,v=>∃b o,v=.pointer (some ⟨b,o,none⟩)/\Hf w ok b o cs
 | .nilp,v=>v=.pointer none
 | .fn f caps,v=>∃us:Array Value,v=.func (.func f) #[] us/\Dg w ok caps us.toList
 | .nilf,v=>v=.nilFunc
 | .sl ..,_=>False
 | .ep ..,_=>False
 | .ptr ..,_=>False
 | .mp _,_=>False
 | .mbox ..,_=>False
 | .rbox _,_=>False
 | .nilm,v=>v=.map none
 | .vm ks vs,v=>∃b es clk,v=.map (some b)/\ok b 0/\w.heap[b]?=some (.map es clk)/\Dg w ok ks (es.toList.map (·.key))/\Dg w ok vs (es.toList.map (·.val))
def Dg (w:World) (ok:Nat->Nat->Prop):List AV->List Value->Prop
 | [],us=>us=[]
 |c::cs,us=>∃u us',us=u::us'/\PV w ok c u/\Dg w ok cs us'
def Hf (w:World) (ok:Nat->Nat->Prop) (b o:Nat):List AV->Prop
 | []=>True
 |c::cs=>(∃u,ok b o/\w.cell? ⟨b,o,none⟩=some u/\u.oneCell'=true/\PV w ok c u)/\Hf w ok b (o+1) cs
def Sl (w:World) (ok:Nat->Nat->Prop) (sz b o:Nat):List AV->Prop
 | []=>True
 | .agg cs::xs=>cs.length=sz/\Hf w ok b o cs/\Sl w ok sz b (o+sz) xs
 |x::xs=>sz=1/\(∃u,ok b o/\w.cell? ⟨b,o,none⟩=some u/\u.oneCell'=true/\PV w ok x u)/\Sl w ok sz b (o+sz) xs
end
def dS (w:World) (ok:Nat->Nat->Prop) (sz b o:Nat) (x:AV):Prop:=x.cells.length=sz/\Hf w ok b o x.cells
theorem Un {w:World} {ok:Nat->Nat->Prop} {sz b o:Nat} {x:AV} {xs:G3} :
  Sl w ok sz b o (x::xs)↔dS w ok sz b o x/\Sl w ok sz b (o+sz) xs:=by
 cases x with
 |agg cs=>simp only[Sl,dS,AV.cells,and_assoc]
 |_ =>
  simp only[Sl,dS,AV.cells,Hf,and_true,List.length_cons,List.length_nil,Nat.zero_add];exact⟨λh=>⟨⟨h.1.symm,h.2.1⟩,h.2.2⟩,λh=>⟨h.1.1.symm,h.1.2,h.2⟩⟩
theorem Qr {w:World} {ok:Nat->Nat->Prop} {sz b:Nat} {xs:G3}:∀{o:Nat},Sl w ok sz b o xs->∀{j:Nat} {x:AV},xs[j]?=some x->dS w ok sz b (o+j*sz) x:=by
 induction xs with
 |nil=>intro o _ j x h;simp at h
 |cons y ys ih =>
  intro o h j x hj;rw[Un]at h;cases j with
  |zero=>simp at hj;subst hj;simpa using h.1
  |succ j =>
   have:=ih h.2 (j:=j) (x:=x) (by simpa using hj)
   rwa [show o+sz+j*sz=o+(j+1)*sz from by rw[A0Z];omega]at this
theorem WP {w:World} {ok:Nat->Nat->Prop} {sz b:Nat} {xs:G3}:∀{o:Nat},(∀j x,xs[j]?=some x->dS w ok sz b (o+j*sz) x)->Sl w ok sz b o xs:=by
 induction xs with
 |nil=>intro o _;simp[Sl]
 |cons y ys ih =>
  intro o h;rw[Un];refine⟨by simpa using h 0 y rfl,ih λj x hj=>?_⟩;have:=h (j+1) x (by simpa using hj)
  rwa [show o+(j+1)*sz=o+sz+j*sz from by rw[A0Z];omega]at this
theorem KT {w:World} {ok:Nat->Nat->Prop} {b:Nat} {cs:G3}:∀{o:Nat},Hf w ok b o cs->∀{j:Nat} {c:AV},cs[j]?=some c ->
  ∃u,ok b (o+j)/\w.cell? ⟨b,o+j,none⟩=some u/\u.oneCell'=true/\PV w ok c u:=by
 induction cs with
 |nil=>intro o _ j c h;simp at h
 |cons y ys ih =>
  intro o h j c hj;simp only[Hf]at h;cases j with
  |zero=>simp at hj;subst hj;simpa using h.1
  |succ j =>
   have:=ih h.2 (j:=j) (c:=c) (by simpa using hj)
   rwa [show o+1+j=o+(j+1) from by omega]at this
theorem PC {w:World} {ok:Nat->Nat->Prop} {b:Nat} {cs:G3}:∀{o:Nat},(∀j c,cs[j]?=some c->∃u,ok b (o+j)/\w.cell? ⟨b,o+j,none⟩=some u/\u.oneCell'=true/\PV w ok c u)->Hf w ok b o cs:=by
 induction cs with
 |nil=>intro o _;simp[Hf]
 |cons y ys ih =>
  intro o h;simp only[Hf];refine⟨by simpa using h 0 y rfl,ih λj c hj=>?_⟩;have:=h (j+1) c (by simpa using hj)
  rwa [show o+(j+1)=o+1+j from by omega]at this
theorem JL {w:World} {ok:Nat->Nat->Prop} {cs:G3}:∀{us:List Value},Dg w ok cs us->us.length=cs.length/\∀{j:Nat} {c:AV},cs[j]?=some c->∃u,us[j]?=some u/\PV w ok c u:=by
 induction cs with
 |nil=>intro us h;simp[Dg]at h;subst h;simp
 |cons y ys ih =>
  intro us h;simp only[Dg]at h;obtain⟨u,us',rfl,h1,h2⟩:=h;obtain⟨hl,hg⟩:=ih h2;refine⟨by simp[hl],λ{j c} hj=>?_⟩;cases j with
  |zero=>simp at hj;subst hj;exact⟨u,rfl,h1⟩
  |succ j=>simpa using hg (j:=j) (c:=c) (by simpa using hj)
theorem Up {w:World} {ok:Nat->Nat->Prop} {cs:G3}:∀{us:List Value},us.length=cs.length->(∀(j:Nat) (c:AV) (u:Value),cs[j]?=some c->us[j]?=some u->PV w ok c u)->Dg w ok cs us:=by
 induction cs with
 |nil=>intro us hl _;simp[Dg];simpa using hl
 |cons y ys ih =>
  intro us hl h;cases us with
  |nil=>simp at hl
  |cons u us' =>
   simp only[Dg];exact⟨u,us',rfl,h 0 y u rfl rfl,ih (by simpa using hl) λj c v hc hv=>h (j+1) c v (by simpa using hc) (by simpa using hv)⟩
mutual
theorem Dq {w w':World} {ok ok':Nat->Nat->Prop} (h:∀b o,ok b o->ok' b o/\KG w w' b o):∀(x:AV) (v:Value),PV w ok x v->PV w' ok' x v
 | .junk,v,hx=>by simpa[PV]using hx
 | .bool b,v,hx=>by simpa[PV]using hx
 | .int k n,v,hx=>by simpa[PV]using hx
 | .str s,v,hx=>by simpa[PV]using hx
 | .agg cs,v,hx=>by
  simp only[PV]at hx ⊢;obtain⟨us,rfl,h1,hu⟩:=hx;exact⟨us,rfl,h1,d6 h cs us.toList hu⟩
 | .tup cs,v,hx=>by
  simp only[PV]at hx ⊢;obtain⟨us,rfl,hu⟩:=hx;exact⟨us,rfl,d6 h cs us.toList hu⟩
 | .vs full sz xs,v,hx=>by
  simp only[PV]at hx ⊢;obtain⟨a,len,cap,rfl,h1,h2,h3,h4,h5,h6⟩:=hx;refine⟨a,len,cap,rfl,h1,h2,h3,h4,h5,λP0=>?_⟩;obtain⟨b,o,ha,hs,he⟩:=h6 P0;exact⟨b,o,ha,hs,Uo h sz b o xs he⟩
 | .pv cs,v,hx=>by
  simp only[PV]at hx ⊢;obtain⟨b,o,rfl,hc⟩:=hx;exact⟨b,o,rfl,Nz h b o cs hc⟩
 | .nilp,v,hx=>by simpa[PV]using hx
 | .fn f caps,v,hx=>by
  simp only[PV]at hx ⊢;obtain⟨us,rfl,hu⟩:=hx;exact⟨us,rfl,d6 h caps us.toList hu⟩
 | .nilf,v,hx=>by simpa[PV]using hx
 | .sl ..,_,hx=>by simp[PV]at hx
 | .ep ..,_,hx=>by simp[PV]at hx
 | .ptr ..,_,hx=>by simp[PV]at hx
 | .mp _,_,hx=>by simp[PV]at hx
 | .mbox ..,_,hx=>by simp[PV]at hx
 | .rbox _,_,hx=>by simp[PV]at hx
 | .nilm,v,hx=>by simpa[PV]using hx
 | .vm ks vs,v,hx=>by
  simp only[PV]at hx ⊢;obtain⟨b,es,clk,rfl,h1,h2,h3,h4⟩:=hx;exact⟨b,es,clk,rfl,(h b 0 h1).1,(h b 0 h1).2.2 es clk h2,d6 h ks _ h3,d6 h vs _ h4⟩
theorem d6 {w w':World} {ok ok':Nat->Nat->Prop} (h:∀b o,ok b o->ok' b o/\KG w w' b o):∀(cs:G3) (us:List Value),Dg w ok cs us->Dg w' ok' cs us
 | [],us,hx=>by simpa[Dg]using hx
 |c::cs,us,hx=>by
  simp only[Dg]at hx ⊢;obtain⟨u,us',rfl,h1,h2⟩:=hx;exact⟨u,us',rfl,Dq h c u h1,d6 h cs us' h2⟩
theorem Nz {w w':World} {ok ok':Nat->Nat->Prop} (h:∀b o,ok b o->ok' b o/\KG w w' b o) (b o:Nat):∀(cs:G3),Hf w ok b o cs->Hf w' ok' b o cs
 | [],_=>by simp[Hf]
 |c::cs,hx=>by
  simp only[Hf]at hx ⊢;obtain⟨⟨u,h1,h2,h3,h4⟩,h5⟩:=hx;exact⟨⟨u,(h b o h1).1,by rw[(h b o h1).2.1];exact h2,h3,Dq h c u h4⟩,Nz h b (o+1) cs h5⟩
theorem Uo {w w':World} {ok ok':Nat->Nat->Prop} (h:∀b o,ok b o->ok' b o/\KG w w' b o) (sz b o:Nat):∀(xs:G3),Sl w ok sz b o xs->Sl w' ok' sz b o xs
 | [],_=>by simp[Sl]
 | .agg cs::xs,hx=>by
  simp only[Sl]at hx ⊢;exact⟨hx.1,Nz h b o cs hx.2.1,Uo h sz b (o+sz) xs hx.2.2⟩
 |x::xs,hx=>by
  rw[Un]at hx ⊢;refine⟨?_,Uo h sz b (o+sz) xs hx.2⟩;cases x with
  |agg cs=>exact⟨hx.1.1,Nz h b o cs hx.1.2⟩
  |_ =>
   refine⟨hx.1.1,?_⟩;have hc:=hx.1.2;simp only[AV.cells,Hf]at hc ⊢;obtain⟨⟨u,h1,h2,h3,h4⟩,h5⟩:=hc;exact⟨⟨u,(h b o h1).1,by rw[(h b o h1).2.1];exact h2,h3,Dq h _ u h4⟩,trivial⟩
end
structure Img where
 b:Nat
 o:Nat
 cap:Nat
 lo:Nat
structure Env where
 w:World
 base:Nat
 ok0:Nat->Nat->Prop
 nb:Nat->Nat
 im:Nat->Img
 h:AH
def Env.ok (E:Env) (b o:Nat):Prop :=
 (b<E.base/\E.ok0 b o) \/
 (E.base<=b/\b<E.w.heap.size/\(∀i,i<E.h.boxes.length->E.nb i=b->∃cs,E.h.boxes[i]?=some [.rbox cs]) /\
  ∀k f,E.h.fams[k]?=some f->(E.im k).b=b->f.wr=false/\o<(E.im k).o+(f.xs.length-(E.im k).lo)*f.sz)
mutual
def VR (E:Env):AV->Value->Prop
 | .agg cs,v=>∃us:Array Value,v=.agg us/\(∀u∈us.toList,u.oneCell'=true)/\Be E cs us.toList
 | .tup cs,v=>∃us:Array Value,v=.tuple us/\Be E cs us.toList
 | .fn f caps,v=>∃us:Array Value,v=.func (.func f) #[] us/\Be E caps us.toList
 | .sl k n off len,v=>∃a cap f,v=.slice a len cap/\E.h.fams[k]?=some f/\(n<=f.xs.length/\(len≠0->∃b o,a=some ⟨b,o,none⟩))/\(f.xs.length=n ->
   (E.im k).lo<=off/\off+len<=n/\cap+(off-(E.im k).lo)=(E.im k).cap/\a≠none /\
   (cap≠0->a=some ⟨(E.im k).b,(E.im k).o+(off-(E.im k).lo)*f.sz,none⟩))
 | .ep k n i c sz,v=>∃b o f,v=.pointer (some ⟨b,o,none⟩)/\E.h.fams[k]?=some f/\n<=f.xs.length/\(f.xs.length=n/\f.sz=sz ->
   (E.im k).lo<=i/\(⟨b,o,none⟩:Addr)=⟨(E.im k).b,(E.im k).o+(i-(E.im k).lo)*f.sz+c,none⟩)
 | .ptr b off,v=>b<E.h.boxes.length/\v=.pointer (some ⟨E.nb b,off,none⟩)
 | .mp b,v=>b<E.h.boxes.length/\v=.map (some (E.nb b))
 | .mbox ..,_=>False
 | .rbox _,_=>False
 | .nilm,v=>v=.map none
 | .vm ks vs,v=>PV E.w E.ok (.vm ks vs) v
 | .junk,v=>v.oneCell'=true
 | .bool b,v=>v=.bool b
 | .int k n,v=>v=.int k n
 | .str s,v=>v=.string s
 | .vs full sz xs,v=>PV E.w E.ok (.vs full sz xs) v
 | .pv cs,v=>PV E.w E.ok (.pv cs) v
 | .nilp,v=>v=.pointer none
 | .nilf,v=>v=.nilFunc
def Be (E:Env):List AV->List Value->Prop
 | [],us=>us=[]
 |c::cs,us=>∃u us',us=u::us'/\VR E c u/\Be E cs us'
end
theorem IW {E:Env} {cs:G3}:∀{us:List Value},Be E cs us->us.length=cs.length/\∀{j:Nat} {c:AV},cs[j]?=some c->∃u,us[j]?=some u/\VR E c u:=by
 induction cs with
 |nil=>intro us h;simp[Be]at h;subst h;simp
 |cons y ys ih =>
  intro us h;simp only[Be]at h;obtain⟨u,us',rfl,h1,h2⟩:=h;obtain⟨hl,hg⟩:=ih h2;refine⟨by simp[hl],λ{j c} hj=>?_⟩;cases j with
  |zero=>simp at hj;subst hj;exact⟨u,rfl,h1⟩
  |succ j=>simpa using hg (j:=j) (c:=c) (by simpa using hj)
theorem Ut {E:Env} {cs:G3}:∀{us:List Value},us.length=cs.length->(∀(j:Nat) (c:AV) (u:Value),cs[j]?=some c->us[j]?=some u->VR E c u)->Be E cs us:=by
 induction cs with
 |nil=>intro us hl _;simp[Be];simpa using hl
 |cons y ys ih =>
  intro us hl h;cases us with
  |nil=>simp at hl
  |cons u us' =>
   simp only[Be];exact⟨u,us',rfl,h 0 y u rfl rfl,ih (by simpa using hl) λj c v hc hv=>h (j+1) c v (by simpa using hc) (by simpa using hv)⟩
mutual
theorem FN {E:Env}:∀(x:AV) (v:Value),PV E.w E.ok x v->VR E x v
 | .junk,v,hx=>by simpa[VR,PV]using hx
 | .bool b,v,hx=>by simpa[PV,VR]using hx
 | .int k n,v,hx=>by simpa[PV,VR]using hx
 | .str s,v,hx=>by simpa[PV,VR]using hx
 | .agg cs,v,hx=>by
  simp only[PV,VR]at hx ⊢;obtain⟨us,rfl,h1,hu⟩:=hx;exact⟨us,rfl,h1,Mm cs us.toList hu⟩
 | .tup cs,v,hx=>by
  simp only[PV,VR]at hx ⊢;obtain⟨us,rfl,hu⟩:=hx;exact⟨us,rfl,Mm cs us.toList hu⟩
 | .vs full sz xs,v,hx=>by simp only[VR];exact hx
 | .pv cs,v,hx=>by simp only[VR];exact hx
 | .nilp,v,hx=>by simpa[PV,VR]using hx
 | .fn f caps,v,hx=>by
  simp only[PV,VR]at hx ⊢;obtain⟨us,rfl,hu⟩:=hx;exact⟨us,rfl,Mm caps us.toList hu⟩
 | .nilf,v,hx=>by simpa[PV,VR]using hx
 | .sl ..,_,hx=>by simp[PV]at hx
 | .ep ..,_,hx=>by simp[PV]at hx
 | .ptr ..,_,hx=>by simp[PV]at hx
 | .mp _,_,hx=>by simp[PV]at hx
 | .mbox ..,_,hx=>by simp[PV]at hx
 | .rbox _,_,hx=>by simp[PV]at hx
 | .nilm,v,hx=>by simpa[PV,VR]using hx
 | .vm ks vs,v,hx=>by simp only[VR];exact hx
theorem Mm {E:Env}:∀(cs:G3) (us:List Value),Dg E.w E.ok cs us->Be E cs us
 | [],us,hx=>by simpa[Dg,Be]using hx
 |c::cs,us,hx=>by
  simp only[Dg,Be]at hx ⊢;obtain⟨u,us',rfl,h1,h2⟩:=hx;exact⟨u,us',rfl,FN c u h1,Mm cs us' h2⟩
end
structure Bl (B:Nat) (w w':World):Prop where
 below:Go.RowKit.Below B w w'
 drawn:w.drawn<=w'.drawn
theorem Bl.refl (B:Nat) (w:World):Bl B w w:=⟨Go.RowKit.Below.refl _ _,A0R _⟩
theorem Bl.trans {B:Nat} {a b c:World} (h:Bl B a b) (k:Bl B b c):Bl B a c:=⟨h.below.trans k.below,A0X h.drawn k.drawn⟩
theorem Bl.size {B:Nat} {w w':World} (h:Bl B w w'):w.heap.size<=w'.heap.size:=h.below.size
theorem Bl.block {B:Nat} {w w':World} (h:Bl B w w'):∀k,k<B->w'.heap[k]?=w.heap[k]?:=h.below.block
theorem Bl.mono {B B':Nat} {w w':World} (h:Bl B w w') (hB:B'<=B):Bl B' w w':=⟨h.below.mono hB,h.drawn⟩
structure Ext (E E':Env):Prop where
 cells:∀b o,E.ok b o->E'.ok b o/\KG E.w E'.w b o
 boxes:E.h.boxes.length<=E'.h.boxes.length
 nb:∀i,i<E.h.boxes.length->E'.nb i=E.nb i
 fams:E.h.fams.length<=E'.h.fams.length
 im:∀k f f',E.h.fams[k]?=some f->E'.h.fams[k]?=some f'->f'.sz=f.sz/\f.xs.length<=f'.xs.length/\(f'.xs.length=f.xs.length->E'.im k=E.im k)
 base:E'.base=E.base
 ok0:E'.ok0=E.ok0
 below:Bl E.base E.w E'.w
theorem Ext.refl (E:Env):Ext E E :=
 ⟨λ_ _ h=>⟨h,KG.refl _ _ _⟩,A0R _,λ_ _=>rfl,A0R _,λk f f' h h'=>by rw[h]at h';cases h';exact⟨rfl,A0R _,λ_=>rfl⟩,rfl,rfl,Bl.refl _ _⟩
theorem Ext.trans {E E' E'':Env} (h:Ext E E') (k:Ext E' E''):Ext E E'':=by
 refine⟨λb o ho=>?_,A0X h.boxes k.boxes,λi hi=>(k.nb i (A0U hi h.boxes)).trans (h.nb i hi),A0X h.fams k.fams,λj f f'' hf hf''=>?_,k.base.trans h.base,k.ok0.trans h.ok0,?_⟩
 .obtain⟨h1,h2⟩:=h.cells b o ho;obtain⟨h3,h4⟩:=k.cells b o h1;exact⟨h3,h2.trans h4⟩
 .have A7:j<E'.h.fams.length:=A0U (A0Q.1 hf).1 h.fams;obtain⟨a1,a2,a3⟩:=h.im j f _ hf (A0T A7);obtain⟨b1,b2,b3⟩:=k.im j _ f'' (A0T A7) hf'';refine⟨b1.trans a1,A0X a2 b2,λhe=>?_⟩;rw[b3 (by omega),a3 (by omega)]
 .have hk:=k.below;rw[h.base]at hk;exact h.below.trans hk
mutual
theorem ay {E E':Env} (h:Ext E E'):∀(x:AV) (v:Value),VR E x v->VR E' x v
 | .junk,v,hx=>by simpa[VR]using hx
 | .bool b,v,hx=>by simpa[VR]using hx
 | .int k n,v,hx=>by simpa[VR]using hx
 | .str s,v,hx=>by simpa[VR]using hx
 | .agg cs,v,hx=>by
  simp only[VR]at hx ⊢;obtain⟨us,rfl,h1,hu⟩:=hx;exact⟨us,rfl,h1,OB h cs us.toList hu⟩
 | .tup cs,v,hx=>by
  simp only[VR]at hx ⊢;obtain⟨us,rfl,hu⟩:=hx;exact⟨us,rfl,OB h cs us.toList hu⟩
 | .vs full sz xs,v,hx=>by
  simp only[VR]at hx ⊢;exact Dq h.cells _ _ hx
 | .pv cs,v,hx=>by
  simp only[VR]at hx ⊢;exact Dq h.cells _ _ hx
 | .nilp,v,hx=>by simpa[VR]using hx
 | .fn f caps,v,hx=>by
  simp only[VR]at hx ⊢;obtain⟨us,rfl,hu⟩:=hx;exact⟨us,rfl,OB h caps us.toList hu⟩
 | .nilf,v,hx=>by simpa[VR]using hx
 | .sl k n off len,v,hx=>by
  simp only[VR]at hx ⊢;obtain⟨a,cap,f,rfl,hf,hn,hc⟩:=hx;have A7:k<E'.h.fams.length:=A0U (A0Q.1 hf).1 h.fams;obtain⟨h1,h2,h3⟩:=h.im k f _ hf (A0T A7);refine⟨a,cap,_,rfl,A0T A7,⟨by omega,hn.2⟩,λhe=>?_⟩;rw[h3 (by omega),h1];exact hc (by omega)
 | .ep k n i c sz,v,hx=>by
  simp only[VR]at hx ⊢;obtain⟨b,o,f,rfl,hf,hn,hc⟩:=hx;have A7:k<E'.h.fams.length:=A0U (A0Q.1 hf).1 h.fams;obtain⟨h1,h2,h3⟩:=h.im k f _ hf (A0T A7);refine⟨b,o,_,rfl,A0T A7,by omega,λhe=>?_⟩;rw[h3 (by omega),h1];exact hc ⟨by omega,by rw[←h1];exact he.2⟩
 | .ptr b off,v,hx=>by
  simp only[VR]at hx ⊢;exact⟨A0U hx.1 h.boxes,by rw[h.nb b hx.1];exact hx.2⟩
 | .mp b,v,hx=>by
  simp only[VR]at hx ⊢;exact⟨A0U hx.1 h.boxes,by rw[h.nb b hx.1];exact hx.2⟩
 | .mbox ..,_,hx=>by simp[VR]at hx
 | .rbox _,_,hx=>by simp[VR]at hx
 | .nilm,v,hx=>by simpa[VR]using hx
 | .vm ks vs,v,hx=>by
  simp only[VR]at hx ⊢;exact Dq h.cells _ _ hx
theorem OB {E E':Env} (h:Ext E E'):∀(cs:G3) (us:List Value),Be E cs us->Be E' cs us
 | [],us,hx=>by simpa[Be]using hx
 |c::cs,us,hx=>by
  simp only[Be]at hx ⊢;obtain⟨u,us',rfl,h1,h2⟩:=hx;exact⟨u,us',rfl,ay h c u h1,OB h cs us' h2⟩
end
end Go.Abs
namespace Go.Abs
open Go.RowKit (Below)
def Nt (E:Env) (cur:Array Value) (p sz:Nat) (x:AV):Prop :=
 x.cells.length=sz/\∀(c:Nat) (y:AV),x.cells[c]?=some y->∃v,cur[p+c]?=some v/\v.oneCell'=true/\PV E.w E.ok y v
structure FamR (E:Env) (k:Nat) (f:Fam):Prop where
 base:E.base<=(E.im k).b
 sz:0<f.sz
 lo:(E.im k).lo<=f.xs.length
 room:f.xs.length<=(E.im k).lo+(E.im k).cap
 cap:(E.im k).cap<=maxLen
 cells:∃cur t,E.w.heap[(E.im k).b]?=some (.cells cur t (0,0))/\(E.im k).o+(E.im k).cap*f.sz<=cur.size /\
  ∀(i:Nat) (x:AV),(E.im k).lo<=i->f.xs[i]?=some x->Nt E cur ((E.im k).o+(i-(E.im k).lo)*f.sz) f.sz x
def wz (E:Env) (i:Nat) (cs:List AV):Prop:=∃cur t,E.w.heap[E.nb i]?=some (.cells cur t (0,0))/\Be E cs cur.toList/\∀v∈cur.toList,v.oneCell'=true
def wy (E:Env) (i:Nat) (cs:List AV):Prop:=∃ks vs es clk,cs=[.mbox ks vs]/\E.w.heap[E.nb i]?=some (.map es clk)/\Dg E.w E.ok ks (es.toList.map (·.key))/\Dg E.w E.ok vs (es.toList.map (·.val))
def zn (E:Env) (i:Nat) (cs:List AV):Prop:=∃ys cur t,cs=[.rbox ys]/\E.w.heap[E.nb i]?=some (.cells cur t (0,0))/\Dg E.w E.ok ys cur.toList/\∀v∈cur.toList,v.oneCell'=true
def dI (E:Env) (i:Nat) (cs:List AV):Prop:=E.base<=E.nb i/\(wz E i cs\/wy E i cs\/zn E i cs)
theorem dI.row {E:Env} {i:Nat} {cs:G3} (h:dI E i cs) (hm:Es cs=false):∃cur t,E.w.heap[E.nb i]?=some (.cells cur t (0,0))/\Be E cs cur.toList/\∀v∈cur.toList,v.oneCell'=true:=by
 rcases h.2 with h|⟨ks,vs,es,clk,rfl,_⟩|⟨ys,cur,t,rfl,_⟩
 .exact h
 .simp[Es]at hm
 .simp[Es]at hm
theorem dI.map {E:Env} {i:Nat} {ks vs:G3} (h:dI E i [.mbox ks vs]):∃es clk,E.w.heap[E.nb i]?=some (.map es clk)/\Dg E.w E.ok ks (es.toList.map (·.key))/\Dg E.w E.ok vs (es.toList.map (·.val)):=by
 rcases h.2 with ⟨cur,t,_,h,_⟩|⟨ks',vs',es,clk,e,h1,h2,h3⟩|⟨ys,cur,t,e,_⟩
 .simp[Be,VR]at h
 .cases e;exact⟨es,clk,h1,h2,h3⟩
 .cases e
structure SR (E:Env):Prop where
 basele:E.base<=E.w.heap.size
 boxes:∀(i:Nat) (cs:List AV),E.h.boxes[i]?=some cs->dI E i cs
 fams:∀(k:Nat) (f:Fam),E.h.fams[k]?=some f->FamR E k f
 inj:∀i j,i<E.h.boxes.length->j<E.h.boxes.length->E.nb i=E.nb j->i=j
 injf:∀k j,k<E.h.fams.length->j<E.h.fams.length->(E.im k).b=(E.im j).b->k=j
 sep:∀i k,i<E.h.boxes.length->k<E.h.fams.length->E.nb i≠(E.im k).b
section
variable {E:Env}
theorem WX {w:World} {b:Nat} {o:Obj} (h:w.heap[b]?=some o):b<w.heap.size:=(Array.getElem?_eq_some_iff.1 h).1
theorem SR.nb_lt (h:SR E) {i:Nat} (hi:i<E.h.boxes.length):E.base<=E.nb i/\E.nb i<E.w.heap.size:=by
 obtain⟨h1,⟨cur,t,h2,_⟩|⟨ks,vs,es,clk,_,h2,_⟩|⟨ys,cur,t,_,h2,_⟩⟩:=h.boxes i _ (A0T hi)
 .exact⟨h1,WX h2⟩
 .exact⟨h1,WX h2⟩
 .exact⟨h1,WX h2⟩
theorem SR.im_lt (h:SR E) {k:Nat} (hk:k<E.h.fams.length):E.base<=(E.im k).b/\(E.im k).b<E.w.heap.size:=by
 have hf:=h.fams k _ (A0T hk);obtain⟨cur,t,h2,_⟩:=hf.cells;exact⟨hf.base,WX h2⟩
theorem UL (h:SR E) {b o:Nat} (hb:E.ok b o):b<E.w.heap.size:=by
 rcases hb with ⟨hb,_⟩|⟨_,hb,_⟩
 .exact A0U hb h.basele
 .exact hb
theorem LH {w w':World} {b o:Nat} (h:w'.heap[b]?=w.heap[b]?):KG w w' b o:=⟨World.cell?_of_block (a:=⟨b,o,none⟩) h,λ_ _ e=>by rw[h];exact e⟩
theorem dI.ext {E':Env} (h:Ext E E') {i:Nat} {cs:G3} (hi:i<E.h.boxes.length) (hb:E'.w.heap[E.nb i]?=E.w.heap[E.nb i]?) (hx:dI E i cs):dI E' i cs:=by
 obtain⟨h1,⟨cur,t,h2,h3,h4⟩|⟨ks,vs,es,clk,e,h2,h3,h4⟩|⟨ys,cur,t,e,h2,h3,h4⟩⟩:=hx
 .exact⟨by rw[h.base,h.nb i hi];exact h1,.inl ⟨cur,t,by rw[h.nb i hi,hb];exact h2,OB h _ _ h3,h4⟩⟩
 .exact⟨by rw[h.base,h.nb i hi];exact h1,.inr (.inl ⟨ks,vs,es,clk,e,by rw[h.nb i hi,hb];exact h2,d6 h.cells _ _ h3,d6 h.cells _ _ h4⟩)⟩
 .exact⟨by rw[h.base,h.nb i hi];exact h1,.inr (.inr ⟨ys,cur,t,e,by rw[h.nb i hi,hb];exact h2,d6 h.cells _ _ h3,h4⟩)⟩
theorem Nt.ext {E':Env} (h:Ext E E') {cur:Array Value} {p sz:Nat} {x:AV} (hx:Nt E cur p sz x):Nt E' cur p sz x :=
 ⟨hx.1,λc y hc=>by obtain⟨v,h1,h2,h3⟩:=hx.2 c y hc;exact⟨v,h1,h2,Dq h.cells _ _ h3⟩⟩
theorem FamR.ext {E':Env} (h:Ext E E') {k:Nat} {f:Fam} (him:E'.im k=E.im k) (hb:E'.w.heap[(E.im k).b]?=E.w.heap[(E.im k).b]?) (hx:FamR E k f):FamR E' k f:=by
 obtain⟨cur,t,h1,h2,h3⟩:=hx.cells;refine⟨by rw[h.base,him];exact hx.base,hx.sz,by rw[him];exact hx.lo,by rw[him];exact hx.room,by rw[him];exact hx.cap,cur,t,by rw[him,hb];exact h1,by rw[him];exact h2,?_⟩;rw[him];exact λi x hi hx'=>(h3 i x hi hx').ext h
theorem Bk (h:SR E) {w':World} (hb:Bl E.w.heap.size E.w w'):Ext E {E with w:=w'}:=by
 refine⟨λb o ho=>?_,A0R _,λ_ _=>rfl,A0R _,λk f f' hf hf'=>?_,rfl,rfl,hb.mono h.basele⟩
 .have A7:=UL h ho;refine⟨?_,LH (hb.block b A7)⟩;rcases ho with ho|⟨h1,_,h3,h4⟩
  .exact .inl ho
  .exact .inr ⟨h1,A0U A7 hb.size,h3,h4⟩
 .have:f=f':=by have:=hf.symm.trans hf';simpa using this
  subst this;exact⟨rfl,A0R _,λ_=>rfl⟩
theorem HG (h:SR E) {w':World} (hb:Bl E.w.heap.size E.w w'):SR {E with w:=w'}:=by
 have hx:=Bk h hb;refine⟨A0X h.basele hb.size,λi cs hi=>?_,λk f hk=>?_,h.inj,h.injf,h.sep⟩
 .have Cw:=(A0Q.1 hi).1;exact(h.boxes i cs hi).ext hx Cw (hb.block _ (h.nb_lt Cw).2)
 .have Dt:=(A0Q.1 hk).1;exact(h.fams k f hk).ext hx rfl (hb.block _ (h.im_lt Dt).2)
def wm {α:Type} (f:Nat->α) (n:Nat) (x:α):Nat->α:=λi=>if i=n then x else f i
theorem u6 {α:Type} (f:Nat->α) (n:Nat) (x:α):wm f n x n=x:=by simp[wm]
theorem CW {α:Type} (f:Nat->α) {n i:Nat} (x:α) (h:i≠n):wm f n x i=f i:=by simp[wm,h]
def Env.newBox (E:Env) (us:Array Value) (t:TypeId) (cs:List AV):Env :=
 {E with w:=E.w.alloc (.cells us t),nb:=wm E.nb E.h.boxes.length E.w.heap.size,h:={E.h with boxes:=E.h.boxes++[cs]}}
theorem Tc (h:SR E) (us:Array Value) (t:TypeId) (cs:G3):Ext E (E.newBox us t cs):=by
 refine⟨λb o ho=>?_,by simp[Env.newBox],λi hi=>CW _ _ (by omega),A0R _,λk f f' hf hf'=>?_,rfl,rfl,⟨(Below.refl _ _).alloc h.basele _,A0R _⟩⟩
 .have A7:=UL h ho;refine⟨?_,LH (Below.heap_alloc _ _ _ A7)⟩;rcases ho with ho|⟨h1,_,h3,h4⟩
  .exact .inl ho
  .refine .inr ⟨h1,by simp[Env.newBox];omega,λi hi=>?_,h4⟩;by_cases hn:i=E.h.boxes.length
   .subst hn;simp only[Env.newBox,u6];intro e;omega
   .have Cw:i<E.h.boxes.length:=by simp[Env.newBox]at hi;omega
    simp only[Env.newBox,CW _ _ hn];intro e;obtain⟨cs',hcs'⟩:=h3 i Cw e;exact⟨cs',by rw[A0V Cw];exact hcs'⟩
 .have:f=f':=by have:=hf.symm.trans hf';simpa using this
  subst this;exact⟨rfl,A0R _,λ_=>rfl⟩
theorem Zu (h:SR E) {us:Array Value} {t:TypeId} {cs:G3} (hv:Be E cs us.toList) (h1:∀v∈us.toList,v.oneCell'=true):SR (E.newBox us t cs):=by
 have hx:=Tc h us t cs;have B8:(E.newBox us t cs).h.boxes.length=E.h.boxes.length+1:=by simp[Env.newBox]
 have hnb:∀i,i<E.h.boxes.length->(E.newBox us t cs).nb i=E.nb i:=λi hi=>CW _ _ (by omega);have Cy:(E.newBox us t cs).nb E.h.boxes.length=E.w.heap.size:=u6 _ _ _;refine⟨A0X h.basele (by simp[Env.newBox]),λi cs' hi=>?_,λk f hk=>?_,λi j hi hj he=>?_,h.injf,λi k hi hk=>?_⟩
 .by_cases hn:i=E.h.boxes.length
  .subst hn;have:cs'=cs:=by simpa[Env.newBox]using hi.symm
   subst this;exact⟨by rw[Cy];exact h.basele,.inl ⟨us,t,by rw[Cy];exact heap_alloc_new _ _,OB hx _ _ hv,h1⟩⟩
  .have Cw:i<E.h.boxes.length:=by have:=(A0Q.1 hi).1;omega
   have Lq:E.h.boxes[i]?=some cs':=by
    simp only[Env.newBox]at hi
    rwa [A0V Cw]at hi
   exact(h.boxes i cs' Lq).ext hx Cw (Below.heap_alloc _ _ _ (h.nb_lt Cw).2)
 .have Dt:k<E.h.fams.length:=(A0Q.1 hk).1;exact(h.fams k f hk).ext hx rfl (Below.heap_alloc _ _ _ (h.im_lt Dt).2)
 .rw[B8]at hi hj;by_cases Cw:i<E.h.boxes.length<;>by_cases hj':j<E.h.boxes.length
  .rw[hnb i Cw,hnb j hj']at he;exact h.inj i j Cw hj' he
  .obtain rfl:j=E.h.boxes.length:=by omega
   rw[hnb i Cw,Cy]at he;have:=(h.nb_lt Cw).2;omega
  .obtain rfl:i=E.h.boxes.length:=by omega
   rw[hnb j hj',Cy]at he;have:=(h.nb_lt hj').2;omega
  .omega
 .rw[B8]at hi;have Dt:k<E.h.fams.length:=hk;by_cases Cw:i<E.h.boxes.length
  .rw[hnb i Cw];exact h.sep i k Cw Dt
  .obtain rfl:i=E.h.boxes.length:=by omega
   rw[Cy];have:=(h.im_lt Dt).2;simp only[Env.newBox];omega
def Env.setBox (E:Env) (i:Nat) (us:Array Value) (cs:List AV):Env :=
 {E with w:=E.w.setRow (E.nb i) us,h:={E.h with boxes:=E.h.boxes.set i cs}}
theorem Ub {w:World} {B g:Nat} (us:Array Value) (hg:B<=g):Below B w (w.setRow g us) :=
 ⟨rfl,rfl,rfl,by simp,λk hk=>setRow_other w g k us (by omega)⟩
theorem YS (h:SR E) {i:Nat} (hi:i<E.h.boxes.length) {old:G3} (hold:E.h.boxes[i]?=some old) (hmb:Es old=false) (us:Array Value) (cs:G3):Ext E (E.setBox i us cs):=by
 have hb:=h.nb_lt hi;refine⟨λb o ho=>?_,by simp[Env.setBox],λ_ _=>rfl,A0R _,λk f f' hf hf'=>?_,rfl,rfl,⟨Ub us hb.1,A0R _⟩⟩
 .have P0:b≠E.nb i:=by
   rcases ho with ⟨ho,_⟩|⟨_,_,h3,_⟩
   .omega
   .intro e;obtain⟨cs',hcs'⟩:=h3 i hi e.symm;rw[hold]at hcs';cases hcs';simp[Es]at hmb
  refine⟨?_,LH (setRow_other _ _ _ _ P0)⟩;rcases ho with ho|⟨h1,h2,h3,h4⟩
  .exact .inl ho
  .refine .inr ⟨h1,by simpa[Env.setBox]using h2,λj hj e=>?_,h4⟩;obtain⟨cs',hcs'⟩:=h3 j (by simpa[Env.setBox]using hj) e;have hij:i≠j:=λe'=>P0 (by rw[e'];exact e.symm);exact⟨cs',by simpa[Env.setBox,A0S hij]using hcs'⟩
 .have:f=f':=by have:=hf.symm.trans hf';simpa using this
  subst this;exact⟨rfl,A0R _,λ_=>rfl⟩
theorem pr (h:SR E) {i:Nat} {old:G3} (hi:E.h.boxes[i]?=some old) (hmb:Es old=false) {us:Array Value} {cs:G3} (hv:Be E cs us.toList) (h1:∀v∈us.toList,v.oneCell'=true) :
  SR (E.setBox i us cs):=by
 have Cw:=(A0Q.1 hi).1;have hx:=YS h Cw hi hmb us cs;have B8:(E.setBox i us cs).h.boxes.length=E.h.boxes.length:=by simp[Env.setBox]
 have hb1:=(h.boxes i old hi).1;obtain⟨cur,t,hb2,_⟩:=(h.boxes i old hi).row hmb;refine⟨by simpa[Env.setBox]using h.basele,λj cs' hj=>?_,λk f hk=>?_,λa b ha hb=>h.inj a b (by simpa[B8]using ha) (by simpa[B8]using hb),h.injf,λa k ha=>h.sep a k (by simpa[B8]using ha)⟩
 .by_cases hn:i=j
  .subst hn;have:cs'=cs:=by simpa[Env.setBox,Cw]using hj.symm
   subst this;exact⟨hb1,.inl ⟨us,t,setRow_heap _ _ _ _ _ _ hb2,OB hx _ _ hv,h1⟩⟩
  .have hj':j<E.h.boxes.length:=by have:=(A0Q.1 hj).1;omega
   have Lq:E.h.boxes[j]?=some cs':=by simpa[Env.setBox,A0S hn]using hj
   exact(h.boxes j cs' Lq).ext hx hj' (setRow_other _ _ _ _ (λe=>hn (h.inj _ _ Cw hj' e.symm)))
 .have Dt:k<E.h.fams.length:=(A0Q.1 hk).1;exact(h.fams k f hk).ext hx rfl (setRow_other _ _ _ _ (λe=>h.sep i k Cw Dt e.symm))
end
section
variable {E:Env}
def Env.newFam (E:Env) (us:Array Value) (t:TypeId) (cap:Nat) (f:Fam):Env :=
 {E with w:=E.w.alloc (.cells us t),im:=wm E.im E.h.fams.length ⟨E.w.heap.size,0,cap,0⟩,h:={E.h with fams:=E.h.fams++[f]}}
theorem Ke (h:SR E) (us:Array Value) (t:TypeId) (cap:Nat) (f:Fam):Ext E (E.newFam us t cap f):=by
 refine⟨λb o ho=>?_,A0R _,λ_ _=>rfl,by simp[Env.newFam],λk g g' hg Z6=>?_,rfl,rfl,⟨(Below.refl _ _).alloc h.basele _,A0R _⟩⟩
 .have A7:=UL h ho;refine⟨?_,LH (Below.heap_alloc _ _ _ A7)⟩;rcases ho with ho|⟨h1,_,h3,h4⟩
  .exact .inl ho
  .refine .inr ⟨h1,by simp[Env.newFam];omega,h3,λk g hk he=>?_⟩;by_cases hn:k=E.h.fams.length
   .subst hn;simp only[Env.newFam,u6]at he;omega
   .have Dt:k<E.h.fams.length:=by
     have:=(A0Q.1 hk).1;simp[Env.newFam]at this;omega
    simp only[Env.newFam,A0V Dt]at hk;simp only[Env.newFam,CW _ _ hn]at he ⊢;exact h4 k g hk he
 .have Dt:k<E.h.fams.length:=(A0Q.1 hg).1;simp only[Env.newFam,A0V Dt]at Z6;have:g=g':=by have:=hg.symm.trans Z6;simpa using this
  subst this;exact⟨rfl,A0R _,λ_=>CW _ _ (by omega)⟩
theorem PR (h:SR E) {us:Array Value} {t:TypeId} {cap:Nat} {f:Fam} (J4:0<f.sz) (BF:f.xs.length<=cap) (hcap:cap<=maxLen) (Dn:cap*f.sz<=us.size)
  (Ul:∀(i:Nat) (x:AV),f.xs[i]?=some x->Nt E us (i*f.sz) f.sz x):SR (E.newFam us t cap f):=by
 have hx:=Ke h us t cap f;have B8:(E.newFam us t cap f).h.fams.length=E.h.fams.length+1:=by simp[Env.newFam]
 have him:∀k,k<E.h.fams.length->(E.newFam us t cap f).im k=E.im k:=λk hk=>CW _ _ (by omega);have Cy:(E.newFam us t cap f).im E.h.fams.length=⟨E.w.heap.size,0,cap,0⟩:=u6 _ _ _;refine⟨A0X h.basele (by simp[Env.newFam]),λi cs hi=>?_,λk g hk=>?_,h.inj,λk j hk hj he=>?_,λi k hi hk=>?_⟩
 .have Cw:=(A0Q.1 hi).1;exact(h.boxes i cs hi).ext hx Cw (Below.heap_alloc _ _ _ (h.nb_lt Cw).2)
 .by_cases hn:k=E.h.fams.length
  .subst hn;have:g=f:=by simpa[Env.newFam]using hk.symm
   subst this;refine⟨by rw[Cy];exact h.basele,J4,by rw[Cy];simp,by rw[Cy];simpa using BF,by rw[Cy];exact hcap,us,t,by rw[Cy];exact heap_alloc_new _ _,by rw[Cy];simpa using Dn,?_⟩;rw[Cy];intro i x _ hi;have:=(Ul i x hi).ext hx;simpa using this
  .have Dt:k<E.h.fams.length:=by have:=(A0Q.1 hk).1;omega
   simp only[Env.newFam,A0V Dt]at hk;exact(h.fams k g hk).ext hx (him k Dt) (Below.heap_alloc _ _ _ (h.im_lt Dt).2)
 .rw[B8]at hk hj;by_cases Dt:k<E.h.fams.length<;>by_cases hj':j<E.h.fams.length
  .rw[him k Dt,him j hj']at he;exact h.injf k j Dt hj' he
  .obtain rfl:j=E.h.fams.length:=by omega
   rw[him k Dt,Cy]at he;have:=(h.im_lt Dt).2;simp at he;omega
  .obtain rfl:k=E.h.fams.length:=by omega
   rw[him j hj',Cy]at he;have:=(h.im_lt hj').2;simp at he;omega
  .omega
 .rw[B8]at hk;by_cases Dt:k<E.h.fams.length
  .rw[him k Dt];exact h.sep i k hi Dt
  .obtain rfl:k=E.h.fams.length:=by omega
   rw[Cy];have:=(h.nb_lt hi).2;simp only[Env.newFam];omega
def Env.setFam (E:Env) (k:Nat) (us:Array Value) (f:Fam):Env :=
 {E with w:=E.w.setRow (E.im k).b us,h:={E.h with fams:=E.h.fams.set k f}}
theorem Ki (h:SR E) {k:Nat} {f f':Fam} (hk:E.h.fams[k]?=some f) {us cur:Array Value} {t:TypeId} (hc:E.w.heap[(E.im k).b]?=some (.cells cur t (0,0)))
  (J4:f'.sz=f.sz) (hwr:f'.wr=f.wr) (B8:f.xs.length<=f'.xs.length)
  (hkeep:f.wr=false->∀j,j<(E.im k).o+(f.xs.length-(E.im k).lo)*f.sz->us[j]?=cur[j]?):Ext E (E.setFam k us f'):=by
 have Dt:=(A0Q.1 hk).1;have hb:=h.im_lt Dt;refine⟨λb o ho=>?_,A0R _,λ_ _=>rfl,by simp[Env.setFam],λj g g' hg Z6=>?_,rfl,rfl,⟨Ub us hb.1,A0R _⟩⟩
 .rcases ho with ⟨ho1,ho2⟩|⟨h1,h2,h3,h4⟩
  .exact⟨.inl ⟨ho1,ho2⟩,LH (setRow_other _ _ _ _ (by omega))⟩
  .refine⟨.inr ⟨h1,by simpa[Env.setFam]using h2,h3,λj g hj he=>?_⟩,?_⟩
   .by_cases hn:k=j
    .subst hn;have:g=f':=by simpa[Env.setFam,Dt]using hj.symm
     subst this;obtain⟨a1,a2⟩:=h4 k f hk he;refine⟨by rw[hwr];exact a1,?_⟩;rw[J4];refine A0U a2 (Nat.add_le_add_left (Nat.mul_le_mul_right _ (by show f.xs.length-(E.im k).lo<=g.xs.length-(E.im k).lo;omega)) _)
    .exact h4 j g (by simpa[Env.setFam,A0S hn]using hj) he
   .by_cases hbk:b=(E.im k).b
    .obtain⟨a1,a2⟩:=h4 k f hk hbk.symm;subst hbk;have e1:(E.w.setRow (E.im k).b us).cell? ⟨(E.im k).b,o,none⟩=us[o]?:=cell_of_row _ _ _ _ _ _ (setRow_heap _ _ _ _ _ _ hc);have e2:E.w.cell? ⟨(E.im k).b,o,none⟩=cur[o]?:=cell_of_row _ _ _ _ _ _ hc;refine⟨?_,λes clk e=>by rw[hc]at e;cases e⟩;show (E.w.setRow (E.im k).b us).cell? _=_;rw[e1,e2];exact hkeep a1 o a2
    .exact LH (setRow_other _ _ _ _ hbk)
 .by_cases hn:k=j
  .subst hn;have e1:g'=f':=by simpa[Env.setFam,Dt]using Z6.symm
   have e2:g=f:=by have:=hg.symm.trans hk;simpa using this
   subst e1;subst e2;exact⟨J4,B8,λ_=>rfl⟩
  .have:g=g':=by
    have hg'':E.h.fams[j]?=some g':=by simpa[Env.setFam,A0S hn]using Z6
    have:=hg.symm.trans hg'';simpa using this
   subst this;exact⟨rfl,A0R _,λ_=>rfl⟩
theorem PY (h:SR E) {k:Nat} {f f':Fam} (hk:E.h.fams[k]?=some f) {us cur:Array Value} {t:TypeId} (hc:E.w.heap[(E.im k).b]?=some (.cells cur t (0,0)))
  (J4:f'.sz=f.sz) (hwr:f'.wr=f.wr) (B8:f.xs.length<=f'.xs.length)
  (hkeep:f.wr=false->∀j,j<(E.im k).o+(f.xs.length-(E.im k).lo)*f.sz->us[j]?=cur[j]?)
  (BF:f'.xs.length<=(E.im k).lo+(E.im k).cap) (Zl:us.size=cur.size)
  (Ul:∀(i:Nat) (x:AV),(E.im k).lo<=i->f'.xs[i]?=some x->Nt E us ((E.im k).o+(i-(E.im k).lo)*f.sz) f.sz x):SR (E.setFam k us f'):=by
 have Dt:=(A0Q.1 hk).1;have hx:=Ki h hk hc J4 hwr B8 hkeep;have hl:(E.setFam k us f').h.fams.length=E.h.fams.length:=by simp[Env.setFam]
 refine⟨by simpa[Env.setFam]using h.basele,λi cs hi=>?_,λj g hj=>?_,h.inj,λa b ha hb=>h.injf a b (by simpa[hl]using ha) (by simpa[hl]using hb),λi a hi ha=>h.sep i a hi (by simpa[hl]using ha)⟩
 .have Cw:=(A0Q.1 hi).1;exact(h.boxes i cs hi).ext hx Cw (setRow_other _ _ _ _ (h.sep i k Cw Dt))
 .by_cases hn:k=j
  .subst hn;have:g=f':=by simpa[Env.setFam,Dt]using hj.symm
   subst this;have hf:=h.fams k f hk;obtain⟨cur',t',c1,c2,_⟩:=hf.cells;have:cur'=cur:=by have:=c1.symm.trans hc;simp at this;exact this.1
   subst this;refine⟨hf.base,by rw[J4];exact hf.sz,A0X hf.lo B8,BF,hf.cap,us,t,setRow_heap _ _ _ _ _ _ hc,?_,?_⟩
   .show (E.im k).o+(E.im k).cap*g.sz<=us.size;rw[J4,Zl];exact c2
   .intro i x hi hxi;have:=(Ul i x hi hxi).ext hx;rw[J4];exact this
  .have hj':j<E.h.fams.length:=by have:=(A0Q.1 hj).1;omega
   have hg:E.h.fams[j]?=some g:=by simpa[Env.setFam,A0S hn]using hj
   exact(h.fams j g hg).ext hx rfl (setRow_other _ _ _ _ (λe=>hn (h.injf _ _ Dt hj' e.symm)))
def Env.rstFam (E:Env) (k:Nat) (f:Fam):Env:={E with h:={E.h with fams:=E.h.fams.set k {f with wr:=false}}}
theorem YN {k:Nat} {f:Fam} (hk:E.h.fams[k]?=some f):Ext E (E.rstFam k f):=by
 have Dt:=(A0Q.1 hk).1;have key:∀(j:Nat) (g:Fam),(E.rstFam k f).h.fams[j]?=some g->∃g0,E.h.fams[j]?=some g0/\g.xs=g0.xs/\g.sz=g0.sz/\(g0.wr=false->g.wr=false):=by
  intro j g hj;by_cases hn:k=j
  .subst hn;have:g={f with wr:=false}:=by simpa[Env.rstFam,Dt]using hj.symm
   subst this;exact⟨f,hk,rfl,rfl,λ_=>rfl⟩
  .exact⟨g,by simpa[Env.rstFam,A0S hn]using hj,rfl,rfl,λh=>h⟩
 refine⟨λb o ho=>⟨?_,KG.refl _ _ _⟩,A0R _,λ_ _=>rfl,by simp[Env.rstFam],λj g g' hg Z6=>?_,rfl,rfl,Bl.refl _ _⟩
 .rcases ho with ho|⟨h1,h2,h3,h4⟩
  .exact .inl ho
  .refine .inr ⟨h1,h2,h3,λj g hj he=>?_⟩;obtain⟨g0,q1,q2,q3,q4⟩:=key j g hj;obtain⟨a1,a2⟩:=h4 j g0 q1 he;exact⟨q4 a1,by rw[q2,q3];exact a2⟩
 .obtain⟨g0,q1,q2,q3,_⟩:=key j g' Z6;have:g0=g:=by have:=q1.symm.trans hg;simpa using this
  subst this;exact⟨q3,by rw[q2];exact A0R _,λ_=>rfl⟩
theorem pn (h:SR E) {k:Nat} {f:Fam} (hk:E.h.fams[k]?=some f):SR (E.rstFam k f):=by
 have Dt:=(A0Q.1 hk).1;have hx:=YN hk;have hl:(E.rstFam k f).h.fams.length=E.h.fams.length:=by simp[Env.rstFam]
 refine⟨h.basele,λi cs hi=>?_,λj g hj=>?_,h.inj,λa b ha hb=>h.injf a b (by simpa[hl]using ha) (by simpa[hl]using hb),λi a hi ha=>h.sep i a hi (by simpa[hl]using ha)⟩
 .have Cw:=(A0Q.1 hi).1;exact(h.boxes i cs hi).ext hx Cw rfl
 .by_cases hn:k=j
  .subst hn;have:g={f with wr:=false}:=by simpa[Env.rstFam,Dt]using hj.symm
   subst this;have:=(h.fams k f hk).ext hx rfl rfl;exact⟨this.base,this.sz,this.lo,this.room,this.cap,this.cells⟩
  .have hg:E.h.fams[j]?=some g:=by simpa[Env.rstFam,A0S hn]using hj
   exact(h.fams j g hg).ext hx rfl rfl
def Env.moveFam (E:Env) (k:Nat) (us:Array Value) (t:TypeId) (lo cap:Nat) (f:Fam):Env :=
 {E with w:=E.w.alloc (.cells us t),im:=wm E.im k ⟨E.w.heap.size,0,cap,lo⟩,h:={E.h with fams:=E.h.fams.set k f}}
theorem RS (h:SR E) {k:Nat} {f f':Fam} (hk:E.h.fams[k]?=some f) (us:Array Value) (t:TypeId) (lo cap:Nat)
  (J4:f'.sz=f.sz) (B8:f.xs.length<f'.xs.length):Ext E (E.moveFam k us t lo cap f'):=by
 have Dt:=(A0Q.1 hk).1;refine⟨λb o ho=>?_,A0R _,λ_ _=>rfl,by simp[Env.moveFam],λj g g' hg Z6=>?_,rfl,rfl,⟨(Below.refl _ _).alloc h.basele _,A0R _⟩⟩
 .have A7:=UL h ho;refine⟨?_,LH (Below.heap_alloc _ _ _ A7)⟩;rcases ho with ho|⟨h1,_,h3,h4⟩
  .exact .inl ho
  .refine .inr ⟨h1,by simp[Env.moveFam];omega,h3,λj g hj he=>?_⟩;by_cases hn:j=k
   .subst hn;simp only[Env.moveFam,u6]at he;omega
   .simp only[Env.moveFam,CW _ _ hn]at he ⊢;exact h4 j g (by simpa[Env.moveFam,A0S (Ne.symm hn)]using hj) he
 .by_cases hn:k=j
  .subst hn;have e1:g'=f':=by simpa[Env.moveFam,Dt]using Z6.symm
   have e2:g=f:=by have:=hg.symm.trans hk;simpa using this
   subst e1;subst e2;exact⟨J4,Nat.le_of_lt B8,λe=>by omega⟩
  .have hg'':E.h.fams[j]?=some g':=by simpa[Env.moveFam,A0S hn]using Z6
   have:g=g':=by have:=hg.symm.trans hg'';simpa using this
   subst this;exact⟨rfl,A0R _,λ_=>CW _ _ (Ne.symm hn)⟩
theorem XZ (h:SR E) {k:Nat} {f f':Fam} (hk:E.h.fams[k]?=some f) {us:Array Value} {t:TypeId} {lo cap:Nat}
  (J4:f'.sz=f.sz) (B8:f.xs.length<f'.xs.length) (TY:lo<=f'.xs.length) (BF:f'.xs.length<=lo+cap) (hcap:cap<=maxLen) (Dn:cap*f.sz<=us.size)
  (Ul:∀(i:Nat) (x:AV),lo<=i->f'.xs[i]?=some x->Nt E us ((i-lo)*f.sz) f.sz x):SR (E.moveFam k us t lo cap f'):=by
 have Dt:=(A0Q.1 hk).1;have hx:=RS h hk us t lo cap J4 B8;have hl:(E.moveFam k us t lo cap f').h.fams.length=E.h.fams.length:=by simp[Env.moveFam]
 have him:∀j,j≠k->(E.moveFam k us t lo cap f').im j=E.im j:=λj hj=>CW _ _ hj;have Cy:(E.moveFam k us t lo cap f').im k=⟨E.w.heap.size,0,cap,lo⟩:=u6 _ _ _;refine⟨A0X h.basele (by simp[Env.moveFam]),λi cs hi=>?_,λj g hj=>?_,h.inj,λa b ha hb he=>?_,λi a hi ha=>?_⟩
 .have Cw:=(A0Q.1 hi).1;exact(h.boxes i cs hi).ext hx Cw (Below.heap_alloc _ _ _ (h.nb_lt Cw).2)
 .by_cases hn:k=j
  .subst hn;have:g=f':=by simpa[Env.moveFam,Dt]using hj.symm
   subst this;have hf:=h.fams k f hk;refine⟨by rw[Cy];exact h.basele,by rw[J4];exact hf.sz,by rw[Cy];exact TY,by rw[Cy];exact BF,by rw[Cy];exact hcap,us,t,by rw[Cy];exact heap_alloc_new _ _,by rw[Cy,J4];simpa using Dn,?_⟩;rw[Cy];intro i x hi hxi;have:=(Ul i x hi hxi).ext hx;rw[J4];simpa using this
  .have hj':j<E.h.fams.length:=by have:=(A0Q.1 hj).1;omega
   have hg:E.h.fams[j]?=some g:=by simpa[Env.moveFam,A0S hn]using hj
   exact(h.fams j g hg).ext hx (him j (Ne.symm hn)) (Below.heap_alloc _ _ _ (h.im_lt hj').2)
 .rw[hl]at ha hb;by_cases e1:a=k<;>by_cases e2:b=k
  .omega
  .subst e1;rw[Cy,him b e2]at he;have:=(h.im_lt hb).2;simp at he;omega
  .subst e2;rw[Cy,him a e1]at he;have:=(h.im_lt ha).2;simp at he;omega
  .rw[him a e1,him b e2]at he;exact h.injf a b ha hb he
 .rw[hl]at ha;by_cases e1:a=k
  .subst e1;rw[Cy];have:=(h.nb_lt hi).2;simp only[Env.moveFam];omega
  .rw[him a e1];exact h.sep i a hi ha
end
end Go.Abs
