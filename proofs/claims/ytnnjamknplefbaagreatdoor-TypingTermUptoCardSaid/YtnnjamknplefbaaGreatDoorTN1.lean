/- A part of the proof. -/
import Derived.WalkKit
set_option linter.all false
theorem p_{p:Prop}(h:p):p:=h
theorem a_ {p:Prop} (h:p:=by omega):p:=h
theorem b_ {p:Prop} (h:p:=by simp[ROp.slots,ht]):p:=h
theorem c_ {p:Prop} (h:p:=by simp[hl]):p:=h
theorem d_ {p:Prop} (h:p:=by simp[C6]):p:=h
theorem e_ {p:Prop} (h:p:=by simp):p:=h
theorem f8 {p:Prop} (h:p:=by simp;omega):p:=h
theorem f9 {p:Prop} (h:p:=by decide):p:=h
theorem f_ {p:Prop} (h:p:=by simpa using hr.symm):p:=h
theorem g_ {p:Prop} (h:p:=by rw[e];simp):p:=h
theorem h_ {p:Prop} (h:p:=by simpa using hr):p:=h
theorem i_ {p:Prop} (h:p:=by simp[K7,maxLen];omega):p:=h
theorem j_ {p:Prop} (h:p:=by simpa[ROp.slots]using ht):p:=h
theorem k_ {p:Prop} (h:p:=by simpa using hj):p:=h
theorem l_ {p:Prop} (h:p:=by simp[hl,h1]):p:=h
theorem m_ {p:Prop} (h:p:=by simpa using h1):p:=h
theorem n_ {p:Prop} (h:p:=by simp only[Tm.size,Tm.sizes];omega):p:=h
theorem oA {p:Prop} (h:p:=by simp[execOp,ho,resolve,invoke,builtin,Builtin.len_,e1,R5 hts,goInt]):p:=h
theorem oB {p:Prop} (h:p:=by simp[execOp,ho,Instr.fieldAt,R5 hs,hi,e,Instr.sureAddr,hp]):p:=h
theorem oC {p:Prop} (h:p:=by simp[Value.cells,Value.oneCell']):p:=h
theorem oE {p:Prop} (h:p:=by simpa using h):p:=h
theorem oF {p:Prop} (h:p:=by simp[B4]):p:=h
theorem oG {p:Prop} (h:p:=by rw[Z9];omega):p:=h
theorem oH {p:Prop} (h:p:=by rw[←G1'.tys,←G1'.efs];exact sF):p:=h
theorem oJ {p:Prop} (h:p:=by rw[h.base,(h.nb i hi).2];exact h1):p:=h
theorem oL {p:Prop} (h:p:=by simp[execOp,ho,Instr.sliceAt,Instr.slice,R5 ht,e1,hmn,hb,GF hn];rfl):p:=h
theorem oN {p:Prop} (h:p:=by rw[CN];exact heap_alloc_new _ _):p:=h
theorem oO {p:Prop} (h:p:=by simp[execOp,ho,Instr.sliceAt,Instr.slice,R5 ht,e1,hb,GF hn];rfl):p:=h
theorem oP {p:Prop} (h:p:=by simp[hl,h0]):p:=h
theorem oV {p:Prop} (h:p:=by simp[C6];exact hr):p:=h
theorem oX {p:Prop} (h:p:=by rw[(h.nb i hi).2,hb];exact h2):p:=h
theorem o_ {p:Prop} (h:p:=by simp only[zf2z];omega):p:=h
theorem pp {p:Prop} (h:p:=by rw[hnm];decide):p:=h
open Bool renaming and_eq_true->zf0z
open List renaming replicate->zf1z,range->zf2z
set_option linter.all false
namespace Go.Abs
abbrev Al:=ByteArray
abbrev Gg:=Bool×Bool
inductive AV where
 |junk
 |bool (b:Bool)
 |int (k:IntKind) (n:Int)
 |str (s:ByteArray)
 |agg (cs:List AV)
 |tup (vs:List AV)
 |vs (full:Bool) (sz:Nat) (xs:List AV)
 |sl (k n off len:Nat)
 |pv (cs:List AV)
 |ep (k n i c sz:Nat)
 |ptr (b off:Nat)
 |nilp
 |fn (f:FuncId) (caps:List AV)
 |nilf
 |mp (b:Nat)
 |vm (ks vs:List AV)
 |nilm
 |mbox (ks vs:List AV)
 |rbox (cs:List AV)
 |bsl (b sz off len:Nat)
 |tbox (t:TypeId) (cs:List AV)
 deriving Inhabited
abbrev b9:=List AV
def AV.cells:AV->List AV
 | .agg cs=>cs
 |v=>[v]
def B9:AV:=.tup []
def AV.isTup:AV->Bool
 | .tup _=>true
 |_=>false
structure Fam where
 xs:List AV
 sz:Nat
 wr:Bool
structure AH where
 boxes:List (List AV)
 fams:List Fam
def AH.empty:AH:=⟨[],[]⟩
inductive Opd where
 |t (n:Nat)
 |c (v:AV)
inductive ROp where
 |mov (x:Opd)
 |pick (c a b:Opd)
 |box (x:Opd)
 |mkmap
 |mlook (str ok:Bool) (z:AV) (x k:Opd)
 |mup (str:Bool) (x k v:Opd)
 |alloc (z:AV)
 |allocAt (r:Nat) (z:AV)
 |build (z:AV) (parts:List (Nat×Nat×Opd))
 |bslice (n:Nat) (z:AV) (parts:List (Nat×Opd))
 |bslicev (n:Nat) (z:AV) (parts:List (Nat×Opd))
 |ld (agg:Bool) (n:Nat) (x:Opd)
 |ldb (agg:Bool) (n:Nat) (x:Opd)
 |st (n:Nat) (a x:Opd)
 |ste (n:Nat) (a x:Opd)
 |stb (n:Nat) (a x:Opd)
 |clr (z:AV) (x:Opd)
 |nilck (x:Opd)
 |bin (op:BinOp) (x y:Opd)
 |beq (neg:Bool) (x y:Opd)
 |nileq (neg:Bool) (x:Opd)
 |un (op:UnOp) (x:Opd)
 |conv (k:IntKind) (x:Opd)
 |bstr (x:Opd)
 |clos (f:FuncId) (caps:List Opd)
 |mkslice (z:AV) (bytes:Nat) (len cap:Opd)
 |mkv (z:AV) (bytes:Nat) (len cap:Opd)
 |mkb (z:AV) (bytes:Nat) (len cap:Opd)
 |slc (sz:Nat) (x:Opd) (lo hi mx:Option Opd)
 |faddr (off:Nat) (x:Opd)
 |fld (agg:Bool) (off n:Nat) (x:Opd)
 |iaddr (sz:Nat) (x i:Opd)
 |idx (x i:Opd)
 |ext (x:Opd) (i:Nat)
 |len (str:Bool) (x:Opd)
 |app (sz bytes:Nat) (s x:Opd)
 |apps (bytes:Nat) (s x:Opd)
 |max (x y:Opd)
 |min (x y:Opd)
 |call (f:FuncId) (args:List Opd)
 |callv (x:Opd) (args:List Opd)
structure RO where
 dst:Option Nat
 op:ROp
 guard:Option (Nat×Bool)
inductive RCode where
 |skip
 |region (draw:Bool) (ops:List RO)
 |regd (bs:List Nat) (ops:List RO)
 |seq (a b:RCode)
 |cond (c:Opd) (a b:RCode)
 |block (id:Nat) (a:RCode)
 |loop (a:RCode)
 |exit (id:Nat)
 |ret
 |bad
inductive UB where
 |tmp (t:Nat)
 |cell (a:Nat) (agg:Bool) (n:Nat)
structure RFunc where
 ntmps:Nat
 results:List UB
 body:RCode
inductive Ex where
 |normal
 |exit (id:Nat)
 |ret
abbrev Fr:=List AV
abbrev St:=Fr×AH
structure Orc where
 pure:FuncId->List AV->Option AV
 raw:FuncId->List AV->AH->Option (AV×AH)
 loop:(St->Option (Ex×St))->St->Option (Ex×St)
structure Ctx where
 raw:FuncId->Bool
 mutApp:Bool
 rawv:Bool:=true
 ro:Bool:=false
 noB:FuncId->Bool:=λ_=>false
 bx:Bool:=false
 rst:Bool:=false
 lay:Bool:=false
def get(fr:Fr):Opd->AV
 | .t n=>fr.getD n B9
 | .c v=>v
def put(fr:Fr)(dst:Option Nat)(v:AV):Fr :=
 match dst with
 |some d=>fr.set d v
 |none=>fr
def Q6(agg:Bool)(n:Nat)(cs:List AV):Option AV :=
 match agg with
 |true=>if n<=cs.length then some (.agg (cs.take n))else none
 |false=>cs.head?
def AV.reform(x:AV)(cs:List AV):Option AV :=
 match x with
 | .agg _=>some (.agg cs)
 |_=>cs.head?
def elems(h:AH)(sz:Nat):AV->Option (List AV)
 | .vs _ z xs=>if z=sz\/xs.length=0 then some xs else none
 | .sl k n off len =>
  match h.fams[k]? with
  |some f=>if f.xs.length=n/\f.sz=sz/\off+len<=n then some ((f.xs.drop off).take len)else none
  |none=>none
 |_=>none
def BE:List AV->Bool
 | [.mbox ..]=>true
 | [.rbox _]=>true
 | [.tbox ..]=>true
 |_=>false
def AV.flat:AV->Bool
 | .sl .. | .ep .. | .ptr .. | .agg _ | .tup _ | .mp _ | .mbox .. | .rbox _ | .bsl .. | .tbox ..=>false
 | .fn _ cs=>cs.isEmpty
 |_=>true
def M9:AV->Bool
 | .agg cs=>cs.all AV.flat
 | .tup _=>false
 |x=>x.flat
def wG(h:AH)(am:Bool):AV->Option AV
 | .sl k n off len =>
  match h.fams[k]? with
  |some f=>if f.xs.length=n/\off+len<=n/\(am||!f.wr)=true then some (.vs false f.sz ((f.xs.drop off).take len))else none
  |none=>none
 |x=>if M9 x then some x else none
def Tc(h:AH)(am:Bool):List AV->Option (List AV)
 | []=>some []
 |x::xs=>(wG h am x).bind λy=>(Tc h am xs).map (y::·)
def nr(h:AH)(am:Bool):AV->Option AV
 | .sl k n off len =>
  match h.fams[k]? with
  |some f=>if f.xs.length=n/\off+len<=n/\(am||!f.wr)=true then some (.vs false f.sz ((f.xs.drop off).take len))else none
  |none=>none
 | .ep ..=>none
 | .ptr ..=>none
 | .agg _=>none
 | .tup _=>none
 | .mbox ..=>none
 | .rbox _=>none
 | .tbox ..=>none
 | .bsl ..=>none
 | .mp b=>match h.boxes[b]? with|some [.mbox ks vs]=>if am then (Tc h am vs).map (.vm ks)else none|_=>none
 | .fn f caps=>if caps.all AV.flat then some (.fn f caps)else none
 |x=>some x
def Tb(h:AH)(am:Bool):List AV->Option (List AV)
 | []=>some []
 |x::xs=>(nr h am x).bind λy=>(Tb h am xs).map (y::·)
def TW(sz:Nat)(cs:List AV):Nat->List AV
 |0=>[]
 |n+1=>(if sz=1 then cs.headD .junk else .agg (cs.take sz))::TW sz (cs.drop sz) n
def boxC:List AV->Option (List AV)
 | [.tbox _ ys]=>some ys
 |_=>none
def frzT(h:AH)(am:Bool)(sz off len:Nat)(cs:List AV):Option AV :=
 match boxC cs with
 |some ys=>if am=true/\0<sz/\off+len*sz<=ys.length then (Tb h am ((ys.drop off).take (len*sz))).map λzs=>.vs false sz (TW sz zs len)else none
 |none=>none
def wE(h:AH)(am:Bool)(b sz off len:Nat):Option AV :=
 match h.boxes[b]? with
 |some cs=>if am=true/\BE cs=false/\0<sz/\off+len*sz<=cs.length then (Tb h am ((cs.drop off).take (len*sz))).map λys=>.vs false sz (TW sz ys len)else frzT h am sz off len cs
 |none=>none
def Cr(h:AH)(am:Bool):AV->Option AV
 | .bsl b sz off len=>wE h am b sz off len
 | .sl k n off len =>
  match h.fams[k]? with
  |some f=>if f.xs.length=n/\off+len<=n/\(am||!f.wr)=true then some (.vs false f.sz ((f.xs.drop off).take len))else none
  |none=>none
 | .ep ..=>none
 | .ptr ..=>none
 | .agg _=>none
 | .tup _=>none
 | .mbox ..=>none
 | .rbox _=>none
 | .tbox ..=>none
 | .mp b=>match h.boxes[b]? with|some [.mbox ks vs]=>if am then (Tc h am vs).map (.vm ks)else none|_=>none
 | .fn f caps=>if caps.all AV.flat then some (.fn f caps)else none
 |x=>some x
def NV(h:AH)(am:Bool):List AV->Option (List AV)
 | []=>some []
 |x::xs=>(Cr h am x).bind λy=>(NV h am xs).map (y::·)
def frz(h:AH)(am:Bool):AV->Option AV
 | .agg cs=>(NV h am cs).map .agg
 |x=>Cr h am x
def AX(h:AH)(am:Bool):List AV->Option (List AV)
 | []=>some []
 |x::xs=>(frz h am x).bind λy=>(AX h am xs).map (y::·)
def Gj(h:AH):AV->Option AV
 | .tup vs=>(AX h true vs).map .tup
 |x=>frz h true x
def AV.scalar1:AV->Bool
 | .bool _ | .int .. | .str _ | .nilp | .nilf=>true
 |_=>false
def AV.scalar0:AV->Bool
 | .agg cs=>cs.all AV.scalar1
 |v=>v.scalar1
def AV.scalar:AV->Bool
 | .tup us=>us.all AV.scalar0
 |v=>v.scalar0
def Hl(h:AH):AV->Bool
 | .sl k _ _ _=>match h.fams[k]? with|some f=>!f.wr|none=>false
 | .mp _=>false
 | .bsl ..=>false
 |_=>true
def tame(h:AH):AV->Bool
 | .agg cs=>cs.all (Hl h)
 |v=>Hl h v
def au(agg:Bool)(n off:Nat):List AV->Option AV
 | [.rbox ys]=>Q6 agg n (ys.drop off)
 | [.tbox _ ys]=>Q6 agg n (ys.drop off)
 |_=>none
def X3(h:AH)(agg:Bool)(n:Nat):AV->Option AV
 | .pv cs=>Q6 agg n cs
 | .ptr b off =>
  match h.boxes[b]? with
  |some cs=>if BE cs then au agg n off cs else Q6 agg n (cs.drop off)
  |none=>none
 | .ep k m i c sz =>
  match h.fams[k]? with
  |some f=>if f.xs.length=m/\f.sz=sz then (match f.xs[i]? with|some x=>Q6 agg n (x.cells.drop c)|none=>none)else none
  |none=>none
 |_=>none
def j8(cs:List AV)(off:Nat)(new:List AV):List AV:=cs.take off++new++cs.drop (off+new.length)
def Ic(h:AH)(n:Nat)(v:AV)(k m i c sz:Nat):Option AH :=
 match h.fams[k]? with
 |some f =>
  if f.xs.length=m/\f.sz=sz/\f.wr=true then
   match f.xs[i]?,frz h false v with
   |some x,some u =>
    if u.cells.length=n/\c+n<=x.cells.length then
     (x.reform (j8 x.cells c u.cells)).map λy=>{h with fams:=h.fams.set k {f with xs:=f.xs.set i y}}
    else none
   |_,_=>none
  else none
 |none=>none
def A1T(h:AH):AV->AH
 | .sl k _ _ _=>match h.fams[k]? with|some f=>{h with fams:=h.fams.set k {f with wr:=false}} | none=>h
 |_=>h
def rstL:AH->List AV->AH
 |h,[]=>h
 |h,x::xs=>rstL (A1T h x) xs
def A1S(h:AH):AV->AH
 | .agg cs=>rstL h cs
 |x=>A1T h x
def rstT:AH->List AV->AH
 |h,[]=>h
 |h,x::xs=>rstT (A1S h x) xs
def rstV(h:AH):AV->AH
 | .tup vs=>rstT h vs
 |x=>A1S h x
def mG(h:AH):AV->Option AH
 | .agg cs=>some (rstL h cs)
 | .sl k _ _ _ =>
  match h.fams[k]? with
  |some f=>some {h with fams:=h.fams.set k {f with wr:=false}}
  |none=>none
 |_=>none
def kU(h:AH)(v:AV):Option AH:=match frz h false v with|some _=>some h|none=>mG h v
def mz(h:AH)(b n off:Nat)(v:AV):List AV->Option AH
 | [.tbox t ys]=>if v.isTup=false/\v.cells.length=n/\off+n<=ys.length then some {h with boxes:=h.boxes.set b [.tbox t (j8 ys off v.cells)]} else none
 |_=>none
def DX(h:AH)(n:Nat)(v:AV):AV->Option AH
 | .ptr b off =>
  match h.boxes[b]? with
  |some cs=>if BE cs=false/\v.isTup=false/\v.cells.length=n/\off+n<=cs.length then some {h with boxes:=h.boxes.set b (j8 cs off v.cells)} else mz h b n off v cs
  |none=>none
 | .ep k m i c sz=>match kU h v with|some h1=>Ic h1 n v k m i c sz|none=>none
 |_=>none
def M7(op:BinOp):AV->AV->Option AV
 | .int k a,.int k' b =>
  match op with
  | .add=>if k=k' then some (.int k (k.wrap (a+b)))else none
  | .sub=>if k=k' then some (.int k (k.wrap (a-b)))else none
  | .mul=>if k=k' then some (.int k (k.wrap (a*b)))else none
  | .quo=>if k=k'/\b≠0 then some (.int k (k.wrap (a.tdiv b)))else none
  | .rem=>if k=k'/\b≠0 then some (.int k (a.tmod b))else none
  | .eql=>if k=k' then some (.bool (a == b))else none
  | .neq=>if k=k' then some (.bool (a != b))else none
  | .lss=>if k=k' then some (.bool (decide (a<b)))else none
  | .leq=>if k=k' then some (.bool (decide (a<=b)))else none
  | .gtr=>if k=k' then some (.bool (decide (a > b)))else none
  | .geq=>if k=k' then some (.bool (decide (a≥b)))else none
  | .shl=>if 0<=b then some (.int k (k.wrap (a*2 ^ (min b.toNat k.bits))))else none
  | .shr=>if 0<=b then some (.int k (a.fdiv (2 ^ (min b.toNat k.bits))))else none
  | .and=>if k=k' then some (.int k (k.wrap (BitVec.ofInt k.bits a &&& BitVec.ofInt k.bits b).toNat))else none
  | .or=>if k=k' then some (.int k (k.wrap (BitVec.ofInt k.bits a ||| BitVec.ofInt k.bits b).toNat))else none
  | .xor=>if k=k' then some (.int k (k.wrap (BitVec.ofInt k.bits a ^^^ BitVec.ofInt k.bits b).toNat))else none
  |_=>none
 | .str a,.str b =>
  match op with
  | .add=>if ((a.size+b.size:Nat):Int) > IntKind.i64.max then none else some (.str (a++b))
  | .eql=>some (.bool (a.toList == b.toList))
  | .neq=>some (.bool !(a.toList == b.toList))
  | .lss=>some (.bool (Op.bytesLess a.toList b.toList))
  | .leq=>some (.bool (Op.bytesLess a.toList b.toList||a.toList == b.toList))
  | .gtr=>some (.bool !(Op.bytesLess a.toList b.toList||a.toList == b.toList))
  | .geq=>some (.bool !(Op.bytesLess a.toList b.toList))
  |_=>none
 |_,_=>none
def Rv(op:UnOp):AV->Option AV
 | .bool b=>match op with | .not=>some (.bool !b)|_=>none
 | .int k n=>match op with | .neg=>some (.int k (k.wrap (0-n)))|_=>none
 |_=>none
def C0(cs:List AV):List (Nat×AV)->List AV
 | []=>cs
 |(off,v)::rest=>C0 (j8 cs off v.cells) rest
def B5(fr:Fr)(len:Nat):List (Nat×Nat×Opd)->Option (List (Nat×AV))
 | []=>some []
 |(off,n,x)::rest =>
  if (get fr x).isTup=false/\(get fr x).cells.length=n/\off+n<=len then (B5 fr len rest).map ((off,get fr x)::·)else none
def VX(h:AH):AV->Option AV
 | .agg cs=>some (.agg (cs.map λc=>(Cr h false c).getD .junk))
 |_=>none
def A9(fr:Fr)(h:AH)(xs:List AV):List (Nat×Opd)->Option (List AV)
 | []=>some xs
 |(i,x)::rest =>
  match xs[i]?,(frz h false (get fr x)).or (VX h (get fr x))with
  |some z,some y=>if y.cells.length=z.cells.length then A9 fr h (xs.set i y) rest else none
  |_,_=>none
def AA(fr:Fr):Option Opd->Option (Option Int)
 |none=>some none
 |some x=>match get fr x with | .int _ i=>some (some i)|_=>none
def KM(H:AH)(sz:Nat)(x:AV)(lo hi mx:Option Int):Option AV :=
 match x with
 | .str s =>
  let l:=lo.getD 0
  let h:=hi.getD s.size
  if sz=0/\mx=none/\0<=l/\l<=h/\h<=s.size then some (.str (s.extract l.toNat h.toNat))else none
 | .vs full z xs =>
  let l:=lo.getD 0
  let h:=hi.getD xs.length
  if 0<sz/\(z=sz\/xs.length=0)then
   match mx with
   |none =>
    if 0<=l/\l<=h/\h<=xs.length then some (.vs (full&&decide (h=xs.length)) z ((xs.drop l.toNat).take (h-l).toNat))else none
   |some m =>
    if hi.isSome/\0<=l/\l<=h/\h<=m/\m<=xs.length then some (.vs (decide (m=h)) z ((xs.drop l.toNat).take (h-l).toNat))else none
  else none
 | .sl k n off len =>
  let l:=lo.getD 0
  let h:=hi.getD len
  match H.fams[k]? with
  |some f =>
   if 0<sz/\f.sz=sz/\f.xs.length=n then
    match mx with
    |none=>if 0<=l/\l<=h/\h<=len then some (.sl k n (off+l.toNat) (h-l).toNat)else if 0<=l/\l<=h/\off+h<=n then some (.sl k n (off+l.toNat) (h-l).toNat)else none
    |some m=>if hi.isSome/\l=0/\h=0/\m=0 then some (.vs true sz [])else if hi.isSome/\0<=l/\l<=h/\h<=m/\off+m<=n then some .junk else none
   else none
  |none=>none
 |_=>none
def K7:Nat:=140737488355328
def q9(c:Ctx)(h:AH)(sz bytes:Nat)(s:AV)(ys:List AV):Option (AV×AH) :=
 match s with
 | .vs true z xs =>
  if ys.length=0 then some (.vs true z xs,h)
  else if (z=sz\/xs.length=0)/\(xs.length+ys.length)*bytes<=K7/\xs.length+ys.length<=maxLen then
   some (.sl h.fams.length (xs.length+ys.length) 0 (xs.length+ys.length),{h with fams:=h.fams++[⟨xs++ys,sz,c.mutApp⟩]})
  else none
 | .sl k n off len =>
  match h.fams[k]? with
  |some f =>
   if f.xs.length=n/\f.sz=sz/\off+len=n/\(n+ys.length)*bytes<=K7/\n+ys.length<=maxLen then
    some (.sl k (n+ys.length) off (len+ys.length),{h with fams:=h.fams.set k {f with xs:=f.xs++ys}})
   else if f.xs.length=n/\f.sz=sz/\f.wr=true/\off+len+ys.length<=n then
    some (.sl k n off (len+ys.length),{h with fams:=h.fams.set k {f with xs:=f.xs.take (off+len)++ys++f.xs.drop (off+len+ys.length)}})
   else none
  |none=>none
 |_=>none
def N0(c:Ctx)(h:AH)(sz bytes:Nat)(s x:AV):Option (AV×AH) :=
 match elems h sz x with
 |none=>none
 |some ys=>q9 c h sz bytes s ys
def PJ(s:ByteArray):List AV:=s.data.toList.map λb=>.int .u8 b.toNat
def ZV(c:Ctx)(h:AH)(bytes:Nat)(s x:AV):Option (AV×AH) :=
 match x with
 | .str str=>q9 c h 1 bytes s (PJ str)
 |_=>none
def Aw:AH->List AV->Option (List AV×AH)
 |h,[]=>some ([],h)
 |h,.ptr b off::xs =>
  if off=0 then
   match h.boxes[b]? with
   |some cs=>if BE cs=false/\cs.all AV.flat=true then (Aw {h with boxes:=h.boxes.set b [.rbox cs]} xs).map λp=>(.pv cs::p.1,p.2)else none
   |none=>none
  else none
 |h,x::xs=>(Aw h xs).map λp=>(x::p.1,p.2)
def Rm:List AV->Option (List Int)
 | []=>some []
 | .int .u8 n::xs=>(Rm xs).map (n::·)
 |_=>none
def A1g(ns:List Int):ByteArray:=⟨(ns.map λn=>UInt8.ofNat n.toNat).toArray⟩
def ZY(h:AH)(x:AV):Option (AV×AH) :=
 match elems h 1 x with
 |some ys=>(match Rm ys with|some ns=>some (.str (A1g ns),h)|none=>none)
 |none=>none
def jy(str:Bool):AV->AV->Option Bool
 | .str a,.str b=>if str then some (a == b)else none
 | .int k a,.int k' b=>if !str/\k=k' then some (a == b)else none
 |_,_=>none
def NU(str:Bool)(k:AV):List AV->Nat->Option (Option Nat)
 | [],_=>some none
 |x::xs,i =>
  match jy str k x with
  |some true=>some (some i)
  |some false=>NU str k xs (i+1)
  |none=>none
def Hz(h:AH):AV->Option (List AV×List AV)
 | .vm ks vs=>some (ks,vs)
 | .mp b=>match h.boxes[b]? with|some [.mbox ks vs]=>some (ks,vs)|_=>none
 | .nilm=>some ([],[])
 |_=>none
def VY(str:Bool):AV->Bool
 | .str _=>str
 | .int ..=>!str
 |_=>false
def Js(str ok:Bool)(z:AV)(h:AH)(x k:AV):Option (AV×AH) :=
 if VY str k then
  match Hz h x with
  |some (ks,vs) =>
   match NU str k ks 0 with
   |some (some i)=>match vs[i]? with|some v=>some (if ok then .tup [v,.bool true]else v,h)|none=>none
   |some none=>some (if ok then .tup [z,.bool false]else z,h)
   |none=>none
  |none=>none
 else none
def wd(h:AH):AV->Option AV
 | .sl k n off len=>some (.sl k n off len)
 |x=>frz h false x
def cv(str:Bool)(h:AH)(x k v:AV):Option (AV×AH) :=
 match x with
 | .mp b =>
  match h.boxes[b]?,wd h v with
  |some [.mbox ks vs],some u =>
   if VY str k/\u.isTup=false then
    match NU str k ks 0 with
    |some (some i)=>some (B9,{h with boxes:=h.boxes.set b [.mbox ks (vs.set i u)]})
    |some none=>some (B9,{h with boxes:=h.boxes.set b [.mbox (ks++[k]) (vs++[u])]})
    |none=>none
   else none
  |_,_=>none
 |_=>none
mutual
def Pr:AV->AV->Bool
 | .junk,.junk | .nilp,.nilp | .nilf,.nilf | .nilm,.nilm=>true
 | .bool a,.bool b=>decide (a=b)
 | .int k n,.int k' n'=>decide (k=k'/\n=n')
 | .str a,.str b=>decide (a=b)
 | .agg a,.agg b | .tup a,.tup b | .pv a,.pv b | .rbox a,.rbox b=>MW a b
 | .vs f s a,.vs f' s' b=>decide (f=f'/\s=s')&&MW a b
 | .sl k n o l,.sl k' n' o' l'=>decide (k=k'/\n=n'/\o=o'/\l=l')
 | .ep k n i c s,.ep k' n' i' c' s'=>decide (k=k'/\n=n'/\i=i'/\c=c'/\s=s')
 | .ptr b o,.ptr b' o'=>decide (b=b'/\o=o')
 | .fn f a,.fn g b=>decide (f=g)&&MW a b
 | .mp a,.mp b=>decide (a=b)
 | .bsl a b c d,.bsl a' b' c' d'=>decide (a=a'/\b=b'/\c=c'/\d=d')
 | .vm a b,.vm a' b' | .mbox a b,.mbox a' b'=>MW a a'&&MW b b'
 | .tbox t a,.tbox t' b=>decide (t=t')&&MW a b
 |_,_=>false
def MW:List AV->List AV->Bool
 | [],[]=>true
 |x::xs,y::ys=>Pr x y&&MW xs ys
 |_,_=>false
end
mutual
theorem sV:∀{x y:AV},Pr x y=true->x=y
 | .agg a,.agg b,h=>by simp only[Pr]at h;rw[Bh h]
 | .tup a,.tup b,h=>by simp only[Pr]at h;rw[Bh h]
 | .pv a,.pv b,h=>by simp only[Pr]at h;rw[Bh h]
 | .rbox a,.rbox b,h=>by simp only[Pr]at h;rw[Bh h]
 | .vs f s a,.vs f' s' b,h=>by simp only[Pr,zf0z,decide_eq_true_eq]at h;obtain⟨⟨rfl,rfl⟩,h⟩:=h;rw[Bh h]
 | .fn f a,.fn g b,h=>by simp only[Pr,zf0z,decide_eq_true_eq]at h;obtain⟨rfl,h⟩:=h;rw[Bh h]
 | .tbox t a,.tbox t' b,h=>by simp only[Pr,zf0z,decide_eq_true_eq]at h;obtain⟨rfl,h⟩:=h;rw[Bh h]
 | .vm a b,.vm a' b',h=>by simp only[Pr,zf0z]at h;rw[Bh h.1,Bh h.2]
 | .mbox a b,.mbox a' b',h=>by simp only[Pr,zf0z]at h;rw[Bh h.1,Bh h.2]
 | .junk,y,h | .nilp,y,h | .nilf,y,h | .nilm,y,h | .bool _,y,h | .int _ _,y,h | .str _,y,h | .sl _ _ _ _,y,h | .bsl _ _ _ _,y,h | .ep _ _ _ _ _,y,h | .ptr _ _,y,h | .mp _,y,h=>by
  cases y<;>simp_all [Pr]
theorem Bh:∀{x y:b9},MW x y=true->x=y
 | [],[],_=>rfl
 |x::xs,y::ys,h=>by simp only[MW,zf0z]at h;rw[sV h.1,Bh h.2]
end
mutual
theorem dh:∀x:AV,Pr x x=true
 | .agg a=>T0 a
 | .tup a=>T0 a
 | .pv a=>T0 a
 | .rbox a=>T0 a
 | .vs f s a=>by simp only[Pr,T0 a];simp
 | .fn f a=>by simp only[Pr,T0 a];simp
 | .tbox t a=>by simp only[Pr,T0 a];simp
 | .vm a b=>by simp only[Pr,T0 a,T0 b];simp
 | .mbox a b=>by simp only[Pr,T0 a,T0 b];simp
 | .junk | .nilp | .nilf | .nilm | .bool _ | .int _ _ | .str _ | .sl _ _ _ _ | .bsl _ _ _ _ | .ep _ _ _ _ _ | .ptr _ _ | .mp _=>by simp[Pr]
theorem T0:∀x:List AV,MW x x=true
 | []=>rfl
 |x::xs=>by simp only[MW,dh x,T0 xs];rfl
end
def Hv:List (List AV)->List (List AV)->Bool
 | [],[]=>true
 |x::xs,y::ys=>MW x y&&Hv xs ys
 |_,_=>false
theorem NT:∀{x y:List (List AV)},Hv x y=true->x=y
 | [],[],_=>rfl
 |x::xs,y::ys,h=>by simp only[Hv,zf0z]at h;rw[Bh h.1,NT h.2]
theorem Qj:∀x,Hv x x=true
 | []=>rfl
 |x::xs=>by simp only[Hv,T0 x,Qj xs];rfl
def VN(h:AH)(z x:AV):Option (AV×AH) :=
 match x with
 | .vs _ _ xs=>if xs.length=0 then some (B9,h)else none
 | .sl k n off len =>
  match h.fams[k]? with
  |some f=>if f.xs.length=n/\off+len<=n/\f.wr=true/\z.cells.length=f.sz then some (B9,{h with fams:=h.fams.set k {f with xs:=f.xs.take off++zf1z len z++f.xs.drop (off+len)}})else none
  |none=>none
 |_=>none
def pb(h:AH)(z:AV)(bytes:Nat)(l q:AV):Option (AV×AH) :=
 match l,q with
 | .int _ a,.int _ b=>if 0<=a/\a=b/\b*bytes<=K7/\b<=maxLen then some (.vs true z.cells.length (zf1z a.toNat z),h)else none
 |_,_=>none
def aI(h:AH)(z:AV)(bytes:Nat)(l q:AV):Option (AV×AH) :=
 match l,q with
 | .int _ a,.int _ b=>if 0<=a/\a=b/\b*bytes<=K7/\b<=maxLen then some (.bsl h.boxes.length z.cells.length 0 a.toNat,{h with boxes:=h.boxes++[(zf1z a.toNat z.cells).flatten]})else none
 |_,_=>none
def WW(h:AH)(n:Nat)(p x:AV):Option (AV×AH) :=
 match p with
 | .ep k m i q s=>if M9 x then (match Ic h n x k m i q s with|some h'=>some (B9,h')|none=>none)else none
 |_=>none
def TP(h:AH)(n:Nat)(p x:AV):Option (AV×AH) :=
 match p with
 | .ptr b o =>
  match h.boxes[b]? with
  |some cs=>if BE cs=false/\x.isTup=false/\x.cells.length=n/\o+n<=cs.length then some (B9,{h with boxes:=h.boxes.set b (j8 cs o x.cells)})else (mz h b n o x cs).map λh'=>(B9,h')
  |none=>none
 |_=>none
mutual
def Ox:AV->Bool
 | .ptr .. | .mp _ | .bsl ..=>false
 | .agg cs=>XO cs
 | .tup cs=>XO cs
 | .fn _ cs=>XO cs
 |_=>true
def XO:List AV->Bool
 | []=>true
 |x::xs=>Ox x&&XO xs
end
def yG(b:Bool)(h:AH)(r:Option (AV×AH)):Option (AV×AH) :=
 if b then (match r with|some (v,h')=>if Hv h'.boxes h.boxes||(Ox v&&Hv (h'.boxes.take h.boxes.length) h.boxes)then some (v,⟨h.boxes,h'.fams⟩)else none|none=>none)else r
theorem kS{b h r x}(he:yG b h r=some x):∃h',r=some (x.1,h')/\(h'=x.2\/(Ox x.1=true/\h'.boxes.take h.boxes.length=h.boxes/\x.2=⟨h.boxes,h'.fams⟩)):=by
 unfold yG at he;split at he
 .split at he
  .split at he
   .rename_i v h' hq;cases he;refine⟨h',rfl,?_⟩;rw[Bool.or_eq_true]at hq;rcases hq with hq|hq
    .exact .inl (by rw[←NT hq])
    .rw[zf0z]at hq;exact .inr ⟨hq.1,NT hq.2,rfl⟩
   .cases he
  .cases he
 .exact⟨x.2,he,.inl rfl⟩
theorem kT{b h r x}(he:yG b h r=some x):∃y,r=some y:=by
 obtain⟨h',e,_⟩:=kS he;exact⟨_,e⟩
theorem wN{h h' r v}(he:yG true h r=some (v,h')):h'.boxes=h.boxes:=by
 unfold yG at he;rw[if_pos rfl]at he;split at he
 .split at he
  .cases he;rfl
  .cases he
 .cases he
def Gu(O:Orc)(c:Ctx)(f:FuncId)(args:List AV)(h:AH):Option (AV×AH) :=
 if c.raw f then yG (c.noB f) h (O.raw f args h)
 else
  match AX h true args with
  |none=>none
  |some aas =>
   match O.pure f aas with
   |none=>none
   |some r=>if r.scalar||args.all (tame h)then some (r,h)else none
def nqA(neg:Bool)(h:AH)(x:AV):Option (AV×AH) :=
 match x with
 | .vs _ z _=>some (.bool (if neg then !(z == 0)else z == 0),h)
 | .sl _ _ _ len=>if len=0 then none else some (.bool neg,h)
 | .bsl ..=>some (.bool neg,h)
 |_=>none
def ET:List AV:=[.mbox [.junk] []]
def CU:List AV->Bool
 | [.mbox [.junk] []]=>true
 |_=>false
def AH.holes(h:AH)(k:Nat):AH:={h with boxes:=h.boxes++zf1z k ET}
def AW(h:AH)(r:Nat)(z:AV):Option (AV×AH) :=
 match h.boxes[h.boxes.length-r]? with
 |some cs=>if CU cs then some (.ptr (h.boxes.length-r) 0,{h with boxes:=h.boxes.set (h.boxes.length-r) z.cells})else none
 |none=>none
def XM(b:Bool)(h:AH)(x:AV):AH:=if b then A1S h x else h
def A7(O:Orc)(c:Ctx)(o:ROp)(fr:Fr)(h:AH):Option (AV×AH) :=
 match o with
 | .mov x=>some (get fr x,h)
 | .pick q a b=>match get fr q with | .bool t=>some (if t then get fr a else get fr b,h)|_=>none
 | .box x=>if (get fr x).isTup then none else some (.ptr h.boxes.length 0,{h with boxes:=h.boxes++[(get fr x).cells]})
 | .mkmap=>some (.mp h.boxes.length,{h with boxes:=h.boxes++[[.mbox [] []]]})
 | .mlook str ok z x k=>Js str ok z h (get fr x) (get fr k)
 | .mup str x k v=>cv str h (get fr x) (get fr k) (get fr v)
 | .alloc z=>some (.ptr h.boxes.length 0,{h with boxes:=h.boxes++[z.cells]})
 | .allocAt r z=>AW h r z
 | .build z parts=>match B5 fr z.cells.length parts with|some ps=>some (.agg (C0 z.cells ps),h)|none=>none
 | .bslice n z parts=>match A9 fr h (zf1z n z) parts with|some xs=>some (.vs true z.cells.length xs,h)|none=>none
 | .bslicev n z parts=>if parts.all (λp=>M9 (get fr p.2))then (match A9 fr h (zf1z n z) parts with|some xs=>some (.vs true z.cells.length xs,h)|none=>none)else none
 | .ldb agg n x=>match get fr x with | .ep ..=>none|p=>(match X3 h agg n p with|some v=>some (v,h)|none=>none)
 | .ld agg n x=>match X3 h agg n (get fr x)with|some v=>some (v,h)|none=>none
 | .st n a x=>match DX h n (get fr x) (get fr a)with|some h'=>some (B9,XM c.lay h' (get fr x))|none=>none
 | .ste n a x=>WW h n (get fr a) (get fr x)
 | .mkv z bytes l q=>pb h z bytes (get fr l) (get fr q)
 | .mkb z bytes l q=>aI h z bytes (get fr l) (get fr q)
 | .stb n a x=>TP h n (get fr a) (get fr x)
 | .clr z x=>VN h z (get fr x)
 | .nilck x=>match get fr x with | .pv cs=>some (.pv cs,h) | .ptr b o=>some (.ptr b o,h) | .ep k n i q s=>some (.ep k n i q s,h) | .fn f cs=>some (.fn f cs,h)|_=>none
 | .bin op x y=>match M7 op (get fr x) (get fr y)with|some v=>some (v,h)|none=>none
 | .beq neg x y=>match get fr x,get fr y with | .bool a,.bool b=>some (.bool (if neg then !(a == b)else a == b),h)|_,_=>none
 | .nileq neg x=>nqA neg h (get fr x)
 | .un op x=>match Rv op (get fr x)with|some v=>some (v,h)|none=>none
 | .conv k x=>match get fr x with | .int _ n=>some (.int k (k.wrap n),h)|_=>none
 | .bstr x=>ZY h (get fr x)
 | .clos f caps=>if c.ro then (Aw h (caps.map (get fr))).map λp=>(.fn f p.1,p.2)else some (.fn f (caps.map (get fr)),h)
 | .mkslice z bytes l q =>
  match get fr l,get fr q with
  | .int _ a,.int _ b =>
   if 0<=a/\a<=b/\b*bytes<=K7/\b<=maxLen then
    some (.sl h.fams.length a.toNat 0 a.toNat,{h with fams:=h.fams++[⟨zf1z a.toNat z,z.cells.length,true⟩]})
   else none
  |_,_=>none
 | .slc sz x lo hi mx =>
  match AA fr lo,AA fr hi,AA fr mx with
  |some l,some u,some m=>match KM h sz (get fr x) l u m with|some v=>some (v,h)|none=>none
  |_,_,_=>none
 | .faddr off x=>match get fr x with | .pv cs=>some (.pv (cs.drop off),h) | .ptr b o=>some (.ptr b (o+off),h) | .ep k n i q s=>some (.ep k n i (q+off) s,h)|_=>none
 | .fld agg off n x=>match get fr x with | .agg cs=>(match Q6 agg n (cs.drop off)with|some v=>some (v,h)|none=>none)|_=>none
 | .iaddr sz x i =>
  match get fr x,get fr i with
  | .vs _ z xs,.int _ j=>if 0<=j/\z=sz then (match xs[j.toNat]? with|some e=>some (.pv e.cells,h)|none=>none)else none
  | .sl k n off len,.int _ j=>if 0<=j/\j<len then some (.ep k n (off+j.toNat) 0 sz,h)else none
  | .bsl b s off len,.int _ j=>if 0<=j/\j<len/\s=sz then some (.ptr b (off+j.toNat*sz),h)else none
  |_,_=>none
 | .idx x i =>
  match get fr x,get fr i with
  | .str s,.int _ j=>if 0<=j then (match s[j.toNat]? with|some b=>some (.int .u8 b.toNat,h)|none=>none)else none
  |_,_=>none
 | .ext x i=>match get fr x with | .tup vs=>(match vs[i]? with|some v=>some (v,h)|none=>none)|_=>none
 | .len true x=>match get fr x with | .str s=>some (.int .i64 s.size,h)|_=>none
 | .len false x =>
  match get fr x with
  | .vs _ _ xs=>some (.int .i64 xs.length,h)
  | .sl _ _ _ len=>some (.int .i64 len,h)
  | .bsl _ _ _ len=>some (.int .i64 len,h)
  |_=>none
 | .app sz bytes s x=>N0 c h sz bytes (get fr s) (get fr x)
 | .apps bytes s x=>ZV c h bytes (get fr s) (get fr x)
 | .max x y=>match get fr x,get fr y with | .int k a,.int k' b=>if k=k' then some (.int k (if b > a then b else a),h)else none|_,_=>none
 | .min x y=>match get fr x,get fr y with | .int k a,.int k' b=>if k=k' then some (.int k (if b<a then b else a),h)else none|_,_=>none
 | .call f args=>Gu O c f (args.map (get fr)) h
 | .callv x args=>match get fr x with | .fn f caps=>if c.raw f&&!c.rawv then none else Gu O c f (args.map (get fr)++caps) h|_=>none
def O8(fr:Fr):Option (Nat×Bool)->Option Bool
 |none=>some true
 |some (s,want) =>
  match fr.getD s B9 with
  | .bool b=>some (b == want)
  | .tup _=>some false
  |_=>none
def M8(O:Orc)(c:Ctx):List RO->Fr->AH->Option (Fr×AH)
 | [],fr,h=>some (fr,h)
 |o::rest,fr,h =>
  match O8 fr o.guard with
  |some true =>
   match A7 O c o.op fr h with
   |some (v,h')=>M8 O c rest (put fr o.dst v) h'
   |none=>none
  |some false=>M8 O c rest (put fr o.dst B9) h
  |none=>none
def Opd.slots:Opd->List Nat
 | .t n=>[n]
 | .c _=>[]
def WC:Option Opd->List Nat
 |some x=>x.slots
 |none=>[]
def ROp.slots:ROp->List Nat
 | .mov x | .box x | .ld _ _ x | .ldb _ _ x | .nilck x | .un _ x | .nileq _ x | .conv _ x | .bstr x | .faddr _ x | .fld _ _ _ x | .ext x _ | .len _ x=>x.slots
 | .pick c a b=>c.slots++a.slots++b.slots
 | .alloc _ | .allocAt .. | .mkmap=>[]
 | .mlook _ _ _ x k=>x.slots++k.slots
 | .mup _ x k v=>x.slots++k.slots++v.slots
 | .build _ ps=>ps.flatMap λp=>p.2.2.slots
 | .bslice _ _ ps | .bslicev _ _ ps=>ps.flatMap λp=>p.2.slots
 | .clr _ x=>x.slots
 | .mkv _ _ a x | .mkb _ _ a x=>a.slots++x.slots
 | .st _ a x | .ste _ a x | .stb _ a x | .bin _ a x | .beq _ a x | .mkslice _ _ a x | .iaddr _ a x | .idx a x | .app _ _ a x | .apps _ a x | .max a x | .min a x=>a.slots++x.slots
 | .clos _ cs=>cs.flatMap Opd.slots
 | .slc _ x a b c=>x.slots++WC a++WC b++WC c
 | .call _ aas=>aas.flatMap Opd.slots
 | .callv x aas=>x.slots++aas.flatMap Opd.slots
def RO.slots(o:RO):List Nat:=o.op.slots++(match o.guard with|some (s,_)=>[s]|none=>[])
def ROp.writesB(c:Ctx):ROp->Bool
 | .box _ | .alloc _ | .allocAt .. | .st .. | .stb .. | .mkmap | .mup .. | .mkb ..=>true
 | .callv ..=>c.rawv
 | .clos ..=>c.ro
 | .call f _=>c.raw f&&!c.noB f
 |_=>false
def ROp.writesF(c:Ctx):ROp->Bool
 | .st .. | .ste .. | .clr .. | .mkslice .. | .app .. | .apps ..=>true
 | .callv ..=>c.rawv
 | .call f _=>c.raw f
 |_=>false
def ROp.looksB:ROp->Bool
 | .box _ | .alloc _ | .allocAt .. | .st .. | .stb .. | .mkb .. | .callv .. | .ld .. | .ldb .. | .call .. | .mkmap | .mlook .. | .mup .. | .bslice .. | .clos ..=>true
 |_=>false
def ROp.looksF:ROp->Bool
 | .st .. | .ste .. | .clr .. | .mkslice .. | .app .. | .apps .. | .callv .. | .call .. | .ld .. | .bslice .. | .slc .. | .mup .. | .bstr .. | .clos ..=>true
 |_=>false
def JR(c:Ctx)(nb:Nat)(g:Opd->AV):ROp->Option (List (Option Nat))
 | .ld _ _ x | .ldb _ _ x=>match g x with | .pv _=>some [] | .ptr b _=>some [some b] | .ep ..=>some []|_=>none
 | .st _ a _=>if c.lay then none else (match g a with | .ptr b _=>some [some b]|_=>none)
 | .stb _ a _=>match g a with | .ptr b _=>some [some b]|_=>none
 | .box _ | .alloc _ | .mkmap | .mkb ..=>some [none]
 | .allocAt r _=>some [none,some (nb-r)]
 | .call f args=>if !c.raw f&&(args.map g).all M9 then some []else none
 | .bslice _ _ ps=>if ps.all (λp=>M9 (g p.2))then some []else none
 |r=>if r.looksB then none else some []
def Gl(c:Ctx)(g:Opd->AV):ROp->Option (List (Option Nat))
 | .ld _ _ x | .ldb _ _ x=>match g x with | .pv _=>some [] | .ptr ..=>some [] | .ep k _ _ _ _=>some [some k]|_=>none
 | .st _ a _=>if c.lay then none else (match g a with | .ptr ..=>some []|_=>none)
 | .ste _ a _=>match g a with | .ep k _ _ _ _=>some [some k]|_=>none
 | .app _ _ s x =>
  match g s,g x with
  | .vs ..,.vs ..=>some [none]
  | .vs ..,.sl k _ _ _=>some [none,some k]
  | .sl k _ _ _,.vs ..=>some [some k]
  | .sl k _ _ _,.sl j _ _ _=>some [some k,some j]
  |_,_=>none
 | .slc _ x _ _ _=>match g x with | .vs .. | .str _ | .bsl ..=>some [] | .sl k _ _ _=>some [some k]|_=>none
 | .mkslice ..=>some [none]
 | .clr _ x=>match g x with | .sl k _ _ _=>some [some k]|_=>none
 | .call f args=>if !c.raw f&&(args.map g).all M9 then some []else none
 | .bslice _ _ ps=>if ps.all (λp=>M9 (g p.2))then some []else none
 |r=>if r.looksF then none else some []
def NS:Option (List AV)->Option (List AV)->Bool
 |none,none=>true
 |some a,some b=>MW a b
 |_,_=>false
def MX:Option Fam->Option Fam->Bool
 |none,none=>true
 |some a,some b=>MW a.xs b.xs&&decide (a.sz=b.sz)&&decide (a.wr=b.wr)
 |_,_=>false
def Lv(a b:List (List AV)):List (Option Nat) :=
 (if a.length=b.length then []else [none])++((zf2z (max a.length b.length)).filter λi=>!NS a[i]? b[i]?).map some
def PK(a b:List Fam):List (Option Nat) :=
 (if a.length=b.length then []else [none])++((zf2z (max a.length b.length)).filter λi=>!MX a[i]? b[i]?).map some
structure Foot where
 rb:Option (List (Option Nat))
 wb:List (Option Nat)
 rf:Option (List (Option Nat))
 wf:List (Option Nat)
def Xt(c:Ctx)(w:Option Bool)(g:Opd->AV)(r:ROp)(h h1:AH):Foot :=
 match w with
 |some true=>⟨JR c h.boxes.length g r,Lv h.boxes h1.boxes,Gl c g r,PK h.fams h1.fams⟩
 |_=>⟨some [],[],some [],[]⟩
def At(c:Ctx)(o:RO)(fr:Fr)(h h1:AH):Foot:=Xt c (O8 fr o.guard) (get fr) o.op h h1
def P0(O:Orc)(c:Ctx):List RO->Fr->AH->Option (List Foot×Fr×AH)
 | [],fr,h=>some ([],fr,h)
 |o::rest,fr,h =>
  match O8 fr o.guard with
  |some true =>
   match A7 O c o.op fr h with
   |some (v,h')=>(P0 O c rest (put fr o.dst v) h').map λp=>(At c o fr h h'::p.1,p.2)
   |none=>none
  |some false=>(P0 O c rest (put fr o.dst B9) h).map λp=>(At c o fr h h::p.1,p.2)
  |none=>none
def Z0:Option (List (Option Nat))->List (Option Nat)->Bool
 |none,w=>w.isEmpty
 |some r,w=>w.all λx=>!r.contains x
def P1(a b:Foot):Bool:=Z0 a.rb b.wb&&Z0 b.rb a.wb&&Z0 (some a.wb) b.wb&&Z0 a.rf b.wf&&Z0 b.rf a.wf&&Z0 (some a.wf) b.wf
def TB(bj:Nat)(i:Nat)(oi oj:RO)(fi fj:Foot):Bool :=
 bj.testBit i ||
  (
   (match oi.dst with|some d=>!oj.slots.contains d&&oj.dst != some d|none=>true) &&
   (match oj.dst with|some d=>!oi.slots.contains d|none=>true)&&P1 fi fj)
def Es(bs:List Nat)(C9:List RO)(fs:List Foot):Bool :=
 (zf2z C9.length).all λj=>(zf2z j).all λi =>
  match C9[i]?,C9[j]?,fs[i]?,fs[j]? with
  |some oi,some oj,some fi,some fj=>TB (bs.getD j 0) i oi oj fi fj&&(match oi.dst,oj.dst with|some d,some e=>d != e|_,_=>true)
  |_,_,_,_=>false
def Z2(O:Orc)(c:Ctx):List RO->Fr->AH->Option (List (Fr×AH))
 | [],fr,h=>some [(fr,h)]
 |o::rest,fr,h =>
  match O8 fr o.guard with
  |some true =>
   match A7 O c o.op fr h with
   |some (v,h')=>(Z2 O c rest (put fr o.dst v) h').map ((fr,h)::·)
   |none=>none
  |some false=>(Z2 O c rest (put fr o.dst B9) h).map ((fr,h)::·)
  |none=>none
def eqO:Option AV->Option AV->Bool
 |some a,some b=>Pr a b
 |_,_=>false
def Rx(bs:List Nat)(C9:List RO)(ts:List (Fr×AH))(i:Nat):Bool :=
 match C9[i]?,ts[i]? with
 |some ⟨_,.ld agg n x,none⟩,some (fr,h)=>(match get fr x with | .ptr b off=>ts.zipIdx.all λs=>(s.2 != 0&&(bs.getD (s.2-1) 0).testBit i)||eqO (X3 s.1.2 agg n (.ptr b off)) (X3 h agg n (.ptr b off))|_=>false)
 |_,_=>false
def nH(bs:List Nat)(C9:List RO)(ts:List (Fr×AH))(fs:List Foot):List Foot:=fs.mapIdx λi f=>if Rx bs C9 ts i then {f with rb:=some []} else f
def Dx(O:Orc)(c:Ctx)(bs:List Nat)(C9:List RO)(fr:Fr)(h:AH)(fs:List Foot):Bool :=
 match Z2 O c C9 fr h with
 |some ts=>Es bs C9 (nH bs C9 ts fs)
 |none=>false
def ROp.isAt:ROp->Bool
 | .allocAt ..=>true
 |_=>false
def cN(ops:List RO):Nat:=ops.countP λo=>o.op.isAt
def A8(O:Orc)(c:Ctx):RCode->St->Option (Ex×St)
 | .skip,s=>some (.normal,s)
 | .region _ ops,s =>
  match M8 O c ops s.1 s.2 with
  |some s'=>some (.normal,s')
  |none=>none
 | .regd bs ops,s =>
  match P0 O c ops s.1 (s.2.holes (cN ops))with
  |some (fs,s')=>if Es bs ops fs||Dx O c bs ops s.1 (s.2.holes (cN ops)) fs then some (.normal,s')else none
  |none=>none
 | .seq a b,s =>
  match A8 O c a s with
  |some (.normal,s')=>A8 O c b s'
  |r=>r
 | .cond q a b,s =>
  match get s.1 q with
  | .bool true=>A8 O c a s
  | .bool false=>A8 O c b s
  |_=>none
 | .block id a,s =>
  match A8 O c a s with
  |some (.exit id',s')=>if id'=id then some (.normal,s')else some (.exit id',s')
  |r=>r
 | .loop a,s=>O.loop (A8 O c a) s
 | .exit id,s=>some (.exit id,s)
 | .ret,s=>some (.ret,s)
 | .bad,_=>none
def Mx(fr:Fr)(h:AH):List UB->Option (List AV)
 | []=>some []
 | .tmp t::rest=>(Mx fr h rest).map (fr.getD t B9::·)
 | .cell a agg n::rest=>(X3 h agg n (fr.getD a B9)).bind λv=>(Mx fr h rest).map (v::·)
def J4:List AV->AV
 | [v]=>v
 |vs=>.tup vs
structure RSpec where
 run:Orc->List AV->AH->Option (AV×AH)
 fin:∀(O:Orc) (args:List AV) (h:AH) (x:AV×AH),run O args h=some x->∃l:List (FuncId×List AV×AV),(∀p∈l,O.pure p.1 p.2.1=some p.2.2)/\∀O':Orc,(∀p∈l,O'.pure p.1 p.2.1=some p.2.2)->run O' args h=some x
structure Cfg where
 code:FuncId->Option RFunc
 ctx:FuncId->Ctx
 spec:FuncId->Option (List AV->Option AV)
 rspec:FuncId->Option RSpec:=λ_=>none
def Ec(rf:RFunc)(args:List AV):Fr:=args++zf1z (rf.ntmps-args.length) B9
def Ij(O:Orc)(c:Ctx)(rf:RFunc)(args:List AV)(h:AH):Option (AV×AH) :=
 match A8 O c rf.body (Ec rf args,h)with
 |some (.normal,s)=>(Mx s.1 s.2 rf.results).map λvs=>(J4 vs,s.2)
 |some (.ret,s)=>(Mx s.1 s.2 rf.results).map λvs=>(J4 vs,s.2)
 |_=>none
def IG(C:Cfg)(O:Orc)(f:FuncId)(args:List AV)(h:AH):Option (AV×AH) :=
 match C.code f with
 |some rf=>Ij O (C.ctx f) rf args h
 |none=>match C.rspec f with|some s=>s.run O args h|none=>none
def bA(b:Bool)(r:Option (AV×AH)):Option (AV×AH):=if b then r.map λp=>(p.1,rstV p.2 p.1)else r
def rstQ(b:Bool)(x:AV×AH):AV×AH:=if b then (x.1,rstV x.2 x.1)else x
theorem TH(b x):bA b (some x)=some (rstQ b x):=by cases b<;>rfl
def WK(C:Cfg)(O:Orc)(f:FuncId)(args:List AV)(h:AH):Option (AV×AH):=bA (C.ctx f).rst (IG C O f args h)
def FN(C:Cfg)(O:Orc)(f:FuncId)(args:List AV):Option AV :=
 match C.spec f with
 |some s=>s args
 |none =>
  match IG C O f args AH.empty with
  |some (r,h)=>Gj h r
  |none=>none
def Lw(step:St->Option (Ex×St)):Nat->St->Option (Ex×St)
 |0,_=>none
 |n+1,s =>
  match step s with
  |some (.normal,s')=>Lw step n s'
  |r=>r
def orc(C:Cfg):Nat->Orc
 |0=>⟨λ_ _=>none,λ_ _ _=>none,λ_ _=>none⟩
 |n+1=>⟨FN C (orc C n),WK C (orc C n),λstep s=>Lw step (n+1) s⟩
def su:List (Nat×List AV):=[(0,[.vs false 1 ([[97,110,121],[97,103,101,110,116],[110,111,110,99,101],[107,101,121],[100,97,116,97],[116,97,103]].map λl=>.str ⟨(l.map UInt8.ofNat).toArray⟩)])]
def bldT:Option TypeId:=some 196
def eA:Bool:=false
def NQ:Value->Option AV
 | .bool b=>some (.bool b)
 | .int k n=>some (.int k n)
 | .string s=>some (.str s)
 | .slice none 0 0=>some (.vs true 0 [])
 | .pointer none=>some .nilp
 | .map none=>some .nilm
 | .nilFunc=>some .nilf
 | .nilIface=>some .junk
 | .func (.func f) a b=>if a.size=0/\b.size=0 then some (.fn f [])else none
 |_=>none
def IW{α β:Type}(f:α->Option β):List α->Option (List β)
 | []=>some []
 |x::xs=>match f x,IW f xs with|some y,some ys=>some (y::ys)|_,_=>none
def Qg:Value->Option AV
 | .agg cs=>(IW NQ cs.toList).map .agg
 | .tuple vs=>if vs.size=0 then some (.tup [])else none
 |v=>NQ v
def C7:Operand->Option Opd
 | .tmp t=>some (.t t)
 | .const v=>(Qg v).map .c
 | .func f=>some (.c (.fn f []))
 | .global g=>(su.find? λp=>Nat.beq p.1 g).map λp=>.c (.pv p.2)
def Ib:Option Operand->Option (Option Opd)
 |none=>some none
 |some x=>(C7 x).map some
def Program.agg? (P:Program) (t:TypeId):Option Bool :=
 match P.underlying t with
 |some (.struct _)|some (.array _ _)=>some true
 |some _=>some false
 |none=>none
def Program.size? (P:Program) (t:TypeId):Option Nat:=(P.info? t).map (·.size)
def Program.zeroA(P:Program)(t:TypeId):Option AV :=
 match P.info? t with
 |some i =>
  match i.zero with
  |some z =>
   match Qg z with
   |some x=>if z.cells.size=i.size/\x.isTup=false then some x else none
   |none=>none
  |none=>none
 |none=>none
def Program.enterable(P:Program)(f:FuncId):Bool :=
 match P.funcs[f]? with
 |some fn=>fn.body.isSome&&!(fn.name == "runtime.NumGoroutine")
 |none=>false
def WO(P:Program)(fs:Array Field)(p:Nat×Operand):Option (Nat×Nat×Opd) :=
 match fs[p.1]?,C7 p.2 with
 |some f,some x=>match Program.size? P f.type with|some n=>some (f.offset,n,x)|none=>none
 |_,_=>none
def WN(p:Nat×Operand):Option (Nat×Opd):=(C7 p.2).map λx=>(p.1,x)
def Qq(P:Program)(kt:TypeId):Option Bool :=
 match P.underlying kt with
 |some .string=>some true
 |some (.int _)=>some false
 |_=>none
def Mz(t:TypeId)(z:AV):AV:=if bldT=some t then .agg [.tbox t z.cells]else z
def pairKey(P:Program)(kt:TypeId):Bool :=
 match P.underlying kt with
 |some (.struct fs) =>
  match fs.toList with
  | [f,g] =>
   match P.underlying f.type,P.underlying g.type with
   |some .string,some (.int _)=>f.name≠ "_"/\g.name≠ "_"/\f.offset=0/\g.offset=1/\Program.agg? P f.type=some false/\Program.agg? P g.type=some false/\P.stoodInHeld kt=false
   |_,_=>false
  |_=>false
 |_=>false
def o8(P:Program):Op->Option ROp
 | .makeMap t none=>match P.underlying t with|some (.map _ _)=>some .mkmap|_=>none
 | .lookup t x k ok =>
  match P.underlying t with
  |some (.map kt et) =>
   match Qq P kt,Program.zeroA P et,C7 x,C7 k with
   |some b,some z,some x,some k=>some (.mlook b ok z x k)
   |_,_,_,_=>none
  |_=>none
 | .mapUpdate t m k x | .insert t m k x =>
  match P.underlying t with
  |some (.map kt _) =>
   match Qq P kt,C7 m,C7 k,C7 x with
   |some b,some m,some k,some x=>some (.mup b m k x)
   |_,_,_,_=>none
  |_=>none
 | .move x=>(C7 x).map .mov
 | .assign x=>(C7 x).map .mov
 | .pick c a b=>match C7 c,C7 a,C7 b with|some c,some a,some b=>some (.pick c a b)|_,_,_=>none
 | .alloc t=>(Program.zeroA P t).map λz=>.alloc (Mz t z)
 | .box _ x=>(C7 x).map .box
 | .build t parts =>
  match P.underlying t,Program.zeroA P t with
  |some (.struct fs),some (.agg zs) =>
   if (fs.toList.mapM λf=>(P.info? f.type).map λi=>(f.offset,i.size)).isSome then (IW (WO P fs) parts.toList).map (.build (.agg zs))else none
  |_,_=>none
 | .buildSlice t len parts =>
  match P.underlying t with
  |some (.slice e) =>
   match Program.zeroA P e,Program.size? P e,IW WN parts.toList with
   |some z,some n,some ps=>if 0<n/\len*n<=2 ^ 24 then some (.bslice len z ps)else none
   |_,_,_=>none
  |_=>none
 | .load t x=>match Program.agg? P t,Program.size? P t,C7 x with|some b,some n,some x=>some (.ld b n x)|_,_,_=>none
 | .store t a x=>match Program.size? P t,C7 a,C7 x with|some n,some a,some x=>some (.st n a x)|_,_,_=>none
 | .nilCheck x=>(C7 x).map .nilck
 | .binOp op t x y _ =>
  match C7 x,C7 y with
  |some x,some y =>
   match P.underlying t,op with
   |some .bool,.eql=>some (.beq false x y)
   |some .bool,.neq=>some (.beq true x y)
   |some (.slice _),.eql=>match y with | .c (.vs true 0 [])=>some (.nileq false x)|_=>none
   |some (.slice _),.neq=>match y with | .c (.vs true 0 [])=>some (.nileq true x)|_=>none
   |_,_=>some (.bin op x y)
  |_,_=>none
 | .unOp op _ x=>(C7 x).map (.un op)
 | .convert s d x =>
  match P.underlying s,P.underlying d with
  |some (.int _),some (.int k)=>(C7 x).map (.conv k)
  |some (.slice e),some .string=>match P.underlying e with|some (.int .u8)=>(C7 x).map .bstr|_=>none
  |_,_=>none
 | .makeFunc (.func f) first caps=>if first.size=0 then (IW C7 caps.toList).map (.clos f)else none
 | .makeSlice t l c =>
  match P.underlying t with
  |some (.slice e) =>
   match P.info? e,Program.zeroA P e,C7 l,C7 c with
   |some i,some z,some l,some c=>if 0<i.size then some (.mkslice z i.bytes l c)else none
   |_,_,_,_=>none
  |_=>none
 | .slice t x lo hi mx =>
  match P.underlying t,C7 x,Ib lo,Ib hi,Ib mx with
  |some .string,some x,some lo,some hi,some none=>some (.slc 0 x lo hi none)
  |some (.slice e),some x,some lo,some hi,some mx=>match Program.size? P e with|some n=>if 0<n then some (.slc n x lo hi mx)else none|none=>none
  |_,_,_,_,_=>none
 | .fieldAddr s x i =>
  match P.underlying s,C7 x with
  |some (.struct fs),some x =>
   match fs[i]? with
   |some f=>match Program.size? P f.type with|some n=>if 0<n then some (.faddr f.offset x)else none|none=>none
   |none=>none
  |_,_=>none
 | .field s x i =>
  match P.underlying s,C7 x with
  |some (.struct fs),some x =>
   match fs[i]? with
   |some f=>match Program.agg? P f.type,Program.size? P f.type with|some b,some n=>some (.fld b f.offset n x)|_,_=>none
   |none=>none
  |_,_=>none
 | .indexAddr t x i =>
  match P.underlying t,C7 x,C7 i with
  |some (.slice e),some x,some i=>match Program.size? P e with|some n=>if 0<n then some (.iaddr n x i)else none|none=>none
  |_,_,_=>none
 | .index t x i=>match P.underlying t,C7 x,C7 i with|some .string,some x,some i=>some (.idx x i)|_,_,_=>none
 | .extract x i=>(C7 x).map λx=>.ext x i
 | .call {callee:=.builtin .len,args,argTypes} =>
  match args.toList,argTypes.toList with
  | [x],[t] =>
   match P.underlying t with
   |some .string=>(C7 x).map (.len true)
   |some (.slice _)=>(C7 x).map (.len false)
   |_=>none
  |_,_=>none
 | .call {callee:=.builtin .append,args,argTypes} =>
  match args.toList,argTypes.toList with
  | [s,x],[t,u] =>
   match P.underlying t with
   |some (.slice e) =>
    match P.info? e,Program.zeroA P e,C7 s,C7 x with
    |some i,some _,some s,some x=>if 0<i.size/\t=u then some (.app i.size i.bytes s x)else (match P.underlying u with|some .string=>if i.size=1 then some (.apps i.bytes s x)else none|_=>none)
    |_,_,_,_=>none
   |_=>none
  |_,_=>none
 | .call {callee:=.builtin .clear,args,argTypes} =>
  match args.toList,argTypes.toList with
  | [x],[t] =>
   match P.underlying t with
   |some (.slice e)=>match Program.zeroA P e,C7 x with|some z,some x=>some (.clr z x)|_,_=>none
   |_=>none
  |_,_=>none
 | .call {callee:=.builtin .max,args,argTypes:=_} =>
  match args.toList with
  | [x,y]=>match C7 x,C7 y with|some x,some y=>some (.max x y)|_,_=>none
  |_=>none
 | .call {callee:=.builtin .min,args,argTypes:=_} =>
  match args.toList with
  | [x,y]=>match C7 x,C7 y with|some x,some y=>some (.min x y)|_,_=>none
  |_=>none
 | .call {callee:=.value (.func f),args,argTypes:=_}=>if Program.enterable P f then (IW C7 args.toList).map (.call f)else none
 | .call {callee:=.value (.tmp t),args,argTypes:=_}=>(IW C7 args.toList).map (.callv (.t t))
 |_=>none
def Np(ops:List Oper):Option (Nat×Bool)->Option (Option (Nat×Bool))
 |none=>some none
 |some (j,want) =>
  match ops[j]? with
  |some o=>match o.dst with|some d=>some (some (d,want))|none=>none
  |none=>none
def QP(P:Program)(ops:List Oper)(o:Oper):Option RO :=
 match o8 P o.op,Np ops o.guard with
 |some r,some g=>some ⟨o.dst,r,g⟩
 |_,_=>none
def ROp.lax(m:Option Bool×Bool):ROp->ROp
 | .ld b n x=>.ldb b n x
 | .bslice n z ps=>.bslicev n z ps
 | .mkslice z b l q=>if m.2 then .mkv z b l q else .mkslice z b l q
 | .st n a x=>match m.1 with|none=>.st n a x|some true=>.ste n a x|some false=>.stb n a x
 |o=>o
def ROp.bxd:ROp->ROp
 | .mkslice z b l q=>.mkb z b l q
 |o=>o
def RO.bxd(o:RO):RO:={o with op:=o.op.bxd}
def bxS(b:Bool)(C9:List RO):List RO:=if b then C9.map RO.bxd else C9
def RO.lax(m:Option Bool×Bool)(o:RO):RO:={o with op:=o.op.lax m}
def ROp.isIA:ROp->Bool
 | .iaddr ..=>true
 |_=>false
def gR(C9:List RO):ROp->Bool
 | .st _ (.t d) _=>C9.any λp=>p.dst == some d&&p.op.isIA
 |_=>false
def XL(k:Bool)(C9:List RO):List RO:=C9.map λo=>o.lax (some (gR C9 o.op),k)
def gc:Nat->List RO->List RO
 |_,[]=>[]
 |n,o::os=>match o.op with | .alloc z=>{o with op:=.allocAt n z}::gc (n-1) os|_=>o::gc n os
def nAl(ops:List RO):Nat:=ops.countP λo=>match o.op with | .alloc _=>true|_=>false
def Vx(C9:List RO):List RO:=if 2<=nAl C9 then gc (nAl C9) C9 else C9
def T7:List Oper->List Nat->List Nat
 | [],Y7=>Y7
 |o::rest,Y7=>T7 rest (Y7++[o.after.toList.foldl (λs e=>if Region.binds .any e then s ||| 2 ^ e.on ||| Y7.getD e.on 0 else s) 0])
def A0t(c:Ctx)(bj:Nat)(i:Nat)(oi oj:RO):Bool :=
 bj.testBit i ||
  (
   (match oi.dst with|some d=>!oj.slots.contains d&&oj.dst != some d|none=>true) &&
   (match oj.dst with|some d=>!oi.slots.contains d|none=>true) &&
   !(oi.op.writesB c&&oj.op.looksB)&&!(oi.op.looksB&&oj.op.writesB c)&&!(oi.op.writesF c&&oj.op.looksF)&&!(oi.op.looksF&&oj.op.writesF c))
def Mf:List Oper->Nat->Bool
 | [],_=>true
 |o::rest,i=>o.after.toList.all (λe=>!Region.binds .any e||decide (e.on<i))&&Mf rest (i+1)
def tN(c:Ctx)(bs:List Nat)(C9:List RO):Bool :=
 (zf2z C9.length).all λj=>(zf2z j).all λi =>
  match C9[i]?,C9[j]? with
  |some oi,some oj=>A0t c (bs.getD j 0) i oi oj&&(match oi.dst,oj.dst with|some d,some e=>d != e|_,_=>true)
  |_,_=>false
def ROp.rdr(c:Ctx):ROp->Bool
 | .ld .. | .ldb .. | .bslice .. | .mlook ..=>true
 | .call f _=>!c.raw f
 |_=>false
def ROp.apd:ROp->Bool
 | .box _ | .alloc _ | .mkmap | .mkb ..=>true
 |_=>false
def Yy(c:Ctx)(bj:Nat)(i:Nat)(oi oj:RO):Bool :=
 bj.testBit i ||
  (
   (match oi.dst with|some d=>!oj.slots.contains d&&oj.dst != some d|none=>true) &&
   (match oj.dst with|some d=>!oi.slots.contains d|none=>true) &&
   !(oi.op.writesB c&&oj.op.looksB)&&(!(oi.op.looksB&&oj.op.writesB c)||(oi.op.rdr c&&oj.op.apd))&&!(oi.op.writesF c&&oj.op.looksF)&&!(oi.op.looksF&&oj.op.writesF c))
def QK(c:Ctx)(bs:List Nat)(C9:List RO):Bool :=
 (zf2z C9.length).all λj=>(zf2z j).all λi =>
  match C9[i]?,C9[j]? with
  |some oi,some oj=>Yy c (bs.getD j 0) i oi oj&&(match oi.dst,oj.dst with|some d,some e=>d != e|_,_=>true)
  |_,_=>false
def ST(c:Ctx)(ops:List Oper)(C9:List RO):Bool:=Mf ops 0&&QK c (T7 ops []) C9
def TA(c:Ctx)(ops:List Oper)(C9:List RO):Bool:=Mf ops 0&&tN c (T7 ops []) C9
def w9(P:Program)(c:Ctx):Code->Option RCode
 | .skip=>some .skip
 | .region _ ops draw =>
  match (IW (QP P ops.toList) ops.toList).map (bxS c.bx)with
  |some C9 =>
   if !draw||TA c ops.toList C9 then some (.region draw C9)
   else if TA c ops.toList (C9.map (RO.lax (none,false)))then some (.region true (C9.map (RO.lax (none,false))))
   else if TA c ops.toList (XL false C9)then some (.region true (XL false C9))
   else if TA c ops.toList (XL true C9)then some (.region true (XL true C9))
   else if ST c ops.toList C9 then some (.region true C9)
   else if Mf ops.toList 0 then some (.regd (T7 ops.toList []) (Vx C9))else some .bad
  |none=>some .bad
 | .seq a b=>match w9 P c a,w9 P c b with|some a,some b=>some (.seq a b)|_,_=>none
 | .cond q a b=>match C7 q,w9 P c a,w9 P c b with|some q,some a,some b=>some (.cond q a b)|_,_,_=>none
 | .block id a=>(w9 P c a).map (.block id)
 | .loop a=>(w9 P c a).map .loop
 | .exit id=>some (.exit id)
 | .ret=>some .ret
 |_=>some .bad
def XW(P:Program):ResultVar->Option UB
 | .tmp t=>some (.tmp t)
 | .cell a t=>match Program.agg? P t,Program.size? P t with|some b,some n=>some (.cell a b n)|_,_=>none
def ZA(P:Program)(ctx:FuncId->Ctx)(f:FuncId):Option RFunc :=
 if Program.enterable P f then
  match P.funcs[f]? with
  |some fn =>
   match fn.body with
   |some b =>
    match IW (XW P) fn.results.toList,w9 P (ctx f) b with
    |some rs,some rb=>some ⟨fn.ntmps,rs,rb⟩
    |_,_=>none
   |none=>none
  |none=>none
 else none
end Go.Abs
