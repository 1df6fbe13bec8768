/- A part of the proof. -/
import Derived.Test.YtnnjamknplefbaaGreatDoorTS22
set_option linter.all false
open Nat renaming beq->zf0z,max->zf2z,div->zf5z,eq_of_beq_eq_true->zf6z,mod->zf7z,succ->zf8z,sub->zg1z
open List renaming replicate->zf1z,getD_eq_getElem?_getD->zf3z,nil_append->zf9z
open Option renaming map_eq_some_iff->zf4z
open ByteArray renaming ext->zg0z
open Array renaming ext'->zg2z
set_option linter.all false
set_option linter.unusedVariables false
namespace Go.Abs
inductive FT where
 |nil
 |node (l:FT) (v:AV) (r:FT)
def g_nil(_:Nat):AV:=B4
noncomputable def qZ(v:AV)(gl gr:Nat->AV)(n:Nat):AV:=(zf0z (zf7z n (nat_lit 2)) (nat_lit 1)).rec (gr (zg1z (zf5z n (nat_lit 2)) (nat_lit 1))) (gl (zf5z n (nat_lit 2)))
noncomputable def dw(_:FT)(v:AV)(_:FT)(gl gr:Nat->AV)(n:Nat):AV:=(zf0z n (nat_lit 0)).rec (qZ v gl gr n) v
noncomputable def FT.get(t:FT):Nat->AV:=t.rec g_nil dw
def p_nil(_:Nat)(_:AV):FT:=.nil
noncomputable def rJ(l:FT)(v:AV)(r:FT)(pl pr:Nat->AV->FT)(n:Nat)(x:AV):FT:=(zf0z (zf7z n (nat_lit 2)) (nat_lit 1)).rec (.node l v (pr (zg1z (zf5z n (nat_lit 2)) (nat_lit 1)) x)) (.node (pl (zf5z n (nat_lit 2)) x) v r)
noncomputable def eS(l:FT)(v:AV)(r:FT)(pl pr:Nat->AV->FT)(n:Nat)(x:AV):FT:=(zf0z n (nat_lit 0)).rec (rJ l v r pl pr n x) (.node l x r)
noncomputable def FT.put(t:FT):Nat->AV->FT:=t.rec p_nil eS
noncomputable def JH(k:Nat):Nat->FT:=k.rec (λ_=>.nil) (λ_ b n=>(zf0z n (nat_lit 0)).rec (.node (b (zf5z n (nat_lit 2))) B4 (b (zf5z (zg1z n (nat_lit 1)) (nat_lit 2)))) .nil)
noncomputable def fcL(l:List UInt8):(List UInt8->Option AV)->Option AV:=l.rec (λk=>k []) (λa _ ih k=>ih λl'=>k (a::l'))
def fcS(l:List UInt8):Option AV:=some (.str ⟨⟨l⟩⟩)
noncomputable def fJ(H:AH)(sz:Nat)(x:AV)(lo hi mx:Option Int):Option AV :=
 match x with
 | .str s =>
  let l:=lo.getD 0
  let h:=hi.getD s.size
  if sz=0/\mx=none/\0<=l/\l<=h/\h<=s.size then fcL ((s.data.toList.drop l.toNat).take (h.toNat-l.toNat)) fcS else none
 |y=>Fq H sz y lo hi mx
def Wx(g:Opd->AV)(len:Nat):List (Nat×Nat×Opd)->Option (List (Nat×AV))
 | []=>some []
 |(off,n,x)::rest =>
  if (g x).isTup=false/\(g x).cells.length=n/\off+n<=len then (Wx g len rest).map ((off,g x)::·)else none
def NI(g:Opd->AV)(h:AH)(xs:List AV):List (Nat×Opd)->Option (List AV)
 | []=>some xs
 |(i,x)::rest =>
  match xs[i]?,(frz h false (g x)).or (OD h (g x))with
  |some z,some y=>if y.cells.length=z.cells.length then NI g h (xs.set i y) rest else none
  |_,_=>none
def Wv(g:Opd->AV):Option Opd->Option (Option Int)
 |none=>some none
 |some x=>match g x with | .int _ i=>some (some i)|_=>none
noncomputable def nh(x y:AV):Option AV :=
 match x,y with
 | .int k a,.int k' b=>if k=k' then some (.int k (k.wrap (a+b)))else none
 | .str a,.str b=>if ((a.size+b.size:Nat):Int) > IntKind.i64.max then none else fcL (a.data.toList++b.data.toList) fcS
 |_,_=>none
def b_sub(x y:AV):Option AV :=
 match x,y with
 | .int k a,.int k' b=>if k=k' then some (.int k (k.wrap (a-b)))else none
 |_,_=>none
def b_mul(x y:AV):Option AV :=
 match x,y with
 | .int k a,.int k' b=>if k=k' then some (.int k (k.wrap (a*b)))else none
 |_,_=>none
def b_quo(x y:AV):Option AV :=
 match x,y with
 | .int k a,.int k' b=>if k=k'/\b≠0 then some (.int k (k.wrap (a.tdiv b)))else none
 |_,_=>none
def b_rem(x y:AV):Option AV :=
 match x,y with
 | .int k a,.int k' b=>if k=k'/\b≠0 then some (.int k (a.tmod b))else none
 |_,_=>none
def b_and(x y:AV):Option AV :=
 match x,y with
 | .int k a,.int k' b=>if k=k' then some (.int k (k.wrap (BitVec.ofInt k.bits a &&& BitVec.ofInt k.bits b).toNat))else none
 |_,_=>none
def b_or(x y:AV):Option AV :=
 match x,y with
 | .int k a,.int k' b=>if k=k' then some (.int k (k.wrap (BitVec.ofInt k.bits a ||| BitVec.ofInt k.bits b).toNat))else none
 |_,_=>none
def b_xor(x y:AV):Option AV :=
 match x,y with
 | .int k a,.int k' b=>if k=k' then some (.int k (k.wrap (BitVec.ofInt k.bits a ^^^ BitVec.ofInt k.bits b).toNat))else none
 |_,_=>none
def b_shl(x y:AV):Option AV :=
 match x,y with
 | .int k a,.int k' b=>if 0<=b then some (.int k (k.wrap (a*2 ^ (min b.toNat k.bits))))else none
 |_,_=>none
def b_shr(x y:AV):Option AV :=
 match x,y with
 | .int k a,.int k' b=>if 0<=b then some (.int k (a.fdiv (2 ^ (min b.toNat k.bits))))else none
 |_,_=>none
def nj(_ _:AV):Option AV:=none
def b_eql(x y:AV):Option AV :=
 match x,y with
 | .int k a,.int k' b=>if k=k' then some (.bool (a == b))else none
 | .str a,.str b=>some (.bool (a.toList == b.toList))
 |_,_=>none
def b_neq(x y:AV):Option AV :=
 match x,y with
 | .int k a,.int k' b=>if k=k' then some (.bool (a != b))else none
 | .str a,.str b=>some (.bool !(a.toList == b.toList))
 |_,_=>none
def b_lss(x y:AV):Option AV :=
 match x,y with
 | .int k a,.int k' b=>if k=k' then some (.bool (decide (a<b)))else none
 | .str a,.str b=>some (.bool (Op.bytesLess a.toList b.toList))
 |_,_=>none
def b_leq(x y:AV):Option AV :=
 match x,y with
 | .int k a,.int k' b=>if k=k' then some (.bool (decide (a<=b)))else none
 | .str a,.str b=>some (.bool (Op.bytesLess a.toList b.toList||a.toList == b.toList))
 |_,_=>none
def b_gtr(x y:AV):Option AV :=
 match x,y with
 | .int k a,.int k' b=>if k=k' then some (.bool (decide (a > b)))else none
 | .str a,.str b=>some (.bool !(Op.bytesLess a.toList b.toList||a.toList == b.toList))
 |_,_=>none
def b_geq(x y:AV):Option AV :=
 match x,y with
 | .int k a,.int k' b=>if k=k' then some (.bool (decide (a≥b)))else none
 | .str a,.str b=>some (.bool !(Op.bytesLess a.toList b.toList))
 |_,_=>none
noncomputable def binG(op:BinOp):AV->AV->Option AV:=op.rec nh b_sub b_mul b_quo b_rem b_and b_or b_xor b_shl b_shr nj b_eql b_neq b_lss b_leq b_gtr b_geq
noncomputable def zf(x:Opd)(O:Orc)(c:Ctx)(g:Opd->AV)(h:AH):Option (AV×AH):=some (g x,h)
noncomputable def qD(q:Opd)(a:Opd)(b:Opd)(O:Orc)(c:Ctx)(g:Opd->AV)(h:AH):Option (AV×AH):=match g q with | .bool t=>some (if t then g a else g b,h)|_=>none
noncomputable def pn(x:Opd)(O:Orc)(c:Ctx)(g:Opd->AV)(h:AH):Option (AV×AH):=if (g x).isTup then none else some (.ptr h.boxes.length 0,{h with boxes:=h.boxes++[(g x).cells]})
noncomputable def XF(O:Orc)(c:Ctx)(g:Opd->AV)(h:AH):Option (AV×AH):=some (.mp h.boxes.length,{h with boxes:=h.boxes++[[.mbox [] []]]})
noncomputable def XG(str:Bool)(ok:Bool)(z:AV)(x:Opd)(k:Opd)(O:Orc)(c:Ctx)(g:Opd->AV)(h:AH):Option (AV×AH):=Ff str ok z h (g x) (g k)
noncomputable def qB(str:Bool)(x:Opd)(k:Opd)(v:Opd)(O:Orc)(c:Ctx)(g:Opd->AV)(h:AH):Option (AV×AH):=UQ str h (g x) (g k) (g v)
noncomputable def Zl(ok:Bool)(z:AV)(x:Opd)(k:Opd)(O:Orc)(c:Ctx)(g:Opd->AV)(h:AH):Option (AV×AH):=NA ok z h (g x) (g k)
noncomputable def qC(x:Opd)(k:Opd)(v:Opd)(O:Orc)(c:Ctx)(g:Opd->AV)(h:AH):Option (AV×AH):=lM h (g x) (g k) (g v)
noncomputable def XD(z:AV)(O:Orc)(c:Ctx)(g:Opd->AV)(h:AH):Option (AV×AH):=some (.ptr h.boxes.length 0,{h with boxes:=h.boxes++[z.cells]})
noncomputable def PP(r:Nat)(z:AV)(O:Orc)(c:Ctx)(g:Opd->AV)(h:AH):Option (AV×AH):=AF h r z
noncomputable def RC(z:AV)(parts:List (Nat×Nat×Opd))(O:Orc)(c:Ctx)(g:Opd->AV)(h:AH):Option (AV×AH):=match Wx g z.cells.length parts with|some ps=>some (.agg (C9 z.cells ps),h)|none=>none
noncomputable def LI(n:Nat)(z:AV)(parts:List (Nat×Opd))(O:Orc)(c:Ctx)(g:Opd->AV)(h:AH):Option (AV×AH):=match NI g h (zf1z n z) parts with|some xs=>some (.vs true z.cells.length xs,h)|none=>none
noncomputable def Jq(n:Nat)(z:AV)(parts:List (Nat×Opd))(O:Orc)(c:Ctx)(g:Opd->AV)(h:AH):Option (AV×AH):=if parts.all (λp=>S0 (g p.2))then (match NI g h (zf1z n z) parts with|some xs=>some (.vs true z.cells.length xs,h)|none=>none)else none
noncomputable def e_ld(agg:Bool)(n:Nat)(x:Opd)(O:Orc)(c:Ctx)(g:Opd->AV)(h:AH):Option (AV×AH):=match U4 h agg n (g x)with|some v=>some (v,h)|none=>none
noncomputable def pz(agg:Bool)(n:Nat)(x:Opd)(O:Orc)(c:Ctx)(g:Opd->AV)(h:AH):Option (AV×AH):=match g x with | .ep ..=>none|p=>(match U4 h agg n p with|some v=>some (v,h)|none=>none)
noncomputable def e_st(n:Nat)(a:Opd)(x:Opd)(O:Orc)(c:Ctx)(g:Opd->AV)(h:AH):Option (AV×AH):=match Ba h n (g x) (g a)with|some h'=>some (B4,Pd c.lay h' (g x))|none=>none
noncomputable def qF(n:Nat)(a:Opd)(x:Opd)(O:Orc)(c:Ctx)(g:Opd->AV)(h:AH):Option (AV×AH):=Og h n (g a) (g x)
noncomputable def qE(n:Nat)(a:Opd)(x:Opd)(O:Orc)(c:Ctx)(g:Opd->AV)(h:AH):Option (AV×AH):=MP h n (g a) (g x)
noncomputable def zW(z:AV)(x:Opd)(O:Orc)(c:Ctx)(g:Opd->AV)(h:AH):Option (AV×AH):=Ns h z (g x)
noncomputable def gw(x:Opd)(O:Orc)(c:Ctx)(g:Opd->AV)(h:AH):Option (AV×AH):=match g x with | .pv cs=>some (.pv cs,h) | .ptr b o=>some (.ptr b o,h) | .ep k n i q s=>some (.ep k n i q s,h) | .fn f cs=>some (.fn f cs,h)|_=>none
noncomputable def gt(op:BinOp)(x:Opd)(y:Opd)(O:Orc)(c:Ctx)(g:Opd->AV)(h:AH):Option (AV×AH):=match binG op (g x) (g y)with|some v=>some (v,h)|none=>none
noncomputable def zV(neg:Bool)(x:Opd)(y:Opd)(O:Orc)(c:Ctx)(g:Opd->AV)(h:AH):Option (AV×AH):=match g x,g y with | .bool a,.bool b=>some (.bool (if neg then !(a == b)else a == b),h)|_,_=>none
noncomputable def gy(neg:Bool)(x:Opd)(O:Orc)(c:Ctx)(g:Opd->AV)(h:AH):Option (AV×AH):=wi neg h (g x)
noncomputable def e_un(op:UnOp)(x:Opd)(O:Orc)(c:Ctx)(g:Opd->AV)(h:AH):Option (AV×AH):=match LL op (g x)with|some v=>some (v,h)|none=>none
noncomputable def pt(k:IntKind)(x:Opd)(O:Orc)(c:Ctx)(g:Opd->AV)(h:AH):Option (AV×AH):=match g x with | .int _ n=>some (.int k (k.wrap n),h)|_=>none
noncomputable def pw(x:Opd)(O:Orc)(c:Ctx)(g:Opd->AV)(h:AH):Option (AV×AH):=match g x with | .str s=>some (.str s,h)|_=>none
noncomputable def po(x:Opd)(O:Orc)(c:Ctx)(g:Opd->AV)(h:AH):Option (AV×AH):=Rp h (g x)
noncomputable def pq(f:FuncId)(caps:List Opd)(O:Orc)(c:Ctx)(g:Opd->AV)(h:AH):Option (AV×AH):=if c.ro then (p8 h (caps.map g)).map λp=>(.fn f p.1,p.2)else some (.fn f (caps.map g),h)
noncomputable def PQ(z:AV)(bytes:Nat)(l:Opd)(q:Opd)(O:Orc)(c:Ctx)(g:Opd->AV)(h:AH):Option (AV×AH):=
  match g l,g q with
  | .int _ a,.int _ b =>
   if 0<=a/\a<=b/\b*bytes<=P7/\b<=maxLen then
    some (.sl h.fams.length a.toNat 0 a.toNat,{h with fams:=h.fams++[⟨zf1z a.toNat z,z.cells.length,true⟩]})
   else none
  |_,_=>none
noncomputable def ze(z:AV)(bytes:Nat)(l:Opd)(q:Opd)(O:Orc)(c:Ctx)(g:Opd->AV)(h:AH):Option (AV×AH):=eN h z bytes (g l) (g q)
noncomputable def zd(z:AV)(bytes:Nat)(l:Opd)(q:Opd)(O:Orc)(c:Ctx)(g:Opd->AV)(h:AH):Option (AV×AH):=Sa h z bytes (g l) (g q)
noncomputable def gz(sz:Nat)(x:Opd)(lo:Option Opd)(hi:Option Opd)(mx:Option Opd)(O:Orc)(c:Ctx)(g:Opd->AV)(h:AH):Option (AV×AH):=
  match Wv g lo,Wv g hi,Wv g mx with
  |some l,some u,some m=>match fJ h sz (g x) l u m with|some v=>some (v,h)|none=>none
  |_,_,_=>none
noncomputable def gu(off:Nat)(x:Opd)(O:Orc)(c:Ctx)(g:Opd->AV)(h:AH):Option (AV×AH):=match g x with | .pv cs=>some (.pv (cs.drop off),h) | .ptr b o=>some (.ptr b (o+off),h) | .ep k n i q s=>some (.ep k n i (q+off) s,h)|_=>none
noncomputable def zY(agg:Bool)(off:Nat)(n:Nat)(x:Opd)(O:Orc)(c:Ctx)(g:Opd->AV)(h:AH):Option (AV×AH):=match g x with | .agg cs=>(match P9 agg n (cs.drop off)with|some v=>some (v,h)|none=>none)|_=>none
noncomputable def gv(sz:Nat)(x:Opd)(i:Opd)(O:Orc)(c:Ctx)(g:Opd->AV)(h:AH):Option (AV×AH):=
  match g x,g i with
  | .vs _ z xs,.int _ j=>if 0<=j/\z=sz then (match xs[j.toNat]? with|some e=>some (.pv e.cells,h)|none=>none)else none
  | .sl k n off len,.int _ j=>if 0<=j/\j<len then some (.ep k n (off+j.toNat) 0 sz,h)else none
  | .bsl b s off len,.int _ j=>if 0<=j/\j<len/\s=sz then some (.ptr b (off+j.toNat*sz),h)else none
  |_,_=>none
noncomputable def Zk(sz:Nat)(x:Opd)(i:Opd)(O:Orc)(c:Ctx)(g:Opd->AV)(h:AH):Option (AV×AH):=
  match g x,g i with
  | .vs _ z xs,.int _ j=>if 0<=j/\z=sz then (match xs[j.toNat]? with|some e=>some (.pv e.cells,h)|none=>none)else none
  |_,_=>none
noncomputable def zZ(x:Opd)(i:Opd)(O:Orc)(c:Ctx)(g:Opd->AV)(h:AH):Option (AV×AH):=
  match g x,g i with
  | .str s,.int _ j=>if 0<=j then (match s[j.toNat]? with|some b=>some (.int .u8 b.toNat,h)|none=>none)else none
  |_,_=>none
noncomputable def zX(x:Opd)(i:Nat)(O:Orc)(c:Ctx)(g:Opd->AV)(h:AH):Option (AV×AH):=match g x with | .tup vs=>(match vs[i]? with|some v=>some (v,h)|none=>none)|_=>none
def e_lenT(x:Opd)(O:Orc)(c:Ctx)(g:Opd->AV)(h:AH):Option (AV×AH):=match g x with | .str s=>some (.int .i64 s.size,h)|_=>none
def e_lenF(x:Opd)(O:Orc)(c:Ctx)(g:Opd->AV)(h:AH):Option (AV×AH):=
  match g x with
  | .vs _ _ xs=>some (.int .i64 xs.length,h)
  | .sl _ _ _ len=>some (.int .i64 len,h)
  | .bsl _ _ _ len=>some (.int .i64 len,h)
  |_=>none
noncomputable def za(b:Bool):Opd->Orc->Ctx->(Opd->AV)->AH->Option (AV×AH):=b.rec e_lenF e_lenT
noncomputable def pi(sz:Nat)(bytes:Nat)(s:Opd)(x:Opd)(O:Orc)(c:Ctx)(g:Opd->AV)(h:AH):Option (AV×AH):=R7 c h sz bytes (g s) (g x)
noncomputable def pj(bytes:Nat)(s:Opd)(x:Opd)(O:Orc)(c:Ctx)(g:Opd->AV)(h:AH):Option (AV×AH):=Rl c h bytes (g s) (g x)
noncomputable def zb(x:Opd)(y:Opd)(O:Orc)(c:Ctx)(g:Opd->AV)(h:AH):Option (AV×AH):=match g x,g y with | .int k a,.int k' b=>if k=k' then some (.int k (if b > a then b else a),h)else none|_,_=>none
noncomputable def zc(x:Opd)(y:Opd)(O:Orc)(c:Ctx)(g:Opd->AV)(h:AH):Option (AV×AH):=match g x,g y with | .int k a,.int k' b=>if k=k' then some (.int k (if b<a then b else a),h)else none|_,_=>none
noncomputable def qA(x:Opd)(O:Orc)(c:Ctx)(g:Opd->AV)(h:AH):Option (AV×AH):=match BQ h (g x)with|some (ks,_)=>some (.int .i64 ks.length,h)|none=>none
noncomputable def da(f:FuncId)(args:List Opd)(O:Orc)(c:Ctx)(g:Opd->AV)(h:AH):Option (AV×AH):=Di O c f (args.map g) h
noncomputable def XE(x:Opd)(args:List Opd)(O:Orc)(c:Ctx)(g:Opd->AV)(h:AH):Option (AV×AH):=match g x with | .fn f caps=>if c.raw f&&!c.rawv then none else Di O c f (args.map g++caps) h|_=>none
noncomputable def Hn(o:ROp):Orc->Ctx->(Opd->AV)->AH->Option (AV×AH):=o.rec zf qD pn XF XG qB Zl qC XD PP RC LI Jq e_ld pz e_st qF qE zW gw gt zV gy e_un pt pw po pq PQ ze zd gz gu zY gv Zk zZ zX za pi pj zb zc qA da XE
def gT_t(n:Nat)(get:Nat->AV):AV:=get n
def gT_c(v:AV)(_:Nat->AV):AV:=v
noncomputable def gT(get:Nat->AV)(x:Opd):AV:=(x.rec gT_t gT_c:(Nat->AV)->AV) get
noncomputable def NC(t:FT)(d:Option Nat)(v:AV):FT:=d.rec t (λn=>t.put n v)
def Yh(t:Nat->AV)(p:Nat×Bool):Option Bool :=
 match t p.1 with
 | .bool b=>some (b == p.2)
 | .tup _=>some false
 |_=>none
noncomputable def Gk(t:Nat->AV)(g:Option (Nat×Bool)):Option Bool:=g.rec (some true) (Yh t)
abbrev PF:=FT×AH
abbrev Fx:=Option (Ex×PF)
def zj(_:Orc)(_:Ctx)(t:FT)(h:AH):Option (FT×AH):=some (t,h)
noncomputable def zk(o:RO)(ih:Orc->Ctx->FT->AH->Option (FT×AH))(O:Orc)(c:Ctx)(t:FT)(r:Option (AV×AH)):Option (FT×AH) :=
 r.rec none (λp=>ih O c (NC t o.dst p.1) p.2)
noncomputable def eE(o:RO)(ih:Orc->Ctx->FT->AH->Option (FT×AH))(O:Orc)(c:Ctx)(t:FT)(h:AH)(b:Bool):Option (FT×AH) :=
 b.rec (ih O c (NC t o.dst B4) h) (zk o ih O c t (Hn o.op O c (gT t.get) h))
noncomputable def eD(o:RO)(_:List RO)(ih:Orc->Ctx->FT->AH->Option (FT×AH))(O:Orc)(c:Ctx)(t:FT)(h:AH):Option (FT×AH) :=
 (Gk t.get o.guard).rec none (eE o ih O c t h)
noncomputable def US(l:List RO):Orc->Ctx->FT->AH->Option (FT×AH):=l.rec zj eD
structure OrcT where
 pure:FuncId->List AV->Option AV
 raw:FuncId->List AV->AH->Option (AV×AH)
 loop:(PF->Fx)->PF->Fx
def OrcT.orc(O:OrcT):Orc:=⟨O.pure,O.raw,λ_ _=>none⟩
abbrev dE:=OrcT->Ctx->PF->Fx
def dW(_:OrcT)(_:Ctx)(s:PF):Fx:=some (.normal,s)
def VO(c:Ctx)(g:Opd->AV)(r:ROp)(h h1:AH):Foot:=⟨FG c h.boxes.length g r,if r.writesB c then HM h.boxes h1.boxes else [],Db c g r,if r.writesF c then JT h.fams h1.fams else []⟩
def d_nil(_:Orc)(_:Ctx)(t:FT)(h:AH):Option (List Foot×FT×AH):=some ([],t,h)
noncomputable def d_cons(o:RO)(_:List RO)(ih:Orc->Ctx->FT->AH->Option (List Foot×FT×AH))(O:Orc)(c:Ctx)(t:FT)(h:AH):Option (List Foot×FT×AH) :=
 match Gk t.get o.guard with
 |some true=>(match Hn o.op O c (gT t.get) h with|some (v,h')=>(ih O c (NC t o.dst v) h').map λp=>(VO c (gT t.get) o.op h h'::p.1,p.2)|none=>none)
 |some false=>(ih O c (NC t o.dst B4) h).map λp=>(QH c (some false) (gT t.get) o.op h h::p.1,p.2)
 |none=>none
noncomputable def Vd(l:List RO):Orc->Ctx->FT->AH->Option (List Foot×FT×AH):=l.rec d_nil d_cons
noncomputable def Nr(_:Bool)(ops:List RO)(O:OrcT)(c:Ctx)(s:PF):Fx:=(US ops O.orc c s.1 s.2).rec none (λs'=>some (.normal,s'))
noncomputable def c_regd(bs:List Nat)(ops:List RO)(O:OrcT)(c:Ctx)(s:PF):Fx:=match Vd ops O.orc c s.1 (s.2.holes (Tu ops))with|some (fs,s')=>if CY bs ops fs then some (.normal,s')else none|none=>none
def Zf(_ _:RCode)(ea eb:dE)(O:OrcT)(c:Ctx)(s:PF):Fx:=match ea O c s with|some (.normal,s')=>eb O c s' | r=>r
noncomputable def Rr(q:Opd)(_ _:RCode)(ea eb:dE)(O:OrcT)(c:Ctx)(s:PF):Fx:=match gT s.1.get q with | .bool true=>ea O c s | .bool false=>eb O c s|_=>none
def Nq(id:Nat)(_:RCode)(ea:dE)(O:OrcT)(c:Ctx)(s:PF):Fx:=match ea O c s with|some (.exit id',s')=>if id'=id then some (.normal,s')else some (.exit id',s')|r=>r
def Rs(_:RCode)(ea:dE)(O:OrcT)(c:Ctx)(s:PF):Fx:=O.loop (ea O c) s
def dV(id:Nat)(_:OrcT)(_:Ctx)(s:PF):Fx:=some (.exit id,s)
def oM(_:OrcT)(_:Ctx)(s:PF):Fx:=some (.ret,s)
def oD(_:OrcT)(_:Ctx)(_:PF):Fx:=none
noncomputable def MV(x:RCode):dE:=x.rec dW Nr c_regd Zf Rr Nq Rs dV oM oD
noncomputable def Qn(t:FT)(h:AH):List RRes->Option (List AV)
 | []=>some []
 | .tmp k::rest=>(Qn t h rest).map (t.get k::·)
 | .cell a agg n::rest=>(U4 h agg n (t.get a)).bind λv=>(Qn t h rest).map (v::·)
noncomputable def Me(t:FT)(k:Nat):List AV->FT
 | []=>t
 |v::vs=>Me (t.put k v) (k+1) vs
noncomputable def nn(O:OrcT)(c:Ctx)(rf:RFunc)(args:List AV)(h:AH):Option (AV×AH) :=
 match MV rf.body O c (Me (JH (zf8z (zf2z rf.ntmps args.length)) (zf2z rf.ntmps args.length)) 0 args,h)with
 |some (.normal,s)=>(Qn s.1 s.2 rf.results).map λvs=>(M6 vs,s.2)
 |some (.ret,s)=>(Qn s.1 s.2 rf.results).map λvs=>(M6 vs,s.2)
 |_=>none
structure Know where
 pure:FuncId->List AV->Option AV:=λ_ _=>none
 raw:FuncId->List AV->AH->Option (AV×AH):=λ_ _ _=>none
noncomputable def eo(C:Cfg)(O:OrcT)(f:FuncId)(args:List AV)(h:AH):Option (AV×AH) :=
 match C.code f with
 |some rf=>nn O (C.ctx f) rf args h
 |none=>match C.rspec f with|some s=>s.run O.orc args h|none=>none
noncomputable def rawT(C:Cfg)(K:Know)(O:OrcT)(f:FuncId)(args:List AV)(h:AH):Option (AV×AH) :=
 (K.raw f args h).rec (Pp (C.ctx f).rst (eo C O f args h)) some
noncomputable def rn(C:Cfg)(K:Know)(O:OrcT)(f:FuncId)(args:List AV):Option AV :=
 match C.spec f with
 |some s=>s args
 |none=>match eo C O f args AH.empty with|some (r,h)=>Dv h r|none=>none
noncomputable def rl(C:Cfg)(K:Know)(O:OrcT)(f:FuncId)(args:List AV):Option AV :=
 (K.pure f args).rec (rn C K O f args) some
def i_zero(_:PF->Fx)(_:PF):Fx:=none
def i_succ(_:Nat)(ih:(PF->Fx)->PF->Fx)(step:PF->Fx)(s:PF):Fx:=match step s with|some (.normal,s')=>ih step s' | r=>r
noncomputable def SU(n:Nat):(PF->Fx)->PF->Fx:=n.rec i_zero i_succ
noncomputable def orcT(C:Cfg)(K:Know)(n:Nat):OrcT :=
 n.rec ⟨λ_ _=>none,λ_ _ _=>none,λ_ _=>none⟩ (λn O=>⟨rl C K O,rawT C K O,SU (n+1)⟩)
end Go.Abs
namespace Go.Abs
theorem nbF{a b:Nat}(h:a≠b):zf0z a b=false:=by
 cases e:zf0z a b with
 |false=>rfl
 |true=>exact absurd (zf6z e) h
theorem nbT{a b:Nat}(h:a=b):zf0z a b=true:=by subst h;exact Nat.beq_refl a
def zh(_:Nat):Bool:=false
def h_node(_:FT)(_:AV)(_:FT)(hl hr:Nat->Bool)(n:Nat):Bool:=if n=0 then true else if n % 2=1 then hl (n / 2)else hr (n / 2-1)
noncomputable def FT.has(t:FT):Nat->Bool:=t.rec zh h_node
theorem IY(l:FT)(v:AV)(r:FT)(n:Nat):(FT.node l v r).get n=if n=0 then v else if n % 2=1 then l.get (n / 2)else r.get (n / 2-1):=by
 show dw l v r l.get r.get n=_;unfold dw;by_cases h:n=0
 .subst h;rfl
 .rw[if_neg h,show zf0z n 0=false from nbF h];show qZ v l.get r.get n=_;unfold qZ;by_cases h1:n % 2=1
  .rw[if_pos h1,show zf0z (zf7z n 2) 1=true from nbT h1];rfl
  .rw[if_neg h1,show zf0z (zf7z n 2) 1=false from nbF h1];rfl
theorem bG(l:FT)(v:AV)(r:FT)(n:Nat)(x:AV):(FT.node l v r).put n x=if n=0 then .node l x r else if n % 2=1 then .node (l.put (n / 2) x) v r else .node l v (r.put (n / 2-1) x):=by
 show eS l v r l.put r.put n x=_;unfold eS;by_cases h:n=0
 .subst h;rfl
 .rw[if_neg h,show zf0z n 0=false from nbF h];show rJ l v r l.put r.put n x=_;unfold rJ;by_cases h1:n % 2=1
  .rw[if_pos h1,show zf0z (zf7z n 2) 1=true from nbT h1];rfl
  .rw[if_neg h1,show zf0z (zf7z n 2) 1=false from nbF h1];rfl
theorem Jt(l:FT)(v:AV)(r:FT)(n:Nat):(FT.node l v r).has n=if n=0 then true else if n % 2=1 then l.has (n / 2)else r.has (n / 2-1):=rfl
theorem wS(t:FT):∀(d:Nat) (v:AV) (n:Nat),(t.put d v).get n=if n=d/\t.has d=true then v else t.get n:=by
 induction t with
 |nil=>intro d v n;rw[if_neg (λh=>Bool.noConfusion h.2)];rfl
 |node l x r il ir =>
  intro d v n;rw[bG,Jt];by_cases hd:d=0
  .subst hd;simp only[if_true,and_true];rw[IY,IY];by_cases hn:n=0
   .simp[hn]
   .simp[hn]
  .rw[if_neg hd,if_neg hd];by_cases h1:d % 2=1
   .rw[if_pos h1,if_pos h1,IY,IY];by_cases hn:n=0
    .rw[if_pos hn,if_pos hn,if_neg (by omega)]
    .rw[if_neg hn,if_neg hn];by_cases h2:n % 2=1
     .rw[if_pos h2,if_pos h2,il];by_cases he:n=d
      .subst he;simp only[true_and]
      .rw[if_neg (by omega),if_neg (by omega)]
     .rw[if_neg h2,if_neg h2,if_neg (by omega)]
   .rw[if_neg h1,if_neg h1,IY,IY];by_cases hn:n=0
    .rw[if_pos hn,if_pos hn,if_neg (by omega)]
    .rw[if_neg hn,if_neg hn];by_cases h2:n % 2=1
     .rw[if_pos h2,if_pos h2,if_neg (by omega)]
     .rw[if_neg h2,if_neg h2,ir];by_cases he:n=d
      .subst he;simp only[true_and]
      .rw[if_neg (by omega),if_neg (by omega)]
theorem wV(t:FT):∀(d:Nat) (v:AV) (n:Nat),(t.put d v).has n=t.has n:=by
 induction t with
 |nil=>intro d v n;rfl
 |node l x r il ir =>
  intro d v n;rw[bG];by_cases hd:d=0
  .rw[if_pos hd];rfl
  .rw[if_neg hd];by_cases h1:d % 2=1
   .rw[if_pos h1,Jt,Jt,il]
   .rw[if_neg h1,Jt,Jt,ir]
theorem Rm(k n:Nat):JH (k+1) n=if n=0 then .nil else .node (JH k (n / 2)) B4 (JH k ((n-1) / 2)):=by
 show ((zf0z n 0).rec (.node (JH k (n / 2)) B4 (JH k ((n-1) / 2))) .nil:FT)=_;by_cases h:n=0
 .subst h;rfl
 .rw[if_neg h,show zf0z n 0=false from nbF h]
theorem PX:∀(k n i:Nat),(JH k n).get i=B4
 |0,_,_=>rfl
 |k+1,n,i=>by
  rw[Rm];by_cases h:n=0
  .rw[if_pos h];rfl
  .rw[if_neg h,IY,PX,PX];simp
theorem Pa:∀(k n i:Nat),n<k->(JH k n).has i=decide (i<n)
 |0,_,_,h=>absurd h (Nat.not_lt_zero _)
 |k+1,n,i,hk=>by
  rw[Rm];by_cases h:n=0
  .subst h;rw[if_pos rfl];simp[FT.has,zh]
  .rw[if_neg h,Jt];by_cases hi:i=0
   .subst hi;rw[if_pos rfl];simp;omega
   .rw[if_neg hi];by_cases h1:i % 2=1
    .rw[if_pos h1,Pa k _ _ (by omega)];apply decide_eq_decide.2;omega
    .rw[if_neg h1,Pa k _ _ (by omega)];apply decide_eq_decide.2;omega
structure RepT (t:FT) (fr:Fr):Prop where
 get:∀n,t.get n=fr.getD n B4
 has:∀n,t.has n=decide (n<fr.length)
theorem qa(fr:Fr)(d n:Nat)(v:AV):(fr.set d v).getD n B4=if n=d/\d<fr.length then v else fr.getD n B4:=by
 simp only[zf3z,List.getElem?_set];by_cases h:d=n
 .subst h;by_cases hl:d<fr.length
  .simp[hl]
  .simp[hl]
 .rw[if_neg h,if_neg (λk=>h k.1.symm)]
theorem RepT.put{t:FT}{fr:Fr}(R:RepT t fr)(d:Nat)(v:AV):RepT (t.put d v) (fr.set d v):=by
 constructor
 .intro n;rw[wS,qa,R.has,R.get];simp
 .intro n;rw[wV,R.has,List.length_set]
theorem RepT.putO{t:FT}{fr:Fr}(R:RepT t fr)(d:Option Nat)(v:AV):RepT (NC t d v) (Go.Abs.put fr d v):=by
 cases d with
 |none=>exact R
 |some d=>exact R.put d v
theorem RepT.gT{t:FT}{fr:Fr}(R:RepT t fr):Go.Abs.gT t.get=Go.Abs.get fr:=by
 funext x;cases x with
 |t n=>exact R.get n
 |c v=>rfl
theorem RepT.puts:∀(args:I7) {t:FT} {pre old:Fr},RepT t (pre++old)->args.length<=old.length->RepT (Me t pre.length args) (pre++args++old.drop args.length)
 | [],t,pre,old,R,_=>by simpa[Me]using R
 |v::vs,t,pre,old,R,h=>by
  cases old with
  |nil=>simp at h
  |cons o old =>
   have hs:(pre++o::old).set pre.length v=(pre++[v])++old:=by simp
   have R1:=R.put pre.length v;rw[hs]at R1;have:=RepT.puts vs R1 (by simpa using h);simpa[Me]using this
theorem RepT.start(rf:RFunc)(args:I7):RepT (Me (JH (zf8z (zf2z rf.ntmps args.length)) (zf2z rf.ntmps args.length)) 0 args) (CP rf args):=by
 have h0:RepT (JH (zf8z (zf2z rf.ntmps args.length)) (zf2z rf.ntmps args.length)) ([]++zf1z (zf2z rf.ntmps args.length) B4):=by
  constructor
  .intro n;rw[PX];simp only[zf9z,zf3z,List.getElem?_replicate];split<;>rfl
  .intro n;rw[Pa _ _ _ (Nat.lt_succ_self _)];simp
 have h1:=RepT.puts args h0 (by simp;exact Nat.le_max_right _ _);have e:([]:Fr)++args++(zf1z (zf2z rf.ntmps args.length) B4).drop args.length=CP rf args:=by
  unfold CP;rw[List.drop_replicate,zf9z];congr 2;show max rf.ntmps args.length-args.length=_;omega
 rw[e]at h1;exact h1
theorem Ur(fr:Fr)(n:Nat):∀l,Wx (get fr) n l=B6 fr n l
 | []=>rfl
 |(a,b,x)::l=>by unfold Wx B6;rw[Ur fr n l]
theorem Ps(fr:Fr)(h:AH):∀(l:List (Nat×Opd)) (xs:I7),NI (get fr) h xs l=B2 fr h xs l
 | [],_=>rfl
 |(i,x)::l,xs=>by
  unfold NI B2;cases xs[i]? with
  |none=>rfl
  |some z =>
   cases (frz h false (get fr x)).or (OD h (get fr x))with
   |none=>rfl
   |some y=>simp only[Ps fr h l]
theorem PJ(fr:Fr)(x:Option Opd):Wv (get fr) x=i4 fr x:=by cases x<;>rfl
theorem qS(s:AD)(l h:Nat):(⟨⟨(s.data.toList.drop l).take (h-l)⟩⟩:AD)=s.extract l h:=by
 apply zg0z;apply zg2z;rw[ByteArray.data_extract];simp[Array.toList_extract,List.extract]
theorem nd(a b:AD):(⟨⟨a.data.toList++b.data.toList⟩⟩:AD)=a++b:=by
 apply zg0z;apply zg2z;simp
theorem qT(l:List UInt8):∀k,fcL l k=k l:=by
 induction l with
 |nil=>intro k;rfl
 |cons a l ih=>intro k;exact ih λl'=>k (a::l')
theorem mT(H:AH)(sz:Nat)(x:AV)(lo hi mx:Option Int):fJ H sz x lo hi mx=Fq H sz x lo hi mx:=by
 cases x with
 |str s=>unfold fJ Fq;simp only[qT,fcS,qS]
 |_=>rfl
theorem ni(x y:AV):nh x y=P0 .add x y:=by
 cases x with
 |str a =>
  cases y with
  |str b=>unfold nh P0;simp only[qT,fcS,nd]
  |_=>rfl
 |_=>cases y<;>rfl
theorem vn(op:BinOp)(x y:AV):binG op x y=P0 op x y:=by
 cases op with
 |add=>exact ni x y
 |_=>cases x<;>first|rfl|(cases y<;>rfl)
theorem Mr(O:Orc)(c:Ctx)(o:ROp)(fr:Fr)(h:AH):Hn o O c (get fr) h=A0 O c o fr h:=by
 cases o with
 |build z parts=>show RC z parts O c (get fr) h=_;unfold RC;rw[Ur];rfl
 |bslice n z parts=>show LI n z parts O c (get fr) h=_;unfold LI;rw[Ps];rfl
 |bslicev n z parts=>show Jq n z parts O c (get fr) h=_;unfold Jq;rw[Ps];rfl
 |slc sz x lo hi mx=>show gz sz x lo hi mx O c (get fr) h=_;unfold gz;rw[PJ,PJ,PJ];simp only[mT];rfl
 |bin op x y=>show gt op x y O c (get fr) h=_;unfold gt;rw[vn];rfl
 |len b x=>cases b<;>rfl
 |_=>rfl
theorem NL{t:FT}{fr:Fr}(R:RepT t fr)(g:Option (Nat×Bool)):Gk t.get g=P1 fr g:=by
 cases g with
 |none=>rfl
 |some p =>
  obtain⟨s,w⟩:=p;show Yh t.get (s,w)=_;unfold Yh P1;rw[R.get];rfl
def Sim(st:PF->Fx)(s:St->Option (Ex×St)):Prop :=
 ∀t fr h,RepT t fr->∀e t' h',st (t,h)=some (e,t',h')->∃G6,s (fr,h)=some (e,G6,h')/\RepT t' G6
structure SimO (A:OrcT) (O:Orc):Prop where
 pure:∀f args r,A.pure f args=some r->O.pure f args=some r
 raw:∀f args h r,A.raw f args h=some r->O.raw f args h=some r
 loop:∀st s,Sim st s->Sim (A.loop st) (O.loop s)
theorem SimO.le{A:OrcT}{O:Orc}(S:SimO A O):Le A.orc O:=⟨S.pure,S.raw,λ_ _ _ _ _ h=>by cases h⟩
theorem RG{A:OrcT}{O:Orc}(S:SimO A O)(c:Ctx):∀(l:List RO) (t:FT) (fr:Fr) (h:AH),RepT t fr->∀t' h',US l A.orc c t h=some (t',h')->∃G6,N6 O c l fr h=some (G6,h')/\RepT t' G6
 | [],t,fr,h,R,t',h',he=>by
  have he:some (t,h)=some (t',h'):=he;cases he;exact⟨fr,rfl,R⟩
 |o::l,t,fr,h,R,t',h',he=>by
  have he:((Gk t.get o.guard).rec none (eE o (US l) A.orc c t h):Option (FT×AH))=some (t',h'):=he;rw[NL R]at he;unfold N6;cases hw:P1 fr o.guard with
  |none=>rw[hw]at he;cases he
  |some b =>
   rw[hw]at he;cases b with
   |false=>exact RG S c l _ _ h (R.putO o.dst B4) t' h' he
   |true =>
    have he:((Hn o.op A.orc c (gT t.get) h).rec none (λp=>US l A.orc c (NC t o.dst p.1) p.2):Option (FT×AH))=some (t',h'):=he;rw[R.gT,Mr]at he;cases hp:A0 A.orc c o.op fr h with
    |none=>rw[hp]at he;cases he
    |some p =>
     rw[hp]at he;have hp':=Bn S.le hp;dsimp only;rw[hp'];exact RG S c l _ _ p.2 (R.putO o.dst p.1) t' h' he
theorem VA{a b:List (List AV)}(e:b=a):HM a b=[]:=by
 subst e;have:∀i:Nat,IU b[i]? b[i]?=true:=λi=>by
  cases b[i]? with
  |none=>rfl
  |some x=>exact R9 x
 simp[HM,this]
theorem VB{a b:List Fam}(e:b=a):JT a b=[]:=by
 subst e;have:∀x:Option Fam,Hh x x=true:=λx=>by
  cases x with
  |none=>rfl
  |some x=>simp[Hh,R9]
 simp[JT,this]
theorem aE{O:Orc}{c:Ctx}{r:ROp}{fr:Fr}{h h1:AH}{v:AV}(he:A0 O c r fr h=some (v,h1)):VO c (get fr) r h h1=QH c (some true) (get fr) r h h1:=by
 obtain⟨k1,k2⟩:=FA he;simp only[VO,QH];congr 1
 .split
  .rfl
  .rename_i hw;rw[VA (k1 (by simpa using hw))]
 .split
  .rfl
  .rename_i hw;rw[VB (k2 (by simpa using hw))]
theorem Sj{A:OrcT}{O:Orc}(S:SimO A O)(c:Ctx):∀(l:List RO) (t:FT) (fr:Fr) (h:AH),RepT t fr->∀fs t' h',Vd l A.orc c t h=some (fs,t',h')->∃G6,P3 O c l fr h=some (fs,G6,h')/\RepT t' G6
 | [],t,fr,h,R,fs,t',h',he=>by
  have he:some (([]:List Foot),t,h)=some (fs,t',h'):=he;cases he;exact⟨fr,rfl,R⟩
 |o::l,t,fr,h,R,fs,t',h',he=>by
  have he:(match Gk t.get o.guard with
   |some true=>(match Hn o.op A.orc c (gT t.get) h with|some (v,h')=>(Vd l A.orc c (NC t o.dst v) h').map λp=>(VO c (gT t.get) o.op h h'::p.1,p.2)|none=>none)
   |some false=>(Vd l A.orc c (NC t o.dst B4) h).map λp=>(QH c (some false) (gT t.get) o.op h h::p.1,p.2)
   |none=>none)=some (fs,t',h'):=he
  rw[NL R,R.gT,Mr]at he;unfold P3 o8;cases hw:P1 fr o.guard with
  |none=>rw[hw]at he;cases he
  |some b =>
   rw[hw]at he;cases b with
   |false =>
    dsimp only at he ⊢;rw[zf4z]at he;obtain⟨⟨fs1,t1,h1⟩,hq,e⟩:=he;cases e;obtain⟨G6,k1,k2⟩:=Sj S c l _ _ h (R.putO o.dst B4) _ _ _ hq;exact⟨G6,by rw[k1];rfl,k2⟩
   |true =>
    dsimp only at he ⊢;cases hp:A0 A.orc c o.op fr h with
    |none=>rw[hp]at he;cases he
    |some p =>
     rw[hp]at he;rw[Bn S.le hp];dsimp only at he ⊢;rw[aE hp]at he;rw[zf4z]at he;obtain⟨⟨fs1,t1,h1⟩,hq,e⟩:=he;cases e;obtain⟨G6,k1,k2⟩:=Sj S c l _ _ p.2 (R.putO o.dst p.1) _ _ _ hq;exact⟨G6,by rw[k1];rfl,k2⟩
theorem IS{A:OrcT}{O:Orc}(S:SimO A O)(c:Ctx):∀(x:RCode),Sim (MV x A c) (A8 O c x)
 | .skip=>λt fr h R e t' h' he=>by
  have he:some (Ex.normal,t,h)=some (e,t',h'):=he;cases he;exact⟨fr,rfl,R⟩
 | .region d ops=>λt fr h R e t' h' he=>by
  have he:((US ops A.orc c t h).rec none (λs'=>some (Ex.normal,s')):Fx)=some (e,t',h'):=he;unfold A8;cases ho:US ops A.orc c t h with
  |none=>rw[ho]at he;cases he
  |some s =>
   rw[ho]at he;cases he;obtain⟨G6,h1,h2⟩:=RG S c ops t fr h R _ _ ho;exact⟨G6,by rw[h1],h2⟩
 | .regd bs ops=>λt fr h R e t' h' he=>by
  have he:(match Vd ops A.orc c t (h.holes (Tu ops))with|some (fs,s')=>if CY bs ops fs then some (Ex.normal,s')else none|none=>none)=some (e,t',h'):=he
  unfold A8;cases ho:Vd ops A.orc c t (h.holes (Tu ops))with
  |none=>rw[ho]at he;cases he
  |some s =>
   obtain⟨fs,t1,h1⟩:=s;rw[ho]at he;dsimp only at he;split at he
   .rename_i hp;cases he;obtain⟨G6,k1,k2⟩:=Sj S c ops t fr (h.holes (Tu ops)) R _ _ _ ho;exact⟨G6,by rw[k1];dsimp only;rw[if_pos (by rw[hp];rfl)],k2⟩
   .cases he
 | .seq a b=>λt fr h R e t' h' he=>by
  have he:(match MV a A c (t,h)with|some (.normal,s')=>MV b A c s' | r=>r)=some (e,t',h'):=he
  unfold A8;cases ha:MV a A c (t,h)with
  |none=>rw[ha]at he;cases he
  |some p =>
   obtain⟨ea,ta,h1⟩:=p;rw[ha]at he;obtain⟨fra,k1,k2⟩:=IS S c a t fr h R _ _ _ ha;rw[k1];cases ea with
   |normal=>exact IS S c b ta fra h1 k2 e t' h' he
   |exit id=>cases he;exact⟨fra,rfl,k2⟩
   |ret=>cases he;exact⟨fra,rfl,k2⟩
 | .cond q a b=>λt fr h R e t' h' he=>by
  have he:(match gT t.get q with | .bool true=>MV a A c (t,h) | .bool false=>MV b A c (t,h)|_=>none)=some (e,t',h'):=he
  rw[R.gT]at he;unfold A8;dsimp only;generalize get fr q=v at he ⊢;split at he
  .exact IS S c a t fr h R e t' h' he
  .exact IS S c b t fr h R e t' h' he
  .cases he
 | .block id a=>λt fr h R e t' h' he=>by
  have he:(match MV a A c (t,h)with|some (.exit id',s')=>if id'=id then some (.normal,s')else some (.exit id',s')|r=>r)=some (e,t',h'):=he
  unfold A8;cases ha:MV a A c (t,h)with
  |none=>rw[ha]at he;cases he
  |some p =>
   obtain⟨ea,ta,h1⟩:=p;rw[ha]at he;obtain⟨fra,k1,k2⟩:=IS S c a t fr h R _ _ _ ha;rw[k1];cases ea with
   |normal=>cases he;exact⟨fra,rfl,k2⟩
   |ret=>cases he;exact⟨fra,rfl,k2⟩
   |exit id' =>
    dsimp only at he ⊢;by_cases hi:id'=id
    .rw[if_pos hi]at he ⊢;cases he;exact⟨fra,rfl,k2⟩
    .rw[if_neg hi]at he ⊢;cases he;exact⟨fra,rfl,k2⟩
 | .loop a=>λt fr h R e t' h' he=>S.loop _ _ (IS S c a) t fr h R e t' h' he
 | .exit id=>λt fr h R e t' h' he=>by
  have he:some (Ex.exit id,t,h)=some (e,t',h'):=he;cases he;exact⟨fr,rfl,R⟩
 | .ret=>λt fr h R e t' h' he=>by
  have he:some (Ex.ret,t,h)=some (e,t',h'):=he;cases he;exact⟨fr,rfl,R⟩
 | .bad=>λt fr h R e t' h' he=>by
  have he:none=some (e,t',h'):=he;cases he
theorem MI{t:FT}{fr:Fr}(R:RepT t fr)(h:AH):∀l,Qn t h l=Hz fr h l
 | []=>rfl
 | .tmp k::l=>by unfold Qn Hz;rw[MI R h l,R.get]
 | .cell a b n::l=>by unfold Qn Hz;rw[MI R h l,R.get]
theorem nt{A:OrcT}{O:Orc}(S:SimO A O)(c:Ctx)(rf:RFunc)(args:I7)(h:AH){r:AV×AH}(he:nn A c rf args h=some r):En O c rf args h=some r:=by
 unfold nn at he;unfold En;cases hc:MV rf.body A c (Me (JH (zf8z (zf2z rf.ntmps args.length)) (zf2z rf.ntmps args.length)) 0 args,h)with
 |none=>rw[hc]at he;cases he
 |some p =>
  obtain⟨e,t',h'⟩:=p;rw[hc]at he;obtain⟨G6,k1,k2⟩:=IS S c rf.body _ _ h (RepT.start rf args) _ _ _ hc;rw[k1];cases e with
  |normal=>dsimp only at he ⊢;rw[MI k2]at he;exact he
  |ret=>dsimp only at he ⊢;rw[MI k2]at he;exact he
  |exit id=>cases he
theorem TE{s:RSpec}{O O':Orc}(hO:Le O O'){args:I7}{h:AH}{x:AV×AH}(he:s.run O args h=some x):s.run O' args h=some x:=by
 obtain⟨l,h1,h2⟩:=s.fin O args h x he;exact h2 O' λp hp=>hO.pure _ _ _ (h1 p hp)
structure KnowOk (C:Cfg) (K:Know):Prop where
 pure:∀f args r,K.pure f args=some r->pc C f args=some r
 raw:∀f args h r,K.raw f args h=some r->rc C f args h=some r
section
variable {C:Cfg} {K:Know}
theorem bN{A:OrcT}(S:SimO A (Ax C)){f:FuncId}{args:I7}{h:AH}{r:AV×AH}(he:eo C A f args h=some r):EW C (Ax C) f args h=some r:=by
 unfold eo at he;unfold EW;cases hc:C.code f with
 |some rf=>rw[hc]at he;exact nt S _ rf args h he
 |none =>
  rw[hc]at he;dsimp only at he ⊢;cases hr:C.rspec f with
  |none=>rw[hr]at he;cases he
  |some s=>rw[hr]at he;exact TE S.le he
theorem xP(hK:KnowOk C K){A:OrcT}(S:SimO A (Ax C)){f:FuncId}{args:I7}{h:AH}{r:AV×AH}(he:rawT C K A f args h=some r):rc C f args h=some r:=by
 unfold rawT at he;cases hk:K.raw f args h with
 |some x=>rw[hk]at he;cases he;exact hK.raw _ _ _ _ hk
 |none =>
  rw[hk]at he;have he:Pp (C.ctx f).rst (eo C A f args h)=some r:=he;cases hu:eo C A f args h with
  |none=>rw[hu]at he;unfold Pp at he;split at he<;>cases he
  |some x =>
   rw[hu,MJ]at he;cases he;exact jD C (bN S hu)
theorem rq(hK:KnowOk C K){A:OrcT}(S:SimO A (Ax C)){f:FuncId}{args:I7}{r:AV}(he:rl C K A f args=some r):pc C f args=some r:=by
 unfold rl at he;cases hk:K.pure f args with
 |some x=>rw[hk]at he;cases he;exact hK.pure _ _ _ hk
 |none =>
  rw[hk]at he;have he:rn C K A f args=some r:=he;unfold rn at he;cases hs:C.spec f with
  |some s =>
   apply QW;rw[hs]at he;unfold Ck;rw[hs];exact he
  |none =>
   rw[hs]at he;dsimp only at he;cases hr:eo C A f args AH.empty with
   |none=>rw[hr]at he;cases he
   |some p =>
    rw[hr]at he;apply QW;unfold Ck;rw[hs];dsimp only;rw[bN S hr];exact he
end
theorem SV{st:PF->Fx}{s:St->Option (Ex×St)}(H:Sim st s):∀n,Sim (SU n st) (HN s n)
 |0=>λt fr h R e t' h' he=>by
  have he:none=some (e,t',h'):=he;cases he
 |n+1=>λt fr h R e t' h' he=>by
  have he:(match st (t,h)with|some (.normal,s')=>SU n st s' | r=>r)=some (e,t',h'):=he
  unfold HN;cases ha:st (t,h)with
  |none=>rw[ha]at he;cases he
  |some p =>
   obtain⟨ea,ta,h1⟩:=p;rw[ha]at he;obtain⟨fra,k1,k2⟩:=H t fr h R _ _ _ ha;rw[k1];cases ea with
   |normal=>exact SV H n ta fra h1 k2 e t' h' he
   |exit id=>cases he;exact⟨fra,rfl,k2⟩
   |ret=>cases he;exact⟨fra,rfl,k2⟩
theorem Xk{C:Cfg}{K:Know}(hK:KnowOk C K):∀n,SimO (orcT C K n) (Ax C)
 |0=>⟨λ_ _ _ h=>(nomatch (show none=some _ from h)),λ_ _ _ _ h=>(nomatch (show none=some _ from h)),λ_ _ _=>λt fr h R e t' h' he=>nomatch (show none=some _ from he)⟩
 |n+1=>⟨λ_ _ _ h=>rq hK (Xk hK n) h,λ_ _ _ _ h=>xP hK (Xk hK n) h,λ_ _ H=>λt fr h R e t' h' he=>by
   obtain⟨G6,h1,h2⟩:=SV H (n+1) t fr h R e t' h' he;exact⟨G6,OC h1,h2⟩⟩
theorem xA{C:Cfg}{K:Know}(hK:KnowOk C K)(n:Nat){f:FuncId}{args:I7}{r:AV}(h:(orcT C K n).pure f args=some r):pc C f args=some r:=(Xk hK n).pure f args r h
structure Told where
 f:FuncId
 args:List AV
 r:AV
def tE(l:List Told)(g:FuncId->List AV->Option AV)(f:FuncId)(args:List AV):Option AV :=
 match l.find? λx=>zf0z x.f f&&Hg x.args args with
 |some x=>some x.r
 |none=>g f args
def j9(l:List Told)(g:FuncId->List AV->Option AV):Know:=⟨tE l g,λ_ _ _=>none⟩
theorem L6{C:Cfg}{l:List Told}{g:FuncId->List AV->Option AV}(h:∀x∈l,pc C x.f x.args=some x.r)(hg:∀f args r,g f args=some r->pc C f args=some r):KnowOk C (j9 l g):=by
 refine⟨λf args r he=>?_,λ_ _ _ _ he=>by cases he⟩;have he:tE l g f args=some r:=he;unfold tE at he;split at he
 .rename_i x hx;cases he;have h1:=List.find?_some hx;have h2:=List.mem_of_find?_eq_some hx;rw[Bool.and_eq_true]at h1;have e1:=zf6z h1.1;have e2:=AI h1.2;rw[←e1,←e2];exact h x h2
 .exact hg f args r he
end Go.Abs
namespace Go.Abs.Q
open Go.Proofs
def I(n:Int):AV:=.int .i64 n
def S(l:List Nat):AV:=.str ⟨(l.map UInt8.ofNat).toArray⟩
mutual
def cA:AV->Option Tm
 | .agg [.int .i64 k,.str n,.int .i64 s,.vs f z xs]=>if z=4\/(z=0/\xs.isEmpty=true)then (match TU xs with|some l=>some (.mk k n s (f,decide (z=4)) l)|none=>none)else none
 |_=>none
def TU:List AV->Option (List Tm)
 | []=>some []
 |x::xs=>match cA x,TU xs with|some t,some l=>some (t::l)|_,_=>none
end
mutual
theorem RV:∀{a:AV} {t:Tm},cA a=some t->U6 t=a
 | .agg [.int .i64 k,.str n,.int .i64 s,.vs f z xs],t,h=>by
  simp only[cA]at h;split at h
  .rename_i hz;split at h
   .rename_i l hl;cases h;have:=cC hl;simp only[U6,this,sl];rcases hz with rfl|⟨rfl,hx⟩
    .simp
    .simp[hx]
   .cases h
  .cases h
theorem cC:∀{xs:I7} {l:CI},TU xs=some l->G8 l=xs
 | [],l,h=>by
  simp only[TU]at h;cases h;simp[G8]
 |x::xs,l,h=>by
  simp only[TU]at h;split at h
  .rename_i t l' h1 h2;cases h;simp only[G8,RV h1,cC h2]
  .cases h
end
def X6(f:FuncId)(args:List AV):Option AV :=
 if f=AN then
  match args with
  | [a,b] =>
   match cA a,cA b with
   |some t,some t'=>if t.size<=1099511627776/\t'.size<=1099511627776 then some (.int .i64 (Mp t t'))else none
   |_,_=>none
  |_=>none
 else none
theorem ge(f:FuncId)(args:I7)(r:AV)(h:X6 f args=some r):pc Q f args=some r:=by
 unfold X6 at h;split at h
 .rename_i hf;subst hf;split at h
  .rename_i a b;split at h
   .rename_i t t' h1 h2;split at h
    .rename_i hs;cases h;rw[←RV h1,←RV h2];exact So t.size t t' (Nat.le_refl _) hs.1 hs.2
    .cases h
   .cases h
  .cases h
 .cases h
end Go.Abs.Q
