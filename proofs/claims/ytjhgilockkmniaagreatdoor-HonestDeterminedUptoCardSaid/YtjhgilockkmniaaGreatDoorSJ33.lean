/- A part of the proof. -/
import Derived.Test.YtjhgilockkmniaaGreatDoorSJ18
set_option linter.all false
open Nat renaming beq->zf0z,max->zf2z,div->zf5z,eq_of_beq_eq_true->zf6z,mod->zf7z,succ->zf8z,sub->zg0z
open List renaming replicate->zf1z,getD_eq_getElem?_getD->zf3z,nil_append->zf9z
open Option renaming map_eq_some_iff->zf4z
set_option linter.unusedVariables false
namespace Go.Abs
inductive FT where
 |nil
 |node (l:FT) (v:AV) (r:FT)
def nr (_:Nat):AV:=B3
noncomputable def cH (v:AV) (gl gr:Nat->AV) (n:Nat):AV:=(zf0z (zf7z n (nat_lit 2)) (nat_lit 1)).rec (gr (zg0z (zf5z n (nat_lit 2)) (nat_lit 1))) (gl (zf5z n (nat_lit 2)))
noncomputable def WC (_:FT) (v:AV) (_:FT) (gl gr:Nat->AV) (n:Nat):AV:=(zf0z n (nat_lit 0)).rec (cH v gl gr n) v
noncomputable def FT.get (t:FT):Nat->AV:=t.rec nr WC
def qH (_:Nat) (_:AV):FT:=.nil
noncomputable def dD (l:FT) (v:AV) (r:FT) (pl pr:Nat->AV->FT) (n:Nat) (x:AV):FT:=(zf0z (zf7z n (nat_lit 2)) (nat_lit 1)).rec (.node l v (pr (zg0z (zf5z n (nat_lit 2)) (nat_lit 1)) x)) (.node (pl (zf5z n (nat_lit 2)) x) v r)
noncomputable def Wi (l:FT) (v:AV) (r:FT) (pl pr:Nat->AV->FT) (n:Nat) (x:AV):FT:=(zf0z n (nat_lit 0)).rec (dD l v r pl pr n x) (.node l x r)
noncomputable def FT.put (t:FT):Nat->AV->FT:=t.rec qH Wi
noncomputable def Je (k:Nat):Nat->FT:=k.rec (λ_=>.nil) (λ_ b n=>(zf0z n (nat_lit 0)).rec (.node (b (zf5z n (nat_lit 2))) B3 (b (zf5z (zg0z n (nat_lit 1)) (nat_lit 2)))) .nil)
def RV (g:Opd->AV) (len:Nat):List (Nat×Nat×Opd)->Option (List (Nat×AV))
 | []=>some []
 |(off,n,x)::rest =>
  if (g x).isTup=false/\(g x).cells.length=n/\off+n<=len then (RV g len rest).map ((off,g x)::·)else none
def Pa (g:Opd->AV) (h:AH) (xs:List AV):List (Nat×Opd)->Option (List AV)
 | []=>some xs
 |(i,x)::rest =>
  match xs[i]?,frz h false (g x)with
  |some z,some y=>if y.cells.length=z.cells.length then Pa g h (xs.set i y) rest else none
  |_,_=>none
def RT (g:Opd->AV):Option Opd->Option (Option Int)
 |none=>some none
 |some x=>match g x with | .int _ i=>some (some i)|_=>none
def mE (x y:AV):Option AV :=
 match x,y with
 | .int k a,.int k' b=>if k=k' then some (.int k (k.wrap (a+b)))else none
 | .str a,.str b=>if ((a.size+b.size:Nat):Int) > IntKind.i64.max then none else some (.str (a++b))
 |_,_=>none
def mS (x y:AV):Option AV :=
 match x,y with
 | .int k a,.int k' b=>if k=k' then some (.int k (k.wrap (a-b)))else none
 |_,_=>none
def mL (x y:AV):Option AV :=
 match x,y with
 | .int k a,.int k' b=>if k=k' then some (.int k (k.wrap (a*b)))else none
 |_,_=>none
def mN (x y:AV):Option AV :=
 match x,y with
 | .int k a,.int k' b=>if k=k'/\b≠0 then some (.int k (k.wrap (a.tdiv b)))else none
 |_,_=>none
def mP (x y:AV):Option AV :=
 match x,y with
 | .int k a,.int k' b=>if k=k'/\b≠0 then some (.int k (a.tmod b))else none
 |_,_=>none
def mF (x y:AV):Option AV :=
 match x,y with
 | .int k a,.int k' b=>if k=k' then some (.int k (k.wrap (BitVec.ofInt k.bits a &&& BitVec.ofInt k.bits b).toNat))else none
 |_,_=>none
def sM (x y:AV):Option AV :=
 match x,y with
 | .int k a,.int k' b=>if k=k' then some (.int k (k.wrap (BitVec.ofInt k.bits a ||| BitVec.ofInt k.bits b).toNat))else none
 |_,_=>none
def mT (x y:AV):Option AV :=
 match x,y with
 | .int k a,.int k' b=>if k=k' then some (.int k (k.wrap (BitVec.ofInt k.bits a ^^^ BitVec.ofInt k.bits b).toNat))else none
 |_,_=>none
def mQ (x y:AV):Option AV :=
 match x,y with
 | .int k a,.int k' b=>if 0<=b then some (.int k (k.wrap (a*2 ^ (min b.toNat k.bits))))else none
 |_,_=>none
def mR (x y:AV):Option AV :=
 match x,y with
 | .int k a,.int k' b=>if 0<=b then some (.int k (a.fdiv (2 ^ (min b.toNat k.bits))))else none
 |_,_=>none
def bH (_ _:AV):Option AV:=none
def mG (x y:AV):Option AV :=
 match x,y with
 | .int k a,.int k' b=>if k=k' then some (.bool (a == b))else none
 | .str a,.str b=>some (.bool (a.toList == b.toList))
 |_,_=>none
def mM (x y:AV):Option AV :=
 match x,y with
 | .int k a,.int k' b=>if k=k' then some (.bool (a != b))else none
 | .str a,.str b=>some (.bool !(a.toList == b.toList))
 |_,_=>none
def mK (x y:AV):Option AV :=
 match x,y with
 | .int k a,.int k' b=>if k=k' then some (.bool (decide (a<b)))else none
 | .str a,.str b=>some (.bool (Op.bytesLess a.toList b.toList))
 |_,_=>none
def mJ (x y:AV):Option AV :=
 match x,y with
 | .int k a,.int k' b=>if k=k' then some (.bool (decide (a<=b)))else none
 | .str a,.str b=>some (.bool (Op.bytesLess a.toList b.toList||a.toList == b.toList))
 |_,_=>none
def mI (x y:AV):Option AV :=
 match x,y with
 | .int k a,.int k' b=>if k=k' then some (.bool (decide (a > b)))else none
 | .str a,.str b=>some (.bool !(Op.bytesLess a.toList b.toList||a.toList == b.toList))
 |_,_=>none
def mH (x y:AV):Option AV :=
 match x,y with
 | .int k a,.int k' b=>if k=k' then some (.bool (decide (a≥b)))else none
 | .str a,.str b=>some (.bool !(Op.bytesLess a.toList b.toList))
 |_,_=>none
noncomputable def mU (op:BinOp):AV->AV->Option AV:=op.rec mE mS mL mN mP mF sM mT mQ mR bH mG mM mK mJ mI mH
noncomputable def nX (x:Opd) (O:Orc) (c:Ctx) (g:Opd->AV) (h:AH):Option (AV×AH):=some (g x,h)
noncomputable def jh (q:Opd) (a:Opd) (b:Opd) (O:Orc) (c:Ctx) (g:Opd->AV) (h:AH):Option (AV×AH):=match g q with | .bool t=>some (if t then g a else g b,h)|_=>none
noncomputable def nM (x:Opd) (O:Orc) (c:Ctx) (g:Opd->AV) (h:AH):Option (AV×AH):=if (g x).isTup then none else some (.ptr h.boxes.length 0,{h with boxes:=h.boxes++[(g x).cells]})
noncomputable def fa  (O:Orc) (c:Ctx) (g:Opd->AV) (h:AH):Option (AV×AH):=some (.mp h.boxes.length,{h with boxes:=h.boxes++[[.mbox [] []]]})
noncomputable def fb (str:Bool) (ok:Bool) (z:AV) (x:Opd) (k:Opd) (O:Orc) (c:Ctx) (g:Opd->AV) (h:AH):Option (AV×AH):=Eh str ok z h (g x) (g k)
noncomputable def nY (str:Bool) (x:Opd) (k:Opd) (v:Opd) (O:Orc) (c:Ctx) (g:Opd->AV) (h:AH):Option (AV×AH):=UK str h (g x) (g k) (g v)
noncomputable def bq (ok:Bool) (z:AV) (x:Opd) (k:Opd) (O:Orc) (c:Ctx) (g:Opd->AV) (h:AH):Option (AV×AH):=Ky ok z h (g x) (g k)
noncomputable def jg (x:Opd) (k:Opd) (v:Opd) (O:Orc) (c:Ctx) (g:Opd->AV) (h:AH):Option (AV×AH):=ZS h (g x) (g k) (g v)
noncomputable def fW (z:AV) (O:Orc) (c:Ctx) (g:Opd->AV) (h:AH):Option (AV×AH):=some (.ptr h.boxes.length 0,{h with boxes:=h.boxes++[z.cells]})
noncomputable def Yl (r:Nat) (z:AV) (O:Orc) (c:Ctx) (g:Opd->AV) (h:AH):Option (AV×AH):=BH h r z
noncomputable def RZ (z:AV) (parts:List (Nat×Nat×Opd)) (O:Orc) (c:Ctx) (g:Opd->AV) (h:AH):Option (AV×AH):=match RV g z.cells.length parts with|some ps=>some (.agg (Q3 z.cells ps),h)|none=>none
noncomputable def OJ (n:Nat) (z:AV) (parts:List (Nat×Opd)) (O:Orc) (c:Ctx) (g:Opd->AV) (h:AH):Option (AV×AH):=match Pa g h (zf1z n z) parts with|some xs=>some (.vs true z.cells.length xs,h)|none=>none
noncomputable def MI (n:Nat) (z:AV) (parts:List (Nat×Opd)) (O:Orc) (c:Ctx) (g:Opd->AV) (h:AH):Option (AV×AH):=if parts.all (λp=>BJ (g p.2))then (match Pa g h (zf1z n z) parts with|some xs=>some (.vs true z.cells.length xs,h)|none=>none)else none
noncomputable def sU (agg:Bool) (n:Nat) (x:Opd) (O:Orc) (c:Ctx) (g:Opd->AV) (h:AH):Option (AV×AH):=match x7 h agg n (g x)with|some v=>some (v,h)|none=>none
noncomputable def nR (agg:Bool) (n:Nat) (x:Opd) (O:Orc) (c:Ctx) (g:Opd->AV) (h:AH):Option (AV×AH):=match g x with | .ep ..=>none|p=>(match x7 h agg n p with|some v=>some (v,h)|none=>none)
noncomputable def sV (n:Nat) (a:Opd) (x:Opd) (O:Orc) (c:Ctx) (g:Opd->AV) (h:AH):Option (AV×AH):=match x9 h n (g x) (g a)with|some h'=>some (B3,h')|none=>none
noncomputable def nc (n:Nat) (a:Opd) (x:Opd) (O:Orc) (c:Ctx) (g:Opd->AV) (h:AH):Option (AV×AH):=NY h n (g a) (g x)
noncomputable def nZ (n:Nat) (a:Opd) (x:Opd) (O:Orc) (c:Ctx) (g:Opd->AV) (h:AH):Option (AV×AH):=Me h n (g a) (g x)
noncomputable def nN (z:AV) (x:Opd) (O:Orc) (c:Ctx) (g:Opd->AV) (h:AH):Option (AV×AH):=LS h z (g x)
noncomputable def fc (x:Opd) (O:Orc) (c:Ctx) (g:Opd->AV) (h:AH):Option (AV×AH):=match g x with | .pv cs=>some (.pv cs,h) | .ptr b o=>some (.ptr b o,h) | .ep k n i q s=>some (.ep k n i q s,h) | .fn f cs=>some (.fn f cs,h)|_=>none
noncomputable def bo (op:BinOp) (x:Opd) (y:Opd) (O:Orc) (c:Ctx) (g:Opd->AV) (h:AH):Option (AV×AH):=match mU op (g x) (g y)with|some v=>some (v,h)|none=>none
noncomputable def nL (neg:Bool) (x:Opd) (y:Opd) (O:Orc) (c:Ctx) (g:Opd->AV) (h:AH):Option (AV×AH):=match g x,g y with | .bool a,.bool b=>some (.bool (if neg then !(a == b)else a == b),h)|_,_=>none
noncomputable def fd (neg:Bool) (x:Opd) (O:Orc) (c:Ctx) (g:Opd->AV) (h:AH):Option (AV×AH):=gF neg h (g x)
noncomputable def sW (op:UnOp) (x:Opd) (O:Orc) (c:Ctx) (g:Opd->AV) (h:AH):Option (AV×AH):=match Jm op (g x)with|some v=>some (v,h)|none=>none
noncomputable def jb (k:IntKind) (x:Opd) (O:Orc) (c:Ctx) (g:Opd->AV) (h:AH):Option (AV×AH):=match g x with | .int _ n=>some (.int k (k.wrap n),h)|_=>none
noncomputable def jc (x:Opd) (O:Orc) (c:Ctx) (g:Opd->AV) (h:AH):Option (AV×AH):=match g x with | .str s=>some (.str s,h)|_=>none
noncomputable def jY (x:Opd) (O:Orc) (c:Ctx) (g:Opd->AV) (h:AH):Option (AV×AH):=LQ h (g x)
noncomputable def ja (f:FuncId) (caps:List Opd) (O:Orc) (c:Ctx) (g:Opd->AV) (h:AH):Option (AV×AH):=if c.ro then (Ct h (caps.map g)).map λp=>(.fn f p.1,p.2)else some (.fn f (caps.map g),h)
noncomputable def Ym (z:AV) (bytes:Nat) (l:Opd) (q:Opd) (O:Orc) (c:Ctx) (g:Opd->AV) (h:AH):Option (AV×AH):=
  match g l,g q with
  | .int _ a,.int _ b =>
   if 0<=a/\a<=b/\b*bytes<=I0/\b<=maxLen then
    some (.sl h.fams.length a.toNat 0 a.toNat,{h with fams:=h.fams++[⟨zf1z a.toNat z,z.cells.length,true⟩]})
   else none
  |_,_=>none
noncomputable def nW (z:AV) (bytes:Nat) (l:Opd) (q:Opd) (O:Orc) (c:Ctx) (g:Opd->AV) (h:AH):Option (AV×AH):=Wb h z bytes (g l) (g q)
noncomputable def nV (z:AV) (bytes:Nat) (l:Opd) (q:Opd) (O:Orc) (c:Ctx) (g:Opd->AV) (h:AH):Option (AV×AH):=Og h z bytes (g l) (g q)
noncomputable def br (sz:Nat) (x:Opd) (lo:Option Opd) (hi:Option Opd) (mx:Option Opd) (O:Orc) (c:Ctx) (g:Opd->AV) (h:AH):Option (AV×AH):=
  match RT g lo,RT g hi,RT g mx with
  |some l,some u,some m=>match Ez h sz (g x) l u m with|some v=>some (v,h)|none=>none
  |_,_,_=>none
noncomputable def fY (off:Nat) (x:Opd) (O:Orc) (c:Ctx) (g:Opd->AV) (h:AH):Option (AV×AH):=match g x with | .pv cs=>some (.pv (cs.drop off),h) | .ptr b o=>some (.ptr b (o+off),h) | .ep k n i q s=>some (.ep k n i (q+off) s,h)|_=>none
noncomputable def nP (agg:Bool) (off:Nat) (n:Nat) (x:Opd) (O:Orc) (c:Ctx) (g:Opd->AV) (h:AH):Option (AV×AH):=match g x with | .agg cs=>(match T1 agg n (cs.drop off)with|some v=>some (v,h)|none=>none)|_=>none
noncomputable def fZ (sz:Nat) (x:Opd) (i:Opd) (O:Orc) (c:Ctx) (g:Opd->AV) (h:AH):Option (AV×AH):=
  match g x,g i with
  | .vs _ z xs,.int _ j=>if 0<=j/\z=sz then (match xs[j.toNat]? with|some e=>some (.pv e.cells,h)|none=>none)else none
  | .sl k n off len,.int _ j=>if 0<=j/\j<len then some (.ep k n (off+j.toNat) 0 sz,h)else none
  | .bsl b s off len,.int _ j=>if 0<=j/\j<len/\s=sz then some (.ptr b (off+j.toNat*sz),h)else none
  |_,_=>none
noncomputable def bp (sz:Nat) (x:Opd) (i:Opd) (O:Orc) (c:Ctx) (g:Opd->AV) (h:AH):Option (AV×AH):=
  match g x,g i with
  | .vs _ z xs,.int _ j=>if 0<=j/\z=sz then (match xs[j.toNat]? with|some e=>some (.pv e.cells,h)|none=>none)else none
  |_,_=>none
noncomputable def nQ (x:Opd) (i:Opd) (O:Orc) (c:Ctx) (g:Opd->AV) (h:AH):Option (AV×AH):=
  match g x,g i with
  | .str s,.int _ j=>if 0<=j then (match s[j.toNat]? with|some b=>some (.int .u8 b.toNat,h)|none=>none)else none
  |_,_=>none
noncomputable def nO (x:Opd) (i:Nat) (O:Orc) (c:Ctx) (g:Opd->AV) (h:AH):Option (AV×AH):=match g x with | .tup vs=>(match vs[i]? with|some v=>some (v,h)|none=>none)|_=>none
def je (x:Opd) (O:Orc) (c:Ctx) (g:Opd->AV) (h:AH):Option (AV×AH):=match g x with | .str s=>some (.int .i64 s.size,h)|_=>none
def jd (x:Opd) (O:Orc) (c:Ctx) (g:Opd->AV) (h:AH):Option (AV×AH):=
  match g x with
  | .vs _ _ xs=>some (.int .i64 xs.length,h)
  | .sl _ _ _ len=>some (.int .i64 len,h)
  | .bsl _ _ _ len=>some (.int .i64 len,h)
  |_=>none
noncomputable def nS (b:Bool):Opd->Orc->Ctx->(Opd->AV)->AH->Option (AV×AH):=b.rec jd je
noncomputable def nK (sz:Nat) (bytes:Nat) (s:Opd) (x:Opd) (O:Orc) (c:Ctx) (g:Opd->AV) (h:AH):Option (AV×AH):=N7 c h sz bytes (g s) (g x)
noncomputable def jX (bytes:Nat) (s:Opd) (x:Opd) (O:Orc) (c:Ctx) (g:Opd->AV) (h:AH):Option (AV×AH):=OA c h bytes (g s) (g x)
noncomputable def nT (x:Opd) (y:Opd) (O:Orc) (c:Ctx) (g:Opd->AV) (h:AH):Option (AV×AH):=match g x,g y with | .int k a,.int k' b=>if k=k' then some (.int k (if b > a then b else a),h)else none|_,_=>none
noncomputable def nU (x:Opd) (y:Opd) (O:Orc) (c:Ctx) (g:Opd->AV) (h:AH):Option (AV×AH):=match g x,g y with | .int k a,.int k' b=>if k=k' then some (.int k (if b<a then b else a),h)else none|_,_=>none
noncomputable def jf (x:Opd) (O:Orc) (c:Ctx) (g:Opd->AV) (h:AH):Option (AV×AH):=match w9 h (g x)with|some (ks,_)=>some (.int .i64 ks.length,h)|none=>none
noncomputable def jZ (f:FuncId) (args:List Opd) (O:Orc) (c:Ctx) (g:Opd->AV) (h:AH):Option (AV×AH):=DO O c f (args.map g) h
noncomputable def fX (x:Opd) (args:List Opd) (O:Orc) (c:Ctx) (g:Opd->AV) (h:AH):Option (AV×AH):=match g x with | .fn f caps=>if c.raw f&&!c.rawv then none else DO O c f (args.map g++caps) h|_=>none
noncomputable def LV (o:ROp):Orc->Ctx->(Opd->AV)->AH->Option (AV×AH):=o.rec nX jh nM fa fb nY bq jg fW Yl RZ OJ MI sU nR sV nc nZ nN fc bo nL fd sW jb jc jY ja Ym nW nV br fY nP fZ bp nQ nO nS nK jX nT nU jf jZ fX
def sg (n:Nat) (get:Nat->AV):AV:=get n
def sf (v:AV) (_:Nat->AV):AV:=v
noncomputable def gT (get:Nat->AV) (x:Opd):AV:=(x.rec sg sf:(Nat->AV)->AV) get
noncomputable def Ug (t:FT) (d:Option Nat) (v:AV):FT:=d.rec t (λn=>t.put n v)
def Sp (t:Nat->AV) (p:Nat×Bool):Option Bool :=
 match t p.1 with
 | .bool b=>some (b == p.2)
 | .tup _=>some false
 |_=>none
noncomputable def Lu (t:Nat->AV) (g:Option (Nat×Bool)):Option Bool:=g.rec (some true) (Sp t)
abbrev Nf:=FT×AH
abbrev GX:=Option (Ex×Nf)
def oy (_:Orc) (_:Ctx) (t:FT) (h:AH):Option (FT×AH):=some (t,h)
noncomputable def oz (o:RO) (ih:Orc->Ctx->FT->AH->Option (FT×AH)) (O:Orc) (c:Ctx) (t:FT) (r:Option (AV×AH)):Option (FT×AH) :=
 r.rec none (λp=>ih O c (Ug t o.dst p.1) p.2)
noncomputable def cZ (o:RO) (ih:Orc->Ctx->FT->AH->Option (FT×AH)) (O:Orc) (c:Ctx) (t:FT) (h:AH) (b:Bool):Option (FT×AH) :=
 b.rec (ih O c (Ug t o.dst B3) h) (oz o ih O c t (LV o.op O c (gT t.get) h))
noncomputable def jt (o:RO) (_:List RO) (ih:Orc->Ctx->FT->AH->Option (FT×AH)) (O:Orc) (c:Ctx) (t:FT) (h:AH):Option (FT×AH) :=
 (Lu t.get o.guard).rec none (cZ o ih O c t h)
noncomputable def Zb (l:List RO):Orc->Ctx->FT->AH->Option (FT×AH):=l.rec oy jt
structure OrcT where
 pure:FuncId->List AV->Option AV
 raw:FuncId->List AV->AH->Option (AV×AH)
 loop:(Nf->GX)->Nf->GX
def OrcT.orc (O:OrcT):Orc:=⟨O.pure,O.raw,λ_ _=>none⟩
abbrev aq:=OrcT->Ctx->Nf->GX
def jP (_:OrcT) (_:Ctx) (s:Nf):GX:=some (.normal,s)
def Xg (c:Ctx) (g:Opd->AV) (r:ROp) (h h1:AH):Foot:=⟨FL c h.boxes.length g r,if r.writesB c then Kr h.boxes h1.boxes else [],DY c g r,if r.writesF c then Pn h.fams h1.fams else []⟩
def nJ (_:Orc) (_:Ctx) (t:FT) (h:AH):Option (List Foot×FT×AH):=some ([],t,h)
noncomputable def jW (o:RO) (_:List RO) (ih:Orc->Ctx->FT->AH->Option (List Foot×FT×AH)) (O:Orc) (c:Ctx) (t:FT) (h:AH):Option (List Foot×FT×AH) :=
 match Lu t.get o.guard with
 |some true=>(match LV o.op O c (gT t.get) h with|some (v,h')=>(ih O c (Ug t o.dst v) h').map λp=>(Xg c (gT t.get) o.op h h'::p.1,p.2)|none=>none)
 |some false=>(ih O c (Ug t o.dst B3) h).map λp=>(Mp c (some false) (gT t.get) o.op h h::p.1,p.2)
 |none=>none
noncomputable def Qo (l:List RO):Orc->Ctx->FT->AH->Option (List Foot×FT×AH):=l.rec nJ jW
noncomputable def bQ (_:Bool) (ops:List RO) (O:OrcT) (c:Ctx) (s:Nf):GX:=(Zb ops O.orc c s.1 s.2).rec none (λs'=>some (.normal,s'))
noncomputable def jO (bs:List Nat) (ops:List RO) (O:OrcT) (c:Ctx) (s:Nf):GX:=match Qo ops O.orc c s.1 (s.2.holes (VY ops))with|some (fs,s')=>if Z1 bs ops fs then some (.normal,s')else none|none=>none
def mq (_ _:RCode) (ea eb:aq) (O:OrcT) (c:Ctx) (s:Nf):GX:=match ea O c s with|some (.normal,s')=>eb O c s' | r=>r
noncomputable def jL (q:Opd) (_ _:RCode) (ea eb:aq) (O:OrcT) (c:Ctx) (s:Nf):GX:=match gT s.1.get q with | .bool true=>ea O c s | .bool false=>eb O c s|_=>none
def fN (id:Nat) (_:RCode) (ea:aq) (O:OrcT) (c:Ctx) (s:Nf):GX:=match ea O c s with|some (.exit id',s')=>if id'=id then some (.normal,s')else some (.exit id',s')|r=>r
def jN (_:RCode) (ea:aq) (O:OrcT) (c:Ctx) (s:Nf):GX:=O.loop (ea O c) s
def jM (id:Nat) (_:OrcT) (_:Ctx) (s:Nf):GX:=some (.exit id,s)
def mn (_:OrcT) (_:Ctx) (s:Nf):GX:=some (.ret,s)
def mj (_:OrcT) (_:Ctx) (_:Nf):GX:=none
noncomputable def Kd (x:RCode):aq:=x.rec jP bQ jO mq jL fN jN jM mn mj
noncomputable def XB (t:FT) (h:AH):List RRes->Option (List AV)
 | []=>some []
 | .tmp k::rest=>(XB t h rest).map (t.get k::·)
 | .cell a agg n::rest=>(x7 h agg n (t.get a)).bind λv=>(XB t h rest).map (v::·)
noncomputable def PF (t:FT) (k:Nat):List AV->FT
 | []=>t
 |v::vs=>PF (t.put k v) (k+1) vs
noncomputable def bJ (O:OrcT) (c:Ctx) (rf:RFunc) (args:List AV) (h:AH):Option (AV×AH) :=
 match Kd rf.body O c (PF (Je (zf8z (zf2z rf.ntmps args.length)) (zf2z rf.ntmps args.length)) 0 args,h)with
 |some (.normal,s)=>(XB s.1 s.2 rf.results).map λvs=>(H6 vs,s.2)
 |some (.ret,s)=>(XB s.1 s.2 rf.results).map λvs=>(H6 vs,s.2)
 |_=>none
structure Know where
 pure:FuncId->List AV->Option AV:=λ_ _=>none
 raw:FuncId->List AV->AH->Option (AV×AH):=λ_ _ _=>none
noncomputable def Wt (C:Cfg) (O:OrcT) (f:FuncId) (args:List AV) (h:AH):Option (AV×AH) :=
 match C.code f with
 |some rf=>bJ O (C.ctx f) rf args h
 |none=>match C.rspec f with|some s=>s.run O.orc args h|none=>none
noncomputable def kO (C:Cfg) (K:Know) (O:OrcT) (f:FuncId) (args:List AV) (h:AH):Option (AV×AH) :=
 (K.raw f args h).rec (Ux (C.ctx f).rst (Wt C O f args h)) some
noncomputable def dV (C:Cfg) (K:Know) (O:OrcT) (f:FuncId) (args:List AV):Option AV :=
 match C.spec f with
 |some s=>s args
 |none=>match Wt C O f args AH.empty with|some (r,h)=>Cg h r|none=>none
noncomputable def dU (C:Cfg) (K:Know) (O:OrcT) (f:FuncId) (args:List AV):Option AV :=
 (K.pure f args).rec (dV C K O f args) some
def jp (_:Nf->GX) (_:Nf):GX:=none
def jo (_:Nat) (ih:(Nf->GX)->Nf->GX) (step:Nf->GX) (s:Nf):GX:=match step s with|some (.normal,s')=>ih step s' | r=>r
noncomputable def cN (n:Nat):(Nf->GX)->Nf->GX:=n.rec jp jo
noncomputable def qE (C:Cfg) (K:Know) (n:Nat):OrcT :=
 n.rec ⟨λ_ _=>none,λ_ _ _=>none,λ_ _=>none⟩ (λn O=>⟨dU C K O,kO C K O,cN (n+1)⟩)
end Go.Abs
namespace Go.Abs
theorem pg {a b:Nat} (h:a≠b):zf0z a b=false:=by
 cases e:zf0z a b with
 |false=>rfl
 |true=>exact absurd (zf6z e) h
theorem ua {a b:Nat} (h:a=b):zf0z a b=true:=by subst h;exact Nat.beq_refl a
def ie (_:Nat):Bool:=false
def jn (_:FT) (_:AV) (_:FT) (hl hr:Nat->Bool) (n:Nat):Bool:=if n=0 then true else if n % 2=1 then hl (n / 2)else hr (n / 2-1)
noncomputable def FT.has (t:FT):Nat->Bool:=t.rec ie jn
theorem HH (l:FT) (v:AV) (r:FT) (n:Nat):(FT.node l v r).get n=if n=0 then v else if n % 2=1 then l.get (n / 2)else r.get (n / 2-1):=by
 show WC l v r l.get r.get n=_;unfold WC;by_cases h:n=0
 .subst h;rfl
 .rw[if_neg h,show zf0z n 0=false from pg h];show cH v l.get r.get n=_;unfold cH;by_cases h1:n % 2=1
  .rw[if_pos h1,show zf0z (zf7z n 2) 1=true from ua h1];rfl
  .rw[if_neg h1,show zf0z (zf7z n 2) 1=false from pg h1];rfl
theorem Uh (l:FT) (v:AV) (r:FT) (n:Nat) (x:AV):(FT.node l v r).put n x=if n=0 then .node l x r else if n % 2=1 then .node (l.put (n / 2) x) v r else .node l v (r.put (n / 2-1) x):=by
 show Wi l v r l.put r.put n x=_;unfold Wi;by_cases h:n=0
 .subst h;rfl
 .rw[if_neg h,show zf0z n 0=false from pg h];show dD l v r l.put r.put n x=_;unfold dD;by_cases h1:n % 2=1
  .rw[if_pos h1,show zf0z (zf7z n 2) 1=true from ua h1];rfl
  .rw[if_neg h1,show zf0z (zf7z n 2) 1=false from pg h1];rfl
theorem IV (l:FT) (v:AV) (r:FT) (n:Nat):(FT.node l v r).has n=if n=0 then true else if n % 2=1 then l.has (n / 2)else r.has (n / 2-1):=rfl
theorem fu (t:FT):∀(d:Nat) (v:AV) (n:Nat),(t.put d v).get n=if n=d/\t.has d=true then v else t.get n:=by
 induction t with
 |nil=>intro d v n;rw[if_neg (λh=>Bool.noConfusion h.2)];rfl
 |node l x r il ir =>
  intro d v n;rw[Uh,IV];by_cases hd:d=0
  .subst hd;simp only[if_true,and_true];rw[HH,HH];by_cases hn:n=0
   .simp[hn]
   .simp[hn]
  .rw[if_neg hd,if_neg hd];by_cases h1:d % 2=1
   .rw[if_pos h1,if_pos h1,HH,HH];by_cases hn:n=0
    .rw[if_pos hn,if_pos hn,if_neg (by omega)]
    .rw[if_neg hn,if_neg hn];by_cases h2:n % 2=1
     .rw[if_pos h2,if_pos h2,il];by_cases he:n=d
      .subst he;simp only[true_and]
      .rw[if_neg (by omega),if_neg (by omega)]
     .rw[if_neg h2,if_neg h2,if_neg (by omega)]
   .rw[if_neg h1,if_neg h1,HH,HH];by_cases hn:n=0
    .rw[if_pos hn,if_pos hn,if_neg (by omega)]
    .rw[if_neg hn,if_neg hn];by_cases h2:n % 2=1
     .rw[if_pos h2,if_pos h2,if_neg (by omega)]
     .rw[if_neg h2,if_neg h2,ir];by_cases he:n=d
      .subst he;simp only[true_and]
      .rw[if_neg (by omega),if_neg (by omega)]
theorem fw (t:FT):∀(d:Nat) (v:AV) (n:Nat),(t.put d v).has n=t.has n:=by
 induction t with
 |nil=>intro d v n;rfl
 |node l x r il ir =>
  intro d v n;rw[Uh];by_cases hd:d=0
  .rw[if_pos hd];rfl
  .rw[if_neg hd];by_cases h1:d % 2=1
   .rw[if_pos h1,IV,IV,il]
   .rw[if_neg h1,IV,IV,ir]
theorem OB (k n:Nat):Je (k+1) n=if n=0 then .nil else .node (Je k (n / 2)) B3 (Je k ((n-1) / 2)):=by
 show ((zf0z n 0).rec (.node (Je k (n / 2)) B3 (Je k ((n-1) / 2))) .nil:FT)=_;by_cases h:n=0
 .subst h;rfl
 .rw[if_neg h,show zf0z n 0=false from pg h]
theorem ML:∀(k n i:Nat),(Je k n).get i=B3
 |0,_,_=>rfl
 |k+1,n,i=>by
  rw[OB];by_cases h:n=0
  .rw[if_pos h];rfl
  .rw[if_neg h,HH,ML,ML];simp
theorem MN:∀(k n i:Nat),n<k->(Je k n).has i=decide (i<n)
 |0,_,_,h=>absurd h (Nat.not_lt_zero _)
 |k+1,n,i,hk=>by
  rw[OB];by_cases h:n=0
  .subst h;rw[if_pos rfl];simp[FT.has,ie]
  .rw[if_neg h,IV];by_cases hi:i=0
   .subst hi;rw[if_pos rfl];simp;omega
   .rw[if_neg hi];by_cases h1:i % 2=1
    .rw[if_pos h1,MN k _ _ (by omega)];apply decide_eq_decide.2;omega
    .rw[if_neg h1,MN k _ _ (by omega)];apply decide_eq_decide.2;omega
structure RepT (t:FT) (fr:Fr):Prop where
 get:∀n,t.get n=fr.getD n B3
 has:∀n,t.has n=decide (n<fr.length)
theorem cJ (fr:Fr) (d n:Nat) (v:AV):(fr.set d v).getD n B3=if n=d/\d<fr.length then v else fr.getD n B3:=by
 simp only[zf3z,List.getElem?_set];by_cases h:d=n
 .subst h;by_cases hl:d<fr.length
  .simp[hl]
  .simp[hl]
 .rw[if_neg h,if_neg (λk=>h k.1.symm)]
theorem RepT.put {t:FT} {fr:Fr} (R:RepT t fr) (d:Nat) (v:AV):RepT (t.put d v) (fr.set d v):=by
 constructor
 .intro n;rw[fu,cJ,R.has,R.get];simp
 .intro n;rw[fw,R.has,List.length_set]
theorem RepT.putO {t:FT} {fr:Fr} (R:RepT t fr) (d:Option Nat) (v:AV):RepT (Ug t d v) (Go.Abs.put fr d v):=by
 cases d with
 |none=>exact R
 |some d=>exact R.put d v
theorem RepT.gT {t:FT} {fr:Fr} (R:RepT t fr):Go.Abs.gT t.get=Go.Abs.get fr:=by
 funext x;cases x with
 |t n=>exact R.get n
 |c v=>rfl
theorem RepT.puts:∀(args:C6) {t:FT} {pre old:Fr},RepT t (pre++old)->args.length<=old.length->RepT (PF t pre.length args) (pre++args++old.drop args.length)
 | [],t,pre,old,R,_=>by simpa[PF]using R
 |v::vs,t,pre,old,R,h=>by
  cases old with
  |nil=>simp at h
  |cons o old =>
   have hs:(pre++o::old).set pre.length v=(pre++[v])++old:=by simp
   have R1:=R.put pre.length v;rw[hs]at R1;have:=RepT.puts vs R1 (by simpa using h);simpa[PF]using this
theorem RepT.start (rf:RFunc) (args:C6):RepT (PF (Je (zf8z (zf2z rf.ntmps args.length)) (zf2z rf.ntmps args.length)) 0 args) (BF rf args):=by
 have h0:RepT (Je (zf8z (zf2z rf.ntmps args.length)) (zf2z rf.ntmps args.length)) ([]++zf1z (zf2z rf.ntmps args.length) B3):=by
  constructor
  .intro n;rw[ML];simp only[zf9z,zf3z,List.getElem?_replicate];split<;>rfl
  .intro n;rw[MN _ _ _ (Nat.lt_succ_self _)];simp
 have h1:=RepT.puts args h0 (by simp;exact Nat.le_max_right _ _);have e:([]:Fr)++args++(zf1z (zf2z rf.ntmps args.length) B3).drop args.length=BF rf args:=by
  unfold BF;rw[List.drop_replicate,zf9z];congr 2;show max rf.ntmps args.length-args.length=_;omega
 rw[e]at h1;exact h1
theorem QL (fr:Fr) (n:Nat):∀l,RV (get fr) n l=F8 fr n l
 | []=>rfl
 |(a,b,x)::l=>by unfold RV F8;rw[QL fr n l]
theorem Mc (fr:Fr) (h:AH):∀(l:List (Nat×Opd)) (xs:C6),Pa (get fr) h xs l=B5 fr h xs l
 | [],_=>rfl
 |(i,x)::l,xs=>by
  unfold Pa B5;cases xs[i]? with
  |none=>rfl
  |some z =>
   cases frz h false (get fr x)with
   |none=>rfl
   |some y=>simp only[Mc fr h l]
theorem MD (fr:Fr) (x:Option Opd):RT (get fr) x=F0 fr x:=by cases x<;>rfl
theorem fK (op:BinOp) (x y:AV):mU op x y=E9 op x y:=by
 cases x<;>cases op<;>first|rfl|(cases y<;>rfl)
theorem OM (O:Orc) (c:Ctx) (o:ROp) (fr:Fr) (h:AH):LV o O c (get fr) h=A3 O c o fr h:=by
 cases o with
 |build z parts=>show RZ z parts O c (get fr) h=_;unfold RZ;rw[QL];rfl
 |bslice n z parts=>show OJ n z parts O c (get fr) h=_;unfold OJ;rw[Mc];rfl
 |bslicev n z parts=>show MI n z parts O c (get fr) h=_;unfold MI;rw[Mc];rfl
 |slc sz x lo hi mx=>show br sz x lo hi mx O c (get fr) h=_;unfold br;rw[MD,MD,MD];rfl
 |bin op x y=>show bo op x y O c (get fr) h=_;unfold bo;rw[fK];rfl
 |len b x=>cases b<;>rfl
 |_=>rfl
theorem Pc {t:FT} {fr:Fr} (R:RepT t fr) (g:Option (Nat×Bool)):Lu t.get g=N3 fr g:=by
 cases g with
 |none=>rfl
 |some p =>
  obtain⟨s,w⟩:=p;show Sp t.get (s,w)=_;unfold Sp N3;rw[R.get];rfl
def mD (st:Nf->GX) (s:St->Option (Ex×St)):Prop :=
 ∀t fr h,RepT t fr->∀e t' h',st (t,h)=some (e,t',h')->∃fr',s (fr,h)=some (e,fr',h')/\RepT t' fr'
structure SimO (A:OrcT) (O:Orc):Prop where
 pure:∀f args r,A.pure f args=some r->O.pure f args=some r
 raw:∀f args h r,A.raw f args h=some r->O.raw f args h=some r
 loop:∀st s,mD st s->mD (A.loop st) (O.loop s)
theorem SimO.le {A:OrcT} {O:Orc} (S:SimO A O):Le A.orc O:=⟨S.pure,S.raw,λ_ _ _ _ _ h=>by cases h⟩
theorem SH {A:OrcT} {O:Orc} (S:SimO A O) (c:Ctx):∀(l:List RO) (t:FT) (fr:Fr) (h:AH),RepT t fr->∀t' h',Zb l A.orc c t h=some (t',h')->∃fr',F5 O c l fr h=some (fr',h')/\RepT t' fr'
 | [],t,fr,h,R,t',h',he=>by
  have he:some (t,h)=some (t',h'):=he;cases he;exact⟨fr,rfl,R⟩
 |o::l,t,fr,h,R,t',h',he=>by
  have he:((Lu t.get o.guard).rec none (cZ o (Zb l) A.orc c t h):Option (FT×AH))=some (t',h'):=he;rw[Pc R]at he;unfold F5;cases hw:N3 fr o.guard with
  |none=>rw[hw]at he;cases he
  |some b =>
   rw[hw]at he;cases b with
   |false=>exact SH S c l _ _ h (R.putO o.dst B3) t' h' he
   |true =>
    have he:((LV o.op A.orc c (gT t.get) h).rec none (λp=>Zb l A.orc c (Ug t o.dst p.1) p.2):Option (FT×AH))=some (t',h'):=he;rw[R.gT,OM]at he;cases hp:A3 A.orc c o.op fr h with
    |none=>rw[hp]at he;cases he
    |some p =>
     rw[hp]at he;have hp':=EK S.le hp;dsimp only;rw[hp'];exact SH S c l _ _ p.2 (R.putO o.dst p.1) t' h' he
theorem Yj {a b:List (List AV)} (e:b=a):Kr a b=[]:=by
 subst e;have:∀i:Nat,QT b[i]? b[i]?=true:=λi=>by
  cases b[i]? with
  |none=>rfl
  |some x=>exact M6 x
 simp[Kr,this]
theorem Yk {a b:List Fam} (e:b=a):Pn a b=[]:=by
 subst e;have:∀x:Option Fam,Ml x x=true:=λx=>by
  cases x with
  |none=>rfl
  |some x=>simp[Ml,M6]
 simp[Pn,this]
theorem cC {O:Orc} {c:Ctx} {r:ROp} {fr:Fr} {h h1:AH} {v:AV} (he:A3 O c r fr h=some (v,h1)):Xg c (get fr) r h h1=Mp c (some true) (get fr) r h h1:=by
 obtain⟨k1,k2⟩:=Hp he;simp only[Xg,Mp];congr 1
 .split
  .rfl
  .rename_i hw;rw[Yj (k1 (by simpa using hw))]
 .split
  .rfl
  .rename_i hw;rw[Yk (k2 (by simpa using hw))]
theorem On {A:OrcT} {O:Orc} (S:SimO A O) (c:Ctx):∀(l:List RO) (t:FT) (fr:Fr) (h:AH),RepT t fr->∀fs t' h',Qo l A.orc c t h=some (fs,t',h')->∃fr',J1 O c l fr h=some (fs,fr',h')/\RepT t' fr'
 | [],t,fr,h,R,fs,t',h',he=>by
  have he:some (([]:List Foot),t,h)=some (fs,t',h'):=he;cases he;exact⟨fr,rfl,R⟩
 |o::l,t,fr,h,R,fs,t',h',he=>by
  have he:(match Lu t.get o.guard with
   |some true=>(match LV o.op A.orc c (gT t.get) h with|some (v,h')=>(Qo l A.orc c (Ug t o.dst v) h').map λp=>(Xg c (gT t.get) o.op h h'::p.1,p.2)|none=>none)
   |some false=>(Qo l A.orc c (Ug t o.dst B3) h).map λp=>(Mp c (some false) (gT t.get) o.op h h::p.1,p.2)
   |none=>none)=some (fs,t',h'):=he
  rw[Pc R,R.gT,OM]at he;unfold J1 Am;cases hw:N3 fr o.guard with
  |none=>rw[hw]at he;cases he
  |some b =>
   rw[hw]at he;cases b with
   |false =>
    dsimp only at he ⊢;rw[zf4z]at he;obtain⟨⟨fs1,t1,h1⟩,hq,e⟩:=he;cases e;obtain⟨fr',k1,k2⟩:=On S c l _ _ h (R.putO o.dst B3) _ _ _ hq;exact⟨fr',by rw[k1];rfl,k2⟩
   |true =>
    dsimp only at he ⊢;cases hp:A3 A.orc c o.op fr h with
    |none=>rw[hp]at he;cases he
    |some p =>
     rw[hp]at he;rw[EK S.le hp];dsimp only at he ⊢;rw[cC hp]at he;rw[zf4z]at he;obtain⟨⟨fs1,t1,h1⟩,hq,e⟩:=he;cases e;obtain⟨fr',k1,k2⟩:=On S c l _ _ p.2 (R.putO o.dst p.1) _ _ _ hq;exact⟨fr',by rw[k1];rfl,k2⟩
theorem HE {A:OrcT} {O:Orc} (S:SimO A O) (c:Ctx):∀(x:RCode),mD (Kd x A c) (A4 O c x)
 | .skip=>λt fr h R e t' h' he=>by
  have he:some (Ex.normal,t,h)=some (e,t',h'):=he;cases he;exact⟨fr,rfl,R⟩
 | .region d ops=>λt fr h R e t' h' he=>by
  have he:((Zb ops A.orc c t h).rec none (λs'=>some (Ex.normal,s')):GX)=some (e,t',h'):=he;unfold A4;cases ho:Zb ops A.orc c t h with
  |none=>rw[ho]at he;cases he
  |some s =>
   rw[ho]at he;cases he;obtain⟨fr',h1,h2⟩:=SH S c ops t fr h R _ _ ho;exact⟨fr',by rw[h1],h2⟩
 | .regd bs ops=>λt fr h R e t' h' he=>by
  have he:(match Qo ops A.orc c t (h.holes (VY ops))with|some (fs,s')=>if Z1 bs ops fs then some (Ex.normal,s')else none|none=>none)=some (e,t',h'):=he
  unfold A4;cases ho:Qo ops A.orc c t (h.holes (VY ops))with
  |none=>rw[ho]at he;cases he
  |some s =>
   obtain⟨fs,t1,h1⟩:=s;rw[ho]at he;dsimp only at he;split at he
   .rename_i hp;cases he;obtain⟨fr',k1,k2⟩:=On S c ops t fr (h.holes (VY ops)) R _ _ _ ho;exact⟨fr',by rw[k1];dsimp only;rw[if_pos hp],k2⟩
   .cases he
 | .seq a b=>λt fr h R e t' h' he=>by
  have he:(match Kd a A c (t,h)with|some (.normal,s')=>Kd b A c s' | r=>r)=some (e,t',h'):=he
  unfold A4;cases ha:Kd a A c (t,h)with
  |none=>rw[ha]at he;cases he
  |some p =>
   obtain⟨ea,ta,h1⟩:=p;rw[ha]at he;obtain⟨fra,k1,k2⟩:=HE S c a t fr h R _ _ _ ha;rw[k1];cases ea with
   |normal=>exact HE S c b ta fra h1 k2 e t' h' he
   |exit id=>cases he;exact⟨fra,rfl,k2⟩
   |ret=>cases he;exact⟨fra,rfl,k2⟩
 | .cond q a b=>λt fr h R e t' h' he=>by
  have he:(match gT t.get q with | .bool true=>Kd a A c (t,h) | .bool false=>Kd b A c (t,h)|_=>none)=some (e,t',h'):=he
  rw[R.gT]at he;unfold A4;dsimp only;generalize get fr q=v at he ⊢;split at he
  .exact HE S c a t fr h R e t' h' he
  .exact HE S c b t fr h R e t' h' he
  .cases he
 | .block id a=>λt fr h R e t' h' he=>by
  have he:(match Kd a A c (t,h)with|some (.exit id',s')=>if id'=id then some (.normal,s')else some (.exit id',s')|r=>r)=some (e,t',h'):=he
  unfold A4;cases ha:Kd a A c (t,h)with
  |none=>rw[ha]at he;cases he
  |some p =>
   obtain⟨ea,ta,h1⟩:=p;rw[ha]at he;obtain⟨fra,k1,k2⟩:=HE S c a t fr h R _ _ _ ha;rw[k1];cases ea with
   |normal=>cases he;exact⟨fra,rfl,k2⟩
   |ret=>cases he;exact⟨fra,rfl,k2⟩
   |exit id' =>
    dsimp only at he ⊢;by_cases hi:id'=id
    .rw[if_pos hi]at he ⊢;cases he;exact⟨fra,rfl,k2⟩
    .rw[if_neg hi]at he ⊢;cases he;exact⟨fra,rfl,k2⟩
 | .loop a=>λt fr h R e t' h' he=>S.loop _ _ (HE S c a) t fr h R e t' h' he
 | .exit id=>λt fr h R e t' h' he=>by
  have he:some (Ex.exit id,t,h)=some (e,t',h'):=he;cases he;exact⟨fr,rfl,R⟩
 | .ret=>λt fr h R e t' h' he=>by
  have he:some (Ex.ret,t,h)=some (e,t',h'):=he;cases he;exact⟨fr,rfl,R⟩
 | .bad=>λt fr h R e t' h' he=>by
  have he:none=some (e,t',h'):=he;cases he
theorem Nr {t:FT} {fr:Fr} (R:RepT t fr) (h:AH):∀l,XB t h l=Gm fr h l
 | []=>rfl
 | .tmp k::l=>by unfold XB Gm;rw[Nr R h l,R.get]
 | .cell a b n::l=>by unfold XB Gm;rw[Nr R h l,R.get]
theorem bM {A:OrcT} {O:Orc} (S:SimO A O) (c:Ctx) (rf:RFunc) (args:C6) (h:AH) {r:AV×AH} (he:bJ A c rf args h=some r):GD O c rf args h=some r:=by
 unfold bJ at he;unfold GD;cases hc:Kd rf.body A c (PF (Je (zf8z (zf2z rf.ntmps args.length)) (zf2z rf.ntmps args.length)) 0 args,h)with
 |none=>rw[hc]at he;cases he
 |some p =>
  obtain⟨e,t',h'⟩:=p;rw[hc]at he;obtain⟨fr',k1,k2⟩:=HE S c rf.body _ _ h (RepT.start rf args) _ _ _ hc;rw[k1];cases e with
  |normal=>dsimp only at he ⊢;rw[Nr k2]at he;exact he
  |ret=>dsimp only at he ⊢;rw[Nr k2]at he;exact he
  |exit id=>cases he
theorem XC {s:RSpec} {O O':Orc} (hO:Le O O') {args:C6} {h:AH} {x:AV×AH} (he:s.run O args h=some x):s.run O' args h=some x:=by
 obtain⟨l,h1,h2⟩:=s.fin O args h x he;exact h2 O' λp hp=>hO.pure _ _ _ (h1 p hp)
structure KnowOk (C:Cfg) (K:Know):Prop where
 pure:∀f args r,K.pure f args=some r->pc C f args=some r
 raw:∀f args h r,K.raw f args h=some r->rc C f args h=some r
section
variable {C:Cfg} {K:Know}
theorem Um {A:OrcT} (S:SimO A (N5 C)) {f:FuncId} {args:C6} {h:AH} {r:AV×AH} (he:Wt C A f args h=some r):Gl C (N5 C) f args h=some r:=by
 unfold Wt at he;unfold Gl;cases hc:C.code f with
 |some rf=>rw[hc]at he;exact bM S _ rf args h he
 |none =>
  rw[hc]at he;dsimp only at he ⊢;cases hr:C.rspec f with
  |none=>rw[hr]at he;cases he
  |some s=>rw[hr]at he;exact XC S.le he
theorem gZ (hK:KnowOk C K) {A:OrcT} (S:SimO A (N5 C)) {f:FuncId} {args:C6} {h:AH} {r:AV×AH} (he:kO C K A f args h=some r):rc C f args h=some r:=by
 unfold kO at he;cases hk:K.raw f args h with
 |some x=>rw[hk]at he;cases he;exact hK.raw _ _ _ _ hk
 |none =>
  rw[hk]at he;have he:Ux (C.ctx f).rst (Wt C A f args h)=some r:=he;cases hu:Wt C A f args h with
  |none=>rw[hu]at he;unfold Ux at he;split at he<;>cases he
  |some x =>
   rw[hu,MY]at he;cases he;exact iu C (Um S hu)
theorem dW (hK:KnowOk C K) {A:OrcT} (S:SimO A (N5 C)) {f:FuncId} {args:C6} {r:AV} (he:dU C K A f args=some r):pc C f args=some r:=by
 unfold dU at he;cases hk:K.pure f args with
 |some x=>rw[hk]at he;cases he;exact hK.pure _ _ _ hk
 |none =>
  rw[hk]at he;have he:dV C K A f args=some r:=he;unfold dV at he;cases hs:C.spec f with
  |some s =>
   apply Xr;rw[hs]at he;unfold Ey;rw[hs];exact he
  |none =>
   rw[hs]at he;dsimp only at he;cases hr:Wt C A f args AH.empty with
   |none=>rw[hr]at he;cases he
   |some p =>
    rw[hr]at he;apply Xr;unfold Ey;rw[hs];dsimp only;rw[Um S hr];exact he
end
theorem Ts {st:Nf->GX} {s:St->Option (Ex×St)} (H:mD st s):∀n,mD (cN n st) (GO s n)
 |0=>λt fr h R e t' h' he=>by
  have he:none=some (e,t',h'):=he;cases he
 |n+1=>λt fr h R e t' h' he=>by
  have he:(match st (t,h)with|some (.normal,s')=>cN n st s' | r=>r)=some (e,t',h'):=he
  unfold GO;cases ha:st (t,h)with
  |none=>rw[ha]at he;cases he
  |some p =>
   obtain⟨ea,ta,h1⟩:=p;rw[ha]at he;obtain⟨fra,k1,k2⟩:=H t fr h R _ _ _ ha;rw[k1];cases ea with
   |normal=>exact Ts H n ta fra h1 k2 e t' h' he
   |exit id=>cases he;exact⟨fra,rfl,k2⟩
   |ret=>cases he;exact⟨fra,rfl,k2⟩
theorem SI {C:Cfg} {K:Know} (hK:KnowOk C K):∀n,SimO (qE C K n) (N5 C)
 |0=>⟨λ_ _ _ h=>(nomatch (show none=some _ from h)),λ_ _ _ _ h=>(nomatch (show none=some _ from h)),λ_ _ _=>λt fr h R e t' h' he=>nomatch (show none=some _ from he)⟩
 |n+1=>⟨λ_ _ _ h=>dW hK (SI hK n) h,λ_ _ _ _ h=>gZ hK (SI hK n) h,λ_ _ H=>λt fr h R e t' h' he=>by
   obtain⟨fr',h1,h2⟩:=Ts H (n+1) t fr h R e t' h' he;exact⟨fr',Nk h1,h2⟩⟩
theorem CZ {C:Cfg} {K:Know} (hK:KnowOk C K) (n:Nat) {f:FuncId} {args:C6} {r:AV} (h:(qE C K n).pure f args=some r):pc C f args=some r:=(SI hK n).pure f args r h
structure Told where
 f:FuncId
 args:List AV
 r:AV
def eL (l:List Told) (g:FuncId->List AV->Option AV) (f:FuncId) (args:List AV):Option AV :=
 match l.find? λx=>zf0z x.f f&&HG x.args args with
 |some x=>some x.r
 |none=>g f args
def HJ (l:List Told) (g:FuncId->List AV->Option AV):Know:=⟨eL l g,λ_ _ _=>none⟩
theorem AX {C:Cfg} {l:List Told} {g:FuncId->List AV->Option AV} (h:∀x∈l,pc C x.f x.args=some x.r) (hg:∀f args r,g f args=some r->pc C f args=some r):KnowOk C (HJ l g):=by
 refine⟨λf args r he=>?_,λ_ _ _ _ he=>by cases he⟩;have he:eL l g f args=some r:=he;unfold eL at he;split at he
 .rename_i x hx;cases he;have h1:=List.find?_some hx;have h2:=List.mem_of_find?_eq_some hx;rw[Bool.and_eq_true]at h1;have e1:=zf6z h1.1;have e2:=j1 h1.2;rw[←e1,←e2];exact h x h2
 .exact hg f args r he
end Go.Abs
namespace Go.Abs.Q
open Go.Proofs
def I (n:Int):AV:=.int .i64 n
def S (l:List Nat):AV:=.str ⟨(l.map UInt8.ofNat).toArray⟩
mutual
def aH:AV->Option Tm
 | .agg [.int .i64 k,.str n,.int .i64 s,.vs f z xs]=>if z=4\/(z=0/\xs.isEmpty=true)then (match VM xs with|some l=>some (.mk k n s (f,decide (z=4)) l)|none=>none)else none
 |_=>none
def VM:List AV->Option (List Tm)
 | []=>some []
 |x::xs=>match aH x,VM xs with|some t,some l=>some (t::l)|_,_=>none
end
mutual
theorem Nt:∀{a:AV} {t:Tm},aH a=some t->I1 t=a
 | .agg [.int .i64 k,.str n,.int .i64 s,.vs f z xs],t,h=>by
  simp only[aH]at h;split at h
  .rename_i hz;split at h
   .rename_i l hl;cases h;have:=VN hl;simp only[I1,this,sl];rcases hz with rfl|⟨rfl,hx⟩
    .simp
    .simp[hx]
   .cases h
  .cases h
theorem VN:∀{xs:C6} {l:Hg},VM xs=some l->D1 l=xs
 | [],l,h=>by
  simp only[VM]at h;cases h;simp[D1]
 |x::xs,l,h=>by
  simp only[VM]at h;split at h
  .rename_i t l' h1 h2;cases h;simp only[D1,Nt h1,VN h2]
  .cases h
end
def Jg (f:FuncId) (args:List AV):Option AV :=
 if f=u7 then
  match args with
  | [a,b] =>
   match aH a,aH b with
   |some t,some t'=>if t.size<=1099511627776/\t'.size<=1099511627776 then some (.int .i64 (GN t t'))else none
   |_,_=>none
  |_=>none
 else none
theorem fP (f:FuncId) (args:C6) (r:AV) (h:Jg f args=some r):pc Q f args=some r:=by
 unfold Jg at h;split at h
 .rename_i hf;subst hf;split at h
  .rename_i a b;split at h
   .rename_i t t' h1 h2;split at h
    .rename_i hs;cases h;rw[←Nt h1,←Nt h2];exact Wj t.size t t' (Nat.le_refl _) hs.1 hs.2
    .cases h
   .cases h
  .cases h
 .cases h
end Go.Abs.Q
