/- A part of the proof. -/
import Derived.Test.YtnnjamknplefbaaGreatDoorTS15
set_option linter.all false
open Option renaming bind_some->zf0z
open List renaming replicate->zf1z,getD->zf2z,map_map->zf3z,set->zf4z,map_id->zf5z
set_option linter.all false
namespace Go.Abs
def C7(fr:Fr)(n:Nat):AV:=fr.getD n B4
@[simp]theorem get_t(fr:Fr)(n:Nat):get fr (.t n)=C7 fr n:=_root_.id rfl
@[simp]theorem get_c(fr:Fr)(v:AV):get fr (.c v)=v:=_root_.id rfl
@[simp]theorem put_some(fr:Fr)(d:Nat)(v:AV):put fr (some d) v=zf4z fr d v:=_root_.id rfl
@[simp]theorem put_none(fr:Fr)(v:AV):put fr none v=fr:=_root_.id rfl
theorem J0(fr:Fr){i j:Nat}(v:AV)(h:i≠j):C7 (zf4z fr i v) j=C7 fr j:=by
 simp[C7,zf2z,List.getElem?_set_ne h]
theorem J5(fr:Fr){i j:Nat}(v:AV)(e:i=j)(h:i<fr.length):C7 (zf4z fr i v) j=v:=by
 subst e;simp[C7,zf2z,List.getElem?_set_self h]
def wj(r:Option (AV×AH))(O:Orc)(c:Ctx)(d:Option Nat)(D5:List RO)(fr:Fr):Option (Fr×AH):=match r with|some (v,h)=>N6 O c D5 (put fr d v) h|none=>none
@[congr] theorem nxt_congr{r r':Option (AV×AH)}{O:Orc}{c:Ctx}{d:Option Nat}{D5:List RO}{fr:Fr}(h:r=r'):wj r O c d D5 fr=wj r' O c d D5 fr:=by rw[h]
@[simp]theorem nxt_some(v:AV)(h:AH)(O:Orc)(c:Ctx)(d:Option Nat)(D5:List RO)(fr:Fr):wj (some (v,h)) O c d D5 fr=N6 O c D5 (put fr d v) h:=_root_.id rfl
def wU(b:AV)(w:Bool)(O:Orc)(c:Ctx)(d:Option Nat)(op:ROp)(D5:List RO)(fr:Fr)(h:AH):Option (Fr×AH) :=
 match b with
 | .bool b=>if b=w then wj (A0 O c op fr h) O c d D5 fr else N6 O c D5 (put fr d B4) h
 | .tup _=>N6 O c D5 (put fr d B4) h
 |_=>none
@[congr] theorem grd_congr{b b':AV}{w:Bool}{O:Orc}{c:Ctx}{d:Option Nat}{op:ROp}{D5:List RO}{fr:Fr}{h:AH}(e:b=b'):wU b w O c d op D5 fr h=wU b' w O c d op D5 fr h:=by rw[e]
section
variable (O:Orc) (c:Ctx) (d:Option Nat) (op:ROp) (D5:List RO) (fr:Fr) (h:AH)
@[simp]theorem grd_tt:wU (.bool true) true O c d op D5 fr h=wj (A0 O c op fr h) O c d D5 fr:=_root_.id rfl
@[simp]theorem grd_ff:wU (.bool false) false O c d op D5 fr h=wj (A0 O c op fr h) O c d D5 fr:=_root_.id rfl
@[simp]theorem grd_tf:wU (.bool true) false O c d op D5 fr h=N6 O c D5 (put fr d B4) h:=_root_.id rfl
@[simp]theorem grd_ft:wU (.bool false) true O c d op D5 fr h=N6 O c D5 (put fr d B4) h:=_root_.id rfl
@[simp]theorem grd_un(l:I7)(w:Bool):wU (.tup l) w O c d op D5 fr h=N6 O c D5 (put fr d B4) h:=_root_.id rfl
end
@[simp]theorem undef_tup:B4=.tup []:=_root_.id rfl
def brn(b:AV)(O:Orc)(c:Ctx)(x y:RCode)(fr:Fr)(h:AH):Option (Ex×St):=match b with | .bool true=>A8 O c x (fr,h) | .bool false=>A8 O c y (fr,h)|_=>none
@[congr] theorem brn_congr{b b':AV}{O:Orc}{c:Ctx}{x y:RCode}{fr:Fr}{h:AH}(e:b=b'):brn b O c x y fr h=brn b' O c x y fr h:=by rw[e]
@[simp]theorem brn_t(O:Orc)(c:Ctx)(x y:RCode)(fr:Fr)(h:AH):brn (.bool true) O c x y fr h=A8 O c x (fr,h):=_root_.id rfl
@[simp]theorem brn_f(O:Orc)(c:Ctx)(x y:RCode)(fr:Fr)(h:AH):brn (.bool false) O c x y fr h=A8 O c y (fr,h):=_root_.id rfl
def zy(r:Option (Ex×St))(O:Orc)(c:Ctx)(y:RCode):Option (Ex×St):=match r with|some (.normal,fr,h)=>A8 O c y (fr,h)|r=>r
@[congr] theorem sqn_congr{r r':Option (Ex×St)}{O:Orc}{c:Ctx}{y:RCode}(h:r=r'):zy r O c y=zy r' O c y:=by rw[h]
@[simp]theorem sqn_n(fr:Fr)(h:AH)(O:Orc)(c:Ctx)(y:RCode):zy (some (.normal,fr,h)) O c y=A8 O c y (fr,h):=_root_.id rfl
@[simp]theorem sqn_r(s:St)(O:Orc)(c:Ctx)(y:RCode):zy (some (.ret,s)) O c y=some (.ret,s):=_root_.id rfl
@[simp]theorem sqn_e(i:Nat)(s:St)(O:Orc)(c:Ctx)(y:RCode):zy (some (.exit i,s)) O c y=some (.exit i,s):=_root_.id rfl
def kbl(id:Nat)(r:Option (Ex×St)):Option (Ex×St):=match r with|some (.exit i,s)=>if i=id then some (.normal,s)else some (.exit i,s)|r=>r
@[simp]theorem kbl_n(id:Nat)(s:St):kbl id (some (.normal,s))=some (.normal,s):=_root_.id rfl
@[simp]theorem kbl_r(id:Nat)(s:St):kbl id (some (.ret,s))=some (.ret,s):=_root_.id rfl
def wc{β:Type}(r:Option (Ex×St))(k:Fr->AH->Option β):Option β:=match r with|some (.normal,fr,h)=>k fr h|some (.ret,fr,h)=>k fr h|_=>none
@[simp]theorem kend_n{β:Type}(fr:Fr)(h:AH)(k:Fr->AH->Option β):wc (some (.normal,fr,h)) k=k fr h:=_root_.id rfl
@[simp]theorem kend_r{β:Type}(fr:Fr)(h:AH)(k:Fr->AH->Option β):wc (some (.ret,fr,h)) k=k fr h:=_root_.id rfl
section
variable {O:Orc} {c:Ctx}
@[simp]theorem ops_nil(fr:Fr)(h:AH):N6 O c [] fr h=some (fr,h):=_root_.id rfl
@[simp]theorem ops_cons(d:Option Nat)(op:ROp)(D5:List RO)(fr:Fr)(h:AH):N6 O c (⟨d,op,none⟩::D5) fr h=wj (A0 O c op fr h) O c d D5 fr:=by
 simp only[N6,P1,wj];cases A0 O c op fr h with
 |none=>rfl
 |some x=>rfl
@[simp]theorem ops_guard(d:Option Nat)(op:ROp)(s:Nat)(w:Bool)(D5:List RO)(fr:Fr)(h:AH) :
  N6 O c (⟨d,op,some (s,w)⟩::D5) fr h=wU (C7 fr s) w O c d op D5 fr h:=by
 simp only[N6,P1,C7,wU,wj];cases fr.getD s B4 with
 |bool b =>
  dsimp only;cases b<;>cases w<;>simp<;>cases A0 O c op fr h<;>rfl
 |_=>rfl
def krg(r:Option (Fr×AH)):Option (Ex×St):=match r with|some s=>some (.normal,s)|none=>none
@[simp]theorem krg_s(s:St):krg (some s)=some (.normal,s):=_root_.id rfl
@[simp]theorem code_skip(s:St):A8 O c .skip s=some (.normal,s):=_root_.id rfl
@[simp]theorem zR(d:Bool)(ops:List RO)(fr:Fr)(h:AH):A8 O c (.region d ops) (fr,h)=krg (N6 O c ops fr h):=_root_.id rfl
@[simp]theorem code_seq(a b:RCode)(s:St):A8 O c (.seq a b) s=zy (A8 O c a s) O c b:=by
 simp only[A8,zy];split<;>simp_all
@[simp]theorem code_cond(q:Opd)(a b:RCode)(fr:Fr)(h:AH):A8 O c (.cond q a b) (fr,h)=brn (get fr q) O c a b fr h:=by
 simp only[A8,brn];cases get fr q with
 |bool b=>cases b<;>rfl
 |_=>rfl
@[simp]theorem code_block(id:Nat)(a:RCode)(s:St):A8 O c (.block id a) s=kbl id (A8 O c a s):=by
 simp only[A8,kbl];split<;>simp_all
@[simp]theorem code_exit(id:Nat)(s:St):A8 O c (.exit id) s=some (.exit id,s):=_root_.id rfl
@[simp]theorem code_bad(s:St):A8 O c .bad s=none:=_root_.id rfl
@[simp]theorem code_ret(s:St):A8 O c .ret s=some (.ret,s):=_root_.id rfl
theorem M0{C:Cfg}(a:RCode)(s:St):A8 (Ax C) c (.loop a) s=lp (A8 (Ax C) c a) s:=_root_.id rfl
end
def kcl(ys:Option (List AV))(k:List AV->Option AV)(tm:Bool)(h:AH):Option (AV×AH) :=
 match ys with|none=>none|some ys=>match k ys with|some r=>if r.scalar||tm then some (r,h)else none|none=>none
theorem iP{C:Cfg}{c:Ctx}{f:FuncId}(hr:c.raw f=false)(xs:List Opd)(fr:Fr)(h:AH) :
  A0 (Ax C) c (.call f xs) fr h=kcl (j8 h true (xs.map (get fr))) (λys=>pc C f ys) ((xs.map (get fr)).all (tame h)) h:=by
 simp only[A0,Di,hr,kcl];rw[if_neg (by simp)];cases j8 h true (xs.map (get fr))with
 |none=>rfl
 |some ys =>
  show (match pc C f ys with|none=>none|some r=>_)=_
  cases hp:pc C f ys with
  |none=>simp only[hp]
  |some r=>simp only[hp]
theorem ai{C:Cfg}{c:Ctx}{f:FuncId}(hr:c.raw f=true)(xs:List Opd)(fr:Fr)(h:AH) :
  A0 (Ax C) c (.call f xs) fr h=mz (c.noB f) h (rc C f (xs.map (get fr)) h):=by
 simp only[A0,Di,hr];rfl
@[simp]theorem kpB_f(h:AH)(r:Option (AV×AH)):mz false h r=r:=_root_.id rfl
def fin(rs:List RRes)(fr:Fr)(h:AH):Option AV:=(Hz fr h rs).bind λvs=>Dv h (M6 vs)
theorem Kc{rf:RFunc}{args:I7}(h:args.length<=rf.ntmps):(CP rf args).length=rf.ntmps/\∀i,C7 (CP rf args) i=args.getD i B4:=by
 refine⟨by simp[CP];omega,λi=>?_⟩;simp only[C7,CP,zf2z];by_cases hi:i<args.length
 .rw[List.getElem?_append_left hi]
 .rw[List.getElem?_append_right (by omega),List.getElem?_eq_none (l:=args) (by omega),List.getElem?_replicate];split<;>rfl
theorem ra{C:Cfg}{f:FuncId}{rf:RFunc}{args:I7}{r:AV}(hs:C.spec f=none)(hc:C.code f=some rf)(hl:args.length<=rf.ntmps)
  (H:∀fr:Fr,fr.length=rf.ntmps->(∀i,C7 fr i=args.getD i B4)->wc (A8 (Ax C) (C.ctx f) rf.body (fr,⟨[],[]⟩)) (fin rf.results)=some r):pc C f args=some r:=by
 have:=H (CP rf args) (Kc hl).1 (Kc hl).2;apply QW;unfold Ck EW;simp only[hs,hc];unfold En wc fin at *
 cases he:A8 (Ax C) (C.ctx f) rf.body (CP rf args,AH.empty)with
 |none=>rw[show (⟨[],[]⟩:AH)=AH.empty from rfl,he]at this;cases this
 |some x =>
  rw[show (⟨[],[]⟩:AH)=AH.empty from rfl,he]at this;obtain⟨e,fr,h⟩:=x;cases e with
  |exit i=>cases this
  |normal=>cases hr:Hz fr h rf.results with|none=>simp[hr]at this|some vs=>simpa[hr]using this
  |ret=>cases hr:Hz fr h rf.results with|none=>simp[hr]at this|some vs=>simpa[hr]using this
def sl(m:Bool×Bool)(sz:Nat)(xs:List AV):AV:=.vs m.1 (if xs.isEmpty&&!m.2 then 0 else sz) xs
theorem YV(f:Bool)(sz:Nat)(xs:I7):.vs f sz xs=sl (f,true) sz xs:=by simp[sl]
theorem sl_nil(sz:Nat):.vs true 0 []=sl (true,false) sz []:=by simp[sl]
@[simp]theorem sl_isTup(m:HH)(sz:Nat)(xs:I7):(sl m sz xs).isTup=false:=_root_.id rfl
@[simp]theorem sl_cells(m:HH)(sz:Nat)(xs:I7):(sl m sz xs).cells=[sl m sz xs]:=_root_.id rfl
@[simp]theorem sl_frz1(h:AH)(am:Bool)(m:HH)(sz:Nat)(xs:I7):Bo h am (sl m sz xs)=some (sl m sz xs):=_root_.id rfl
@[simp]theorem sl_frz(h:AH)(am:Bool)(m:HH)(sz:Nat)(xs:I7):frz h am (sl m sz xs)=some (sl m sz xs):=_root_.id rfl
@[simp]theorem sl_tame1(h:AH)(m:HH)(sz:Nat)(xs:I7):Dn h (sl m sz xs)=true:=_root_.id rfl
@[simp]theorem sl_tame(h:AH)(m:HH)(sz:Nat)(xs:I7):tame h (sl m sz xs)=true:=_root_.id rfl
@[simp]theorem sl_flat(m:HH)(sz:Nat)(xs:I7):(sl m sz xs).flat=true:=_root_.id rfl
@[simp]theorem sl_ofCells(m:HH)(sz:Nat)(xs:I7)(rest:I7):P9 false 1 (sl m sz xs::rest)=some (sl m sz xs):=_root_.id rfl
@[simp]theorem EH(h:AH)(m:HH)(sz:Nat)(xs:I7):elems h sz (sl m sz xs)=some xs:=by
 cases xs with
 |nil=>simp[elems,sl]
 |cons x xs=>simp[elems,sl]
@[simp]theorem sl_scalar(m:HH)(sz:Nat)(xs:I7):(sl m sz xs).scalar=false:=_root_.id rfl
@[simp]theorem frz_int(h:AH)(am:Bool)(k:IntKind)(n:Int):frz h am (.int k n)=some (.int k n):=_root_.id rfl
@[simp]theorem frz_bool(h:AH)(am:Bool)(b:Bool):frz h am (.bool b)=some (.bool b):=_root_.id rfl
@[simp]theorem frz_str(h:AH)(am:Bool)(s:AD):frz h am (.str s)=some (.str s):=_root_.id rfl
@[simp]theorem frz_fn(h:AH)(am:Bool)(f:FuncId):frz h am (.fn f [])=some (.fn f []):=_root_.id rfl
@[simp]theorem frz_nilp(h:AH)(am:Bool):frz h am .nilp=some .nilp:=_root_.id rfl
@[simp]theorem frzL_nil(h:AH)(am:Bool):IX h am []=some []:=_root_.id rfl
@[simp]theorem frzL_cons(h:AH)(am:Bool)(x:AV)(xs:I7):IX h am (x::xs)=(Bo h am x).bind λy=>(IX h am xs).map (y::·):=_root_.id rfl
@[simp]theorem frz1_int(h:AH)(am:Bool)(k:IntKind)(n:Int):Bo h am (.int k n)=some (.int k n):=_root_.id rfl
@[simp]theorem frz1_bool(h:AH)(am:Bool)(b:Bool):Bo h am (.bool b)=some (.bool b):=_root_.id rfl
@[simp]theorem frz1_str(h:AH)(am:Bool)(s:AD):Bo h am (.str s)=some (.str s):=_root_.id rfl
@[simp]theorem frz_agg(h:AH)(am:Bool)(cs:I7):frz h am (.agg cs)=(IX h am cs).map .agg:=_root_.id rfl
@[simp]theorem frzAll_nil(h:AH)(am:Bool):j8 h am []=some []:=_root_.id rfl
@[simp]theorem aJ(h:AH)(am:Bool)(x:AV)(xs:I7):j8 h am (x::xs)=(frz h am x).bind λy=>(j8 h am xs).map (y::·):=_root_.id rfl
@[simp]theorem frzRes_int(h:AH)(k:IntKind)(n:Int):Dv h (.int k n)=some (.int k n):=_root_.id rfl
@[simp]theorem zg(h:AH)(b:Bool):Dv h (.bool b)=some (.bool b):=_root_.id rfl
@[simp]theorem frzRes_str(h:AH)(s:AD):Dv h (.str s)=some (.str s):=_root_.id rfl
@[simp]theorem frzRes_sl(h:AH)(m:HH)(sz:Nat)(xs:I7):Dv h (sl m sz xs)=some (sl m sz xs):=_root_.id rfl
@[simp]theorem frzRes_agg(h:AH)(cs:I7):Dv h (.agg cs)=(IX h true cs).map .agg:=_root_.id rfl
@[simp]theorem frzRes_tup(h:AH)(cs:I7):Dv h (.tup cs)=(j8 h true cs).map .tup:=_root_.id rfl
@[simp]theorem kcl_some(ys:I7)(k:List AV->Option AV)(tm:Bool)(h:AH):kcl (some ys) k tm h=(match k ys with|some r=>if r.scalar||tm then some (r,h)else none|none=>none):=_root_.id rfl
@[simp]theorem scalar_int(k:IntKind)(n:Int):(AV.int k n).scalar=true:=_root_.id rfl
@[simp]theorem zu(b:Bool):(AV.bool b).scalar=true:=_root_.id rfl
@[simp]theorem scalar_str(s:AD):(AV.str s).scalar=true:=_root_.id rfl
@[simp]theorem isTup_int(k:IntKind)(n:Int):(AV.int k n).isTup=false:=_root_.id rfl
@[simp]theorem isTup_bool(b:Bool):(AV.bool b).isTup=false:=_root_.id rfl
@[simp]theorem isTup_str(b:AD):(AV.str b).isTup=false:=_root_.id rfl
@[simp]theorem isTup_agg(cs:I7):(AV.agg cs).isTup=false:=_root_.id rfl
@[simp]theorem Ut(cs:I7):(AV.agg cs).cells=cs:=_root_.id rfl
@[simp]theorem cells_int(k:IntKind)(n:Int):(AV.int k n).cells=[.int k n]:=_root_.id rfl
@[simp]theorem cells_bool(b:Bool):(AV.bool b).cells=[.bool b]:=_root_.id rfl
@[simp]theorem cells_str(b:AD):(AV.str b).cells=[.str b]:=_root_.id rfl
@[simp]theorem wk(n:Nat)(cs:I7):P9 true n cs=if n<=cs.length then some (.agg (cs.take n))else none:=_root_.id rfl
@[simp]theorem vN(n:Nat)(cs:I7):P9 false n cs=cs.head?:=_root_.id rfl
def iaA(h:AH)(sz:Nat)(x i:AV):Option (AV×AH) :=
 match x,i with
 | .vs _ z xs,.int _ j=>if 0<=j/\z=sz then (match xs[j.toNat]? with|some e=>some (.pv e.cells,h)|none=>none)else none
 | .sl k n off len,.int _ j=>if 0<=j/\j<len then some (.ep k n (off+j.toNat) 0 sz,h)else none
 | .bsl b s off len,.int _ j=>if 0<=j/\j<len/\s=sz then some (.ptr b (off+j.toNat*sz),h)else none
 |_,_=>none
def eF(h:AH)(x:AV):Option (AV×AH) :=
 match x with
 | .vs _ _ xs=>some (.int .i64 xs.length,h)
 | .sl _ _ _ len=>some (.int .i64 len,h)
 | .bsl _ _ _ len=>some (.int .i64 len,h)
 |_=>none
def slcA(h:AH)(sz:Nat)(x:AV)(l u m:Option (Option Int)):Option (AV×AH) :=
 match l,u,m with
 |some l,some u,some m=>match Fq h sz x l u m with|some v=>some (v,h)|none=>none
 |_,_,_=>none
theorem Pg(neg:Bool)(h:AH)(m:HH)(sz:Nat)(Y3:0<sz)(xs:I7):wi neg h (sl m sz xs)=some (.bool (if neg then !(xs.isEmpty&&!m.2)else (xs.isEmpty&&!m.2)),h):=by
 unfold wi sl;by_cases hx:(xs.isEmpty&&!m.2)=true
 .simp[hx]
 .have:(sz == 0)=false:=by simp;omega
  simp[hx,this]
section
variable {O:Orc} {c:Ctx} (fr:Fr) (h:AH)
@[simp]theorem op_mov(x:Opd):A0 O c (.mov x) fr h=some (get fr x,h):=_root_.id rfl
@[simp]theorem op_pick(q a b:Opd):A0 O c (.pick q a b) fr h=(match get fr q with | .bool t=>some (if t then get fr a else get fr b,h)|_=>none):=_root_.id rfl
@[simp]theorem op_box(x:Opd):A0 O c (.box x) fr h=if (get fr x).isTup then none else some (.ptr h.boxes.length 0,{h with boxes:=h.boxes++[(get fr x).cells]}):=_root_.id rfl
@[simp]theorem op_alloc(z:AV):A0 O c (.alloc z) fr h=some (.ptr h.boxes.length 0,{h with boxes:=h.boxes++[z.cells]}):=_root_.id rfl
@[simp]theorem op_build(z:AV)(parts:List (Nat×Nat×Opd)):A0 O c (.build z parts) fr h=(B6 fr z.cells.length parts).map λps=>(.agg (C9 z.cells ps),h):=by
 simp only[A0];cases B6 fr z.cells.length parts<;>rfl
@[simp]theorem op_bslice(n:Nat)(z:AV)(parts:List (Nat×Opd)):A0 O c (.bslice n z parts) fr h=(B2 fr h (zf1z n z) parts).map λxs=>(sl (true,true) z.cells.length xs,h):=by
 simp only[A0,YV];cases B2 fr h (zf1z n z) parts<;>rfl
@[simp]theorem op_bslicev(n:Nat)(z:AV)(parts:List (Nat×Opd)):A0 O c (.bslicev n z parts) fr h=if parts.all (λp=>S0 (get fr p.2))then (B2 fr h (zf1z n z) parts).map λxs=>(sl (true,true) z.cells.length xs,h)else none:=by
 simp only[A0,YV];cases B2 fr h (zf1z n z) parts<;>rfl
@[simp]theorem op_ldb(agg:Bool)(n:Nat)(x:Opd):A0 O c (.ldb agg n x) fr h=(match get fr x with | .ep ..=>none|p=>(match U4 h agg n p with|some v=>some (v,h)|none=>none)):=_root_.id rfl
@[simp]theorem op_nilck(x:Opd):A0 O c (.nilck x) fr h=(match get fr x with | .pv cs=>some (.pv cs,h) | .ptr b o=>some (.ptr b o,h) | .ep k n i q s=>some (.ep k n i q s,h) | .fn f cs=>some (.fn f cs,h)|_=>none):=_root_.id rfl
@[simp]theorem op_bin(op:BinOp)(x y:Opd):A0 O c (.bin op x y) fr h=(P0 op (get fr x) (get fr y)).map λv=>(v,h):=by
 simp only[A0];cases P0 op (get fr x) (get fr y)<;>rfl
@[simp]theorem op_beq(neg:Bool)(x y:Opd):A0 O c (.beq neg x y) fr h=(match get fr x,get fr y with | .bool a,.bool b=>some (.bool (if neg then !(a == b)else a == b),h)|_,_=>none):=_root_.id rfl
@[simp]theorem op_nileq(neg:Bool)(x:Opd):A0 O c (.nileq neg x) fr h=wi neg h (get fr x):=_root_.id rfl
@[simp]theorem op_un(op:UnOp)(x:Opd):A0 O c (.un op x) fr h=(LL op (get fr x)).map λv=>(v,h):=by
 simp only[A0];cases LL op (get fr x)<;>rfl
@[simp]theorem op_conv(k:IntKind)(x:Opd):A0 O c (.conv k x) fr h=(match get fr x with | .int _ n=>some (.int k (k.wrap n),h)|_=>none):=_root_.id rfl
@[simp]theorem op_cstr(x:Opd):A0 O c (.cstr x) fr h=(match get fr x with | .str s=>some (.str s,h)|_=>none):=_root_.id rfl
@[simp]theorem op_bstr(x:Opd):A0 O c (.bstr x) fr h=Rp h (get fr x):=_root_.id rfl
def kro(b:Bool)(x y:Option (AV×AH)):Option (AV×AH):=if b then x else y
@[simp]theorem kro_t(x y:Option (AV×AH)):kro true x y=x:=_root_.id rfl
@[simp]theorem kro_f(x y:Option (AV×AH)):kro false x y=y:=_root_.id rfl
@[simp]theorem op_clos(f:FuncId)(caps:List Opd):A0 O c (.clos f caps) fr h=kro c.ro ((p8 h (caps.map (get fr))).map λp=>(.fn f p.1,p.2)) (some (.fn f (caps.map (get fr)),h)):=_root_.id rfl
@[simp]theorem op_mkslice(z:AV)(bytes:Nat)(l q:Opd):A0 O c (.mkslice z bytes l q) fr h=(match get fr l,get fr q with
  | .int _ a,.int _ b =>
   if 0<=a/\a<=b/\b*bytes<=P7/\b<=maxLen then
    some (.sl h.fams.length a.toNat 0 a.toNat,{h with fams:=h.fams++[⟨zf1z a.toNat z,z.cells.length,true⟩]})
   else none
  |_,_=>none):=_root_.id rfl
@[simp]theorem op_faddr(off:Nat)(x:Opd):A0 O c (.faddr off x) fr h=(match get fr x with | .pv cs=>some (.pv (cs.drop off),h) | .ptr b o=>some (.ptr b (o+off),h) | .ep k n i q s=>some (.ep k n i (q+off) s,h)|_=>none):=_root_.id rfl
@[simp]theorem op_fld(agg:Bool)(off n:Nat)(x:Opd):A0 O c (.fld agg off n x) fr h=(match get fr x with | .agg cs=>(match P9 agg n (cs.drop off)with|some v=>some (v,h)|none=>none)|_=>none):=_root_.id rfl
@[simp]theorem op_idx(x i:Opd):A0 O c (.idx x i) fr h=(match get fr x,get fr i with
  | .str s,.int _ j=>if 0<=j then (match s[j.toNat]? with|some b=>some (.int .u8 b.toNat,h)|none=>none)else none
  |_,_=>none):=_root_.id rfl
@[simp]theorem op_ext(x:Opd)(i:Nat):A0 O c (.ext x i) fr h=(match get fr x with | .tup vs=>(match vs[i]? with|some v=>some (v,h)|none=>none)|_=>none):=_root_.id rfl
@[simp]theorem op_slen(x:Opd):A0 O c (.len true x) fr h=(match get fr x with | .str s=>some (.int .i64 s.size,h)|_=>none):=_root_.id rfl
@[simp]theorem op_max(x y:Opd):A0 O c (.max x y) fr h=(match get fr x,get fr y with | .int k a,.int k' b=>if k=k' then some (.int k (if b > a then b else a),h)else none|_,_=>none):=_root_.id rfl
@[simp]theorem op_iaddr(sz:Nat)(x i:Opd):A0 O c (.iaddr sz x i) fr h=iaA h sz (get fr x) (get fr i):=_root_.id rfl
@[simp]theorem op_ste(n:Nat)(a x:Opd):A0 O c (.ste n a x) fr h=Og h n (get fr a) (get fr x):=_root_.id rfl
@[simp]theorem op_stb(n:Nat)(a x:Opd):A0 O c (.stb n a x) fr h=MP h n (get fr a) (get fr x):=_root_.id rfl
@[simp]theorem op_mkv(z:AV)(bytes:Nat)(l q:Opd):A0 O c (.mkv z bytes l q) fr h=eN h z bytes (get fr l) (get fr q):=_root_.id rfl
@[simp]theorem op_mkb(z:AV)(bytes:Nat)(l q:Opd):A0 O c (.mkb z bytes l q) fr h=Sa h z bytes (get fr l) (get fr q):=_root_.id rfl
@[simp]theorem op_clr(z:AV)(x:Opd):A0 O c (.clr z x) fr h=Ns h z (get fr x):=_root_.id rfl
@[simp]theorem op_len(x:Opd):A0 O c (.len false x) fr h=eF h (get fr x):=_root_.id rfl
def lI(b:Bool)(x y:Unit->Option (AV×AH)):Option (AV×AH):=if b then x ()else y ()
@[simp]theorem kraw_t(x y:Unit->Option (AV×AH)):lI true x y=x ():=_root_.id rfl
@[simp]theorem kraw_f(x y:Unit->Option (AV×AH)):lI false x y=y ():=_root_.id rfl
@[congr] theorem kraw_congr{b b':Bool}{x y:Unit->Option (AV×AH)}(h:b=b'):lI b x y=lI b' x y:=by rw[h]
@[simp]theorem op_calls{C:Cfg}(f:FuncId)(xs:List Opd):A0 (Ax C) c (.call f xs) fr h=lI (c.raw f) (λ_=>mz (c.noB f) h (rc C f (xs.map (get fr)) h)) (λ_=>kcl (j8 h true (xs.map (get fr))) (λys=>pc C f ys) ((xs.map (get fr)).all (tame h)) h):=by
 cases hr:c.raw f with
 |false=>exact iP hr xs fr h
 |true=>exact ai hr xs fr h
def kif(b:Bool)(x:Option (AV×AH)):Option (AV×AH):=if b then none else x
@[simp]theorem kif_t(x:Option (AV×AH)):kif true x=none:=_root_.id rfl
@[simp]theorem kif_f(x:Option (AV×AH)):kif false x=x:=_root_.id rfl
@[simp]theorem op_callv{C:Cfg}(x:Opd)(xs:List Opd):A0 (Ax C) c (.callv x xs) fr h=(match get fr x with
  | .fn f caps=>kif (c.raw f&&!c.rawv) (lI (c.raw f) (λ_=>mz (c.noB f) h (rc C f (xs.map (get fr)++caps) h)) (λ_=>kcl (j8 h true (xs.map (get fr)++caps)) (λys=>pc C f ys) ((xs.map (get fr)++caps).all (tame h)) h))
  |_=>none):=by
 simp only[A0];cases get fr x with
 |fn f caps =>
  simp only;unfold kif;by_cases hq:(c.raw f&&!c.rawv)=true
  .rw[if_pos hq,if_pos hq]
  .rw[if_neg hq,if_neg hq];cases hr:c.raw f with
   |false =>
    have:=iP (C:=C) hr ((xs.map (get fr)++caps).map Opd.c) fr h;simp only[A0,zf3z]at this;rw[show (get fr∘Opd.c)=id from rfl,zf5z]at this;exact this
   |true =>
    have:=ai (C:=C) hr ((xs.map (get fr)++caps).map Opd.c) fr h;simp only[A0,zf3z]at this;rw[show (get fr∘Opd.c)=id from rfl,zf5z]at this;exact this
 |_=>rfl
@[simp]theorem op_mlookp(ok:Bool)(z:AV)(x k:Opd):A0 O c (.mlookp ok z x k) fr h=NA ok z h (get fr x) (get fr k):=_root_.id rfl
@[simp]theorem op_mupp(x k v:Opd):A0 O c (.mupp x k v) fr h=lM h (get fr x) (get fr k) (get fr v):=_root_.id rfl
@[simp]theorem op_apps(bytes:Nat)(s x:Opd):A0 O c (.apps bytes s x) fr h=Rl c h bytes (get fr s) (get fr x):=_root_.id rfl
@[simp]theorem op_allocAt(r:Nat)(z:AV):A0 O c (.allocAt r z) fr h=AF h r z:=_root_.id rfl
@[simp]theorem op_mlen(x:Opd):A0 O c (.mlen x) fr h=(match BQ h (get fr x)with|some (ks,_)=>some (.int .i64 ks.length,h)|none=>none):=_root_.id rfl
@[simp]theorem op_min(x y:Opd):A0 O c (.min x y) fr h=(match get fr x,get fr y with | .int k a,.int k' b=>if k=k' then some (.int k (if b<a then b else a),h)else none|_,_=>none):=_root_.id rfl
@[simp]theorem op_mkmap:A0 O c .mkmap fr h=some (.mp h.boxes.length,{h with boxes:=h.boxes++[[.mbox [] []]]}):=_root_.id rfl
@[simp]theorem op_mlook(str ok:Bool)(z:AV)(x k:Opd):A0 O c (.mlook str ok z x k) fr h=Ff str ok z h (get fr x) (get fr k):=_root_.id rfl
@[simp]theorem op_mup(str:Bool)(x k v:Opd):A0 O c (.mup str x k v) fr h=UQ str h (get fr x) (get fr k) (get fr v):=_root_.id rfl
@[simp]theorem op_slc(sz:Nat)(x:Opd)(lo hi mx:Option Opd):A0 O c (.slc sz x lo hi mx) fr h=slcA h sz (get fr x) (i4 fr lo) (i4 fr hi) (i4 fr mx):=_root_.id rfl
@[simp]theorem op_app(sz bytes:Nat)(s x:Opd):A0 O c (.app sz bytes s x) fr h=R7 c h sz bytes (get fr s) (get fr x):=_root_.id rfl
@[simp]theorem op_ld(agg:Bool)(n:Nat)(x:Opd):A0 O c (.ld agg n x) fr h=(U4 h agg n (get fr x)).map λv=>(v,h):=by
 simp only[A0];cases U4 h agg n (get fr x)<;>rfl
@[simp]theorem layS_false(h:AH)(x:AV):Pd false h x=h:=_root_.id rfl
@[simp]theorem op_st(n:Nat)(a x:Opd):A0 O c (.st n a x) fr h=(Ba h n (get fr x) (get fr a)).map λh'=>(B4,Pd c.lay h' (get fr x)):=by
 simp only[A0];cases Ba h n (get fr x) (get fr a)<;>rfl
end
def MB(xs:List AV)(i:Nat):Option AV:=xs[i]?
@[simp]theorem nth_zero(x:AV)(xs:I7):MB (x::xs) 0=some x:=_root_.id rfl
@[simp]theorem nth_succ(x:AV)(xs:I7)(i:Nat):MB (x::xs) (i+1)=MB xs i:=_root_.id rfl
theorem l9{α:Type}{f:α->AV}{l:List α}{i:Nat}{x:α}(h:l[i]?=some x):MB (l.map f) i=some (f x):=by simp[MB,h]
@[simp]theorem iaA_sl(h:AH)(m:HH)(sz:Nat)(xs:I7)(k:IntKind)(j:Int):iaA h sz (sl m sz xs) (.int k j)=if 0<=j then (MB xs j.toNat).map (λe=>(.pv e.cells,h))else none:=by
 unfold iaA sl MB;simp only;by_cases hj:0<=j
 .rw[if_pos hj];cases hx:xs[j.toNat]? with
  |none=>simp
  |some e =>
   cases xs with
   |nil=>simp at hx
   |cons y ys=>simp[hj]
 .rw[if_neg hj,if_neg (by omega)]
@[simp]theorem lenA_sl(h:AH)(m:HH)(sz:Nat)(xs:I7):eF h (sl m sz xs)=some (.int .i64 xs.length,h):=_root_.id rfl
@[simp]theorem lenA_box(h:AH)(b s off len:Nat):eF h (.bsl b s off len)=some (.int .i64 len,h):=_root_.id rfl
@[simp]theorem iaA_box(h:AH)(sz b s off len:Nat)(kd:IntKind)(j:Int):iaA h sz (.bsl b s off len) (.int kd j)=if 0<=j/\j<len/\s=sz then some (.ptr b (off+j.toNat*sz),h)else none:=_root_.id rfl
@[simp]theorem lenA_view(h:AH)(k n off len:Nat):eF h (.sl k n off len)=some (.int .i64 len,h):=_root_.id rfl
@[simp]theorem qY(h:AH)(am:Bool)(k n off len:Nat):frz h am (.sl k n off len)=Bo h am (.sl k n off len):=_root_.id rfl
@[simp]theorem loadA_pv(h:AH)(agg:Bool)(n:Nat)(cs:I7):U4 h agg n (.pv cs)=P9 agg n cs:=_root_.id rfl
@[simp]theorem isMB_nil:u6 []=false:=_root_.id rfl
@[simp]theorem Dx(x y:AV)(l:I7):u6 (x::y::l)=false:=by cases x<;>rfl
@[simp]theorem isMB_int(k:IntKind)(n:Int):u6 [.int k n]=false:=_root_.id rfl
@[simp]theorem isMB_bool(b:Bool):u6 [.bool b]=false:=_root_.id rfl
@[simp]theorem isMB_str(b:AD):u6 [.str b]=false:=_root_.id rfl
@[simp]theorem isMB_vs(f:Bool)(sz:Nat)(xs:I7):u6 [.vs f sz xs]=false:=_root_.id rfl
@[simp]theorem isMB_sl(m:HH)(sz:Nat)(xs:I7):u6 [sl m sz xs]=false:=_root_.id rfl
@[simp]theorem isMB_view(k n off len:Nat):u6 [.sl k n off len]=false:=_root_.id rfl
@[simp]theorem isMB_ptr(b off:Nat):u6 [.ptr b off]=false:=_root_.id rfl
@[simp]theorem isMB_agg(cs:I7):u6 [.agg cs]=false:=_root_.id rfl
@[simp]theorem isMB_mp(b:Nat):u6 [.mp b]=false:=_root_.id rfl
@[simp]theorem isMB_vm(ks vs:I7):u6 [.vm ks vs]=false:=_root_.id rfl
@[simp]theorem isMB_fn(f:FuncId)(cs:I7):u6 [.fn f cs]=false:=_root_.id rfl
@[simp]theorem isMB_rbox(cs:I7):u6 [.rbox cs]=true:=_root_.id rfl
@[simp]theorem rdRo_r(agg:Bool)(n off:Nat)(ys:I7):Qm agg n off [.rbox ys]=P9 agg n (ys.drop off):=_root_.id rfl
@[simp]theorem loadA_ptr(h:AH)(agg:Bool)(n b off:Nat):U4 h agg n (.ptr b off)=(h.boxes[b]?).bind λcs=>if u6 cs then Qm agg n off cs else P9 agg n (cs.drop off):=by
 simp only[U4];cases h.boxes[b]?<;>rfl
@[simp]theorem storeA_ptr(h:AH)(n:Nat)(v:AV)(b off:Nat):Ba h n v (.ptr b off)=(h.boxes[b]?).bind λcs=>if u6 cs=false/\v.isTup=false/\v.cells.length=n/\off+n<=cs.length then some {h with boxes:=h.boxes.set b (Y0 cs off v.cells)} else dC h b n off v cs:=by
 simp only[Ba];cases h.boxes[b]?<;>rfl
@[simp]theorem layH_def(h:AH)(v:AV):aN h v=match frz h false v with|some _=>some h|none=>bZ h v:=_root_.id rfl
@[simp]theorem rstF_sl(h:AH)(k n off len:Nat):bZ h (.sl k n off len)=(h.fams[k]?).map λf=>{h with fams:=h.fams.set k {f with wr:=false}}:=by
 simp only[bZ];cases h.fams[k]?<;>rfl
@[simp]theorem storeA_ep(h:AH)(n:Nat)(v:AV)(k m i q sz:Nat):Ba h n v (.ep k m i q sz)=(aN h v).bind λh=>(h.fams[k]?).bind λf =>
  if f.xs.length=m/\f.sz=sz/\f.wr=true then
   (f.xs[i]?).bind λx=>(frz h false v).bind λu=>if u.cells.length=n/\q+n<=x.cells.length then
    (x.reform (Y0 x.cells q u.cells)).map λy=>{h with fams:=h.fams.set k {f with xs:=f.xs.set i y}} else none
  else none:=by
 simp only[Ba];cases aN h v with
 |none=>rfl
 |some h =>
  simp only[zf0z,Ej];cases h.fams[k]? with
  |none=>rfl
  |some f =>
   simp only[zf0z];split
   .cases f.xs[i]? with
    |none=>rfl
    |some x=>cases frz h false v<;>rfl
   .rfl
@[simp]theorem loadA_ep(h:AH)(agg:Bool)(n k m i q sz:Nat):U4 h agg n (.ep k m i q sz)=(h.fams[k]?).bind λf=>if f.xs.length=m/\f.sz=sz then (f.xs[i]?).bind λx=>P9 agg n (x.cells.drop q)else none:=by
 simp only[U4];cases h.fams[k]? with
 |none=>rfl
 |some f =>
  simp only[zf0z];split
  .cases f.xs[i]?<;>rfl
  .rfl
@[simp]theorem iaA_view(h:AH)(sz k n off len:Nat)(kd:IntKind)(j:Int):iaA h sz (.sl k n off len) (.int kd j)=if 0<=j/\j<len then some (.ep k n (off+j.toNat) 0 sz,h)else none:=_root_.id rfl
@[simp]theorem splice_def(cs:I7)(off:Nat)(new:I7):Y0 cs off new=cs.take off++new++cs.drop (off+new.length):=_root_.id rfl
@[simp]theorem bin_lss(k:IntKind)(a b:Int):P0 .lss (.int k a) (.int k b)=some (.bool (decide (a<b))):=by simp[P0]
@[simp]theorem bin_leq(k:IntKind)(a b:Int):P0 .leq (.int k a) (.int k b)=some (.bool (decide (a<=b))):=by simp[P0]
@[simp]theorem bin_gtr(k:IntKind)(a b:Int):P0 .gtr (.int k a) (.int k b)=some (.bool (decide (b<a))):=by simp[P0]
@[simp]theorem bin_geq(k:IntKind)(a b:Int):P0 .geq (.int k a) (.int k b)=some (.bool (decide (b<=a))):=by simp[P0]
@[simp]theorem bin_eql(k:IntKind)(a b:Int):P0 .eql (.int k a) (.int k b)=some (.bool (decide (a=b))):=by simp only[P0,if_true];rfl
@[simp]theorem bin_neq(k:IntKind)(a b:Int):P0 .neq (.int k a) (.int k b)=some (.bool (!decide (a=b))):=by simp only[P0,if_true];rfl
@[simp]theorem bin_add(k:IntKind)(a b:Int):P0 .add (.int k a) (.int k b)=some (.int k (k.wrap (a+b))):=by simp[P0]
@[simp]theorem bin_sub(k:IntKind)(a b:Int):P0 .sub (.int k a) (.int k b)=some (.int k (k.wrap (a-b))):=by simp[P0]
theorem gW(a b:List UInt8):(a == b)=decide (a=b):=by
 by_cases h:a=b<;>simp[h]
@[simp]theorem bin_slss(a b:AD):P0 .lss (.str a) (.str b)=some (.bool (Op.bytesLess a.toList b.toList)):=_root_.id rfl
@[simp]theorem bin_seql(a b:AD):P0 .eql (.str a) (.str b)=some (.bool (decide (a.toList=b.toList))):=by simp only[P0];rw[gW]
@[simp]theorem bin_sneq(a b:AD):P0 .neq (.str a) (.str b)=some (.bool !(decide (a.toList=b.toList))):=by simp only[P0];rw[gW]
@[simp]theorem resA_nil(fr:Fr)(h:AH):Hz fr h []=some []:=_root_.id rfl
@[simp]theorem resA_tmp(fr:Fr)(h:AH)(t:Nat)(rs:List RRes):Hz fr h (.tmp t::rs)=(Hz fr h rs).map (C7 fr t::·):=_root_.id rfl
@[simp]theorem resA_cell(fr:Fr)(h:AH)(a n:Nat)(agg:Bool)(rs:List RRes):Hz fr h (.cell a agg n::rs)=(U4 h agg n (C7 fr a)).bind λv=>(Hz fr h rs).map (v::·):=_root_.id rfl
@[simp]theorem un_not(b:Bool):LL .not (.bool b)=some (.bool !b):=_root_.id rfl
theorem EX{n:Int}(h0:-9223372036854775808<=n)(h1:n<=9223372036854775807):IntKind.i64.wrap n=n:=by
 simp only[IntKind.wrap,IntKind.bits,IntKind.signed];simp only[Bool.true_and,decide_eq_true_eq,ge_iff_le];split<;>omega
theorem AQ(i:Nat)(h:i<9223372036854775807):IntKind.i64.wrap ((i:Int)+1)=(i:Int)+1:=EX (by omega) (by omega)
theorem wrNexn(i:Nat)(h:i<9223372036854775807):IntKind.i64.wrap ((i:Int)+1)=((i+1:Nat):Int):=EX (by omega) (by omega)
@[simp]theorem PW(h:AH)(am:Bool)(k n off len:Nat):Bo h am (.sl k n off len)=(h.fams[k]?).bind λf=>if f.xs.length=n/\off+len<=n/\(am||!f.wr)=true then some (sl (false,true) f.sz ((f.xs.drop off).take len))else none:=by
 simp only[Bo];cases h.fams[k]? with
 |none=>rfl
 |some f=>simp only[zf0z,YV]
@[simp]theorem wR(h:AH)(am:Bool):frz h am (.vs true 0 [])=some (sl (true,false) 1 []):=_root_.id rfl
@[simp]theorem frz1_nil(h:AH)(am:Bool):Bo h am (.vs true 0 [])=some (sl (true,false) 1 []):=_root_.id rfl
theorem fI(m:HH)(hm:m.2=false)(a b:Nat):sl m a []=sl m b []:=by simp[sl,hm]
@[simp]theorem vl(c:Ctx)(h:AH)(sz bytes:Nat)(x:AV):R7 c h sz bytes (.vs true 0 []) x=(elems h sz x).bind λys =>
  if ys.length=0 then some (.vs true 0 [],h)else if ys.length*bytes<=P7/\ys.length<=maxLen then some (.sl h.fams.length ys.length 0 ys.length,{h with fams:=h.fams++[⟨ys,sz,c.mutApp⟩]})else none:=by
 simp only[R7,Z2];cases elems h sz x with
 |none=>rfl
 |some ys=>simp
def appPre(h:AH)(sz k n off len:Nat)(f:Fam)(ys:List AV):Option (AV×AH) :=
 if f.xs.length=n/\f.sz=sz/\f.wr=true/\off+len+ys.length<=n then some (.sl k n off (len+ys.length),{h with fams:=h.fams.set k {f with xs:=f.xs.take (off+len)++ys++f.xs.drop (off+len+ys.length)}})else none
@[simp]theorem ng(c:Ctx)(h:AH)(sz bytes k n off len:Nat)(x:AV):R7 c h sz bytes (.sl k n off len) x=(elems h sz x).bind λys=>(h.fams[k]?).bind λf =>
  if f.xs.length=n/\f.sz=sz/\off+len=n/\(n+ys.length)*bytes<=P7/\n+ys.length<=maxLen then some (.sl k (n+ys.length) off (len+ys.length),{h with fams:=h.fams.set k {f with xs:=f.xs++ys}})else appPre h sz k n off len f ys:=by
 simp only[R7,Z2];cases elems h sz x with
 |none=>rfl
 |some ys=>cases h.fams[k]?<;>rfl
theorem Fc(c:Ctx)(h:AH)(sz bytes:Nat)(b:Bool)(xs:I7)(x:AV):R7 c h sz bytes (sl (true,b) sz xs) x=(elems h sz x).bind λys =>
  if ys.length=0 then some (sl (true,b) sz xs,h)else if (xs.length+ys.length)*bytes<=P7/\xs.length+ys.length<=maxLen then some (.sl h.fams.length (xs.length+ys.length) 0 (xs.length+ys.length),{h with fams:=h.fams++[⟨xs++ys,sz,c.mutApp⟩]})else none:=by
 simp only[R7,Z2,sl];cases elems h sz x with
 |none=>rfl
 |some ys =>
  simp only[zf0z];cases xs<;>simp
inductive Tm where
 |mk (kind:Int) (name:ByteArray) (sort:Int) (m:Bool×Bool) (kids:List Tm)
abbrev CI:=List Tm
mutual
def U6:Tm->AV
 | .mk k n s m l=>.agg [.int .i64 k,.str n,.int .i64 s,sl m 4 (G8 l)]
def G8:List Tm->List AV
 | []=>[]
 |t::l=>U6 t::G8 l
end
theorem m8(l:CI):G8 l=l.map U6:=by
 induction l with
 |nil=>rfl
 |cons t l ih=>simp[G8,ih]
theorem Gy{l:CI}{i:Nat}{t:Tm}(h:l[i]?=some t):MB (G8 l) i=some (U6 t):=by rw[m8];exact l9 h
@[simp]theorem AP(l:CI):(G8 l).length=l.length:=by simp[m8]
mutual
def Tm.size:Tm->Nat
 | .mk _ _ _ _ l=>1+Tm.sizes l
def Tm.sizes:List Tm->Nat
 | []=>0
 |t::l=>t.size+Tm.sizes l
end
theorem Tm.size_pos(t:Tm):0<t.size:=by cases t;simp[Tm.size];omega
theorem Tm.sizes_append(l r:CI):Tm.sizes (l++r)=Tm.sizes l+Tm.sizes r:=by
 induction l with
 |nil=>simp[Tm.sizes]
 |cons t l ih=>simp[Tm.sizes,ih];omega
theorem Tm.size_le{t:Tm}{l:CI}(h:t∈l):t.size<=Tm.sizes l:=by
 induction l with
 |nil=>cases h
 |cons x l ih =>
  simp only[Tm.sizes];rcases List.mem_cons.1 h with rfl|h
  .omega
  .have:=ih h;omega
theorem Tm.length_le(l:CI):l.length<=Tm.sizes l:=by
 induction l with
 |nil=>simp
 |cons x l ih=>have:=x.size_pos;simp only[Tm.sizes,List.length_cons];omega
end Go.Abs
