/- A part of the proof. -/
import Derived.Test.YtnnjamknplefbaaGreatDoorTS39
set_option linter.all false
open Nat renaming beq->zf0z,eq_of_beq_eq_true->zf1z,beq_refl->zf4z
open List renaming replicate->zf2z,length_cons->zf3z
set_option linter.all false
set_option linter.unusedVariables false
namespace Go.Abs
section
variable {α:Type}
noncomputable def Fo(l:List α):Nat->Option α:=l.rec (λ_=>none) (λa _ ih n=>(zf0z n (nat_lit 0)).rec (ih (Nat.sub n (nat_lit 1))) (some a))
noncomputable def Qq(l:List α):Nat->α->List α:=l.rec (λ_ _=>[]) (λa tl ih n x=>(zf0z n (nat_lit 0)).rec (a::ih (Nat.sub n (nat_lit 1)) x) (x::tl))
noncomputable def Ws(l m:List α):List α:=l.rec m (λa _ ih=>a::ih)
noncomputable def JW(l:List α):Nat:=l.rec (nat_lit 0) (λ_ _ n=>Nat.add n (nat_lit 1))
theorem E3:∀(l:List α) (n:Nat),Fo l n=l[n]?
 | [],_=>by simp[Fo]
 |a::l,0=>rfl
 |a::l,n+1=>by
  show Fo l n=_;rw[E3 l n,List.getElem?_cons_succ]
theorem E8:∀(l:List α) (n:Nat) (x:α),Qq l n x=l.set n x
 | [],_,_=>rfl
 |a::l,0,x=>rfl
 |a::l,n+1,x=>by
  show a::Qq l n x=_;rw[E8 l n x,List.set_cons_succ]
theorem E7:∀(l m:List α),Ws l m=l++m
 | [],m=>rfl
 |a::l,m=>by
  show a::Ws l m=_;rw[E7 l m,List.cons_append]
theorem E6:∀(l:List α),JW l=l.length
 | []=>rfl
 |a::l=>by
  show Nat.add (JW l) 1=_;rw[E6 l,zf3z]
end
noncomputable def eqU(l:List UInt8):List UInt8->Bool:=l.rec (λm=>m.rec true (λ_ _ _=>false)) (λa _ ih m=>m.rec false (λb bs _=>(zf0z a.toNat b.toNat).rec false (ih bs)))
theorem iB:∀(l m:List UInt8),eqU l m=true↔l=m
 | [],[]=>by simp[eqU]
 | [],_::_=>by simp[eqU]
 |_::_,[]=>by simp[eqU]
 |a::l,b::m=>by
  show ((zf0z a.toNat b.toNat).rec false (eqU l m):Bool)=true↔_;cases h:zf0z a.toNat b.toNat with
  |false =>
   refine⟨λk=>(nomatch (show false=true from k)),λk=>?_⟩;cases k;rw[zf4z]at h;cases h
  |true =>
   have e:=zf1z h;have e':a=b:=UInt8.toNat_inj.1 e;subst e';show eqU l m=true↔_;rw[iB l m];simp
noncomputable def qN(a b:ByteArray):Bool:=eqU a.data.toList b.data.toList
theorem kv(a b:AD):qN a b=true↔a=b:=by
 unfold qN;rw[iB];constructor
 .intro h;obtain⟨⟨a⟩⟩:=a;obtain⟨⟨b⟩⟩:=b;cases h;rfl
 .intro h;rw[h]
abbrev QT:=AV->Bool
abbrev QL:=List AV->Bool
def Xs:QT | .junk=>true|_=>false
def Xq(b:Bool):QT | .bool b'=>b == b' | _=>false
def ii(k:IntKind)(n:Int):QT | .int k' n'=>decide (k=k')&&decide (n=n')|_=>false
noncomputable def ip(s:ByteArray):QT:=λy=>match y with | .str s'=>qN s s' | _=>false
def ie(_:List AV)(ih:QL):QT | .agg l=>ih l|_=>false
def iq(_:List AV)(ih:QL):QT | .tup l=>ih l|_=>false
def xN(f:Bool)(z:Nat)(_:List AV)(ih:QL):QT | .vs f' z' l=>(f == f')&&(zf0z z z'&&ih l)|_=>false
def xL(a b c d:Nat):QT | .sl a' b' c' d'=>zf0z a a'&&(zf0z b b'&&(zf0z c c'&&zf0z d d'))|_=>false
def xK(_:List AV)(ih:QL):QT | .pv l=>ih l|_=>false
def xD(a b c d e:Nat):QT | .ep a' b' c' d' e'=>zf0z a a'&&(zf0z b b'&&(zf0z c c'&&(zf0z d d'&&zf0z e e')))|_=>false
def io(a b:Nat):QT | .ptr a' b'=>zf0z a a'&&zf0z b b' | _=>false
def Xw:QT | .nilp=>true|_=>false
def xF(f:FuncId)(_:List AV)(ih:QL):QT | .fn f' l=>zf0z f f'&&ih l|_=>false
def Xu:QT | .nilf=>true|_=>false
def xH(a:Nat):QT | .mp a'=>zf0z a a' | _=>false
def xM(_ _:List AV)(i j:QL):QT | .vm k v=>i k&&j v|_=>false
def Xv:QT | .nilm=>true|_=>false
def Xt(_ _:List AV)(i j:QL):QT | .mbox k v=>i k&&j v|_=>false
def Xx(_:List AV)(ih:QL):QT | .rbox l=>ih l|_=>false
def ig(a b c d:Nat):QT | .bsl a' b' c' d'=>zf0z a a'&&(zf0z b b'&&(zf0z c c'&&zf0z d d'))|_=>false
def Xy(t:TypeId)(_:List AV)(ih:QL):QT | .tbox t' l=>zf0z t t'&&ih l|_=>false
def ij:QL | []=>true|_=>false
def Xr(_:AV)(_:List AV)(i:QT)(j:QL):QL | []=>false|y::ys=>i y&&j ys
noncomputable def eqR(x:AV):QT:=AV.rec (motive_1:=λ_=>QT) (motive_2:=λ_=>QL) Xs Xq ii ip ie iq xN xL xK xD io Xw xF Xu xH xM Xv Xt Xx ig Xy ij Xr x
noncomputable def Fy(x:List AV):QL:=AV.rec_1 (motive_1:=λ_=>QT) (motive_2:=λ_=>QL) Xs Xq ii ip ie iq xN xL xK xD io Xw xF Xu xH xM Xv Xt Xx ig Xy ij Xr x
theorem JZ(a b:Nat):zf0z a b=true↔a=b:=⟨zf1z,λh=>by rw[h];exact zf4z b⟩
mutual
theorem XJ:∀(x y:AV),eqR x y=true↔x=y
 | .junk,y=>by show Xs y=true↔_;cases y<;>simp[Xs]
 | .bool b,y=>by show Xq b y=true↔_;cases y<;>simp[Xq]
 | .int k n,y=>by show ii k n y=true↔_;cases y<;>simp[ii]
 | .str s,y=>by show ip s y=true↔_;cases y<;>simp[ip,kv]
 | .agg l,y=>by show ie l (Fy l) y=true↔_;cases y<;>simp[ie,W8 l]
 | .tup l,y=>by show iq l (Fy l) y=true↔_;cases y<;>simp[iq,W8 l]
 | .vs f z l,y=>by show xN f z l (Fy l) y=true↔_;cases y<;>simp[xN,W8 l,JZ]
 | .sl a b c d,y=>by show xL a b c d y=true↔_;cases y<;>simp[xL,JZ]
 | .pv l,y=>by show xK l (Fy l) y=true↔_;cases y<;>simp[xK,W8 l]
 | .ep a b c d e,y=>by show xD a b c d e y=true↔_;cases y<;>simp[xD,JZ]
 | .ptr a b,y=>by show io a b y=true↔_;cases y<;>simp[io,JZ]
 | .nilp,y=>by show Xw y=true↔_;cases y<;>simp[Xw]
 | .fn f l,y=>by show xF f l (Fy l) y=true↔_;cases y<;>simp[xF,W8 l,JZ]
 | .nilf,y=>by show Xu y=true↔_;cases y<;>simp[Xu]
 | .mp a,y=>by show xH a y=true↔_;cases y<;>simp[xH,JZ]
 | .vm k v,y=>by show xM k v (Fy k) (Fy v) y=true↔_;cases y<;>simp[xM,W8 k,W8 v]
 | .nilm,y=>by show Xv y=true↔_;cases y<;>simp[Xv]
 | .mbox k v,y=>by show Xt k v (Fy k) (Fy v) y=true↔_;cases y<;>simp[Xt,W8 k,W8 v]
 | .rbox l,y=>by show Xx l (Fy l) y=true↔_;cases y<;>simp[Xx,W8 l]
 | .bsl a b c d,y=>by show ig a b c d y=true↔_;cases y<;>simp[ig,JZ]
 | .tbox t l,y=>by show Xy t l (Fy l) y=true↔_;cases y<;>simp[Xy,W8 l,JZ]
theorem W8:∀(x y:I7),Fy x y=true↔x=y
 | [],y=>by show ij y=true↔_;cases y<;>simp[ij]
 |a::l,y=>by show Xr a l (eqR a) (Fy l) y=true↔_;cases y<;>simp[Xr,XJ a,W8 l]
end
theorem XK(x y:I7):Fy x y=Hg x y:=by
 rw[Bool.eq_iff_iff,W8];exact⟨λh=>by rw[h];exact R9 y,λh=>AI h⟩
noncomputable def Mz(h:AH)(agg:Bool)(n:Nat):AV->Option AV
 | .pv cs=>P9 agg n cs
 | .ptr b off =>
  match Fo h.boxes (b)with
  |some cs=>if u6 cs then Qm agg n off cs else P9 agg n (cs.drop off)
  |none=>none
 | .ep k m i c sz =>
  match Fo h.fams (k)with
  |some f=>if (JW f.xs)=m/\f.sz=sz then (match Fo f.xs i with|some x=>P9 agg n (x.cells.drop c)|none=>none)else none
  |none=>none
 |_=>none
theorem B9(h:AH)(agg:Bool)(n:Nat)(v:AV):Mz h agg n v=U4 h agg n v:=by
 unfold Mz U4
 first|rfl|(simp only[E3,E8,E7,E6];done)|(simp only[E3,E8,E7,E6];rfl)
noncomputable def iE(h:AH)(am:Bool):AV->Option AV
 | .bsl b sz off len=>kz h am b sz off len
 | .sl k n off len =>
  match Fo h.fams (k)with
  |some f=>if (JW f.xs)=n/\off+len<=n/\(am||!f.wr)=true then some (.vs false f.sz ((f.xs.drop off).take len))else none
  |none=>none
 | .ep ..=>none
 | .ptr ..=>none
 | .agg _=>none
 | .tup _=>none
 | .mbox ..=>none
 | .rbox _=>none
 | .tbox ..=>none
 | .mp b=>match Fo h.boxes (b)with|some [.mbox ks vs]=>if am then (MZ h am vs).map (.vm ks)else none|_=>none
 | .fn f caps=>if caps.all AV.flat then some (.fn f caps)else none
 |x=>some x
theorem D7(h:AH)(am:Bool)(v:AV):iE h am v=Bo h am v:=by
 unfold iE Bo
 first|rfl|(simp only[E3,E8,E7,E6,B9];done)|(simp only[E3,E8,E7,E6,B9];rfl)
noncomputable def iF(h:AH)(am:Bool):List AV->Option (List AV)
 | []=>some []
 |x::xs=>(iE h am x).bind λy=>(iF h am xs).map (y::·)
theorem D8(h:AH)(am:Bool):∀(l:I7),iF h am l=IX h am l
 | []=>rfl
 |x::l=>by
  unfold iF IX;simp only[E3,E8,E7,E6,B9,D7,D8 h am l]
noncomputable def du(h:AH)(am:Bool):AV->Option AV
 | .agg cs=>(iF h am cs).map .agg
 |x=>iE h am x
theorem G7(h:AH)(am:Bool)(v:AV):du h am v=frz h am v:=by
 unfold du frz
 first|rfl|(simp only[E3,E8,E7,E6,B9,D7,D8];done)|(simp only[E3,E8,E7,E6,B9,D7,D8];rfl)
noncomputable def RE(h:AH)(am:Bool):List AV->Option (List AV)
 | []=>some []
 |x::xs=>(du h am x).bind λy=>(RE h am xs).map (y::·)
theorem B8(h:AH)(am:Bool):∀(l:I7),RE h am l=j8 h am l
 | []=>rfl
 |x::l=>by
  unfold RE j8;simp only[E3,E8,E7,E6,B9,D7,D8,G7,B8 h am l]
noncomputable def RT(h:AH)(n:Nat)(v:AV)(k m i c sz:Nat):Option AH :=
 match Fo h.fams (k)with
 |some f =>
  if (JW f.xs)=m/\f.sz=sz/\f.wr=true then
   match Fo f.xs i,du h false v with
   |some x,some u =>
    if u.cells.length=n/\c+n<=x.cells.length then
     (x.reform (Y0 x.cells c u.cells)).map λy=>{h with fams:=Qq h.fams k {f with xs:=f.xs.set i y}}
    else none
   |_,_=>none
  else none
 |none=>none
theorem C0(h:AH)(n:Nat)(v:AV)(k:Nat)(m:Nat)(i:Nat)(c:Nat)(sz:Nat):RT h n v k m i c sz=Ej h n v k m i c sz:=by
 unfold RT Ej
 first|rfl|(simp only[E3,E8,E7,E6,B9,D7,D8,G7,B8];done)|(simp only[E3,E8,E7,E6,B9,D7,D8,G7,B8];rfl)
noncomputable def xl(h:AH)(b n off:Nat)(v:AV):List AV->Option AH
 | [.tbox t ys]=>if v.isTup=false/\v.cells.length=n/\off+n<=ys.length then some {h with boxes:=Qq h.boxes b [.tbox t (Y0 ys off v.cells)]} else none
 |_=>none
theorem H7(h:AH)(b:Nat)(n:Nat)(off:Nat)(v:AV)(cs:I7):xl h b n off v cs=dC h b n off v cs:=by
 unfold xl dC
 first|rfl|(simp only[E3,E8,E7,E6,B9,D7,D8,G7,B8,C0];done)|(simp only[E3,E8,E7,E6,B9,D7,D8,G7,B8,C0];rfl)
noncomputable def qn(h:AH)(v:AV):Option AH:=match du h false v with|some _=>some h|none=>bZ h v
theorem G0(h:AH)(v:AV):qn h v=aN h v:=by
 unfold qn aN
 first|rfl|(simp only[E3,E8,E7,E6,B9,D7,D8,G7,B8,C0,H7];done)|(simp only[E3,E8,E7,E6,B9,D7,D8,G7,B8,C0,H7];rfl)
noncomputable def YY(h:AH)(n:Nat)(v:AV):AV->Option AH
 | .ptr b off =>
  match Fo h.boxes (b)with
  |some cs=>if u6 cs=false/\v.isTup=false/\v.cells.length=n/\off+n<=cs.length then some {h with boxes:=Qq h.boxes b (Y0 cs off v.cells)} else xl h b n off v cs
  |none=>none
 | .ep k m i c sz=>match qn h v with|some h1=>RT h1 n v k m i c sz|none=>none
 |_=>none
theorem C6(h:AH)(n:Nat)(v:AV)(p:AV):YY h n v p=Ba h n v p:=by
 unfold YY Ba
 first|rfl|(simp only[E3,E8,E7,E6,B9,D7,D8,G7,B8,C0,H7,G0];done)|(simp only[E3,E8,E7,E6,B9,D7,D8,G7,B8,C0,H7,G0];rfl)
noncomputable def SZ(h:AH):AV->Option (List AV×List AV)
 | .vm ks vs=>some (ks,vs)
 | .mp b=>match Fo h.boxes (b)with|some [.mbox ks vs]=>some (ks,vs)|_=>none
 | .nilm=>some ([],[])
 |_=>none
theorem C1(h:AH)(x:AV):SZ h x=BQ h x:=by
 unfold SZ BQ
 first|rfl|(simp only[E3,E8,E7,E6,B9,D7,D8,G7,B8,C0,H7,G0,C6];done)|(simp only[E3,E8,E7,E6,B9,D7,D8,G7,B8,C0,H7,G0,C6];rfl)
noncomputable def Xd(str ok:Bool)(z:AV)(h:AH)(x k:AV):Option (AV×AH) :=
 if OE str k then
  match SZ h x with
  |some (ks,vs) =>
   match IW str k ks 0 with
   |some (some i)=>match vs[i]? with|some v=>some (if ok then .tup [v,.bool true]else v,h)|none=>none
   |some none=>some (if ok then .tup [z,.bool false]else z,h)
   |none=>none
  |none=>none
 else none
theorem C8(str:Bool)(ok:Bool)(z:AV)(h:AH)(x:AV)(k:AV):Xd str ok z h x k=Ff str ok z h x k:=by
 unfold Xd Ff
 first|rfl|(simp only[E3,E8,E7,E6,B9,D7,D8,G7,B8,C0,H7,G0,C6,C1];done)|(simp only[E3,E8,E7,E6,B9,D7,D8,G7,B8,C0,H7,G0,C6,C1];rfl)
noncomputable def qw(h:AH):AV->Option AV
 | .sl k n off len=>some (.sl k n off len)
 |x=>du h false x
theorem H5(h:AH)(v:AV):qw h v=lN h v:=by
 unfold qw lN
 first|rfl|(simp only[E3,E8,E7,E6,B9,D7,D8,G7,B8,C0,H7,G0,C6,C1,C8];done)|(simp only[E3,E8,E7,E6,B9,D7,D8,G7,B8,C0,H7,G0,C6,C1,C8];rfl)
noncomputable def qv(str:Bool)(h:AH)(x k v:AV):Option (AV×AH) :=
 match x with
 | .mp b =>
  match Fo h.boxes (b),qw h v with
  |some [.mbox ks vs],some u =>
   if OE str k/\u.isTup=false then
    match IW str k ks 0 with
    |some (some i)=>some (B4,{h with boxes:=Qq h.boxes b [.mbox ks (vs.set i u)]})
    |some none=>some (B4,{h with boxes:=Qq h.boxes b [.mbox (ks++[k]) (vs++[u])]})
    |none=>none
   else none
  |_,_=>none
 |_=>none
theorem I5(str:Bool)(h:AH)(x:AV)(k:AV)(v:AV):qv str h x k v=UQ str h x k v:=by
 unfold qv UQ
 first|rfl|(simp only[E3,E8,E7,E6,B9,D7,D8,G7,B8,C0,H7,G0,C6,C1,C8,H5];done)|(simp only[E3,E8,E7,E6,B9,D7,D8,G7,B8,C0,H7,G0,C6,C1,C8,H5];rfl)
noncomputable def df(h:AH)(sz:Nat):AV->Option (List AV)
 | .vs _ z xs=>if z=sz\/xs.length=0 then some xs else none
 | .sl k n off len =>
  match Fo h.fams (k)with
  |some f=>if (JW f.xs)=n/\f.sz=sz/\off+len<=n then some ((f.xs.drop off).take len)else none
  |none=>none
 |_=>none
theorem G5(h:AH)(sz:Nat)(v:AV):df h sz v=elems h sz v:=by
 unfold df elems
 first|rfl|(simp only[E3,E8,E7,E6,B9,D7,D8,G7,B8,C0,H7,G0,C6,C1,C8,H5,I5];done)|(simp only[E3,E8,E7,E6,B9,D7,D8,G7,B8,C0,H7,G0,C6,C1,C8,H5,I5];rfl)
noncomputable def Rk(c:Ctx)(h:AH)(sz bytes:Nat)(s:AV)(ys:List AV):Option (AV×AH) :=
 match s with
 | .vs true z xs =>
  if ys.length=0 then some (.vs true z xs,h)
  else if (z=sz\/xs.length=0)/\(xs.length+ys.length)*bytes<=P7/\xs.length+ys.length<=maxLen then
   some (.sl (JW h.fams) (xs.length+ys.length) 0 (xs.length+ys.length),{h with fams:=Ws h.fams ([⟨xs++ys,sz,c.mutApp⟩])})
  else none
 | .sl k n off len =>
  match Fo h.fams (k)with
  |some f =>
   if (JW f.xs)=n/\f.sz=sz/\off+len=n/\(n+ys.length)*bytes<=P7/\n+ys.length<=maxLen then
    some (.sl k (n+ys.length) off (len+ys.length),{h with fams:=Qq h.fams k {f with xs:=Ws f.xs ys}})
   else if (JW f.xs)=n/\f.sz=sz/\f.wr=true/\off+len+ys.length<=n then
    some (.sl k n off (len+ys.length),{h with fams:=Qq h.fams k {f with xs:=f.xs.take (off+len)++ys++f.xs.drop (off+len+ys.length)}})
   else none
  |none=>none
 |_=>none
theorem D6(c:Ctx)(h:AH)(sz:Nat)(bytes:Nat)(s:AV)(ys:I7):Rk c h sz bytes s ys=Z2 c h sz bytes s ys:=by
 unfold Rk Z2
 first|rfl|(simp only[E3,E8,E7,E6,B9,D7,D8,G7,B8,C0,H7,G0,C6,C1,C8,H5,I5,G5];done)|(simp only[E3,E8,E7,E6,B9,D7,D8,G7,B8,C0,H7,G0,C6,C1,C8,H5,I5,G5];rfl)
noncomputable def Rj(c:Ctx)(h:AH)(sz bytes:Nat)(s x:AV):Option (AV×AH) :=
 match df h sz x with
 |none=>none
 |some ys=>Rk c h sz bytes s ys
theorem E4(c:Ctx)(h:AH)(sz:Nat)(bytes:Nat)(s:AV)(x:AV):Rj c h sz bytes s x=R7 c h sz bytes s x:=by
 unfold Rj R7
 first|rfl|(simp only[E3,E8,E7,E6,B9,D7,D8,G7,B8,C0,H7,G0,C6,C1,C8,H5,I5,G5,D6];done)|(simp only[E3,E8,E7,E6,B9,D7,D8,G7,B8,C0,H7,G0,C6,C1,C8,H5,I5,G5,D6];rfl)
noncomputable def PH(h:AH)(r:Nat)(z:AV):Option (AV×AH) :=
 match Fo h.boxes ((JW h.boxes)-r)with
 |some cs=>if Ak cs then some (.ptr ((JW h.boxes)-r) 0,{h with boxes:=Qq h.boxes ((JW h.boxes)-r) z.cells})else none
 |none=>none
theorem D4(h:AH)(r:Nat)(z:AV):PH h r z=AF h r z:=by
 unfold PH AF
 first|rfl|(simp only[E3,E8,E7,E6,B9,D7,D8,G7,B8,C0,H7,G0,C6,C1,C8,H5,I5,G5,D6,E4];done)|(simp only[E3,E8,E7,E6,B9,D7,D8,G7,B8,C0,H7,G0,C6,C1,C8,H5,I5,G5,D6,E4];rfl)
noncomputable def sx(h:AH)(n:Nat)(p x:AV):Option (AV×AH) :=
 match p with
 | .ep k m i q s=>if S0 x then (match RT h n x k m i q s with|some h'=>some (B4,h')|none=>none)else none
 |_=>none
theorem K6(h:AH)(n:Nat)(p:AV)(x:AV):sx h n p x=Og h n p x:=by
 unfold sx Og
 first|rfl|(simp only[E3,E8,E7,E6,B9,D7,D8,G7,B8,C0,H7,G0,C6,C1,C8,H5,I5,G5,D6,E4,D4];done)|(simp only[E3,E8,E7,E6,B9,D7,D8,G7,B8,C0,H7,G0,C6,C1,C8,H5,I5,G5,D6,E4,D4];rfl)
noncomputable def ss(h:AH)(n:Nat)(p x:AV):Option (AV×AH) :=
 match p with
 | .ptr b o =>
  match Fo h.boxes (b)with
  |some cs=>if u6 cs=false/\x.isTup=false/\x.cells.length=n/\o+n<=cs.length then some (B4,{h with boxes:=Qq h.boxes b (Y0 cs o x.cells)})else (xl h b n o x cs).map λh'=>(B4,h')
  |none=>none
 |_=>none
theorem K9(h:AH)(n:Nat)(p:AV)(x:AV):ss h n p x=MP h n p x:=by
 unfold ss MP
 first|rfl|(simp only[E3,E8,E7,E6,B9,D7,D8,G7,B8,C0,H7,G0,C6,C1,C8,H5,I5,G5,D6,E4,D4,K6];done)|(simp only[E3,E8,E7,E6,B9,D7,D8,G7,B8,C0,H7,G0,C6,C1,C8,H5,I5,G5,D6,E4,D4,K6];rfl)
noncomputable def TR(h:AH):AV->Bool
 | .sl k _ _ _=>match Fo h.fams (k)with|some f=>!f.wr|none=>false
 | .mp _=>false
 | .bsl ..=>false
 |_=>true
theorem J9(h:AH)(v:AV):TR h v=Dn h v:=by
 unfold TR Dn
 first|rfl|(simp only[E3,E8,E7,E6,B9,D7,D8,G7,B8,C0,H7,G0,C6,C1,C8,H5,I5,G5,D6,E4,D4,K6,K9];done)|(simp only[E3,E8,E7,E6,B9,D7,D8,G7,B8,C0,H7,G0,C6,C1,C8,H5,I5,G5,D6,E4,D4,K6,K9];rfl)
theorem I6(h:AH):TR h=Dn h:=funext (J9 h)
noncomputable def jN(h:AH):AV->Bool
 | .agg cs=>cs.all (TR h)
 |v=>TR h v
theorem L8(h:AH)(v:AV):jN h v=tame h v:=by
 unfold jN tame
 first|rfl|(simp only[E3,E8,E7,E6,B9,D7,D8,G7,B8,C0,H7,G0,C6,C1,C8,H5,I5,G5,D6,E4,D4,K6,K9,J9,I6];done)|(simp only[E3,E8,E7,E6,B9,D7,D8,G7,B8,C0,H7,G0,C6,C1,C8,H5,I5,G5,D6,E4,D4,K6,K9,J9,I6];rfl)
theorem K5(h:AH):jN h=tame h:=funext (L8 h)
noncomputable def ZH(a:List (List AV)):List (List AV)->Nat:=a.rec (λb=>b.rec (nat_lit 1) (λ_ _ _=>nat_lit 2)) (λx _ ih b=>b.rec (nat_lit 0) (λy ys _=>(Fy x y).rec (nat_lit 0) (ih ys)))
theorem rh:∀(a b:List (List AV)),(ZH a b=1↔b=a)/\((ZH a b=1\/ZH a b=2)↔b.take a.length=a)
 | [],[]=>by simp[ZH]
 | [],_::_=>by simp[ZH]
 |_::_,[]=>by simp[ZH]
 |x::a,y::b=>by
  have e:ZH (x::a) (y::b)=((Fy x y).rec 0 (ZH a b):Nat):=rfl;obtain⟨h1,h2⟩:=rh a b;rw[e];cases h:Fy x y with
  |false =>
   have hn:x≠y:=λk=>by rw[(W8 x y).2 k]at h;cases h
   constructor
   .refine⟨λk=>(nomatch (show (0:Nat)=1 from k)),λk=>?_⟩;cases k;exact absurd rfl hn
   .refine⟨λk=>?_,λk=>?_⟩
    .rcases k with k|k
     .exact(nomatch (show (0:Nat)=1 from k))
     .exact(nomatch (show (0:Nat)=2 from k))
    .rw[zf3z,List.take_succ_cons]at k;exact absurd (List.cons.inj k).1.symm hn
  |true =>
   have hxy:=(W8 x y).1 h;subst hxy;constructor
   .show ZH a b=1↔_;rw[h1];simp
   .show (ZH a b=1\/ZH a b=2)↔_;rw[h2];simp
theorem pfx_le(a:List (List AV)):∀b,ZH a b=0\/ZH a b=1\/ZH a b=2:=by
 induction a with
 |nil =>
  intro b;cases b with
  |nil=>exact .inr (.inl rfl)
  |cons y b=>exact .inr (.inr rfl)
 |cons x a ih =>
  intro b;cases b with
  |nil=>exact .inl rfl
  |cons y b =>
   have e:ZH (x::a) (y::b)=((Fy x y).rec 0 (ZH a b):Nat):=rfl;rw[e];cases Fy x y with
   |false=>exact .inl rfl
   |true=>exact ih b
noncomputable def kpZ(b:Bool)(h:AH)(r:Option (AV×AH)):Option (AV×AH) :=
 match b with
 |false=>r
 |true=>(match r with|some p=>(match ZH h.boxes p.2.boxes with|0=>none|1=>some (p.1,⟨h.boxes,p.2.fams⟩)|_=>(match JJ p.1 with|true=>some (p.1,⟨h.boxes,p.2.fams⟩)|false=>none))|none=>none)
theorem V7(b:Bool)(h:AH)(r:Option (AV×AH)):kpZ b h r=mz b h r:=by
 unfold kpZ mz;cases b with
 |false=>rfl
 |true =>
  cases r with
  |none=>rfl
  |some p =>
   obtain⟨v,h'⟩:=p;show _=(if true=true then _ else _)
   rw[if_pos rfl];obtain⟨k1,k2⟩:=rh h.boxes h'.boxes;have f1:ZH h.boxes h'.boxes≠1->EQ h'.boxes h.boxes=false:=λhn=>by
    cases hq:EQ h'.boxes h.boxes with
    |false=>rfl
    |true=>exact absurd (k1.2 (IV hq)) hn
   dsimp only;rcases pfx_le h.boxes h'.boxes with e|e|e
   .have n2:EQ (h'.boxes.take h.boxes.length) h.boxes=false:=by
     cases hq:EQ (h'.boxes.take h.boxes.length) h.boxes with
     |false=>rfl
     |true =>
      have:=k2.2 (IV hq);rw[e]at this;omega
    rw[e,f1 (by omega),n2];cases JJ v<;>rfl
   .have n1:EQ h'.boxes h.boxes=true:=by rw[k1.1 e];exact KV _
    rw[e,n1];rfl
   .have n2:EQ (h'.boxes.take h.boxes.length) h.boxes=true:=by rw[k2.1 (.inr e)];exact KV _
    rw[e,f1 (by omega),n2];cases JJ v<;>rfl
noncomputable def XB(O:Orc)(c:Ctx)(f:FuncId)(args:List AV)(h:AH):Option (AV×AH) :=
 if c.raw f then kpZ (c.noB f) h (O.raw f args h)
 else
  match RE h true args with
  |none=>none
  |some aas =>
   match O.pure f aas with
   |none=>none
   |some r=>if r.scalar||args.all (jN h)then some (r,h)else none
theorem L0(O:Orc)(c:Ctx)(f:FuncId)(args:I7)(h:AH):XB O c f args h=Di O c f args h:=by
 unfold XB Di
 first|rfl|(simp only[E3,E8,E7,E6,B9,D7,D8,G7,B8,C0,H7,G0,C6,C1,C8,H5,I5,G5,D6,E4,D4,K6,K9,J9,I6,L8,K5,V7];done)|(simp only[E3,E8,E7,E6,B9,D7,D8,G7,B8,C0,H7,G0,C6,C1,C8,H5,I5,G5,D6,E4,D4,K6,K9,J9,I6,L8,K5,V7];rfl)
noncomputable def AH.holesZ(h:AH)(k:Nat):AH:=(zf0z k (nat_lit 0)).rec ⟨Ws h.boxes (zf2z k Dw),h.fams⟩ h
theorem lC(h:AH)(k:Nat):h.holesZ k=h.holes k:=by
 unfold AH.holesZ AH.holes;cases e:zf0z k 0 with
 |true =>
  have:=zf1z e;subst this;simp
 |false=>rw[E7]
noncomputable def TN(g:Opd->AV)(h:AH)(xs:List AV):List (Nat×Opd)->Option (List AV)
 | []=>some xs
 |(i,x)::rest =>
  match Fo xs i,(du h false (g x)).or (OD h (g x))with
  |some z,some y=>if y.cells.length=z.cells.length then TN g h (Qq xs i y) rest else none
  |_,_=>none
theorem K8(g:Opd->AV)(h:AH):∀(ps:List (Nat×Opd)) (xs:I7),TN g h xs ps=NI g h xs ps
 | [],_=>rfl
 |(i,x)::rest,xs=>by
  unfold TN NI;simp only[E3,E8,G7,K8 g h rest]
  first|done|rfl
noncomputable def ux(x:Opd)(O:Orc)(c:Ctx)(g:Opd->AV)(h:AH):Option (AV×AH):=if (g x).isTup then none else some (.ptr (JW h.boxes) 0,{h with boxes:=Ws h.boxes ([(g x).cells])})
theorem uy(x:Opd)(O:Orc)(c:Ctx)(g:Opd->AV)(h:AH):ux x O c g h=pn x O c g h:=by
 unfold ux pn
 first|rfl|(simp only[E3,E8,E7,E6,B9,D7,D8,G7,B8,C0,H7,G0,C6,C1,C8,H5,I5,G5,D6,E4,D4,K6,K9,J9,I6,L8,K5,V7,L0,K8];done)|(simp only[E3,E8,E7,E6,B9,D7,D8,G7,B8,C0,H7,G0,C6,C1,C8,H5,I5,G5,D6,E4,D4,K6,K9,J9,I6,L8,K5,V7,L0,K8];rfl)
noncomputable def ZD(O:Orc)(c:Ctx)(g:Opd->AV)(h:AH):Option (AV×AH):=some (.mp (JW h.boxes),{h with boxes:=Ws h.boxes ([[.mbox [] []]])})
theorem gI(O:Orc)(c:Ctx)(g:Opd->AV)(h:AH):ZD O c g h=XF O c g h:=by
 unfold ZD XF
 first|rfl|(simp only[E3,E8,E7,E6,B9,D7,D8,G7,B8,C0,H7,G0,C6,C1,C8,H5,I5,G5,D6,E4,D4,K6,K9,J9,I6,L8,K5,V7,L0,K8];done)|(simp only[E3,E8,E7,E6,B9,D7,D8,G7,B8,C0,H7,G0,C6,C1,C8,H5,I5,G5,D6,E4,D4,K6,K9,J9,I6,L8,K5,V7,L0,K8];rfl)
noncomputable def ZF(str:Bool)(ok:Bool)(z:AV)(x:Opd)(k:Opd)(O:Orc)(c:Ctx)(g:Opd->AV)(h:AH):Option (AV×AH):=Xd str ok z h (g x) (g k)
theorem gJ(str:Bool)(ok:Bool)(z:AV)(x:Opd)(k:Opd)(O:Orc)(c:Ctx)(g:Opd->AV)(h:AH):ZF str ok z x k O c g h=XG str ok z x k O c g h:=by
 unfold ZF XG
 first|rfl|(simp only[E3,E8,E7,E6,B9,D7,D8,G7,B8,C0,H7,G0,C6,C1,C8,H5,I5,G5,D6,E4,D4,K6,K9,J9,I6,L8,K5,V7,L0,K8];done)|(simp only[E3,E8,E7,E6,B9,D7,D8,G7,B8,C0,H7,G0,C6,C1,C8,H5,I5,G5,D6,E4,D4,K6,K9,J9,I6,L8,K5,V7,L0,K8];rfl)
noncomputable def vB(str:Bool)(x:Opd)(k:Opd)(v:Opd)(O:Orc)(c:Ctx)(g:Opd->AV)(h:AH):Option (AV×AH):=qv str h (g x) (g k) (g v)
theorem vC(str:Bool)(x:Opd)(k:Opd)(v:Opd)(O:Orc)(c:Ctx)(g:Opd->AV)(h:AH):vB str x k v O c g h=qB str x k v O c g h:=by
 unfold vB qB
 first|rfl|(simp only[E3,E8,E7,E6,B9,D7,D8,G7,B8,C0,H7,G0,C6,C1,C8,H5,I5,G5,D6,E4,D4,K6,K9,J9,I6,L8,K5,V7,L0,K8];done)|(simp only[E3,E8,E7,E6,B9,D7,D8,G7,B8,C0,H7,G0,C6,C1,C8,H5,I5,G5,D6,E4,D4,K6,K9,J9,I6,L8,K5,V7,L0,K8];rfl)
noncomputable def Yz(z:AV)(O:Orc)(c:Ctx)(g:Opd->AV)(h:AH):Option (AV×AH):=some (.ptr (JW h.boxes) 0,{h with boxes:=Ws h.boxes ([z.cells])})
theorem gF(z:AV)(O:Orc)(c:Ctx)(g:Opd->AV)(h:AH):Yz z O c g h=XD z O c g h:=by
 unfold Yz XD
 first|rfl|(simp only[E3,E8,E7,E6,B9,D7,D8,G7,B8,C0,H7,G0,C6,C1,C8,H5,I5,G5,D6,E4,D4,K6,K9,J9,I6,L8,K5,V7,L0,K8];done)|(simp only[E3,E8,E7,E6,B9,D7,D8,G7,B8,C0,H7,G0,C6,C1,C8,H5,I5,G5,D6,E4,D4,K6,K9,J9,I6,L8,K5,V7,L0,K8];rfl)
noncomputable def QA(r:Nat)(z:AV)(O:Orc)(c:Ctx)(g:Opd->AV)(h:AH):Option (AV×AH):=PH h r z
theorem ZA(r:Nat)(z:AV)(O:Orc)(c:Ctx)(g:Opd->AV)(h:AH):QA r z O c g h=PP r z O c g h:=by
 unfold QA PP
 first|rfl|(simp only[E3,E8,E7,E6,B9,D7,D8,G7,B8,C0,H7,G0,C6,C1,C8,H5,I5,G5,D6,E4,D4,K6,K9,J9,I6,L8,K5,V7,L0,K8];done)|(simp only[E3,E8,E7,E6,B9,D7,D8,G7,B8,C0,H7,G0,C6,C1,C8,H5,I5,G5,D6,E4,D4,K6,K9,J9,I6,L8,K5,V7,L0,K8];rfl)
noncomputable def Tp(n:Nat)(z:AV)(parts:List (Nat×Opd))(O:Orc)(c:Ctx)(g:Opd->AV)(h:AH):Option (AV×AH):=match TN g h (zf2z n z) parts with|some xs=>some (.vs true z.cells.length xs,h)|none=>none
theorem cg(n:Nat)(z:AV)(parts:List (Nat×Opd))(O:Orc)(c:Ctx)(g:Opd->AV)(h:AH):Tp n z parts O c g h=LI n z parts O c g h:=by
 unfold Tp LI
 first|rfl|(simp only[E3,E8,E7,E6,B9,D7,D8,G7,B8,C0,H7,G0,C6,C1,C8,H5,I5,G5,D6,E4,D4,K6,K9,J9,I6,L8,K5,V7,L0,K8];done)|(simp only[E3,E8,E7,E6,B9,D7,D8,G7,B8,C0,H7,G0,C6,C1,C8,H5,I5,G5,D6,E4,D4,K6,K9,J9,I6,L8,K5,V7,L0,K8];rfl)
noncomputable def QB(n:Nat)(z:AV)(parts:List (Nat×Opd))(O:Orc)(c:Ctx)(g:Opd->AV)(h:AH):Option (AV×AH):=if parts.all (λp=>S0 (g p.2))then (match TN g h (zf2z n z) parts with|some xs=>some (.vs true z.cells.length xs,h)|none=>none)else none
theorem ZB(n:Nat)(z:AV)(parts:List (Nat×Opd))(O:Orc)(c:Ctx)(g:Opd->AV)(h:AH):QB n z parts O c g h=Jq n z parts O c g h:=by
 unfold QB Jq
 first|rfl|(simp only[E3,E8,E7,E6,B9,D7,D8,G7,B8,C0,H7,G0,C6,C1,C8,H5,I5,G5,D6,E4,D4,K6,K9,J9,I6,L8,K5,V7,L0,K8];done)|(simp only[E3,E8,E7,E6,B9,D7,D8,G7,B8,C0,H7,G0,C6,C1,C8,H5,I5,G5,D6,E4,D4,K6,K9,J9,I6,L8,K5,V7,L0,K8];rfl)
noncomputable def z_ld(agg:Bool)(n:Nat)(x:Opd)(O:Orc)(c:Ctx)(g:Opd->AV)(h:AH):Option (AV×AH):=match Mz h agg n (g x)with|some v=>some (v,h)|none=>none
theorem zJ(agg:Bool)(n:Nat)(x:Opd)(O:Orc)(c:Ctx)(g:Opd->AV)(h:AH):z_ld agg n x O c g h=e_ld agg n x O c g h:=by
 unfold z_ld e_ld
 first|rfl|(simp only[E3,E8,E7,E6,B9,D7,D8,G7,B8,C0,H7,G0,C6,C1,C8,H5,I5,G5,D6,E4,D4,K6,K9,J9,I6,L8,K5,V7,L0,K8];done)|(simp only[E3,E8,E7,E6,B9,D7,D8,G7,B8,C0,H7,G0,C6,C1,C8,H5,I5,G5,D6,E4,D4,K6,K9,J9,I6,L8,K5,V7,L0,K8];rfl)
noncomputable def uz(agg:Bool)(n:Nat)(x:Opd)(O:Orc)(c:Ctx)(g:Opd->AV)(h:AH):Option (AV×AH):=match g x with | .ep ..=>none|p=>(match Mz h agg n p with|some v=>some (v,h)|none=>none)
theorem vA(agg:Bool)(n:Nat)(x:Opd)(O:Orc)(c:Ctx)(g:Opd->AV)(h:AH):uz agg n x O c g h=pz agg n x O c g h:=by
 unfold uz pz
 first|rfl|(simp only[E3,E8,E7,E6,B9,D7,D8,G7,B8,C0,H7,G0,C6,C1,C8,H5,I5,G5,D6,E4,D4,K6,K9,J9,I6,L8,K5,V7,L0,K8];done)|(simp only[E3,E8,E7,E6,B9,D7,D8,G7,B8,C0,H7,G0,C6,C1,C8,H5,I5,G5,D6,E4,D4,K6,K9,J9,I6,L8,K5,V7,L0,K8];rfl)
noncomputable def z_st(n:Nat)(a:Opd)(x:Opd)(O:Orc)(c:Ctx)(g:Opd->AV)(h:AH):Option (AV×AH):=match YY h n (g x) (g a)with|some h'=>some (B4,Pd c.lay h' (g x))|none=>none
theorem zK(n:Nat)(a:Opd)(x:Opd)(O:Orc)(c:Ctx)(g:Opd->AV)(h:AH):z_st n a x O c g h=e_st n a x O c g h:=by
 unfold z_st e_st
 first|rfl|(simp only[E3,E8,E7,E6,B9,D7,D8,G7,B8,C0,H7,G0,C6,C1,C8,H5,I5,G5,D6,E4,D4,K6,K9,J9,I6,L8,K5,V7,L0,K8];done)|(simp only[E3,E8,E7,E6,B9,D7,D8,G7,B8,C0,H7,G0,C6,C1,C8,H5,I5,G5,D6,E4,D4,K6,K9,J9,I6,L8,K5,V7,L0,K8];rfl)
noncomputable def vG(n:Nat)(a:Opd)(x:Opd)(O:Orc)(c:Ctx)(g:Opd->AV)(h:AH):Option (AV×AH):=sx h n (g a) (g x)
theorem vH(n:Nat)(a:Opd)(x:Opd)(O:Orc)(c:Ctx)(g:Opd->AV)(h:AH):vG n a x O c g h=qF n a x O c g h:=by
 unfold vG qF
 first|rfl|(simp only[E3,E8,E7,E6,B9,D7,D8,G7,B8,C0,H7,G0,C6,C1,C8,H5,I5,G5,D6,E4,D4,K6,K9,J9,I6,L8,K5,V7,L0,K8];done)|(simp only[E3,E8,E7,E6,B9,D7,D8,G7,B8,C0,H7,G0,C6,C1,C8,H5,I5,G5,D6,E4,D4,K6,K9,J9,I6,L8,K5,V7,L0,K8];rfl)
noncomputable def vD(n:Nat)(a:Opd)(x:Opd)(O:Orc)(c:Ctx)(g:Opd->AV)(h:AH):Option (AV×AH):=ss h n (g a) (g x)
theorem vF(n:Nat)(a:Opd)(x:Opd)(O:Orc)(c:Ctx)(g:Opd->AV)(h:AH):vD n a x O c g h=qE n a x O c g h:=by
 unfold vD qE
 first|rfl|(simp only[E3,E8,E7,E6,B9,D7,D8,G7,B8,C0,H7,G0,C6,C1,C8,H5,I5,G5,D6,E4,D4,K6,K9,J9,I6,L8,K5,V7,L0,K8];done)|(simp only[E3,E8,E7,E6,B9,D7,D8,G7,B8,C0,H7,G0,C6,C1,C8,H5,I5,G5,D6,E4,D4,K6,K9,J9,I6,L8,K5,V7,L0,K8];rfl)
noncomputable def QC(z:AV)(bytes:Nat)(l:Opd)(q:Opd)(O:Orc)(c:Ctx)(g:Opd->AV)(h:AH):Option (AV×AH):=
  match g l,g q with
  | .int _ a,.int _ b =>
   if 0<=a/\a<=b/\b*bytes<=P7/\b<=maxLen then
    some (.sl (JW h.fams) a.toNat 0 a.toNat,{h with fams:=Ws h.fams ([⟨zf2z a.toNat z,z.cells.length,true⟩])})
   else none
  |_,_=>none
theorem ZE(z:AV)(bytes:Nat)(l:Opd)(q:Opd)(O:Orc)(c:Ctx)(g:Opd->AV)(h:AH):QC z bytes l q O c g h=PQ z bytes l q O c g h:=by
 unfold QC PQ
 first|rfl|(simp only[E3,E8,E7,E6,B9,D7,D8,G7,B8,C0,H7,G0,C6,C1,C8,H5,I5,G5,D6,E4,D4,K6,K9,J9,I6,L8,K5,V7,L0,K8];done)|(simp only[E3,E8,E7,E6,B9,D7,D8,G7,B8,C0,H7,G0,C6,C1,C8,H5,I5,G5,D6,E4,D4,K6,K9,J9,I6,L8,K5,V7,L0,K8];rfl)
noncomputable def uv(sz:Nat)(bytes:Nat)(s:Opd)(x:Opd)(O:Orc)(c:Ctx)(g:Opd->AV)(h:AH):Option (AV×AH):=Rj c h sz bytes (g s) (g x)
theorem uw(sz:Nat)(bytes:Nat)(s:Opd)(x:Opd)(O:Orc)(c:Ctx)(g:Opd->AV)(h:AH):uv sz bytes s x O c g h=pi sz bytes s x O c g h:=by
 unfold uv pi
 first|rfl|(simp only[E3,E8,E7,E6,B9,D7,D8,G7,B8,C0,H7,G0,C6,C1,C8,H5,I5,G5,D6,E4,D4,K6,K9,J9,I6,L8,K5,V7,L0,K8];done)|(simp only[E3,E8,E7,E6,B9,D7,D8,G7,B8,C0,H7,G0,C6,C1,C8,H5,I5,G5,D6,E4,D4,K6,K9,J9,I6,L8,K5,V7,L0,K8];rfl)
noncomputable def gG(f:FuncId)(args:List Opd)(O:Orc)(c:Ctx)(g:Opd->AV)(h:AH):Option (AV×AH):=XB O c f (args.map g) h
theorem mr(f:FuncId)(args:List Opd)(O:Orc)(c:Ctx)(g:Opd->AV)(h:AH):gG f args O c g h=da f args O c g h:=by
 unfold gG da
 first|rfl|(simp only[E3,E8,E7,E6,B9,D7,D8,G7,B8,C0,H7,G0,C6,C1,C8,H5,I5,G5,D6,E4,D4,K6,K9,J9,I6,L8,K5,V7,L0,K8];done)|(simp only[E3,E8,E7,E6,B9,D7,D8,G7,B8,C0,H7,G0,C6,C1,C8,H5,I5,G5,D6,E4,D4,K6,K9,J9,I6,L8,K5,V7,L0,K8];rfl)
noncomputable def ZC(x:Opd)(args:List Opd)(O:Orc)(c:Ctx)(g:Opd->AV)(h:AH):Option (AV×AH):=match g x with | .fn f caps=>if c.raw f&&!c.rawv then none else XB O c f (args.map g++caps) h|_=>none
theorem gH(x:Opd)(args:List Opd)(O:Orc)(c:Ctx)(g:Opd->AV)(h:AH):ZC x args O c g h=XE x args O c g h:=by
 unfold ZC XE
 first|rfl|(simp only[E3,E8,E7,E6,B9,D7,D8,G7,B8,C0,H7,G0,C6,C1,C8,H5,I5,G5,D6,E4,D4,K6,K9,J9,I6,L8,K5,V7,L0,K8];done)|(simp only[E3,E8,E7,E6,B9,D7,D8,G7,B8,C0,H7,G0,C6,C1,C8,H5,I5,G5,D6,E4,D4,K6,K9,J9,I6,L8,K5,V7,L0,K8];rfl)
noncomputable def XN(o:ROp):Orc->Ctx->(Opd->AV)->AH->Option (AV×AH):=o.rec zf qD ux ZD ZF vB Zl qC Yz QA RC Tp QB z_ld uz z_st vG vD zW gw gt zV gy e_un pt pw po pq QC ze zd gz gu zY gv Zk zZ zX za uv pj zb zc qA gG ZC
theorem SF(o:ROp)(O:Orc)(c:Ctx)(g:Opd->AV)(h:AH):XN o O c g h=Hn o O c g h:=by
 cases o with
 |box=>exact uy _ O c g h
 |mkmap=>exact gI O c g h
 |mlook=>exact gJ _ _ _ _ _ O c g h
 |mup=>exact vC _ _ _ _ O c g h
 |alloc=>exact gF _ O c g h
 |allocAt=>exact ZA _ _ O c g h
 |bslice=>exact cg _ _ _ O c g h
 |bslicev=>exact ZB _ _ _ O c g h
 |ld=>exact zJ _ _ _ O c g h
 |ldb=>exact vA _ _ _ O c g h
 |st=>exact zK _ _ _ O c g h
 |stb=>exact vF _ _ _ O c g h
 |ste=>exact vH _ _ _ O c g h
 |app=>exact uw _ _ _ _ O c g h
 |call=>exact mr _ _ O c g h
 |callv=>exact gH _ _ O c g h
 |mkslice=>exact ZE _ _ _ _ O c g h
 |_=>rfl
end Go.Abs
