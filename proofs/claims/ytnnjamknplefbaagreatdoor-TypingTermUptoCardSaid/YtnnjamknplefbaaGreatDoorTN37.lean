/- A part of the proof. -/
import Derived.Test.YtnnjamknplefbaaGreatDoorTN36
set_option linter.all false
open Bool renaming and_eq_true->zf0z,eq_iff_iff->zf1z,noConfusion->zf2z,not_eq_true'->zf7z,not_eq_true->zf8z
open Nat renaming eq_of_beq_eq_true->zf3z,beq->zf5z,zero_add->zg2z,add->zg3z
open List renaming replicate->zf4z,mem_of_find?_eq_some->zf6z,all_eq_true->zf9z,isEmpty_iff->zg0z,find?_some->zg1z,range->zg4z
set_option linter.all false
set_option linter.unusedVariables false
namespace Go.Abs
noncomputable def UN(h:AH)(agg:Bool)(n:Nat):AV->Option AV
 | .pv cs=>Q6 agg n cs
 | .ptr b off =>
  match KK h.boxes (b)with
  |some cs=>if BE cs then au agg n off cs else Q6 agg n (cs.drop off)
  |none=>none
 | .ep k m i c sz =>
  match KK h.fams (k)with
  |some f=>if (PN f.xs)=m/\f.sz=sz then (match KK f.xs i with|some x=>Q6 agg n (x.cells.drop c)|none=>none)else none
  |none=>none
 |_=>none
theorem S1(h agg n v):UN h agg n v=X3 h agg n v:=by
 unfold UN X3
 first|rfl|(simp only[T6,x7,u7,i9]<;>rfl)
noncomputable def sn(h:AH)(am:Bool):AV->Option AV
 | .bsl b sz off len=>wE h am b sz off len
 | .sl k n off len =>
  match KK h.fams (k)with
  |some f=>if (PN f.xs)=n/\off+len<=n/\(am||!f.wr)=true then some (.vs false f.sz ((f.xs.drop off).take len))else none
  |none=>none
 | .ep ..=>none
 | .ptr ..=>none
 | .agg _=>none
 | .tup _=>none
 | .mbox ..=>none
 | .rbox _=>none
 | .tbox ..=>none
 | .mp b=>match KK h.boxes (b)with|some [.mbox ks vs]=>if am then (Tc h am vs).map (.vm ks)else none|_=>none
 | .fn f caps=>if caps.all AV.flat then some (.fn f caps)else none
 |x=>some x
theorem r9(h am v):sn h am v=Cr h am v:=by
 unfold sn Cr
 first|rfl|(simp only[T6,x7,u7,i9,S1]<;>rfl)
noncomputable def ss(h:AH)(am:Bool):List AV->Option (List AV)
 | []=>some []
 |x::xs=>(sn h am x).bind λy=>(ss h am xs).map (y::·)
theorem s6(h am):∀(l:b9),ss h am l=NV h am l
 | []=>rfl
 |x::l=>by
  unfold ss NV;simp only[T6,x7,u7,i9,S1,r9,s6 h am l]
noncomputable def nv(h:AH)(am:Bool):AV->Option AV
 | .agg cs=>(ss h am cs).map .agg
 |x=>sn h am x
theorem Bz(h am v):nv h am v=frz h am v:=by
 unfold nv frz
 first|rfl|(simp only[T6,x7,u7,i9,S1,r9,s6]<;>rfl)
noncomputable def Yw(h:AH)(am:Bool):List AV->Option (List AV)
 | []=>some []
 |x::xs=>(nv h am x).bind λy=>(Yw h am xs).map (y::·)
theorem U2(h am):∀(l:b9),Yw h am l=AX h am l
 | []=>rfl
 |x::l=>by
  unfold Yw AX;simp only[T6,x7,u7,i9,S1,r9,s6,Bz,U2 h am l]
noncomputable def ZD(h:AH)(n:Nat)(v:AV)(k m i c sz:Nat):Option AH :=
 match KK h.fams (k)with
 |some f =>
  if (PN f.xs)=m/\f.sz=sz/\f.wr=true then
   match KK f.xs i,nv h false v with
   |some x,some u =>
    if u.cells.length=n/\c+n<=x.cells.length then
     (x.reform (j8 x.cells c u.cells)).map λy=>{h with fams:=Yl h.fams k {f with xs:=f.xs.set i y}}
    else none
   |_,_=>none
  else none
 |none=>none
theorem Z8(h n v k m i c sz):ZD h n v k m i c sz=Ic h n v k m i c sz:=by
 unfold ZD Ic
 first|rfl|(simp only[T6,x7,u7,i9,S1,r9,s6,Bz,U2]<;>rfl)
noncomputable def stTZ(h:AH)(b n off:Nat)(v:AV):List AV->Option AH
 | [.tbox t ys]=>if v.isTup=false/\v.cells.length=n/\off+n<=ys.length then some {h with boxes:=Yl h.boxes b [.tbox t (j8 ys off v.cells)]} else none
 |_=>none
theorem Eb(h b n off v cs):stTZ h b n off v cs=mz h b n off v cs:=by
 unfold stTZ mz
 first|rfl|(simp only[T6,x7,u7,i9,S1,r9,s6,Bz,U2,Z8]<;>rfl)
noncomputable def A0P(h:AH)(v:AV):Option AH:=match nv h false v with|some _=>some h|none=>mG h v
theorem DD(h v):A0P h v=kU h v:=by
 unfold A0P kU
 first|rfl|(simp only[T6,x7,u7,i9,S1,r9,s6,Bz,U2,Z8,Eb]<;>rfl)
noncomputable def iU(h:AH)(n:Nat)(v:AV):AV->Option AH
 | .ptr b off =>
  match KK h.boxes (b)with
  |some cs=>if BE cs=false/\v.isTup=false/\v.cells.length=n/\off+n<=cs.length then some {h with boxes:=Yl h.boxes b (j8 cs off v.cells)} else stTZ h b n off v cs
  |none=>none
 | .ep k m i c sz=>match A0P h v with|some h1=>ZD h1 n v k m i c sz|none=>none
 |_=>none
theorem Ae(h n v p):iU h n v p=DX h n v p:=by
 unfold iU DX
 first|rfl|(simp only[T6,x7,u7,i9,S1,r9,s6,Bz,U2,Z8,Eb,DD]<;>rfl)
noncomputable def aH(h:AH):AV->Option (List AV×List AV)
 | .vm ks vs=>some (ks,vs)
 | .mp b=>match KK h.boxes (b)with|some [.mbox ks vs]=>some (ks,vs)|_=>none
 | .nilm=>some ([],[])
 |_=>none
theorem AF(h x):aH h x=Hz h x:=by
 unfold aH Hz
 first|rfl|(simp only[T6,x7,u7,i9,S1,r9,s6,Bz,U2,Z8,Eb,DD,Ae]<;>rfl)
noncomputable def gb(str ok:Bool)(z:AV)(h:AH)(x k:AV):Option (AV×AH) :=
 if VY str k then
  match aH h x with
  |some (ks,vs) =>
   match NU str k ks 0 with
   |some (some i)=>match vs[i]? with|some v=>some (if ok then .tup [v,.bool true]else v,h)|none=>none
   |some none=>some (if ok then .tup [z,.bool false]else z,h)
   |none=>none
  |none=>none
 else none
theorem CO(str ok z h x k):gb str ok z h x k=Js str ok z h x k:=by
 unfold gb Js
 first|rfl|(simp only[T6,x7,u7,i9,S1,r9,s6,Bz,U2,Z8,Eb,DD,Ae,AF]<;>rfl)
noncomputable def A0g(h:AH):AV->Option AV
 | .sl k n off len=>some (.sl k n off len)
 |x=>nv h false x
theorem HT(h v):A0g h v=wd h v:=by
 unfold A0g wd
 first|rfl|(simp only[T6,x7,u7,i9,S1,r9,s6,Bz,U2,Z8,Eb,DD,Ae,AF,CO]<;>rfl)
noncomputable def A0f(str:Bool)(h:AH)(x k v:AV):Option (AV×AH) :=
 match x with
 | .mp b =>
  match KK h.boxes (b),A0g h v with
  |some [.mbox ks vs],some u =>
   if VY str k/\u.isTup=false then
    match NU str k ks 0 with
    |some (some i)=>some (B9,{h with boxes:=Yl h.boxes b [.mbox ks (vs.set i u)]})
    |some none=>some (B9,{h with boxes:=Yl h.boxes b [.mbox (ks++[k]) (vs++[u])]})
    |none=>none
   else none
  |_,_=>none
 |_=>none
theorem In(str h x k v):A0f str h x k v=cv str h x k v:=by
 unfold A0f cv
 first|rfl|(simp only[T6,x7,u7,i9,S1,r9,s6,Bz,U2,Z8,Eb,DD,Ae,AF,CO,HT]<;>rfl)
noncomputable def nc(h:AH)(sz:Nat):AV->Option (List AV)
 | .vs _ z xs=>if z=sz\/xs.length=0 then some xs else none
 | .sl k n off len =>
  match KK h.fams (k)with
  |some f=>if (PN f.xs)=n/\f.sz=sz/\off+len<=n then some ((f.xs.drop off).take len)else none
  |none=>none
 |_=>none
theorem Hu(h sz v):nc h sz v=elems h sz v:=by
 unfold nc elems
 first|rfl|(simp only[T6,x7,u7,i9,S1,r9,s6,Bz,U2,Z8,Eb,DD,Ae,AF,CO,HT,In]<;>rfl)
noncomputable def ZU(c:Ctx)(h:AH)(sz bytes:Nat)(s:AV)(ys:List AV):Option (AV×AH) :=
 match s with
 | .vs true z xs =>
  if ys.length=0 then some (.vs true z xs,h)
  else if (z=sz\/xs.length=0)/\(xs.length+ys.length)*bytes<=K7/\xs.length+ys.length<=maxLen then
   some (.sl (PN h.fams) (xs.length+ys.length) 0 (xs.length+ys.length),{h with fams:=fX h.fams ([⟨xs++ys,sz,c.mutApp⟩])})
  else none
 | .sl k n off len =>
  match KK h.fams (k)with
  |some f =>
   if (PN f.xs)=n/\f.sz=sz/\off+len=n/\(n+ys.length)*bytes<=K7/\n+ys.length<=maxLen then
    some (.sl k (n+ys.length) off (len+ys.length),{h with fams:=Yl h.fams k {f with xs:=fX f.xs ys}})
   else if (PN f.xs)=n/\f.sz=sz/\f.wr=true/\off+len+ys.length<=n then
    some (.sl k n off (len+ys.length),{h with fams:=Yl h.fams k {f with xs:=f.xs.take (off+len)++ys++f.xs.drop (off+len+ys.length)}})
   else none
  |none=>none
 |_=>none
theorem FJ(c h sz bytes s ys):ZU c h sz bytes s ys=q9 c h sz bytes s ys:=by
 unfold ZU q9
 first|rfl|(simp only[T6,x7,u7,i9,S1,r9,s6,Bz,U2,Z8,Eb,DD,Ae,AF,CO,HT,In,Hu]<;>rfl)
noncomputable def ZT(c:Ctx)(h:AH)(sz bytes:Nat)(s x:AV):Option (AV×AH) :=
 match nc h sz x with
 |none=>none
 |some ys=>ZU c h sz bytes s ys
theorem HN(c h sz bytes s x):ZT c h sz bytes s x=N0 c h sz bytes s x:=by
 unfold ZT N0
 first|rfl|(simp only[T6,x7,u7,i9,S1,r9,s6,Bz,U2,Z8,Eb,DD,Ae,AF,CO,HT,In,Hu,FJ]<;>rfl)
noncomputable def Wq(h:AH)(r:Nat)(z:AV):Option (AV×AH) :=
 match KK h.boxes ((PN h.boxes)-r)with
 |some cs=>if CU cs then some (.ptr ((PN h.boxes)-r) 0,{h with boxes:=Yl h.boxes ((PN h.boxes)-r) z.cells})else none
 |none=>none
theorem Hs(h r z):Wq h r z=AW h r z:=by
 unfold Wq AW
 first|rfl|(simp only[T6,x7,u7,i9,S1,r9,s6,Bz,U2,Z8,Eb,DD,Ae,AF,CO,HT,In,Hu,FJ,HN]<;>rfl)
noncomputable def A1d(h:AH)(n:Nat)(p x:AV):Option (AV×AH) :=
 match p with
 | .ep k m i q s=>if M9 x then (match ZD h n x k m i q s with|some h'=>some (B9,h')|none=>none)else none
 |_=>none
theorem Sc(h n p x):A1d h n p x=WW h n p x:=by
 unfold A1d WW
 first|rfl|(simp only[T6,x7,u7,i9,S1,r9,s6,Bz,U2,Z8,Eb,DD,Ae,AF,CO,HT,In,Hu,FJ,HN,Hs]<;>rfl)
noncomputable def A1a(h:AH)(n:Nat)(p x:AV):Option (AV×AH) :=
 match p with
 | .ptr b o =>
  match KK h.boxes (b)with
  |some cs=>if BE cs=false/\x.isTup=false/\x.cells.length=n/\o+n<=cs.length then some (B9,{h with boxes:=Yl h.boxes b (j8 cs o x.cells)})else (stTZ h b n o x cs).map λh'=>(B9,h')
  |none=>none
 |_=>none
theorem WV(h n p x):A1a h n p x=TP h n p x:=by
 unfold A1a TP
 first|rfl|(simp only[T6,x7,u7,i9,S1,r9,s6,Bz,U2,Z8,Eb,DD,Ae,AF,CO,HT,In,Hu,FJ,HN,Hs,Sc]<;>rfl)
noncomputable def bQ(h:AH):AV->Bool
 | .sl k _ _ _=>match KK h.fams (k)with|some f=>!f.wr|none=>false
 | .mp _=>false
 | .bsl ..=>false
 |_=>true
theorem TJ(h v):bQ h v=Hl h v:=by
 unfold bQ Hl
 first|rfl|(simp only[T6,x7,u7,i9,S1,r9,s6,Bz,U2,Z8,Eb,DD,Ae,AF,CO,HT,In,Hu,FJ,HN,Hs,Sc,WV]<;>rfl)
theorem Ud(h):bQ h=Hl h:=funext (TJ h)
noncomputable def uM(h:AH):AV->Bool
 | .agg cs=>cs.all (bQ h)
 |v=>bQ h v
theorem bR(h v):uM h v=tame h v:=by
 unfold uM tame
 first|rfl|(simp only[T6,x7,u7,i9,S1,r9,s6,Bz,U2,Z8,Eb,DD,Ae,AF,CO,HT,In,Hu,FJ,HN,Hs,Sc,WV,TJ,Ud]<;>rfl)
theorem ez(h):uM h=tame h:=funext (bR h)
noncomputable def jP(a:List (List AV)):List (List AV)->Nat:=a.rec (λb=>b.rec (nat_lit 1) (λ_ _ _=>nat_lit 2)) (λx _ ih b=>b.rec (nat_lit 0) (λy ys _=>(KV x y).rec (nat_lit 0) (ih ys)))
theorem A1F:∀(a b:List (List AV)),(jP a b=1↔b=a)/\((jP a b=1\/jP a b=2)↔b.take a.length=a)
 | [],[]=>by simp[jP]
 | [],_::_=>by simp[jP]
 |_::_,[]=>by simp[jP]
 |x::a,y::b=>by
  have e:jP (x::a) (y::b)=((KV x y).rec 0 (jP a b):Nat):=rfl;obtain⟨h1,h2⟩:=A1F a b;rw[e];cases h:KV x y with
  |false =>
   have hn:x≠y:=λk=>by rw[(Z1 x y).2 k]at h;cases h
   constructor
   .refine⟨λk=>(nomatch (show (0:Nat)=1 from k)),λk=>?_⟩;cases k;exact absurd rfl hn
   .refine⟨λk=>?_,λk=>?_⟩
    .rcases k with k|k
     .exact(nomatch (show (0:Nat)=1 from k))
     .exact(nomatch (show (0:Nat)=2 from k))
    .rw[List.length_cons,List.take_succ_cons]at k;exact absurd (List.cons.inj k).1.symm hn
  |true =>
   have hxy:=(Z1 x y).1 h;subst hxy;constructor
   .show jP a b=1↔_;rw[h1];simp
   .show (jP a b=1\/jP a b=2)↔_;rw[h2];simp
theorem pfx_le(a):∀b,jP a b=0\/jP a b=1\/jP a b=2:=by
 induction a with
 |nil =>
  intro b;cases b with
  |nil=>exact .inr (.inl rfl)
  |cons y b=>exact .inr (.inr rfl)
 |cons x a ih =>
  intro b;cases b with
  |nil=>exact .inl rfl
  |cons y b =>
   have e:jP (x::a) (y::b)=((KV x y).rec 0 (jP a b):Nat):=rfl;rw[e];cases KV x y with
   |false=>exact .inl rfl
   |true=>exact ih b
noncomputable def kpZ(b:Bool)(h:AH)(r:Option (AV×AH)):Option (AV×AH) :=
 match b with
 |false=>r
 |true=>(match r with|some p=>(match jP h.boxes p.2.boxes with|0=>none|1=>some (p.1,⟨h.boxes,p.2.fams⟩)|_=>(match Ox p.1 with|true=>some (p.1,⟨h.boxes,p.2.fams⟩)|false=>none))|none=>none)
theorem A0M(b h r):kpZ b h r=yG b h r:=by
 unfold kpZ yG;cases b with
 |false=>rfl
 |true =>
  cases r with
  |none=>rfl
  |some p =>
   obtain⟨v,h'⟩:=p;show _=(if true=true then _ else _)
   rw[if_pos rfl];obtain⟨k1,k2⟩:=A1F h.boxes h'.boxes;have f1:jP h.boxes h'.boxes≠1->Hv h'.boxes h.boxes=false:=λhn=>by
    cases hq:Hv h'.boxes h.boxes with
    |false=>rfl
    |true=>exact absurd (k1.2 (NT hq)) hn
   dsimp only;rcases pfx_le h.boxes h'.boxes with e|e|e
   .have n2:Hv (h'.boxes.take h.boxes.length) h.boxes=false:=by
     cases hq:Hv (h'.boxes.take h.boxes.length) h.boxes with
     |false=>rfl
     |true =>
      have:=k2.2 (NT hq);rw[e]at this;omega
    rw[e,f1 a_,n2];cases Ox v<;>rfl
   .have n1:Hv h'.boxes h.boxes=true:=by rw[k1.1 e];exact Qj _
    rw[e,n1];rfl
   .have n2:Hv (h'.boxes.take h.boxes.length) h.boxes=true:=by rw[k2.1 (.inr e)];exact Qj _
    rw[e,f1 a_,n2];cases Ox v<;>rfl
noncomputable def ft(O:Orc)(c:Ctx)(f:FuncId)(args:List AV)(h:AH):Option (AV×AH) :=
 if c.raw f then kpZ (c.noB f) h (O.raw f args h)
 else
  match Yw h true args with
  |none=>none
  |some aas =>
   match O.pure f aas with
   |none=>none
   |some r=>if r.scalar||args.all (uM h)then some (r,h)else none
theorem vU(O c f args h):ft O c f args h=Gu O c f args h:=by
 unfold ft Gu
 first|rfl|(simp only[T6,x7,u7,i9,S1,r9,s6,Bz,U2,Z8,Eb,DD,Ae,AF,CO,HT,In,Hu,FJ,HN,Hs,Sc,WV,TJ,Ud,bR,ez,A0M]<;>rfl)
noncomputable def AH.holesZ(h:AH)(k:Nat):AH:=(zf5z k (nat_lit 0)).rec ⟨fX h.boxes (zf4z k ET),h.fams⟩ h
theorem wI(h:AH)(k):h.holesZ k=h.holes k:=by
 unfold AH.holesZ AH.holes;cases e:zf5z k 0 with
 |true =>
  have:=zf3z e;subst this;simp
 |false=>rw[u7]
noncomputable def bM(g:Opd->AV)(h:AH)(xs:List AV):List (Nat×Opd)->Option (List AV)
 | []=>some xs
 |(i,x)::rest =>
  match KK xs i,(nv h false (g x)).or (VX h (g x))with
  |some z,some y=>if y.cells.length=z.cells.length then bM g h (Yl xs i y) rest else none
  |_,_=>none
theorem eh(g h):∀(ps:List (Nat×Opd)) (xs:b9),bM g h xs ps=Uc g h xs ps
 | [],_=>rfl
 |(i,x)::rest,xs=>by
  unfold bM Uc;simp only[T6,x7,Bz,eh g h rest]
  first|done|rfl
noncomputable def z_box(x:Opd)(O:Orc)(c:Ctx)(g:Opd->AV)(h:AH):Option (AV×AH):=if (g x).isTup then none else some (.ptr (PN h.boxes) 0,{h with boxes:=fX h.boxes ([(g x).cells])})
theorem zq{p:Prop}(h:p:=by first|rfl|(simp only[T6,x7,u7,i9,S1,r9,s6,Bz,U2,Z8,Eb,DD,Ae,AF,CO,HT,In,Hu,FJ,HN,Hs,Sc,WV,TJ,Ud,bR,ez,A0M,vU,eh]<;>rfl)):p:=h
theorem z_box_eq(x O c g h):z_box x O c g h=zT x O c g h:=by
 unfold z_box zT;exact zq
noncomputable def jL(O:Orc)(c:Ctx)(g:Opd->AV)(h:AH):Option (AV×AH):=some (.mp (PN h.boxes),{h with boxes:=fX h.boxes ([[.mbox [] []]])})
theorem rW(O c g h):jL O c g h=gC O c g h:=by
 unfold jL gC;exact zq
noncomputable def jN(str:Bool)(ok:Bool)(z:AV)(x:Opd)(k:Opd)(O:Orc)(c:Ctx)(g:Opd->AV)(h:AH):Option (AV×AH):=gb str ok z h (g x) (g k)
theorem rX(str ok z x k O c g h):jN str ok z x k O c g h=gD str ok z x k O c g h:=by
 unfold jN gD;exact zq
noncomputable def z_mup(str:Bool)(x:Opd)(k:Opd)(v:Opd)(O:Orc)(c:Ctx)(g:Opd->AV)(h:AH):Option (AV×AH):=A0f str h (g x) (g k) (g v)
theorem z_mup_eq(str x k v O c g h):z_mup str x k v O c g h=zY str x k v O c g h:=by
 unfold z_mup zY;exact zq
noncomputable def jH(z:AV)(O:Orc)(c:Ctx)(g:Opd->AV)(h:AH):Option (AV×AH):=some (.ptr (PN h.boxes) 0,{h with boxes:=fX h.boxes ([z.cells])})
theorem rT(z O c g h):jH z O c g h=gA z O c g h:=by
 unfold jH gA;exact zq
noncomputable def Xl(r:Nat)(z:AV)(O:Orc)(c:Ctx)(g:Opd->AV)(h:AH):Option (AV×AH):=Wq h r z
theorem jI(r z O c g h):Xl r z O c g h=XA r z O c g h:=by
 unfold Xl XA;exact zq
noncomputable def cJ(n:Nat)(z:AV)(parts:List (Nat×Opd))(O:Orc)(c:Ctx)(g:Opd->AV)(h:AH):Option (AV×AH):=match bM g h (zf4z n z) parts with|some xs=>some (.vs true z.cells.length xs,h)|none=>none
theorem mw(n z parts O c g h):cJ n z parts O c g h=Rp n z parts O c g h:=by
 unfold cJ Rp;exact zq
noncomputable def Xm(n:Nat)(z:AV)(parts:List (Nat×Opd))(O:Orc)(c:Ctx)(g:Opd->AV)(h:AH):Option (AV×AH):=if parts.all (λp=>M9 (g p.2))then (match bM g h (zf4z n z) parts with|some xs=>some (.vs true z.cells.length xs,h)|none=>none)else none
theorem jJ(n z parts O c g h):Xm n z parts O c g h=Pq n z parts O c g h:=by
 unfold Xm Pq;exact zq
noncomputable def z_ld(agg:Bool)(n:Nat)(x:Opd)(O:Orc)(c:Ctx)(g:Opd->AV)(h:AH):Option (AV×AH):=match UN h agg n (g x)with|some v=>some (v,h)|none=>none
theorem z_ld_eq(agg n x O c g h):z_ld agg n x O c g h=e_ld agg n x O c g h:=by
 unfold z_ld e_ld;exact zq
noncomputable def z_ldb(agg:Bool)(n:Nat)(x:Opd)(O:Orc)(c:Ctx)(g:Opd->AV)(h:AH):Option (AV×AH):=match g x with | .ep ..=>none|p=>(match UN h agg n p with|some v=>some (v,h)|none=>none)
theorem z_ldb_eq(agg n x O c g h):z_ldb agg n x O c g h=zX agg n x O c g h:=by
 unfold z_ldb zX;exact zq
noncomputable def z_st(n:Nat)(a:Opd)(x:Opd)(O:Orc)(c:Ctx)(g:Opd->AV)(h:AH):Option (AV×AH):=match iU h n (g x) (g a)with|some h'=>some (B9,XM c.lay h' (g x))|none=>none
theorem z_st_eq(n a x O c g h):z_st n a x O c g h=e_st n a x O c g h:=by
 unfold z_st e_st;exact zq
noncomputable def z_ste(n:Nat)(a:Opd)(x:Opd)(O:Orc)(c:Ctx)(g:Opd->AV)(h:AH):Option (AV×AH):=A1d h n (g a) (g x)
theorem z_ste_eq(n a x O c g h):z_ste n a x O c g h=zb n a x O c g h:=by
 unfold z_ste zb;exact zq
noncomputable def z_stb(n:Nat)(a:Opd)(x:Opd)(O:Orc)(c:Ctx)(g:Opd->AV)(h:AH):Option (AV×AH):=A1a h n (g a) (g x)
theorem z_stb_eq(n a x O c g h):z_stb n a x O c g h=za n a x O c g h:=by
 unfold z_stb za;exact zq
noncomputable def Xn(z:AV)(bytes:Nat)(l:Opd)(q:Opd)(O:Orc)(c:Ctx)(g:Opd->AV)(h:AH):Option (AV×AH):=
  match g l,g q with
  | .int _ a,.int _ b =>
   if 0<=a/\a<=b/\b*bytes<=K7/\b<=maxLen then
    some (.sl (PN h.fams) a.toNat 0 a.toNat,{h with fams:=fX h.fams ([⟨zf4z a.toNat z,z.cells.length,true⟩])})
   else none
  |_,_=>none
theorem jM(z bytes l q O c g h):Xn z bytes l q O c g h=XB z bytes l q O c g h:=by
 unfold Xn XB;exact zq
noncomputable def z_app(sz:Nat)(bytes:Nat)(s:Opd)(x:Opd)(O:Orc)(c:Ctx)(g:Opd->AV)(h:AH):Option (AV×AH):=ZT c h sz bytes (g s) (g x)
theorem z_app_eq(sz bytes s x O c g h):z_app sz bytes s x O c g h=zQ sz bytes s x O c g h:=by
 unfold z_app zQ;exact zq
noncomputable def rU(f:FuncId)(args:List Opd)(O:Orc)(c:Ctx)(g:Opd->AV)(h:AH):Option (AV×AH):=ft O c f (args.map g) h
theorem yA(f args O c g h):rU f args O c g h=nZ f args O c g h:=by
 unfold rU nZ;exact zq
noncomputable def jK(x:Opd)(args:List Opd)(O:Orc)(c:Ctx)(g:Opd->AV)(h:AH):Option (AV×AH):=match g x with | .fn f caps=>if c.raw f&&!c.rawv then none else ft O c f (args.map g++caps) h|_=>none
theorem rV(x args O c g h):jK x args O c g h=gB x args O c g h:=by
 unfold jK gB;exact zq
noncomputable def gJ(o:ROp):Orc->Ctx->(Opd->AV)->AH->Option (AV×AH):=o.rec e_mov zZ z_box jL jN z_mup jH Xl Yu cJ Xm z_ld z_ldb z_st z_ste z_stb e_clr sO sL e_beq sP e_un zW zU zV Xn e_mkv e_mkb sS sM e_fld sN e_idx e_ext e_len z_app zR e_max e_min rU jK
theorem Zo(o O c g h):gJ o O c g h=Mh o O c g h:=by
 cases o with
 |box=>exact z_box_eq _ O c g h
 |mkmap=>exact rW O c g h
 |mlook=>exact rX _ _ _ _ _ O c g h
 |mup=>exact z_mup_eq _ _ _ _ O c g h
 |alloc=>exact rT _ O c g h
 |allocAt=>exact jI _ _ O c g h
 |bslice=>exact mw _ _ _ O c g h
 |bslicev=>exact jJ _ _ _ O c g h
 |ld=>exact z_ld_eq _ _ _ O c g h
 |ldb=>exact z_ldb_eq _ _ _ O c g h
 |st=>exact z_st_eq _ _ _ O c g h
 |stb=>exact z_stb_eq _ _ _ O c g h
 |ste=>exact z_ste_eq _ _ _ O c g h
 |app=>exact z_app_eq _ _ _ _ O c g h
 |call=>exact yA _ _ O c g h
 |callv=>exact rV _ _ O c g h
 |mkslice=>exact jM _ _ _ _ O c g h
 |_=>rfl
noncomputable def zd(a b:Option (List AV)):Bool:=match a,b with|none,none=>true|some a,some b=>KV a b|_,_=>false
theorem vp(a b):zd a b=NS a b:=by
 cases a<;>cases b<;>first|rfl|exact gG _ _
noncomputable def ju(a b:Fam):Bool:=KV a.xs b.xs&&(zf5z a.sz b.sz&&a.wr == b.wr)
noncomputable def Zl(a b:Option Fam):Bool:=match a,b with|none,none=>true|some a,some b=>ju a b|_,_=>false
theorem VO(a b):ju a b=true↔a=b:=by
 obtain⟨a1,a2,a3⟩:=a;obtain⟨b1,b2,b3⟩:=b;unfold ju;simp only[zf0z,Z1,PS,beq_iff_eq,Fam.mk.injEq]
theorem jv(a b):MX a b=true↔a=b:=by
 cases a with
 |none=>cases b<;>simp[MX]
 |some a =>
  cases b with
  |none=>simp[MX]
  |some b =>
   obtain⟨a1,a2,a3⟩:=a;obtain⟨b1,b2,b3⟩:=b;simp only[MX,zf0z,decide_eq_true_eq,Option.some.injEq,Fam.mk.injEq,←gG,Z1];exact⟨λh=>⟨h.1.1,h.1.2,h.2⟩,λh=>⟨⟨h.1,h.2.1⟩,h.2.2⟩⟩
theorem ze(a b):NS a b=true↔a=b:=by
 cases a with
 |none=>cases b<;>simp[NS]
 |some a =>
  cases b with
  |none=>simp[NS]
  |some b=>simp only[NS,←gG,Z1,Option.some.injEq]
theorem vr(a b):Zl a b=MX a b:=by
 rw[zf1z,jv];cases a with
 |none=>cases b<;>simp[Zl]
 |some a =>
  cases b with
  |none=>simp[Zl]
  |some b=>simp only[Zl,VO,Option.some.injEq]
noncomputable def cY(p:List (List AV)×List (List AV)):Option Nat->Bool
 |none=>!(zf5z (PN p.1) (PN p.2))
 |some i=>!zd (KK p.1 i) (KK p.2 i)
noncomputable def cZ(p:List Fam×List Fam):Option Nat->Bool
 |none=>!(zf5z (PN p.1) (PN p.2))
 |some i=>!Zl (KK p.1 i) (KK p.2 i)
theorem A0h(a b):zf5z a b=(a == b):=by rw[zf1z,PS,beq_iff_eq]
theorem sB(p x):cY p x=chB p x:=by
 cases x with
 |none=>simp only[cY,chB,i9,A0h]
 |some i=>simp only[cY,chB,T6,vp]
theorem sC(p x):cZ p x=chF p x:=by
 cases x with
 |none=>simp only[cZ,chF,i9,A0h]
 |some i=>simp only[cZ,chF,T6,vr]
section
variable {α:Type}
noncomputable def wlN(b:List α)(k:Nat->Bool):Nat->Bool:=b.rec (λ_=>true) (λ_ _ ih i=>(k i).rec false (ih (zg3z i (nat_lit 1))))
noncomputable def xw(eq:α->α->Bool)(a:List α):List α->(Nat->Bool)->Nat->Bool :=
 a.rec (λb k i=>wlN b k i) (λx _ ih b k i=>b.rec ((k i).rec false (ih [] k (zg3z i (nat_lit 1)))) (λy ys _=>((eq x y).rec (k i) true:Bool).rec false (ih ys k (zg3z i (nat_lit 1)))))
theorem iK(a b):(a.rec false b:Bool)=(a&&b):=by cases a<;>rfl
theorem rec_or(a b):(a.rec b true:Bool)=(a||b):=by cases a<;>rfl
theorem uX:∀(b:List α) (k:Nat->Bool) (i:Nat),wlN b k i=true↔∀j,j<b.length->k (i+j)=true
 | [],k,i=>by simp[wlN]
 |y::b,k,i=>by
  show ((k i).rec false (wlN b k (i+1)):Bool)=true↔_;rw[iK,zf0z,uX b k (i+1)];constructor
  .rintro⟨h1,h2⟩ j hj;cases j with
   |zero=>exact h1
   |succ j =>
    have:=h2 j k_;rw[show i+(j+1)=i+1+j by omega];exact this
  .intro h;refine⟨h 0 e_,λj hj=>?_⟩;rw[show i+1+j=i+(j+1) by omega];exact h (j+1) k_
theorem PC{eq}(he:∀x y,eq x y=true↔x=y):∀(a b:List α) (k:Nat->Bool) (i:Nat),xw eq a b k i=true↔∀j,a[j]?≠b[j]?->k (i+j)=true
 | [],b,k,i=>by
  show wlN b k i=true↔_;rw[uX];refine⟨λh j hj=>h j (Nat.lt_of_not_le λhl=>hj (by rw[List.getElem?_eq_none hl];rfl)),λh j hj=>h j ?_⟩;rw[List.getElem?_eq_getElem hj];simp
 |x::a,[],k,i=>by
  show ((k i).rec false (xw eq a [] k (i+1)):Bool)=true↔_;rw[iK,zf0z,PC he a [] k (i+1)];constructor
  .rintro⟨h1,h2⟩ j hj;cases j with
   |zero=>exact h1
   |succ j =>
    rw[show i+(j+1)=i+1+j by omega];exact h2 j k_
  .intro h;refine⟨h 0 e_,λj hj=>?_⟩;rw[show i+1+j=i+(j+1) by omega];exact h (j+1) k_
 |x::a,y::b,k,i=>by
  show (((eq x y).rec (k i) true:Bool).rec false (xw eq a b k (i+1)):Bool)=true↔_;rw[rec_or,iK,zf0z,Bool.or_eq_true,PC he a b k (i+1),he];constructor
  .rintro⟨h1,h2⟩ j hj;cases j with
   |zero =>
    rcases h1 with h1|h1
    .exact absurd (by simp[h1]) hj
    .exact h1
   |succ j =>
    rw[show i+(j+1)=i+1+j by omega];exact h2 j k_
  .intro h;refine⟨?_,λj hj=>?_⟩
   .by_cases e:x=y
    .exact .inl e
    .exact .inr (h 0 (by simpa using e))
   .rw[show i+1+j=i+(j+1) by omega];exact h (j+1) k_
end
theorem Zd(p i):chB p (some i)=true↔p.1[i]?≠p.2[i]?:=by
 have:=ze p.1[i]? p.2[i]?;show (!NS p.1[i]? p.2[i]?)=true↔_;rw[zf7z,←zf8z,this]
theorem Ze(p i):chF p (some i)=true↔p.1[i]?≠p.2[i]?:=by
 have:=jv p.1[i]? p.2[i]?;show (!MX p.1[i]? p.2[i]?)=true↔_;rw[zf7z,←zf8z,this]
noncomputable def apBZ:Option (List (Option Nat))->Option (List (List AV)×List (List AV))->Bool
 |_,none=>true
 |none,some p=>xw KV p.1 p.2 (λ_=>false) (nat_lit 0)
 |some l,some p=>l.all λx=>!cY p x
noncomputable def apFZ:Option (List (Option Nat))->Option (List Fam×List Fam)->Bool
 |_,none=>true
 |none,some p=>xw ju p.1 p.2 (λ_=>false) (nat_lit 0)
 |some l,some p=>l.all λx=>!cZ p x
theorem ZB{α:Type}{a b:List α}(h:∀j:Nat,a[j]?=b[j]?):a=b:=List.ext_getElem? h
theorem rh(r w):apBZ r w=yb r w:=by
 cases w with
 |none=>cases r<;>rfl
 |some p =>
  cases r with
  |some l=>simp only[apBZ,yb,sB]
  |none =>
   show xw KV p.1 p.2 (λ_=>false) 0=(Lv p.1 p.2).isEmpty;rw[zf1z,PC Z1,zg0z];constructor
   .intro h;have e:=(ZB λj=>Classical.byContradiction λhj=>zf2z (h j hj)).symm;exact de e
   .intro h j hj;have:=(Px (p:=p) (x:=some j)).2 ((Zd p j).2 hj);rw[h]at this;cases this
theorem rl(r w):apFZ r w=yc r w:=by
 cases w with
 |none=>cases r<;>rfl
 |some p =>
  cases r with
  |some l=>simp only[apFZ,yc,sC]
  |none =>
   show xw ju p.1 p.2 (λ_=>false) 0=(PK p.1 p.2).isEmpty;rw[zf1z,PC VO,zg0z];constructor
   .intro h;have e:=(ZB λj=>Classical.byContradiction λhj=>zf2z (h j hj)).symm;exact df e
   .intro h j hj;have:=(Py (p:=p) (x:=some j)).2 ((Ze p j).2 hj);rw[h]at this;cases this
noncomputable def wwBZ:Option (List (List AV)×List (List AV))->Option (List (List AV)×List (List AV))->Bool
 |none,_=>true
 |some _,none=>true
 |some p,some q=>((cY p none).rec true (!cY q none))&&xw KV p.1 p.2 (λi=>!cY q (some i)) (nat_lit 0)
noncomputable def wwFZ:Option (List Fam×List Fam)->Option (List Fam×List Fam)->Bool
 |none,_=>true
 |some _,none=>true
 |some p,some q=>((cZ p none).rec true (!cZ q none))&&xw ju p.1 p.2 (λi=>!cZ q (some i)) (nat_lit 0)
theorem uF(a b):(a.rec true b:Bool)=true↔(a=true->b=true):=by cases a<;>simp
theorem wwBZ_eq(w w'):wwBZ w w'=wwB w w':=by
 cases w with
 |none=>rfl
 |some p =>
  cases w' with
  |none=>rfl
  |some q =>
   show (((cY p none).rec true (!cY q none))&&xw KV p.1 p.2 (λi=>!cY q (some i)) 0)=(Lv p.1 p.2).all λx=>!chB q x;rw[zf1z,zf0z,uF,PC Z1,zf9z];simp only[sB,zg2z];constructor
   .rintro⟨h1,h2⟩ x hx;have hx:=Px.1 hx;cases x with
    |none=>exact h1 hx
    |some i=>exact h2 i ((Zd p i).1 hx)
   .intro h;exact⟨λhx=>h none (Px.2 hx),λj hj=>h (some j) (Px.2 ((Zd p j).2 hj))⟩
theorem wwFZ_eq(w w'):wwFZ w w'=wwF w w':=by
 cases w with
 |none=>rfl
 |some p =>
  cases w' with
  |none=>rfl
  |some q =>
   show (((cZ p none).rec true (!cZ q none))&&xw ju p.1 p.2 (λi=>!cZ q (some i)) 0)=(PK p.1 p.2).all λx=>!chF q x;rw[zf1z,zf0z,uF,PC VO,zf9z];simp only[sC,zg2z];constructor
   .rintro⟨h1,h2⟩ x hx;have hx:=Py.1 hx;cases x with
    |none=>exact h1 hx
    |some i=>exact h2 i ((Ze p i).1 hx)
   .intro h;exact⟨λhx=>h none (Py.2 hx),λj hj=>h (some j) (Py.2 ((Ze p j).2 hj))⟩
noncomputable def nL(a b:FQ):Bool:=apBZ a.rb b.wb&&apBZ b.rb a.wb&&wwBZ a.wb b.wb&&apFZ a.rf b.wf&&apFZ b.rf a.wf&&wwFZ a.wf b.wf
theorem vP(a b):nL a b=ZR a b:=by
 unfold nL ZR;rw[rh,rh,wwBZ_eq,rl,rl,wwFZ_eq]
noncomputable def tL(bj:Nat)(i:Nat)(oi oj:RO)(fi fj:FQ):Bool :=
 bj.testBit i ||
  (
   (match oi.dst with|some d=>!oj.slots.contains d&&oj.dst != some d|none=>true) &&
   (match oj.dst with|some d=>!oi.slots.contains d|none=>true)&&nL fi fj)
noncomputable def WE(bs:List Nat)(C9:List RO)(fs:List FQ):Bool :=
 (zg4z C9.length).all λj=>(zg4z j).all λi =>
  match KK C9 i,KK C9 j,KK fs i,KK fs j with
  |some oi,some oj,some fi,some fj=>tL (bs.getD j 0) i oi oj fi fj&&(match oi.dst,oj.dst with|some d,some e=>d != e|_,_=>true)
  |_,_,_,_=>false
theorem lR(bs C9 fs):WE bs C9 fs=Ln bs C9 fs:=by
 unfold WE Ln;congr 1;funext j;congr 1;funext i;rw[T6,T6,T6,T6];cases C9[i]?<;>cases C9[j]?<;>cases fs[i]?<;>cases fs[j]?<;>try rfl
 simp only[tL,gp,vP];rfl
noncomputable def fqZ(c:Ctx)(g:Opd->AV)(r:ROp)(h h1:AH):FQ:=⟨JR c (PN h.boxes) g r,if r.writesB c then some (h.boxes,h1.boxes)else none,Gl c g r,if r.writesF c then some (h.fams,h1.fams)else none⟩
theorem fqZ_eq(c g r h h1):fqZ c g r h h1=wC c g r h h1:=by unfold fqZ wC;rw[i9]
noncomputable def sy(o:RO)(ih:Orc->Ctx->FT->AH->Option (FT×AH))(O:Orc)(c:Ctx)(t:FT)(h:AH)(b:Bool):Option (FT×AH) :=
 b.rec (ih O c (UV t o.dst B9) h) (l_one o ih O c t (gJ o.op O c (gT t.get) h))
noncomputable def gS(o:RO)(_:List RO)(ih:Orc->Ctx->FT->AH->Option (FT×AH))(O:Orc)(c:Ctx)(t:FT)(h:AH):Option (FT×AH) :=
 (LO t.get o.guard).rec none (sy o ih O c t h)
noncomputable def A0q(l:List RO):Orc->Ctx->FT->AH->Option (FT×AH):=l.rec l_nil gS
theorem lO:∀(l:List RO),A0q l=cy l
 | []=>rfl
 |o::l=>by
  show gS o l (A0q l)=oe o l (cy l);rw[lO l];funext O c t h;unfold gS oe sy og;rw[Zo]
noncomputable def iQ(o:RO)(_:List RO)(ih:Orc->Ctx->FT->AH->Option (List (FQ×FT×AH)×FT×AH))(O:Orc)(c:Ctx)(t:FT)(h:AH):Option (List (FQ×FT×AH)×FT×AH) :=
 match LO t.get o.guard with
 |some true=>(match gJ o.op O c (gT t.get) h with|some (v,h')=>(ih O c (UV t o.dst v) h').map λp=>((fqZ c (gT t.get) o.op h h',t,h)::p.1,p.2)|none=>none)
 |some false=>(ih O c (UV t o.dst B9) h).map λp=>((nilQ,t,h)::p.1,p.2)
 |none=>none
noncomputable def pj(l:List RO):Orc->Ctx->FT->AH->Option (List (FQ×FT×AH)×FT×AH):=l.rec s_nil iQ
theorem eE:∀(l:List RO),pj l=YL l
 | []=>rfl
 |o::l=>by
  show iQ o l (pj l)=qV o l (YL l);rw[eE l];funext O c t h;unfold iQ qV;rw[Zo];cases LO t.get o.guard with
  |none=>rfl
  |some b =>
   cases b with
   |false=>rfl
   |true =>
    cases Mh o.op O c (gT t.get) h with
    |none=>rfl
    |some p =>
     obtain⟨v,h'⟩:=p;dsimp only;rw[fqZ_eq]
noncomputable def zx(bs:List Nat)(C9:List RO)(ts:List (FT×AH))(i:Nat):Bool :=
 match KK C9 i,KK ts i with
 |some ⟨_,.ld agg n x,none⟩,some (t,h)=>(match gT t.get x with | .ptr b off=>ts.zipIdx.all λs=>(s.2 != 0&&(bs.getD (s.2-1) 0).testBit i)||eqO (UN s.1.2 agg n (.ptr b off)) (UN h agg n (.ptr b off))|_=>false)
 |_,_=>false
theorem zy(bs C9 ts i):zx bs C9 ts i=kM bs C9 ts i:=by
 unfold zx kM;simp only[T6,S1];rfl
noncomputable def adjZ(bs:List Nat)(C9:List RO)(ts:List (FT×AH))(fs:List FQ):List FQ:=fs.mapIdx λi f=>if zx bs C9 ts i then {f with rb:=some []} else f
theorem adjZ_eq(bs C9 ts fs):adjZ bs C9 ts fs=vN bs C9 ts fs:=by unfold adjZ vN;simp only[zy]
noncomputable def Wu(_:Bool)(ops:List RO)(O:OrcT)(c:Ctx)(s:Xo):Kc:=(A0q ops O.orc c s.1 s.2).rec none (λs'=>some (.normal,s'))
noncomputable def fq(bs:List Nat)(ops:List RO)(O:OrcT)(c:Ctx)(s:Xo):Kc :=
 match pj ops O.orc c s.1 (s.2.holesZ (cN ops))with
 |some (ps,s')=>if WE bs ops (ps.map (·.1))then some (.normal,s')else if WE bs ops (adjZ bs ops (ps.map (·.2)++[s']) (ps.map (·.1)))then some (.normal,s')else none
 |none=>none
noncomputable def Rn(x:RCode):nC:=x.rec nT Wu fq je Za VL Zb nS yx yw
theorem Kf:∀x,Rn x=HP x
 | .skip=>rfl
 | .region d ops=>by
  show Wu d ops=VM d ops;funext O c s;unfold Wu VM;rw[lO]
 | .regd bs ops=>by
  show fq bs ops=fp bs ops;funext O c s;unfold fq fp;rw[eE,wI];simp only[lR,adjZ_eq];rfl
 | .seq a b=>by
  show je a b (Rn a) (Rn b)=je a b (HP a) (HP b);rw[Kf a,Kf b]
 | .cond q a b=>by
  show Za q a b (Rn a) (Rn b)=Za q a b (HP a) (HP b);rw[Kf a,Kf b]
 | .block id a=>by
  show VL id a (Rn a)=VL id a (HP a);rw[Kf a]
 | .loop a=>by
  show Zb a (Rn a)=Zb a (HP a);rw[Kf a]
 | .exit id=>rfl
 | .ret=>rfl
 | .bad=>rfl
noncomputable def qS(t:FT)(h:AH):List UB->Option (List AV)
 | []=>some []
 | .tmp k::rest=>(qS t h rest).map (t.get k::·)
 | .cell a agg n::rest=>(UN h agg n (t.get a)).bind λv=>(qS t h rest).map (v::·)
theorem iM(t h):∀l,qS t h l=Yd t h l
 | []=>rfl
 | .tmp k::rest=>by unfold qS Yd;rw[iM t h rest]
 | .cell a agg n::rest=>by unfold qS Yd;rw[iM t h rest,S1]
noncomputable def ym(O:OrcT)(c:Ctx)(rf:RFunc)(args:List AV)(h:AH):Option (AV×AH) :=
 match Rn rf.body O c (Ty (Od (Nat.succ (Nat.max rf.ntmps args.length)) (Nat.max rf.ntmps args.length)) 0 args,h)with
 |some (.normal,s)=>(qS s.1 s.2 rf.results).map λvs=>(J4 vs,s.2)
 |some (.ret,s)=>(qS s.1 s.2 rf.results).map λvs=>(J4 vs,s.2)
 |_=>none
theorem yn(O c rf args h):ym O c rf args h=ZX O c rf args h:=by
 unfold ym ZX;simp only[Kf,iM];rfl
noncomputable def uC(C:Cfg)(O:OrcT)(f:FuncId)(args:List AV)(h:AH):Option (AV×AH) :=
 match C.code f with
 |some rf=>ym O (C.ctx f) rf args h
 |none=>match C.rspec f with|some s=>s.run O.orc args h|none=>none
theorem mA(C O f args h):uC C O f args h=YP C O f args h:=by
 unfold uC YP;simp only[yn];rfl
noncomputable def rawZ(C:Cfg)(K:Know)(O:OrcT)(f:FuncId)(args:List AV)(h:AH):Option (AV×AH) :=
 (K.raw f args h).rec (bA (C.ctx f).rst (uC C O f args h)) some
noncomputable def A1H(C:Cfg)(K:Know)(O:OrcT)(f:FuncId)(args:List AV):Option AV :=
 match C.spec f with
 |some s=>s args
 |none=>match uC C O f args AH.empty with|some (r,h)=>Gj h r|none=>none
noncomputable def tZ(C:Cfg)(K:Know)(O:OrcT)(f:FuncId)(args:List AV):Option AV :=
 (K.pure f args).rec (A1H C K O f args) some
noncomputable def A0r(C:Cfg)(K:Know)(n:Nat):OrcT :=
 n.rec ⟨λ_ _=>none,λ_ _ _=>none,λ_ _=>none⟩ (λn O=>⟨tZ C K O,rawZ C K O,aC (n+1)⟩)
theorem gh(C K):∀n,A0r C K n=SS C K n
 |0=>rfl
 |n+1=>by
  show (⟨tZ C K (A0r C K n),rawZ C K (A0r C K n),aC (n+1)⟩:OrcT)=⟨XV C K (SS C K n),eN C K (SS C K n),aC (n+1)⟩;rw[gh C K n];have e1:tZ C K (SS C K n)=XV C K (SS C K n):=by
   funext f args;unfold tZ XV A1H qO;simp only[mA];rfl
  have e2:rawZ C K (SS C K n)=eN C K (SS C K n):=by
   funext f args h;unfold rawZ eN;simp only[mA]
  rw[e1,e2]
noncomputable def qi(l:List Told)(g:FuncId->List AV->Option AV)(f:FuncId)(args:List AV):Option AV :=
 match l.find? λx=>zf5z x.f f&&KV x.args args with
 |some x=>some x.r
 |none=>g f args
noncomputable def eqBL(a b:List (List AV)):Bool:=xw KV a b (λ_=>false) (nat_lit 0)
noncomputable def eqFL(a b:List Fam):Bool:=xw ju a b (λ_=>false) (nat_lit 0)
theorem eqBL_eq{a b}(h:eqBL a b=true):a=b:=ZB λj=>Classical.byContradiction λhj=>zf2z ((PC Z1 a b _ 0).1 h j hj)
theorem eqFL_eq{a b}(h:eqFL a b=true):a=b:=ZB λj=>Classical.byContradiction λhj=>zf2z ((PC VO a b _ 0).1 h j hj)
noncomputable def eqHZ(a b:AH):Bool:=eqBL a.boxes b.boxes&&eqFL a.fams b.fams
theorem sW{a b}(h:eqHZ a b=true):a=b:=by
 obtain⟨a1,a2⟩:=a;obtain⟨b1,b2⟩:=b;unfold eqHZ at h;rw[zf0z]at h;have e1:=eqBL_eq h.1;have e2:=eqFL_eq h.2;dsimp only at e1 e2;rw[e1,e2]
noncomputable def qk(m:List ToldR)(f:FuncId)(args:List AV)(h:AH):Option (AV×AH) :=
 match m.find? λx=>zf5z x.f f&&(KV x.args args&&eqHZ x.h h)with
 |some x=>some (x.r,x.h')
 |none=>none
noncomputable def Dr(l:List Told)(m:List ToldR)(g:FuncId->List AV->Option AV):Know:=⟨qi l g,qk m⟩
theorem S3{C l m g}(h:∀x∈l,pc C x.f x.args=some x.r)(hm:∀x∈m,rc C x.f x.args x.h=some (x.r,x.h'))(hg:∀f args r,g f args=some r->pc C f args=some r):KnowOk C (Dr l m g):=by
 refine⟨λf args r he=>?_,λf args hp r he=>?_⟩
 .have he:qi l g f args=some r:=he;unfold qi at he;split at he
  .rename_i x hx;cases he;have h1:=zg1z hx;have h2:=zf6z hx;rw[zf0z]at h1;rw[←zf3z h1.1,←(Z1 _ _).1 h1.2];exact h x h2
  .exact hg f args r he
 .have he:qk m f args hp=some r:=he;unfold qk at he;split at he
  .rename_i x hx;cases he;have h1:=zg1z hx;have h2:=zf6z hx;rw[zf0z,zf0z]at h1;rw[←zf3z h1.1,←(Z1 _ _).1 h1.2.1,←sW h1.2.2];exact hm x h2
  .cases he
noncomputable def isZ(o:Option (AV×AH))(r:AV)(h:AH):Bool:=match o with|some p=>eqR p.1 r&&eqHZ p.2 h|none=>false
theorem isZ_eq{o r h}(e:isZ o r h=true):o=some (r,h):=by
 unfold isZ at e;cases o with
 |none=>cases e
 |some p =>
  obtain⟨a,b⟩:=p;dsimp only at e;rw[zf0z]at e;rw[(gF _ _).1 e.1,sW e.2]
theorem T4{C K}(hK:KnowOk C K)(n)(d:ToldR)(he:(spH d.h λh=>spH d.h' λh'=>isZ ((A0r C K n).raw d.f d.args h) d.r h')=true):rc C d.f d.args d.h=some (d.r,d.h'):=by
 rw[A1W,A1W]at he;have:=isZ_eq he;rw[gh]at this;exact A1Q hK n this
theorem A1E{C K}(hK:KnowOk C K)(n)(d:Told)(he:(match (A0r C K n).pure d.f d.args with|some v=>eqR v d.r|none=>false)=true):pc C d.f d.args=some d.r:=by
 refine K9 hK n ?_;rw[gh]at he;cases h:(SS C K n).pure d.f d.args with
 |none=>rw[h]at he;cases he
 |some v =>
  rw[h]at he;dsimp only at he;rw[(gF _ _).1 he]
end Go.Abs
