/- A part of the proof. -/
import Derived.Test.YtjhgilockkmniaaGreatDoorSH23
set_option linter.all false
open List renaming take_succ_eq_append_getElem->zf0z,map_append->zf1z,append_assoc->zf2z,take_of_length_le->zf3z,map_nil->zf4z,getElem?_eq_getElem->zf5z,drop_eq_getElem_cons->zf6z,drop_eq_nil_of_le->zf7z,append_nil->zf8z,mem_of_mem_take->zf9z,length_take->zg1z,take_zero->zg2z,map_cons->zg3z
open Bool renaming and_eq_true->zg0z
namespace Go.Abs.Q
open Go.Proofs
attribute [local simp] D3 D6 fin H4 G2
theorem Tf (m:W8) (l:List Fre) (C4:l.length<=1048576) (A B:C6) (hA:A.length<=1048576) (hB:B.length<=1048576) (b0 b1 b3 b4 b5:AV) (fr:Fr) (h:AH) (hh:h.boxes=[[b0,b1,sl m 3 (l.map Hp),b3,b4,b5]]) (hl:fr.length=72) (h1:A2 fr 1=.ptr 0 0)
  (h45:PS A B (A2 fr 4) (A2 fr 5) h) (h7:A2 fr 7=.int .i64 0) :
  C3 (lp (A4 (M3 Q) (B8 N5) Bs) (fr,h)) λe fr' h'=>Kp Bs.wr fr fr'/\e=.exit 2/\h'.boxes=h.boxes/\PS (A++(l.map Fre.name).map AV.str) (B++(l.map Fre.sort).map (AV.int .i64)) (A2 fr' 4) (A2 fr' 5) h':=by
 refine C1 rfl fr (λn fr h'=>∃i,i+n=l.length/\A2 fr 7=.int .i64 (i:Nat)/\h'.boxes=h.boxes/\PS (A++((l.take i).map Fre.name).map AV.str) (B++((l.take i).map Fre.sort).map (AV.int .i64)) (A2 fr 4) (A2 fr 5) h') ?_ l.length h ⟨0,by omega,h7,rfl,by rw[zg2z,zf4z,zf4z,zf4z,zf4z,zf8z,zf8z];exact h45⟩;rintro J Φ hJ hΦ n E3 ⟨bx,fams⟩ K ⟨i,hi,k7,hb,hg⟩;rw[hh]at hb;simp only at hb;subst hb;have A6:=K.1.trans hl;have k1:=C0 K 1 h1;by_cases A9:i<l.length
 .have hx:=D5 (f:=Hp) (zf5z A9);have hw:=C8 i (by omega);obtain⟨v',U1,w',h2',ha1,ha2,CN,hb1,hb2⟩:=Qw (c:=B8 N5) (x:=.str l[i].name) (y:=.int .i64 l[i].sort) hg rfl (true,true) (true,true) 16 8 (by omega) (by omega) (by simp;omega) (by simp;omega);have hg2:PS (A++((l.take (i+1)).map Fre.name).map AV.str) (B++((l.take (i+1)).map Fre.sort).map (AV.int .i64)) v' w' h2':=by
   rw[zf0z A9,zf1z,zf1z,zf1z,zf1z,←zf2z,←zf2z];exact CN
  have tw:∀F:Fr,A2 F 4=v'->A2 F 5=w'->PS (A++((l.take (i+1)).map Fre.name).map AV.str) (B++((l.take (i+1)).map Fre.sort).map (AV.int .i64)) (A2 F 4) (A2 F 5) h2':=λF e4 e5=>by rw[e4,e5];exact hg2
  generalize l[i]=a at *
  obtain⟨r,nm,so⟩:=a;simp only[Hp]at hx ha1 ha2;simp[Bs,A6,k1,k7,A9,hx,hw,Bh,AV.flat,B4,ha1,ha2,hb1];exact F7 hJ ⟨i+1,by omega,by simp[A6],by rw[hb2,hh],tw _ (by simp[A6]) (by simp[A6])⟩
 .have e:l.take i=l:=zf3z (by omega);rw[e]at hg;have tw:∀F:Fr,A2 F 4=A2 E3 4->A2 F 5=A2 E3 5->PS (A++(l.map Fre.name).map AV.str) (B++(l.map Fre.sort).map (AV.int .i64)) (A2 F 4) (A2 F 5) _:=λF e4 e5=>by rw[e4,e5];exact hg
  simp[Bs,A6,k1,k7,A9];exact hΦ _ _ _ ⟨rfl,by rw[hh],tw _ (by simp[A6]) (by simp[A6])⟩
theorem Te (m:W8) (l:List ByteArray) (C4:l.length<=1048576) (A B:C6) (hA:A.length<=2097152) (hB:B.length<=2097152) (b0 b1 b2 b4 b5:AV) (fr:Fr) (h:AH) (hh:h.boxes=[[b0,b1,b2,sl m 1 (l.map AV.str),b4,b5]]) (hl:fr.length=72) (h1:A2 fr 1=.ptr 0 0)
  (h45:PS A B (A2 fr 4) (A2 fr 5) h) (h8:A2 fr 8=.int .i64 0) :
  C3 (lp (A4 (M3 Q) (B8 N5) Br) (fr,h)) λe fr' h'=>Kp Br.wr fr fr'/\e=.exit 4/\h'.boxes=h.boxes/\PS (A++l.map AV.str) (B++(l.map λ_=>(5:Int)).map (AV.int .i64)) (A2 fr' 4) (A2 fr' 5) h':=by
 refine C1 rfl fr (λn fr h'=>∃i,i+n=l.length/\A2 fr 8=.int .i64 (i:Nat)/\h'.boxes=h.boxes/\PS (A++(l.take i).map AV.str) (B++((l.take i).map λ_=>(5:Int)).map (AV.int .i64)) (A2 fr 4) (A2 fr 5) h') ?_ l.length h ⟨0,by omega,h8,rfl,by rw[zg2z,zf4z,zf4z,zf4z,zf8z,zf8z];exact h45⟩;rintro J Φ hJ hΦ n E3 ⟨bx,fams⟩ K ⟨i,hi,k8,hb,hg⟩;rw[hh]at hb;simp only at hb;subst hb;have A6:=K.1.trans hl;have k1:=C0 K 1 h1;by_cases A9:i<l.length
 .have hx:=D5 (f:=AV.str) (zf5z A9);have hw:=C8 i (by omega);obtain⟨v',U1,w',h2',ha1,ha2,CN,hb1,hb2⟩:=Qw (c:=B8 N5) (x:=.str l[i]) (y:=.int .i64 5) hg rfl (true,true) (true,true) 16 8 (by omega) (by omega) (by simp;omega) (by simp;omega);have hg2:PS (A++(l.take (i+1)).map AV.str) (B++((l.take (i+1)).map λ_=>(5:Int)).map (AV.int .i64)) v' w' h2':=by
   rw[zf0z A9,zf1z,zf1z,zf1z,←zf2z,←zf2z];exact CN
  have tw:∀F:Fr,A2 F 4=v'->A2 F 5=w'->PS (A++(l.take (i+1)).map AV.str) (B++((l.take (i+1)).map λ_=>(5:Int)).map (AV.int .i64)) (A2 F 4) (A2 F 5) h2':=λF e4 e5=>by rw[e4,e5];exact hg2
  generalize l[i]=a at *
  simp[Br,A6,k1,k8,A9,hx,hw,B4,ha1,ha2];exact F7 hJ ⟨i+1,by omega,by simp[A6],by rw[hb2,hh],tw _ (by simp[A6]) (by simp[A6])⟩
 .have e:l.take i=l:=zf3z (by omega);rw[e]at hg;have tw:∀F:Fr,A2 F 4=A2 E3 4->A2 F 5=A2 E3 5->PS (A++l.map AV.str) (B++(l.map λ_=>(5:Int)).map (AV.int .i64)) (A2 F 4) (A2 F 5) _:=λF e4 e5=>by rw[e4,e5];exact hg
  simp[Br,A6,k1,k8,A9];exact hΦ _ _ _ ⟨rfl,by rw[hh],tw _ (by simp[A6]) (by simp[A6])⟩
structure Short (n:Nar):Prop where
 roles:n.roles.length<=1048576
 fresh:n.fresh.length<=1048576
 tags:n.tags.length<=1048576
theorem Of (n:Nar) (S:Short n):∃r,pc Q N5 [D1 n]=some r/\∃m m':Bool×Bool,r=.tup [EL m (B7 n),sl m' 1 ((R6 n).map (AV.int .i64))]:=by
 have s1:=S.roles;have s2:=S.fresh;have s3:=S.tags;clear S;refine JA IF λΨ hΨ fr hl h0=>?_;have en:(B7 n).map AV.str=n.roles.map AV.str++(n.fresh.map Fre.name).map AV.str++n.tags.map AV.str:=by simp only[B7,zf1z]
 have es:(R6 n).map (AV.int .i64)=(n.roles.map λ_=>(1:Int)).map (AV.int .i64)++(n.fresh.map Fre.sort).map (AV.int .i64)++(n.tags.map λ_=>(5:Int)).map (AV.int .i64):=by simp only[R6,zf1z]
 simp only[EL,en,es]at hΨ;clear en es;obtain⟨name,rm,roles,fm,fresh,tm,tags,sm,steps,gm,goals⟩:=n;simp only at *
 simp[IF,D1]at hl h0;simp[IF,hl,h0];refine C3.mono (Tg rm roles (by omega) _ _ _ _ _ _ _ rfl ?_ ?_ ?_ ?_ ?_) ?_<;>first|(simp[hl];done)|skip
 rintro e E3 ⟨bx,fams⟩ ⟨K,rfl,hb,hg⟩;simp only at hb;subst hb;have A6:E3.length=72:=K.1.trans (by simp[hl]);have k1:A2 E3 1=.ptr 0 0:=C0 K 1 (by simp[hl]);clear K;have tw:∀F:Fr,A2 F 4=A2 E3 4->A2 F 5=A2 E3 5->PS (roles.map AV.str) ((roles.map λ_=>(1:Int)).map (AV.int .i64)) (A2 F 4) (A2 F 5) _:=λF e4 e5=>by rw[e4,e5];exact hg
 clear hg;simp[A6];refine C3.mono (Tf fm fresh (by omega) (roles.map AV.str) ((roles.map λ_=>(1:Int)).map (AV.int .i64)) (by simp;omega) (by simp;omega) _ _ _ _ _ _ _ rfl ?_ ?_ (tw _ ?_ ?_) ?_) ?_<;>first|(simp[A6,k1];done)|skip
 rintro e X2 ⟨bx,fams2⟩ ⟨K,rfl,hb,hg⟩;simp only at hb;subst hb;have If:X2.length=72:=K.1.trans (by simp[A6]);have k1':A2 X2 1=.ptr 0 0:=C0 K 1 (by simp[A6,k1]);clear K tw;have tw:∀F:Fr,A2 F 4=A2 X2 4->A2 F 5=A2 X2 5->PS (roles.map AV.str++(fresh.map Fre.name).map AV.str) ((roles.map λ_=>(1:Int)).map (AV.int .i64)++(fresh.map Fre.sort).map (AV.int .i64)) (A2 F 4) (A2 F 5) _:=λF e4 e5=>by rw[e4,e5];exact hg
 clear hg;simp[If];refine C3.mono (Te tm tags (by omega) (roles.map AV.str++(fresh.map Fre.name).map AV.str) ((roles.map λ_=>(1:Int)).map (AV.int .i64)++(fresh.map Fre.sort).map (AV.int .i64)) (by simp;omega) (by simp;omega) _ _ _ _ _ _ _ rfl ?_ ?_ (tw _ ?_ ?_) ?_) ?_<;>first|(simp[If,k1'];done)|skip
 rintro e fr3 h3 ⟨K,rfl,hb,hg⟩;have hl3:fr3.length=72:=K.1.trans (by simp[If]);obtain⟨m,m',e1,e2⟩:=eM hg;generalize hA:roles.map AV.str++(fresh.map Fre.name).map AV.str++tags.map AV.str=A at *
 generalize hB:(roles.map λ_=>(1:Int)).map (AV.int .i64)++(fresh.map Fre.sort).map (AV.int .i64)++(tags.map λ_=>(5:Int)).map (AV.int .i64)=B at *
 simp[hl3,e1,e2];exact hΨ _ ⟨m,m',rfl⟩
def We (m:Bool×Bool) (n:Nar):AV:=.agg [sl m 1 (n.roles.map .str),.vm ((B7 n).map .str) ((R6 n).map (.int .i64))]
theorem Rl (h:AH) (b:Nat) (ks:List ByteArray) (vs:C6) (k:Q1) (x:Int) (hb:h.boxes[b]?=some [.mbox (ks.map .str) vs]) (hk:ks.any (U4 k)=false) :
  To true h (.mp b) (.str k) (.int .i64 x)=some (B3,{h with boxes:=h.boxes.set b [.mbox ((ks++[k]).map .str) (vs++[.int .i64 x])]}):=by
 simp only[To,hb,fC,LR,Io k ks 0 hk];simp
end Go.Abs.Q
namespace Go.Abs
section
variable {O:Orc} {c:Ctx} {d:Option Nat} {op:ROp} {C5:List RO} {fr:Fr} {h:AH} {Ψ:Ex->Fr->AH->Prop}
theorem EP (b:Bool) {x y:RCode}:C3 (iR (.bool b) O c x y fr h) Ψ=((b=true->C3 (A4 O c x (fr,h)) Ψ)/\(b=false->C3 (A4 O c y (fr,h)) Ψ)):=by
 cases b<;>simp
theorem Co (b:Bool):C3 (nU (dj (.bool b) true O c d op C5 fr h)) Ψ=((b=true->C3 (nU (dn (A3 O c op fr h) O c d C5 fr)) Ψ)/\(b=false->C3 (nU (E9 O c C5 (put fr d B3) h)) Ψ)):=by
 cases b<;>simp
end
def Tm.kind:Tm->Int | .mk k _ _ _ _=>k
def Tm.name:Tm->ByteArray | .mk _ n _ _ _=>n
def Tm.sort:Tm->Int | .mk _ _ s _ _=>s
def Tm.cm:Tm->Bool×Bool | .mk _ _ _ m _=>m
def Tm.kids:Tm->List Tm | .mk _ _ _ _ l=>l
@[simp] theorem dX (t:Tm):(H2 t).cells=[.int .i64 t.kind,.str t.name,.int .i64 t.sort,sl t.cm 4 (D0 t.kids)]:=by cases t;rfl
@[simp] theorem jx (t:Tm):AV.agg [.int .i64 t.kind,.str t.name,.int .i64 t.sort,sl t.cm 4 (D0 t.kids)]=H2 t:=by cases t;rfl
@[simp] theorem pk (t:Tm):(H2 t).isTup=false:=by cases t;rfl
@[simp] theorem sy (h:AH) (am:Bool) (t:Tm):frz h am (H2 t)=some (H2 t):=by cases t;rfl
@[simp] theorem rB (h:AH) (t:Tm):tame h (H2 t)=true:=by cases t;rfl
@[simp] theorem lD (h:AH) (t:Tm):BW h (H2 t)=some (H2 t):=by cases t;rfl
theorem Tm.kids_size (t:Tm):t.size=1+Tm.sizes t.kids:=by cases t;rfl
@[simp] theorem qd (h:AH) (f:Bool) (sz:Nat) (xs:C6):Pe h (.vs f sz xs)=some (.int .i64 xs.length,h):=rfl
@[simp] theorem lr (fr:Fr):E8 fr none=some none:=rfl
@[simp] theorem lq (fr:Fr) (k:IntKind) (i:Int):E8 fr (some (.c (.int k i)))=some (some i):=rfl
@[simp] theorem lu (fr:Fr) (n:Nat):E8 fr (some (.t n))=(match A2 fr n with | .int _ i=>some (some i)|_=>none):=rfl
namespace Q
@[simp] theorem my (g:Gol):(Bz g).cells=[.int .i64 g.kind,.str g.role,.str g.wth,sl g.dm 4 (D0 g.data),.int .i64 g.line]:=rfl
@[simp] theorem rY (g:Gol):AV.agg [.int .i64 g.kind,.str g.role,.str g.wth,sl g.dm 4 (D0 g.data),.int .i64 g.line]=Bz g:=rfl
@[simp] theorem mz (g:Gol):(Bz g).isTup=false:=rfl
@[simp] theorem rZ (h:AH) (am:Bool) (g:Gol):frz h am (Bz g)=some (Bz g):=rfl
@[simp] theorem qS (h:AH) (g:Gol):tame h (Bz g)=true:=rfl
@[simp] theorem Jw (s:Ste):(P3 s).cells=[.str s.frm,.str s.to,.int .i64 s.msg.kind,.str s.msg.name,.int .i64 s.msg.sort,sl s.msg.cm 4 (D0 s.msg.kids),.int .i64 s.line]:=by simp[P3]
@[simp] theorem sw (s:Ste):AV.agg [.str s.frm,.str s.to,.int .i64 s.msg.kind,.str s.msg.name,.int .i64 s.msg.sort,sl s.msg.cm 4 (D0 s.msg.kids),.int .i64 s.line]=P3 s:=by simp[P3]
@[simp] theorem pd (s:Ste):(P3 s).isTup=false:=rfl
@[simp] theorem sx (h:AH) (am:Bool) (s:Ste):frz h am (P3 s)=some (P3 s):=by obtain⟨_,_,t,_⟩:=s;cases t;rfl
@[simp] theorem qy (h:AH) (s:Ste):tame h (P3 s)=true:=by obtain⟨_,_,t,_⟩:=s;cases t;rfl
@[simp] theorem OI (f:Fre):(Hp f).cells=[.str f.role,.str f.name,.int .i64 f.sort]:=rfl
@[simp] theorem rS (f:Fre):AV.agg [.str f.role,.str f.name,.int .i64 f.sort]=Hp f:=rfl
@[simp] theorem ml (f:Fre):(Hp f).isTup=false:=rfl
@[simp] theorem rT (h:AH) (am:Bool) (f:Fre):frz h am (Hp f)=some (Hp f):=rfl
@[simp] theorem qO (h:AH) (f:Fre):tame h (Hp f)=true:=rfl
theorem C7 (n:Nar):(D1 n).cells=[.str n.name,sl n.rm 1 (n.roles.map .str),sl n.fm 3 (n.fresh.map Hp),sl n.tm 1 (n.tags.map .str),sl n.sm 7 (n.steps.map P3),sl n.gm 5 (n.goals.map Bz)]:=rfl
@[simp] theorem sF (n:Nar):AV.agg [.str n.name,sl n.rm 1 (n.roles.map .str),sl n.fm 3 (n.fresh.map Hp),sl n.tm 1 (n.tags.map .str),sl n.sm 7 (n.steps.map P3),sl n.gm 5 (n.goals.map Bz)]=D1 n:=rfl
@[simp] theorem nj (n:Nar):(D1 n).isTup=false:=rfl
@[simp] theorem sH (h:AH) (am:Bool) (n:Nar):frz h am (D1 n)=some (D1 n):=rfl
@[simp] theorem qe (h:AH) (n:Nar):tame h (D1 n)=true:=rfl
end Q
end Go.Abs
namespace Go.Abs.Q
open Go.Proofs
def V7 (t:Tm) (nm:ByteArray) (n:Int):Bool:=decide (t.kind=3)&&decide (t.name=nm)&&decide ((t.kids.length:Int)=n)
def BR (rs:List ByteArray) (t:Tm):Bool:=decide (t.kind=2)&&rs.any (U4 t.name)
def ND (f:Tm->Bool):List Tm->Bool
 |a::_=>f a
 |_=>false
def KR (f:Tm->Bool):List Tm->Bool
 |_::b::_=>f b
 |_=>false
def BQ (rs:List ByteArray) (t:Tm):Bool:=V7 t (bs [115,107]) 1&&ND (BR rs) t.kids
def EM (rs:List ByteArray) (t:Tm):Bool:=V7 t (bs [112,107]) 1&&ND (BQ rs) t.kids
def Kk:List Tm->Bool
 |a::b::_=>decide (a.name≠b.name)
 |_=>false
def PL (rs:List ByteArray) (t:Tm):Bool:=V7 t (bs [115,104,107]) 2&&ND (BR rs) t.kids&&KR (BR rs) t.kids&&Kk t.kids
def ED (rs:List ByteArray) (t:Tm):Int :=
 if V7 t (bs [112,97,105,114]) 2=true\/V7 t (bs [101,110,99]) 2=true then 2
 else if V7 t (bs [104,97,115,104]) 1=true then 1
 else if (V7 t (bs [97,101,110,99]) 2=true/\KR (EM rs) t.kids=true)\/(V7 t (bs [115,105,103,110]) 2=true/\KR (BQ rs) t.kids=true)then 1
 else if EM rs t=true\/PL rs t=true then 0 else -1
mutual
def Y5 (ns rs:List ByteArray):Tm->Int
 | .mk k nm s m l=>if k≠3 then (if ns.any (U4 nm)=true then 0 else 13)else if ED rs (.mk k nm s m l)<0 then 10 else PI ns rs (ED rs (.mk k nm s m l)).toNat l
def PI (ns rs:List ByteArray):Nat->List Tm->Int
 |0,_=>0
 |_,[]=>0
 |n+1,t::l=>if Y5 ns rs t≠0 then Y5 ns rs t else PI ns rs n l
end
theorem My (ns rs:List ByteArray):∀(l:Hm) (n:Nat),PI ns rs n l=B9 (Y5 ns rs) (l.take n)
 | [],0=>by simp[PI,B9]
 | [],n+1=>by simp[PI,B9]
 |t::l,0=>by simp[PI,B9]
 |t::l,n+1=>by simp[PI,B9,My ns rs l n]
theorem Nj (ns rs:List ByteArray) (t:Tm):Y5 ns rs t=if t.kind≠3 then (if ns.any (U4 t.name)=true then 0 else 13)else if ED rs t<0 then 10 else B9 (Y5 ns rs) (t.kids.take (ED rs t).toNat):=by
 rw[←My];cases t;rw[Y5];rfl
def Hz (rs:List ByteArray) (a b:ByteArray):Int:=if rs.any (U4 a)=true/\rs.any (U4 b)=true then (if a=b then 1 else 0)else 13
def Dq (ns rs:List ByteArray) (g:Gol):Int :=
 if rs.any (U4 g.role)=false then 13 else if HX g=true/\Hz rs g.role g.wth≠0 then Hz rs g.role g.wth else B9 (Y5 ns rs) g.data
def DN (ns rs:List ByteArray) (s:Ste):Int:=if Hz rs s.frm s.to≠0 then Hz rs s.frm s.to else Y5 ns rs s.msg
def M4 {α:Type} (g:α->Int) (ln:α->Int):List α->Int×Int
 | []=>(0,0)
 |a::l=>if g a≠0 then (ln a,g a)else M4 g ln l
def Iw (seen:List ByteArray) (a:ByteArray) (f:Bool):Int:=if Mm a=true then 2 else if f=true/\(a=bs [101]\/a=bs [103])then 1 else if seen.any (U4 a)=true then 5 else 0
def rz (rs:List ByteArray):Option ByteArray->Bool
 |some x=>rs.any (U4 x)
 |none=>true
def T0 (rs:List ByteArray):List ByteArray->List (ByteArray×Option ByteArray)->Int
 |_,[]=>0
 |seen,(a,f)::r=>if Iw seen a f.isSome≠0 then Iw seen a f.isSome else if rz rs f=false then 13 else T0 rs (seen++[a]) r
theorem JX (rs:List ByteArray):∀(a b:List (ByteArray×Option ByteArray)) (seen:List ByteArray),T0 rs seen (a++b)=if T0 rs seen a≠0 then T0 rs seen a else T0 rs (seen++a.map (·.1)) b
 | [],b,seen=>by simp[T0]
 |(x,f)::a,b,seen=>by
  have ih:=JX rs a b (seen++[x]);by_cases h1:Iw seen x f.isSome=0
  .by_cases h2:rz rs f=false
   .simp[T0,h1,h2]
   .rw[Bool.not_eq_false]at h2;simp[T0,h1,h2,ih]
  .simp[T0,h1]
def Sw (n:Nar):List (ByteArray×Option ByteArray):=n.roles.map (λa=>(a,none))++n.fresh.map (λf=>(f.name,some f.role))++n.tags.map (λa=>(a,none))
def GS (n:Nar):Int:=T0 n.roles [] (Sw n)
def AQ (n:Nar):Int×Int :=
 if JN n≠0 then (0,JN n)else if GS n≠0 then (0,GS n)
 else if M4 (DN (B7 n) n.roles) Ste.line n.steps≠(0,0)then M4 (DN (B7 n) n.roles) Ste.line n.steps else M4 (Dq (B7 n) n.roles) Gol.line n.goals
end Go.Abs.Q
namespace Go.Abs.Q
open Go.Proofs
attribute [local simp] D3 D6 fin H4 G2 EP Co Bd Bc
theorem Nq {t:Tm} {nm:Q1} (h:V7 t nm 1=true):∃a,t.kids=[a]:=by
 simp only[V7,zg0z,decide_eq_true_eq]at h;exact List.length_eq_one_iff.1 (by omega)
theorem Mt (t:Tm) (nm:Q1) (n:Int):pc Q p9 [H2 t,.str nm,.int .i64 n]=some (.bool (V7 t nm n)):=by
 refine fR Kx λfr hl h0 h1 h2=>?_;simp[Kx]at hl h0 h1 h2;simp +contextual (maxSteps:=10000000) [Kx,hl,h0,h1,h2,V7]
theorem Cx (m:W8) (l:List ByteArray) (x:Q1) (h:l.length<=1048576):pc Q D7 [sl m 1 (l.map AV.str),.str x]=some (.bool (l.any (U4 x))):=Oe m l x (by omega)
theorem Ry (m:W8) (rs:List ByteArray) (ks vs:C6) (hr:rs.length<=1048576) (t:Tm):pc Q U7 [.agg [sl m 1 (rs.map .str),.vm ks vs],H2 t]=some (.bool (BR rs t)):=by
 have hC:=Cx m rs t.name hr;refine Ez Du λfr hl h0 h1=>?_;simp[Du]at hl h0 h1;simp +contextual (maxSteps:=10000000) [Du,hl,h0,h1,BR,hC]
theorem Om (m:W8) (rs:List ByteArray) (ks vs:C6) (hr:rs.length<=1048576) (t:Tm):pc Q T7 [.agg [sl m 1 (rs.map .str),.vm ks vs],H2 t]=some (.bool (BQ rs t)):=by
 have hI:=Mt t (bs [115,107]) 1;refine Ez s9 λfr hl h0 h1=>?_;simp[s9]at hl h0 h1;cases ha:V7 t (bs [115,107]) 1 with
 |false =>
  rw[ha]at hI;simp[s9,hl,h0,h1,BQ,hI,ha]
 |true =>
  rw[ha]at hI;obtain⟨a,hk⟩:=Nq ha;have hx:Jj (D0 t.kids) 0=some (H2 a):=by rw[hk];rfl
  have hf:ND (BR rs) t.kids=BR rs a:=by rw[hk];rfl
  have hR:=Ry m rs ks vs hr a;simp[s9,hl,h0,h1,BQ,hI,ha,hR,hx,hf]
theorem Qd (m:W8) (rs:List ByteArray) (ks vs:C6) (hr:rs.length<=1048576) (t:Tm):pc Q X9 [.agg [sl m 1 (rs.map .str),.vm ks vs],H2 t]=some (.bool (EM rs t)):=by
 have hI:=Mt t (bs [112,107]) 1;refine Ez AX λfr hl h0 h1=>?_;simp[AX]at hl h0 h1;cases ha:V7 t (bs [112,107]) 1 with
 |false =>
  rw[ha]at hI;simp[AX,hl,h0,h1,EM,hI,ha]
 |true =>
  rw[ha]at hI;obtain⟨a,hk⟩:=Nq ha;have hx:Jj (D0 t.kids) 0=some (H2 a):=by rw[hk];rfl
  have hf:ND (BQ rs) t.kids=BQ rs a:=by rw[hk];rfl
  have hR:=Om m rs ks vs hr a;simp[AX,hl,h0,h1,EM,hI,ha,hR,hx,hf]
theorem cd (m:W8) (rs:List ByteArray) (ks vs:C6) (hr:rs.length<=1048576) (a b:Q1):pc Q AO [.agg [sl m 1 (rs.map .str),.vm ks vs],.str a,.str b]=some (.int .i64 (Hz rs a b)):=by
 have c1:=Cx m rs a hr;have c2:=Cx m rs b hr;refine fR Ev λfr hl h0 h1 h2=>?_;simp[Ev]at hl h0 h1 h2;have e:Hz rs a b=if rs.any (U4 a)=true/\rs.any (U4 b)=true then (if a=b then 1 else 0)else 13:=rfl
 generalize Hz rs a b=v at *
 generalize rs.any (U4 a)=x at *
 generalize rs.any (U4 b)=y at *
 cases x<;>cases y<;>simp +contextual [Ev,hl,h0,h1,h2,c1,c2,e]
theorem Ip {α:Type} (p:α->Bool):∀(l:List α) (i:Nat),i6 p i l<(i:Int)+l.length
 | [],i=>by simp[i6];omega
 |a::l,i=>by
  have:=Ip p l (i+1);simp only[i6,List.length_cons];split<;>omega
theorem gS (ks:List ByteArray) (vs:List Int) (hkv:ks.length=vs.length) (h:AH) (a:Q1) :
  ∃v,EW true true (.int .i64 0) h (.vm (ks.map .str) (vs.map (.int .i64))) (.str a)=some (.tup [.int .i64 v,.bool (ks.any (U4 a))],h):=by
 cases hk:ks.any (U4 a)with
 |false=>exact⟨0,by simp[EW,LR,s6,Io a ks 0 hk]⟩
 |true =>
  have hge:=(FF (U4 a) ks 0).2 hk;have A9:=Ip (U4 a) ks 0;have hi:(i6 (U4 a) 0 ks).toNat<vs.length:=by omega
  refine⟨vs[(i6 (U4 a) 0 ks).toNat],?_⟩;simp[EW,LR,s6,Kq a ks 0 hk,hi]
theorem Ys (m:W8) (rs ns:List ByteArray) (vs:List Int) (m':W8) (l:Hm) (C4:l.length<=1099511627776) (IH:∀t∈l,pc Q D8 [.agg [sl m 1 (rs.map .str),.vm (ns.map .str) (vs.map (.int .i64))],H2 t]=some (.int .i64 (Y5 ns rs t))) (b1:C6) (fr:Fr) (h:AH) (hh:h.boxes=[[sl m 1 (rs.map .str),.vm (ns.map .str) (vs.map (.int .i64))],b1]) (hl:fr.length=98) (h2:A2 fr 2=.ptr 0 0) (h85:A2 fr 85=sl m' 4 (D0 l)) (h86:A2 fr 86=.int .i64 l.length) (h87:A2 fr 87=.int .i64 0) :
  C3 (lp (A4 (M3 Q) (B8 D8) N4) (fr,h)) λe fr' h'=>Kp N4.wr fr fr'/\(e=.exit 1/\B9 (Y5 ns rs) l=0\/e=.ret/\A2 fr' 4=.int .i64 (B9 (Y5 ns rs) l)):=by
 refine C1 rfl fr (λn fr h'=>∃(i:Nat),i+n=l.length/\A2 fr 87=.int .i64 (i:Nat)/\(∃B,h'.boxes=[sl m 1 (rs.map .str),.vm (ns.map .str) (vs.map (.int .i64))]::B)/\B9 (Y5 ns rs) (l.drop i)=B9 (Y5 ns rs) l) ?_ l.length h ⟨0,by omega,h87,⟨_,hh⟩,rfl⟩;rintro J Φ hJ hΦ n E3 H1 K ⟨i,hi,k87,hr⟩;have A6:=K.1.trans hl;have k2:=C0 K 2 h2;have k85:=C0 K 85 h85;have k86:=C0 K 86 h86;clear K;by_cases A9:i<l.length
 .have Z0:=C8 i (by omega);obtain⟨⟨B,hB⟩,hr⟩:=hr;obtain⟨bx,fams⟩:=H1;simp only at hB;subst hB;have hx:=Eh A9;have hI:=IH l[i] (List.getElem_mem A9);rw[zf6z A9]at hr;simp only[B9]at hr;generalize l[i]=t at *
  generalize Y5 ns rs t=v at *
  by_cases hz:v=0
  .rw[if_neg (by simp[hz])]at hr;simp[N4,A6,k2,k85,k86,k87,A9,Z0,hx,hI,hz];exact F7 hJ ⟨i+1,by omega,by simp[A6],⟨_,rfl⟩,hr⟩
  .rw[if_pos hz]at hr;simp[N4,A6,k2,k85,k86,k87,A9,Z0,hx,hI,hz];exact hΦ _ _ _ (.inr ⟨rfl,by simp[A6,hr]⟩)
 .obtain⟨_,hr⟩:=hr;rw[zf7z (by omega)]at hr;simp[N4,A6,k2,k85,k86,k87,A9];exact hΦ _ _ _ (.inl ⟨rfl,hr.symm⟩)
theorem ET {t:Tm} {nm:Q1} {n:Int} (h:(t.kids.length:Int)≠n):V7 t nm n=false:=by simp[V7,h]
theorem TV {l:Hm} (h:l.length=2):∃a b,l=[a,b]:=by
 match l,h with
 | [a,b],_=>exact⟨a,b,rfl⟩
theorem XR (m:W8) (rs ns:List ByteArray) (vs:List Int) (hr:rs.length<=1048576) (hkv:ns.length=vs.length):∀(n:Nat) (t:Tm),t.size<=n->t.size<=1099511627776 ->
  pc Q D8 [.agg [sl m 1 (rs.map .str),.vm (ns.map .str) (vs.map (.int .i64))],H2 t]=some (.int .i64 (Y5 ns rs t)):=by
 intro n
 induction n with
 |zero=>intro t h;have:=t.size_pos;omega
 |succ n ih =>
  intro t hn hb;have K3:=t.kids_size;have C4:=Tm.length_le t.kids;have hkids:∀l:List Tm,(∀a∈l,a∈t.kids)->∀a∈l,pc Q D8 [.agg [sl m 1 (rs.map .str),.vm (ns.map .str) (vs.map (.int .i64))],H2 a]=some (.int .i64 (Y5 ns rs a)) :=
   λl hs a ha=>ih a (by have:=Tm.size_le (hs a ha);omega) (by have:=Tm.size_le (hs a ha);omega)
  have IQ:=λ(m':Bool×Bool) (l:List Tm) (hs:∀a∈l,a∈t.kids) (hl:l.length<=1099511627776)=>Ys m rs ns vs m' l hl (hkids l hs);clear ih hkids;have hE:=Nj ns rs t;have p1:=Mt t (bs [112,97,105,114]) 2;have p2:=Mt t (bs [101,110,99]) 2;have p3:=Mt t (bs [104,97,115,104]) 1;have p4:=Mt t (bs [97,101,110,99]) 2;have p5:=Mt t (bs [115,105,103,110]) 2;have p6:=Qd m rs (ns.map .str) (vs.map (.int .i64)) hr t;have p7:=Mt t (bs [115,104,107]) 2;generalize Y5 ns rs t=v at *
  refine Ez C9 λfr hl h0 h1=>?_;simp[C9]at hl h0 h1;by_cases hk:t.kind=3
  .rw[if_neg (by simp[hk])]at hE;have key:∀(m':Bool×Bool) (l:List Tm) (E3:Fr) (h:AH),(∀a∈l,a∈t.kids)->l.length<=1099511627776->v=B9 (Y5 ns rs) l->E3.length=98->A2 E3 2=.ptr 0 0->A2 E3 85=sl m' 4 (D0 l)->A2 E3 86=.int .i64 l.length->A2 E3 87=.int .i64 0->(∃b1,h.boxes=[[sl m 1 (rs.map .str),.vm (ns.map .str) (vs.map (.int .i64))],b1]) ->
     C3 (lp (A4 (M3 Q) (B8 D8) N4) (E3,h)) (BL 1 (SQ (M3 Q) (B8 D8) (.seq (.region false [⟨some 4,.mov (.c (.int .i64 0)),none⟩]) .ret) (VH [.tmp 4] (.int .i64 v)))):=by
    rintro m' l E3 h hs hll rfl hl q2 q85 q86 q87 ⟨b1,hb⟩;refine C3.mono (IQ m' l hs hll b1 E3 h hb hl q2 q85 q86 q87) ?_;rintro e X2 h2 ⟨K,⟨rfl,hz⟩|⟨rfl,k4⟩⟩
    .have If:=K.1.trans hl;simp[If,hz]
    .simp[k4]
   by_cases h2:t.kids.length=2
   .obtain⟨x,y,hxy⟩:=TV h2;have n0:Jj (D0 t.kids) 0=some (H2 x):=by rw[hxy];rfl
    have n1:Jj (D0 t.kids) 1=some (H2 y):=by rw[hxy];rfl
    have s1:=Uc ⟨[[sl m 1 (rs.map .str),.vm (ns.map .str) (vs.map (.int .i64))],[.int .i64 t.kind,.str t.name,.int .i64 t.sort,sl t.cm 4 (D0 t.kids)]],[]⟩ t.cm 4 (by omega) (D0 t.kids) 1 (by simp[h2]);rw[show ((1:Nat):Int)=1 from rfl]at s1;have c1:=Qd m rs (ns.map .str) (vs.map (.int .i64)) hr y;have c2:=Om m rs (ns.map .str) (vs.map (.int .i64)) hr y;have c3:=Ry m rs (ns.map .str) (vs.map (.int .i64)) hr x;have c4:=Ry m rs (ns.map .str) (vs.map (.int .i64)) hr y;have f1:KR (EM rs) t.kids=EM rs y:=by rw[hxy];rfl
    have f2:KR (BQ rs) t.kids=BQ rs y:=by rw[hxy];rfl
    have f3:ND (BR rs) t.kids=BR rs x:=by rw[hxy];rfl
    have f4:KR (BR rs) t.kids=BR rs y:=by rw[hxy];rfl
    have f5:Kk t.kids=decide (x.name≠y.name):=by rw[hxy];rfl
    have b3:V7 t (bs [104,97,115,104]) 1=false:=ET (by omega);have b6:EM rs t=false:=by simp[EM,ET (show (t.kids.length:Int)≠1 by omega)]
    simp only[ED,PL,b3,b6,f1,f2,f3,f4,f5]at hE p3 p6;clear f1 f2 f3 f4 f5 b3 b6 IQ;have ex1:∀{a b:ByteArray},a≠b->V7 t a 2=true->V7 t b 2=false:=λtz ha=>by
     simp only[V7,zg0z,decide_eq_true_eq]at ha;simp[V7,ha.1.2,tz]
    have x45:=ex1 (a:=bs [97,101,110,99]) (b:=bs [115,105,103,110]) (by decide);have x47:=ex1 (a:=bs [97,101,110,99]) (b:=bs [115,104,107]) (by decide);have x57:=ex1 (a:=bs [115,105,103,110]) (b:=bs [115,104,107]) (by decide);clear ex1;generalize V7 t (bs [112,97,105,114]) 2=b1 at *
    generalize V7 t (bs [101,110,99]) 2=b2 at *
    generalize V7 t (bs [97,101,110,99]) 2=b4 at *
    generalize V7 t (bs [115,105,103,110]) 2=b5 at *
    generalize V7 t (bs [115,104,107]) 2=b7 at *
    generalize EM rs y=e1 at *
    generalize BQ rs y=e2 at *
    generalize BR rs x=e3 at *
    generalize BR rs y=e4 at *
    have t2:t.kids.take 2=t.kids:=zf3z (by omega);cases b1 with
    |true =>
     simp[t2]at hE;simp[C9,hl,h0,h1,A7 hk,p1];exact key t.cm t.kids _ _ (λ_ h=>h) (by omega) hE (by simp[hl]) (by simp[hl]) (by simp[hl]) (by simp[hl]) (by simp[hl]) ⟨_,rfl⟩
    |false =>
     cases b2 with
     |true =>
      simp[t2]at hE;simp[C9,hl,h0,h1,A7 hk,p1,p2];exact key t.cm t.kids _ _ (λ_ h=>h) (by omega) hE (by simp[hl]) (by simp[hl]) (by simp[hl]) (by simp[hl]) (by simp[hl]) ⟨_,rfl⟩
     |false =>
      cases b4 with
      |true =>
       obtain rfl:=x45 rfl;obtain rfl:=x47 rfl;cases e1 with
       |true =>
        simp at hE;simp[C9,hl,h0,h1,A7 hk,p1,p2,p3,p4,n1,c1,s1];exact key _ _ _ _ (λq h=>zf9z h) (by rw[zg1z];omega) hE (by simp[hl]) (by simp[hl]) (by simp[hl,uH];rfl) (by simp[hl]) (by simp[hl]) ⟨_,rfl⟩
       |false =>
        simp at hE;subst hE;simp[C9,hl,h0,h1,A7 hk,p1,p2,p3,p4,p5,p6,p7,n1,c1]
      |false =>
       cases b5 with
       |true =>
        obtain rfl:=x57 rfl;cases e2 with
        |true =>
         simp at hE;simp[C9,hl,h0,h1,A7 hk,p1,p2,p3,p4,p5,n1,c2,s1];exact key _ _ _ _ (λq h=>zf9z h) (by rw[zg1z];omega) hE (by simp[hl]) (by simp[hl]) (by simp[hl,uH];rfl) (by simp[hl]) (by simp[hl]) ⟨_,rfl⟩
        |false =>
         simp at hE;subst hE;simp[C9,hl,h0,h1,A7 hk,p1,p2,p3,p4,p5,p6,p7,n1,c2]
       |false =>
        cases b7 with
        |false =>
         simp at hE;subst hE;simp[C9,hl,h0,h1,A7 hk,p1,p2,p3,p4,p5,p6,p7]
        |true =>
         cases e3 with
         |false =>
          simp at hE;subst hE;simp[C9,hl,h0,h1,A7 hk,p1,p2,p3,p4,p5,p6,p7,n0,c3]
         |true =>
          cases e4 with
          |false =>
           simp at hE;subst hE;simp[C9,hl,h0,h1,A7 hk,p1,p2,p3,p4,p5,p6,p7,n0,n1,c3,c4]
          |true =>
           by_cases hxn:x.name=y.name
           .simp[hxn]at hE;subst hE;simp[C9,hl,h0,h1,A7 hk,p1,p2,p3,p4,p5,p6,p7,n0,n1,c3,c4,A7 hxn]
           .simp[hxn,B9]at hE;subst hE;simp[C9,hl,h0,h1,A7 hk,p1,p2,p3,p4,p5,p6,p7,n0,n1,c3,c4,A0 hxn];exact key (true,false) [] _ _ (λq h=>nomatch h) (by simp) rfl (by simp[hl]) (by simp[hl]) (by simp[hl];exact Jv 4) (by simp[hl]) (by simp[hl]) ⟨_,rfl⟩
   .have b1:V7 t (bs [112,97,105,114]) 2=false:=ET (by omega);have b2:V7 t (bs [101,110,99]) 2=false:=ET (by omega);have b4:V7 t (bs [97,101,110,99]) 2=false:=ET (by omega);have b5:V7 t (bs [115,105,103,110]) 2=false:=ET (by omega);have b7:V7 t (bs [115,104,107]) 2=false:=ET (by omega);simp only[ED,PL,b1,b2,b4,b5,b7]at hE p1 p2 p4 p5 p7;clear b1 b2 b4 b5 b7 IQ;have t1:V7 t (bs [104,97,115,104]) 1=true->t.kids.take 1=t.kids:=λh=>by
     obtain⟨a,ha⟩:=Nq h;rw[ha];rfl
    generalize V7 t (bs [104,97,115,104]) 1=b3 at *
    generalize EM rs t=b6 at *
    cases b3 with
    |true =>
     simp[t1 rfl]at hE;simp[C9,hl,h0,h1,A7 hk,p1,p2,p3];exact key t.cm t.kids _ _ (λ_ h=>h) (by omega) hE (by simp[hl]) (by simp[hl]) (by simp[hl]) (by simp[hl]) (by simp[hl]) ⟨_,rfl⟩
    |false =>
     cases b6 with
     |true =>
      simp[B9]at hE;subst hE;simp[C9,hl,h0,h1,A7 hk,p1,p2,p3,p4,p5,p6];exact key (true,false) [] _ _ (λq h=>nomatch h) (by simp) rfl (by simp[hl]) (by simp[hl]) (by simp[hl];exact Jv 4) (by simp[hl]) (by simp[hl]) ⟨_,rfl⟩
     |false =>
      simp at hE;subst hE;simp[C9,hl,h0,h1,A7 hk,p1,p2,p3,p4,p5,p6,p7]
  .rw[if_pos hk]at hE;obtain⟨z,hz⟩:=gS ns vs hkv ⟨[[sl m 1 (rs.map .str),.vm (ns.map .str) (vs.map (.int .i64))],[.int .i64 t.kind,.str t.name,.int .i64 t.sort,sl t.cm 4 (D0 t.kids)]],[]⟩ t.name;simp +contextual (maxSteps:=10000000) [C9,hl,h0,h1,hk,hz,hE]
theorem IN (rs seen:List ByteArray) (a:Q1) (r:List (ByteArray×Option ByteArray)):T0 rs seen ((a,none)::r)=if Iw seen a false≠0 then Iw seen a false else T0 rs (seen++[a]) r:=by
 rw[T0];simp[rz]
theorem MB (rs seen:List ByteArray) (a x:Q1) (r:List (ByteArray×Option ByteArray)):T0 rs seen ((a,some x)::r)=if Iw seen a true≠0 then Iw seen a true else if rs.any (U4 x)=false then 13 else T0 rs (seen++[a]) r:=by
 rw[T0];rfl
theorem FB {sz:Nat} {M8:C6} {v:AV} {h:AH} (hg:EQ sz M8 v h):v.isTup=false/\v.cells=[v]/\AZ [v]=false:=by
 rcases hg with ⟨_,rfl⟩|⟨_,k,rfl,_⟩<;>exact⟨rfl,rfl,rfl⟩
theorem SG (h:AH) (seen:List ByteArray) (v:AV) (hb:h.boxes[1]?=some [v]) (hg:EQ 1 (seen.map .str) v h) (C4:seen.length<=1048576) (a:Q1) (f:Bool) :
  ∃w h',rc Q F5 [.str a,.bool f,.ptr 1 0] h=some (w,h')/\w=.int .i64 (Iw seen a f)/\(Iw seen a f=0->∃v',h'.boxes=h.boxes.set 1 [v']/\EQ 1 ((seen++[a]).map .str) v' h'):=by
 have hH:pc Q U8 [.str a,.str (bs [35])]=some (.bool (Mm a)):=jb a 35;obtain⟨m,hm⟩:=NT hg;have hC:=Cx m seen a C4;obtain⟨v',h',ha,CN,Ie⟩:=ER (c:=B8 F5) (bytes:=16) (x:=.str a) hg rfl (true,true) (by simp;omega) (by simp;omega);have hg2:EQ 1 ((seen++[a]).map AV.str) v' h':=by rw[zf1z];exact CN
 have hv:=(FB hg).2.2;obtain⟨c1,c2,c3⟩:=FB CN;have A9:1<h.boxes.length:=P5 hb;have hE:Iw seen a f=if Mm a=true then 2 else if f=true/\(a=bs [101]\/a=bs [103])then 1 else if seen.any (U4 a)=true then 5 else 0:=rfl
 generalize Iw seen a f=z at *
 generalize seen.any (U4 a)=s at *
 generalize Mm a=x at *
 refine ss K0 λfr hl h0 h1 h2=>?_;simp[K0]at hl h0 h1 h2;cases x with
 |true =>
  simp at hE;simp[K0,hl,h0,h1,h2,hH,hE]
 |false =>
  cases f with
  |true =>
   by_cases he:a=bs [101]
   .subst he;simp at hE;simp[K0,hl,h0,h1,h2,hH,hE]
   .by_cases hg:a=bs [103]
    .subst hg;simp at hE;simp[K0,hl,h0,h1,h2,hH,hE,A0 he]
    .simp[he,hg]at hE;cases s with
     |true =>
      simp at hE;simp[K0,hl,h0,h1,h2,hH,hE,A0 he,A0 hg,hb,hv,hm,hC]
     |false =>
      simp at hE;subst hE;simp[K0,hl,h0,h1,h2,hH,A0 he,A0 hg,hb,hv,hm,hC,B4,ha,Ie,c1,c2];exact⟨v',rfl,Fo CN rfl⟩
  |false =>
   cases s with
   |true =>
    simp at hE;simp[K0,hl,h0,h1,h2,hH,hE,hb,hv,hm,hC]
   |false =>
    simp at hE;subst hE;simp[K0,hl,h0,h1,h2,hH,hb,hv,hm,hC,B4,ha,Ie,c1,c2];exact⟨v',rfl,Fo CN rfl⟩
theorem Yf (m:W8) (rs seen:List ByteArray) (l:List ByteArray) (C4:seen.length+l.length<=1048576) (A:C6) (fr:Fr) (h:AH) (hh:∃v B,h.boxes=A::[v]::B/\EQ 1 (seen.map .str) v h) (hl:fr.length=64) (h4:A2 fr 4=.fn F5 [.ptr 1 0]) (h16:A2 fr 16=sl m 1 (l.map .str)) (h17:A2 fr 17=.int .i64 l.length) (h18:A2 fr 18=.int .i64 0) :
  C3 (lp (A4 (M3 Q) (B8 L0) V5) (fr,h)) λe fr' h'=>Kp V5.wr fr fr'/\(e=.exit 0/\T0 rs seen (l.map λa=>(a,none))=0/\(∃v B,h'.boxes=A::[v]::B/\EQ 1 ((seen++l).map .str) v h')\/e=.ret/\A2 fr' 2=.int .i64 (T0 rs seen (l.map λa=>(a,none)))/\T0 rs seen (l.map λa=>(a,none))≠0):=by
 refine C1 rfl fr (λn fr h'=>∃(i:Nat),i+n=l.length/\A2 fr 18=.int .i64 (i:Nat)/\(∃v B,h'.boxes=A::[v]::B/\EQ 1 ((seen++l.take i).map .str) v h')/\T0 rs (seen++l.take i) ((l.drop i).map λa=>(a,none))=T0 rs seen (l.map λa=>(a,none))) ?_ l.length h ⟨0,by omega,h18,by simpa using hh,by simp⟩;rintro J Φ hJ hΦ n E3 H1 K ⟨i,hi,k18,hr⟩;have A6:=K.1.trans hl;have k4:=C0 K 4 h4;have k16:=C0 K 16 h16;have k17:=C0 K 17 h17;clear K;by_cases A9:i<l.length
 .have Z0:=C8 i (by omega);obtain⟨⟨v,B,hB,hg⟩,hr⟩:=hr;have hx:=D5 (f:=AV.str) (zf5z A9);obtain⟨w,h',hN,hw2,hz⟩:=SG H1 _ v (by rw[hB];rfl) hg (by simp;omega) l[i] false;subst hw2;rw[zf6z A9,zg3z]at hr;rw[IN]at hr;by_cases OR:Iw (seen++l.take i) l[i] false=0
  .obtain⟨v',hb',CN⟩:=hz OR;rw[if_neg (by simp[OR])]at hr;simp[V5,A6,k4,k16,k17,k18,A9,Z0,hx,hN,OR];exact F7 hJ ⟨i+1,by omega,by simp[A6],⟨v',B,by rw[hb',hB];rfl,by rw[zf0z A9,←zf2z];exact CN⟩,by rw[zf0z A9,←zf2z];exact hr⟩
  .rw[if_pos OR]at hr;simp[V5,A6,k4,k16,k17,k18,A9,Z0,hx,hN,OR];exact hΦ _ _ _ (.inr ⟨rfl,by simp[A6,hr],by rw[←hr];exact OR⟩)
 .obtain⟨hh',hr⟩:=hr;rw[zf7z (by omega)]at hr;rw[zf3z (by omega)]at hr hh';simp only[zf4z,T0]at hr;simp[V5,A6,k4,k16,k17,k18,A9];exact hΦ _ _ _ (.inl ⟨rfl,hr.symm,hh'⟩)
theorem Yd (m:W8) (rs seen:List ByteArray) (l:List ByteArray) (C4:seen.length+l.length<=1048576) (A:C6) (fr:Fr) (h:AH) (hh:∃v B,h.boxes=A::[v]::B/\EQ 1 (seen.map .str) v h) (hl:fr.length=64) (h4:A2 fr 4=.fn F5 [.ptr 1 0]) (h51:A2 fr 51=sl m 1 (l.map .str)) (h52:A2 fr 52=.int .i64 l.length) (h53:A2 fr 53=.int .i64 0) :
  C3 (lp (A4 (M3 Q) (B8 L0) V4) (fr,h)) λe fr' h'=>Kp V4.wr fr fr'/\(e=.exit 4/\T0 rs seen (l.map λa=>(a,none))=0/\(∃v B,h'.boxes=A::[v]::B/\EQ 1 ((seen++l).map .str) v h')\/e=.ret/\A2 fr' 2=.int .i64 (T0 rs seen (l.map λa=>(a,none)))/\T0 rs seen (l.map λa=>(a,none))≠0):=by
 refine C1 rfl fr (λn fr h'=>∃(i:Nat),i+n=l.length/\A2 fr 53=.int .i64 (i:Nat)/\(∃v B,h'.boxes=A::[v]::B/\EQ 1 ((seen++l.take i).map .str) v h')/\T0 rs (seen++l.take i) ((l.drop i).map λa=>(a,none))=T0 rs seen (l.map λa=>(a,none))) ?_ l.length h ⟨0,by omega,h53,by simpa using hh,by simp⟩;rintro J Φ hJ hΦ n E3 H1 K ⟨i,hi,k53,hr⟩;have A6:=K.1.trans hl;have k4:=C0 K 4 h4;have k51:=C0 K 51 h51;have k52:=C0 K 52 h52;clear K;by_cases A9:i<l.length
 .have Z0:=C8 i (by omega);obtain⟨⟨v,B,hB,hg⟩,hr⟩:=hr;have hx:=D5 (f:=AV.str) (zf5z A9);obtain⟨w,h',hN,hw2,hz⟩:=SG H1 _ v (by rw[hB];rfl) hg (by simp;omega) l[i] false;subst hw2;rw[zf6z A9,zg3z]at hr;rw[IN]at hr;by_cases OR:Iw (seen++l.take i) l[i] false=0
  .obtain⟨v',hb',CN⟩:=hz OR;rw[if_neg (by simp[OR])]at hr;simp[V4,A6,k4,k51,k52,k53,A9,Z0,hx,hN,OR];exact F7 hJ ⟨i+1,by omega,by simp[A6],⟨v',B,by rw[hb',hB];rfl,by rw[zf0z A9,←zf2z];exact CN⟩,by rw[zf0z A9,←zf2z];exact hr⟩
  .rw[if_pos OR]at hr;simp[V4,A6,k4,k51,k52,k53,A9,Z0,hx,hN,OR];exact hΦ _ _ _ (.inr ⟨rfl,by simp[A6,hr],by rw[←hr];exact OR⟩)
 .obtain⟨hh',hr⟩:=hr;rw[zf7z (by omega)]at hr;rw[zf3z (by omega)]at hr hh';simp only[zf4z,T0]at hr;simp[V4,A6,k4,k51,k52,k53,A9];exact hΦ _ _ _ (.inl ⟨rfl,hr.symm,hh'⟩)
end Go.Abs.Q
