/- A part of the proof. -/
import Derived.Test.YtjhgilockkmniaaGreatDoorSJ23
set_option linter.all false
open List renaming take_succ_eq_append_getElem->zf0z,map_append->zf1z,append_assoc->zf2z,take_of_length_le->zf3z,map_nil->zf4z,getElem?_eq_getElem->zf5z,drop_eq_getElem_cons->zf6z,drop_eq_nil_of_le->zf7z,append_nil->zf8z,mem_of_mem_take->zf9z,length_take->zg1z,take_zero->zg2z,map_cons->zg3z
open Bool renaming and_eq_true->zg0z
namespace Go.Abs.Q
open Go.Proofs
attribute [local simp] C8 D5 fin H6 G0
theorem UD (m:U8) (l:List Fre) (C4:l.length<=1048576) (A B:C6) (hA:A.length<=1048576) (hB:B.length<=1048576) (b0 b1 b3 b4 b5:AV) (fr:Fr) (h:AH) (hh:h.boxes=[[b0,b1,sl m 3 (l.map Gq),b3,b4,b5]]) (hl:fr.length=72) (h1:A2 fr 1=.ptr 0 0)
  (h45:Pf A B (A2 fr 4) (A2 fr 5) h) (h7:A2 fr 7=.int .i64 0) :
  C3 (lp (A4 (N5 Q) (B9 O6) CG) (fr,h)) λe fr' h'=>Kp CG.wr fr fr'/\e=.exit 2/\h'.boxes=h.boxes/\Pf (A++(l.map Fre.name).map AV.str) (B++(l.map Fre.sort).map (AV.int .i64)) (A2 fr' 4) (A2 fr' 5) h':=by
 refine C1 rfl fr (λn fr h'=>∃i,i+n=l.length/\A2 fr 7=.int .i64 (i:Nat)/\h'.boxes=h.boxes/\Pf (A++((l.take i).map Fre.name).map AV.str) (B++((l.take i).map Fre.sort).map (AV.int .i64)) (A2 fr 4) (A2 fr 5) h') ?_ l.length h ⟨0,by omega,h7,rfl,by rw[zg2z,zf4z,zf4z,zf4z,zf4z,zf8z,zf8z];exact h45⟩;rintro J Φ hJ hΦ n E4 ⟨bx,fams⟩ K ⟨i,hi,k7,hb,hg⟩;rw[hh]at hb;simp only at hb;subst hb;have A6:=K.1.trans hl;have k1:=B8 K 1 h1;by_cases A9:i<l.length
 .have hx:=E5 (f:=Gq) (zf5z A9);have hw:=C9 i (by omega);obtain⟨v',X7,w',h2',ha1,ha2,Ch,hb1,hb2⟩:=RQ (c:=B9 O6) (x:=.str l[i].name) (y:=.int .i64 l[i].sort) hg rfl (true,true) (true,true) 16 8 (by omega) (by omega) (by simp;omega) (by simp;omega);have hg2:Pf (A++((l.take (i+1)).map Fre.name).map AV.str) (B++((l.take (i+1)).map Fre.sort).map (AV.int .i64)) v' w' h2':=by
   rw[zf0z A9,zf1z,zf1z,zf1z,zf1z,←zf2z,←zf2z];exact Ch
  have tw:∀F:Fr,A2 F 4=v'->A2 F 5=w'->Pf (A++((l.take (i+1)).map Fre.name).map AV.str) (B++((l.take (i+1)).map Fre.sort).map (AV.int .i64)) (A2 F 4) (A2 F 5) h2':=λF e4 e5=>by rw[e4,e5];exact hg2
  generalize l[i]=a at *
  obtain⟨r,nm,so⟩:=a;simp only[Gq]at hx ha1 ha2;simp[CG,A6,k1,k7,A9,hx,hw,BJ,AV.flat,B5,ha1,ha2,hb1];exact H0 hJ ⟨i+1,by omega,by simp[A6],by rw[hb2,hh],tw _ (by simp[A6]) (by simp[A6])⟩
 .have e:l.take i=l:=zf3z (by omega);rw[e]at hg;have tw:∀F:Fr,A2 F 4=A2 E4 4->A2 F 5=A2 E4 5->Pf (A++(l.map Fre.name).map AV.str) (B++(l.map Fre.sort).map (AV.int .i64)) (A2 F 4) (A2 F 5) _:=λF e4 e5=>by rw[e4,e5];exact hg
  simp[CG,A6,k1,k7,A9];exact hΦ _ _ _ ⟨rfl,by rw[hh],tw _ (by simp[A6]) (by simp[A6])⟩
theorem UC (m:U8) (l:List ByteArray) (C4:l.length<=1048576) (A B:C6) (hA:A.length<=2097152) (hB:B.length<=2097152) (b0 b1 b2 b4 b5:AV) (fr:Fr) (h:AH) (hh:h.boxes=[[b0,b1,b2,sl m 1 (l.map AV.str),b4,b5]]) (hl:fr.length=72) (h1:A2 fr 1=.ptr 0 0)
  (h45:Pf A B (A2 fr 4) (A2 fr 5) h) (h8:A2 fr 8=.int .i64 0) :
  C3 (lp (A4 (N5 Q) (B9 O6) CF) (fr,h)) λe fr' h'=>Kp CF.wr fr fr'/\e=.exit 4/\h'.boxes=h.boxes/\Pf (A++l.map AV.str) (B++(l.map λ_=>(5:Int)).map (AV.int .i64)) (A2 fr' 4) (A2 fr' 5) h':=by
 refine C1 rfl fr (λn fr h'=>∃i,i+n=l.length/\A2 fr 8=.int .i64 (i:Nat)/\h'.boxes=h.boxes/\Pf (A++(l.take i).map AV.str) (B++((l.take i).map λ_=>(5:Int)).map (AV.int .i64)) (A2 fr 4) (A2 fr 5) h') ?_ l.length h ⟨0,by omega,h8,rfl,by rw[zg2z,zf4z,zf4z,zf4z,zf8z,zf8z];exact h45⟩;rintro J Φ hJ hΦ n E4 ⟨bx,fams⟩ K ⟨i,hi,k8,hb,hg⟩;rw[hh]at hb;simp only at hb;subst hb;have A6:=K.1.trans hl;have k1:=B8 K 1 h1;by_cases A9:i<l.length
 .have hx:=E5 (f:=AV.str) (zf5z A9);have hw:=C9 i (by omega);obtain⟨v',X7,w',h2',ha1,ha2,Ch,hb1,hb2⟩:=RQ (c:=B9 O6) (x:=.str l[i]) (y:=.int .i64 5) hg rfl (true,true) (true,true) 16 8 (by omega) (by omega) (by simp;omega) (by simp;omega);have hg2:Pf (A++(l.take (i+1)).map AV.str) (B++((l.take (i+1)).map λ_=>(5:Int)).map (AV.int .i64)) v' w' h2':=by
   rw[zf0z A9,zf1z,zf1z,zf1z,←zf2z,←zf2z];exact Ch
  have tw:∀F:Fr,A2 F 4=v'->A2 F 5=w'->Pf (A++(l.take (i+1)).map AV.str) (B++((l.take (i+1)).map λ_=>(5:Int)).map (AV.int .i64)) (A2 F 4) (A2 F 5) h2':=λF e4 e5=>by rw[e4,e5];exact hg2
  generalize l[i]=a at *
  simp[CF,A6,k1,k8,A9,hx,hw,B5,ha1,ha2];exact H0 hJ ⟨i+1,by omega,by simp[A6],by rw[hb2,hh],tw _ (by simp[A6]) (by simp[A6])⟩
 .have e:l.take i=l:=zf3z (by omega);rw[e]at hg;have tw:∀F:Fr,A2 F 4=A2 E4 4->A2 F 5=A2 E4 5->Pf (A++l.map AV.str) (B++(l.map λ_=>(5:Int)).map (AV.int .i64)) (A2 F 4) (A2 F 5) _:=λF e4 e5=>by rw[e4,e5];exact hg
  simp[CF,A6,k1,k8,A9];exact hΦ _ _ _ ⟨rfl,by rw[hh],tw _ (by simp[A6]) (by simp[A6])⟩
structure Short (n:Nar):Prop where
 roles:n.roles.length<=1048576
 fresh:n.fresh.length<=1048576
 tags:n.tags.length<=1048576
theorem Ot (n:Nar) (S:Short n):∃r,pc Q O6 [D2 n]=some r/\∃m m':Bool×Bool,r=.tup [EV m (B4 n),sl m' 1 ((J7 n).map (AV.int .i64))]:=by
 have s1:=S.roles;have s2:=S.fresh;have s3:=S.tags;clear S;refine Ka IM λΨ hΨ fr hl h0=>?_;have en:(B4 n).map AV.str=n.roles.map AV.str++(n.fresh.map Fre.name).map AV.str++n.tags.map AV.str:=by simp only[B4,zf1z]
 have es:(J7 n).map (AV.int .i64)=(n.roles.map λ_=>(1:Int)).map (AV.int .i64)++(n.fresh.map Fre.sort).map (AV.int .i64)++(n.tags.map λ_=>(5:Int)).map (AV.int .i64):=by simp only[J7,zf1z]
 simp only[EV,en,es]at hΨ;clear en es;obtain⟨name,rm,roles,fm,fresh,tm,tags,sm,steps,gm,goals⟩:=n;simp only at *
 simp[IM,D2]at hl h0;simp[IM,hl,h0];refine C3.mono (UE rm roles (by omega) _ _ _ _ _ _ _ rfl ?_ ?_ ?_ ?_ ?_) ?_<;>first|(simp[hl];done)|skip
 rintro e E4 ⟨bx,fams⟩ ⟨K,rfl,hb,hg⟩;simp only at hb;subst hb;have A6:E4.length=72:=K.1.trans (by simp[hl]);have k1:A2 E4 1=.ptr 0 0:=B8 K 1 (by simp[hl]);clear K;have tw:∀F:Fr,A2 F 4=A2 E4 4->A2 F 5=A2 E4 5->Pf (roles.map AV.str) ((roles.map λ_=>(1:Int)).map (AV.int .i64)) (A2 F 4) (A2 F 5) _:=λF e4 e5=>by rw[e4,e5];exact hg
 clear hg;simp[A6];refine C3.mono (UD fm fresh (by omega) (roles.map AV.str) ((roles.map λ_=>(1:Int)).map (AV.int .i64)) (by simp;omega) (by simp;omega) _ _ _ _ _ _ _ rfl ?_ ?_ (tw _ ?_ ?_) ?_) ?_<;>first|(simp[A6,k1];done)|skip
 rintro e T9 ⟨bx,fams2⟩ ⟨K,rfl,hb,hg⟩;simp only at hb;subst hb;have FN:T9.length=72:=K.1.trans (by simp[A6]);have k1':A2 T9 1=.ptr 0 0:=B8 K 1 (by simp[A6,k1]);clear K tw;have tw:∀F:Fr,A2 F 4=A2 T9 4->A2 F 5=A2 T9 5->Pf (roles.map AV.str++(fresh.map Fre.name).map AV.str) ((roles.map λ_=>(1:Int)).map (AV.int .i64)++(fresh.map Fre.sort).map (AV.int .i64)) (A2 F 4) (A2 F 5) _:=λF e4 e5=>by rw[e4,e5];exact hg
 clear hg;simp[FN];refine C3.mono (UC tm tags (by omega) (roles.map AV.str++(fresh.map Fre.name).map AV.str) ((roles.map λ_=>(1:Int)).map (AV.int .i64)++(fresh.map Fre.sort).map (AV.int .i64)) (by simp;omega) (by simp;omega) _ _ _ _ _ _ _ rfl ?_ ?_ (tw _ ?_ ?_) ?_) ?_<;>first|(simp[FN,k1'];done)|skip
 rintro e fr3 h3 ⟨K,rfl,hb,hg⟩;have hl3:fr3.length=72:=K.1.trans (by simp[FN]);obtain⟨m,m',e1,e2⟩:=fG hg;generalize hA:roles.map AV.str++(fresh.map Fre.name).map AV.str++tags.map AV.str=A at *
 generalize hB:(roles.map λ_=>(1:Int)).map (AV.int .i64)++(fresh.map Fre.sort).map (AV.int .i64)++(tags.map λ_=>(5:Int)).map (AV.int .i64)=B at *
 simp[hl3,e1,e2];exact hΨ _ ⟨m,m',rfl⟩
def XI (m:Bool×Bool) (n:Nar):AV:=.agg [sl m 1 (n.roles.map .str),.vm ((B4 n).map .str) ((J7 n).map (.int .i64))]
theorem SE (h:AH) (b:Nat) (ks:List ByteArray) (vs:C6) (k:R7) (x:Int) (hb:h.boxes[b]?=some [.mbox (ks.map .str) vs]) (hk:ks.any (V4 k)=false) :
  UK true h (.mp b) (.str k) (.int .i64 x)=some (B3,{h with boxes:=h.boxes.set b [.mbox ((ks++[k]).map .str) (vs++[.int .i64 x])]}):=by
 simp only[UK,hb,ft,LY,Iu k ks 0 hk];simp
end Go.Abs.Q
namespace Go.Abs
section
variable {O:Orc} {c:Ctx} {d:Option Nat} {op:ROp} {C5:List RO} {fr:Fr} {h:AH} {Ψ:Ex->Fr->AH->Prop}
theorem Cb (b:Bool) {x y:RCode}:C3 (jH (.bool b) O c x y fr h) Ψ=((b=true->C3 (A4 O c x (fr,h)) Ψ)/\(b=false->C3 (A4 O c y (fr,h)) Ψ)):=by
 cases b<;>simp
theorem BG (b:Bool):C3 (ox (eS (.bool b) true O c d op C5 fr h)) Ψ=((b=true->C3 (ox (eV (A3 O c op fr h) O c d C5 fr)) Ψ)/\(b=false->C3 (ox (F5 O c C5 (put fr d B3) h)) Ψ)):=by
 cases b<;>simp
end
def Tm.kind:Tm->Int | .mk k _ _ _ _=>k
def Tm.name:Tm->ByteArray | .mk _ n _ _ _=>n
def Tm.sort:Tm->Int | .mk _ _ s _ _=>s
def Tm.cm:Tm->Bool×Bool | .mk _ _ _ m _=>m
def Tm.kids:Tm->List Tm | .mk _ _ _ _ l=>l
@[simp] theorem eK (t:Tm):(I1 t).cells=[.int .i64 t.kind,.str t.name,.int .i64 t.sort,sl t.cm 4 (D1 t.kids)]:=by cases t;rfl
@[simp] theorem kf (t:Tm):AV.agg [.int .i64 t.kind,.str t.name,.int .i64 t.sort,sl t.cm 4 (D1 t.kids)]=I1 t:=by cases t;rfl
@[simp] theorem qf (t:Tm):(I1 t).isTup=false:=by cases t;rfl
@[simp] theorem uF (h:AH) (am:Bool) (t:Tm):frz h am (I1 t)=some (I1 t):=by cases t;rfl
@[simp] theorem sF (h:AH) (t:Tm):tame h (I1 t)=true:=by cases t;rfl
@[simp] theorem lx (h:AH) (t:Tm):Cg h (I1 t)=some (I1 t):=by cases t;rfl
theorem Tm.kids_size (t:Tm):t.size=1+Tm.sizes t.kids:=by cases t;rfl
@[simp] theorem rU (h:AH) (f:Bool) (sz:Nat) (xs:C6):Ps h (.vs f sz xs)=some (.int .i64 xs.length,h):=rfl
@[simp] theorem mf (fr:Fr):F0 fr none=some none:=rfl
@[simp] theorem md (fr:Fr) (k:IntKind) (i:Int):F0 fr (some (.c (.int k i)))=some (some i):=rfl
@[simp] theorem mg (fr:Fr) (n:Nat):F0 fr (some (.t n))=(match A2 fr n with | .int _ i=>some (some i)|_=>none):=rfl
namespace Q
@[simp] theorem nt (g:Gol):(Be g).cells=[.int .i64 g.kind,.str g.role,.str g.wth,sl g.dm 4 (D1 g.data),.int .i64 g.line]:=rfl
@[simp] theorem sh (g:Gol):AV.agg [.int .i64 g.kind,.str g.role,.str g.wth,sl g.dm 4 (D1 g.data),.int .i64 g.line]=Be g:=rfl
@[simp] theorem nu (g:Gol):(Be g).isTup=false:=rfl
@[simp] theorem sk (h:AH) (am:Bool) (g:Gol):frz h am (Be g)=some (Be g):=rfl
@[simp] theorem rJ (h:AH) (g:Gol):tame h (Be g)=true:=rfl
@[simp] theorem Lr (s:Ste):(Q2 s).cells=[.str s.frm,.str s.to,.int .i64 s.msg.kind,.str s.msg.name,.int .i64 s.msg.sort,sl s.msg.cm 4 (D1 s.msg.kids),.int .i64 s.line]:=by simp[Q2]
@[simp] theorem uD (s:Ste):AV.agg [.str s.frm,.str s.to,.int .i64 s.msg.kind,.str s.msg.name,.int .i64 s.msg.sort,sl s.msg.cm 4 (D1 s.msg.kids),.int .i64 s.line]=Q2 s:=by simp[Q2]
@[simp] theorem qY (s:Ste):(Q2 s).isTup=false:=rfl
@[simp] theorem uE (h:AH) (am:Bool) (s:Ste):frz h am (Q2 s)=some (Q2 s):=by obtain⟨_,_,t,_⟩:=s;cases t;rfl
@[simp] theorem sC (h:AH) (s:Ste):tame h (Q2 s)=true:=by obtain⟨_,_,t,_⟩:=s;cases t;rfl
@[simp] theorem OR (f:Fre):(Gq f).cells=[.str f.role,.str f.name,.int .i64 f.sort]:=rfl
@[simp] theorem sY (f:Fre):AV.agg [.str f.role,.str f.name,.int .i64 f.sort]=Gq f:=rfl
@[simp] theorem nh (f:Fre):(Gq f).isTup=false:=rfl
@[simp] theorem sZ (h:AH) (am:Bool) (f:Fre):frz h am (Gq f)=some (Gq f):=rfl
@[simp] theorem rE (h:AH) (f:Fre):tame h (Gq f)=true:=rfl
theorem D4 (n:Nar):(D2 n).cells=[.str n.name,sl n.rm 1 (n.roles.map .str),sl n.fm 3 (n.fresh.map Gq),sl n.tm 1 (n.tags.map .str),sl n.sm 7 (n.steps.map Q2),sl n.gm 5 (n.goals.map Be)]:=rfl
@[simp] theorem tK (n:Nar):AV.agg [.str n.name,sl n.rm 1 (n.roles.map .str),sl n.fm 3 (n.fresh.map Gq),sl n.tm 1 (n.tags.map .str),sl n.sm 7 (n.steps.map Q2),sl n.gm 5 (n.goals.map Be)]=D2 n:=rfl
@[simp] theorem pf (n:Nar):(D2 n).isTup=false:=rfl
@[simp] theorem tL (h:AH) (am:Bool) (n:Nar):frz h am (D2 n)=some (D2 n):=rfl
@[simp] theorem rV (h:AH) (n:Nar):tame h (D2 n)=true:=rfl
end Q
end Go.Abs
namespace Go.Abs.Q
open Go.Proofs
def W8 (t:Tm) (nm:ByteArray) (n:Int):Bool:=decide (t.kind=3)&&decide (t.name=nm)&&decide ((t.kids.length:Int)=n)
def Bm (rs:List ByteArray) (t:Tm):Bool:=decide (t.kind=2)&&rs.any (V4 t.name)
def NO (f:Tm->Bool):List Tm->Bool
 |a::_=>f a
 |_=>false
def Kb (f:Tm->Bool):List Tm->Bool
 |_::b::_=>f b
 |_=>false
def Bj (rs:List ByteArray) (t:Tm):Bool:=W8 t (bs [115,107]) 1&&NO (Bm rs) t.kids
def EW (rs:List ByteArray) (t:Tm):Bool:=W8 t (bs [112,107]) 1&&NO (Bj rs) t.kids
def Kr:List Tm->Bool
 |a::b::_=>decide (a.name≠b.name)
 |_=>false
def PY (rs:List ByteArray) (t:Tm):Bool:=W8 t (bs [115,104,107]) 2&&NO (Bm rs) t.kids&&Kb (Bm rs) t.kids&&Kr t.kids
def EP (rs:List ByteArray) (t:Tm):Int :=
 if W8 t (bs [112,97,105,114]) 2=true\/W8 t (bs [101,110,99]) 2=true then 2
 else if W8 t (bs [104,97,115,104]) 1=true then 1
 else if (W8 t (bs [97,101,110,99]) 2=true/\Kb (EW rs) t.kids=true)\/(W8 t (bs [115,105,103,110]) 2=true/\Kb (Bj rs) t.kids=true)then 1
 else if EW rs t=true\/PY rs t=true then 0 else -1
mutual
def Z3 (ns rs:List ByteArray):Tm->Int
 | .mk k nm s m l=>if k≠3 then (if ns.any (V4 nm)=true then 0 else 13)else if EP rs (.mk k nm s m l)<0 then 10 else PT ns rs (EP rs (.mk k nm s m l)).toNat l
def PT (ns rs:List ByteArray):Nat->List Tm->Int
 |0,_=>0
 |_,[]=>0
 |n+1,t::l=>if Z3 ns rs t≠0 then Z3 ns rs t else PT ns rs n l
end
theorem NI (ns rs:List ByteArray):∀(l:Hg) (n:Nat),PT ns rs n l=C0 (Z3 ns rs) (l.take n)
 | [],0=>by simp[PT,C0]
 | [],n+1=>by simp[PT,C0]
 |t::l,0=>by simp[PT,C0]
 |t::l,n+1=>by simp[PT,C0,NI ns rs l n]
theorem Ns (ns rs:List ByteArray) (t:Tm):Z3 ns rs t=if t.kind≠3 then (if ns.any (V4 t.name)=true then 0 else 13)else if EP rs t<0 then 10 else C0 (Z3 ns rs) (t.kids.take (EP rs t).toNat):=by
 rw[←NI];cases t;rw[Z3];rfl
def HX (rs:List ByteArray) (a b:ByteArray):Int:=if rs.any (V4 a)=true/\rs.any (V4 b)=true then (if a=b then 1 else 0)else 13
def EB (ns rs:List ByteArray) (g:Gol):Int :=
 if rs.any (V4 g.role)=false then 13 else if Hh g=true/\HX rs g.role g.wth≠0 then HX rs g.role g.wth else C0 (Z3 ns rs) g.data
def DI (ns rs:List ByteArray) (s:Ste):Int:=if HX rs s.frm s.to≠0 then HX rs s.frm s.to else Z3 ns rs s.msg
def M4 {α:Type} (g:α->Int) (ln:α->Int):List α->Int×Int
 | []=>(0,0)
 |a::l=>if g a≠0 then (ln a,g a)else M4 g ln l
def JD (seen:List ByteArray) (a:ByteArray) (f:Bool):Int:=if Mu a=true then 2 else if f=true/\(a=bs [101]\/a=bs [103])then 1 else if seen.any (V4 a)=true then 5 else 0
def tE (rs:List ByteArray):Option ByteArray->Bool
 |some x=>rs.any (V4 x)
 |none=>true
def U1 (rs:List ByteArray):List ByteArray->List (ByteArray×Option ByteArray)->Int
 |_,[]=>0
 |seen,(a,f)::r=>if JD seen a f.isSome≠0 then JD seen a f.isSome else if tE rs f=false then 13 else U1 rs (seen++[a]) r
theorem Ji (rs:List ByteArray):∀(a b:List (ByteArray×Option ByteArray)) (seen:List ByteArray),U1 rs seen (a++b)=if U1 rs seen a≠0 then U1 rs seen a else U1 rs (seen++a.map (·.1)) b
 | [],b,seen=>by simp[U1]
 |(x,f)::a,b,seen=>by
  have ih:=Ji rs a b (seen++[x]);by_cases h1:JD seen x f.isSome=0
  .by_cases h2:tE rs f=false
   .simp[U1,h1,h2]
   .rw[Bool.not_eq_false]at h2;simp[U1,h1,h2,ih]
  .simp[U1,h1]
def TT (n:Nar):List (ByteArray×Option ByteArray):=n.roles.map (λa=>(a,none))++n.fresh.map (λf=>(f.name,some f.role))++n.tags.map (λa=>(a,none))
def GZ (n:Nar):Int:=U1 n.roles [] (TT n)
def Bv (n:Nar):Int×Int :=
 if JB n≠0 then (0,JB n)else if GZ n≠0 then (0,GZ n)
 else if M4 (DI (B4 n) n.roles) Ste.line n.steps≠(0,0)then M4 (DI (B4 n) n.roles) Ste.line n.steps else M4 (EB (B4 n) n.roles) Gol.line n.goals
end Go.Abs.Q
namespace Go.Abs.Q
open Go.Proofs
attribute [local simp] C8 D5 fin H6 G0 Cb BG Af Ae
theorem Nz {t:Tm} {nm:R7} (h:W8 t nm 1=true):∃a,t.kids=[a]:=by
 simp only[W8,zg0z,decide_eq_true_eq]at h;exact List.length_eq_one_iff.1 (by omega)
theorem NC (t:Tm) (nm:R7) (n:Int):pc Q u6 [I1 t,.str nm,.int .i64 n]=some (.bool (W8 t nm n)):=by
 refine kC LF λfr hl h0 h1 h2=>?_;simp[LF]at hl h0 h1 h2;simp +contextual (maxSteps:=10000000) [LF,hl,h0,h1,h2,W8]
theorem DG (m:U8) (l:List ByteArray) (x:R7) (h:l.length<=1048576):pc Q D7 [sl m 1 (l.map AV.str),.str x]=some (.bool (l.any (V4 x))):=Oq m l x (by omega)
theorem ST (m:U8) (rs:List ByteArray) (ks vs:C6) (hr:rs.length<=1048576) (t:Tm):pc Q V6 [.agg [sl m 1 (rs.map .str),.vm ks vs],I1 t]=some (.bool (Bm rs t)):=by
 have hC:=DG m rs t.name hr;refine Fe EF λfr hl h0 h1=>?_;simp[EF]at hl h0 h1;simp +contextual (maxSteps:=10000000) [EF,hl,h0,h1,Bm,hC]
theorem Oz (m:U8) (rs:List ByteArray) (ks vs:C6) (hr:rs.length<=1048576) (t:Tm):pc Q V0 [.agg [sl m 1 (rs.map .str),.vm ks vs],I1 t]=some (.bool (Bj rs t)):=by
 have hI:=NC t (bs [115,107]) 1;refine Fe x6 λfr hl h0 h1=>?_;simp[x6]at hl h0 h1;cases ha:W8 t (bs [115,107]) 1 with
 |false =>
  rw[ha]at hI;simp[x6,hl,h0,h1,Bj,hI,ha]
 |true =>
  rw[ha]at hI;obtain⟨a,hk⟩:=Nz ha;have hx:JY (D1 t.kids) 0=some (I1 a):=by rw[hk];rfl
  have hf:NO (Bm rs) t.kids=Bm rs a:=by rw[hk];rfl
  have hR:=ST m rs ks vs hr a;simp[x6,hl,h0,h1,Bj,hI,ha,hR,hx,hf]
theorem Qt (m:U8) (rs:List ByteArray) (ks vs:C6) (hr:rs.length<=1048576) (t:Tm):pc Q Y6 [.agg [sl m 1 (rs.map .str),.vm ks vs],I1 t]=some (.bool (EW rs t)):=by
 have hI:=NC t (bs [112,107]) 1;refine Fe Al λfr hl h0 h1=>?_;simp[Al]at hl h0 h1;cases ha:W8 t (bs [112,107]) 1 with
 |false =>
  rw[ha]at hI;simp[Al,hl,h0,h1,EW,hI,ha]
 |true =>
  rw[ha]at hI;obtain⟨a,hk⟩:=Nz ha;have hx:JY (D1 t.kids) 0=some (I1 a):=by rw[hk];rfl
  have hf:NO (Bj rs) t.kids=Bj rs a:=by rw[hk];rfl
  have hR:=Oz m rs ks vs hr a;simp[Al,hl,h0,h1,EW,hI,ha,hR,hx,hf]
theorem dR (m:U8) (rs:List ByteArray) (ks vs:C6) (hr:rs.length<=1048576) (a b:R7):pc Q Ab [.agg [sl m 1 (rs.map .str),.vm ks vs],.str a,.str b]=some (.int .i64 (HX rs a b)):=by
 have c1:=DG m rs a hr;have c2:=DG m rs b hr;refine kC FI λfr hl h0 h1 h2=>?_;simp[FI]at hl h0 h1 h2;have e:HX rs a b=if rs.any (V4 a)=true/\rs.any (V4 b)=true then (if a=b then 1 else 0)else 13:=rfl
 generalize HX rs a b=v at *
 generalize rs.any (V4 a)=x at *
 generalize rs.any (V4 b)=y at *
 cases x<;>cases y<;>simp +contextual [FI,hl,h0,h1,h2,c1,c2,e]
theorem Iv {α:Type} (p:α->Bool):∀(l:List α) (i:Nat),j9 p i l<(i:Int)+l.length
 | [],i=>by simp[j9];omega
 |a::l,i=>by
  have:=Iv p l (i+1);simp only[j9,List.length_cons];split<;>omega
theorem iM (ks:List ByteArray) (vs:List Int) (hkv:ks.length=vs.length) (h:AH) (a:R7) :
  ∃v,Eh true true (.int .i64 0) h (.vm (ks.map .str) (vs.map (.int .i64))) (.str a)=some (.tup [.int .i64 v,.bool (ks.any (V4 a))],h):=by
 cases hk:ks.any (V4 a)with
 |false=>exact⟨0,by simp[Eh,LY,w9,Iu a ks 0 hk]⟩
 |true =>
  have hge:=(FS (V4 a) ks 0).2 hk;have A9:=Iv (V4 a) ks 0;have hi:(j9 (V4 a) 0 ks).toNat<vs.length:=by omega
  refine⟨vs[(j9 (V4 a) 0 ks).toNat],?_⟩;simp[Eh,LY,w9,Kv a ks 0 hk,hi]
theorem ZQ (m:U8) (rs ns:List ByteArray) (vs:List Int) (m':U8) (l:Hg) (C4:l.length<=1099511627776) (IH:∀t∈l,pc Q D8 [.agg [sl m 1 (rs.map .str),.vm (ns.map .str) (vs.map (.int .i64))],I1 t]=some (.int .i64 (Z3 ns rs t))) (b1:C6) (fr:Fr) (h:AH) (hh:h.boxes=[[sl m 1 (rs.map .str),.vm (ns.map .str) (vs.map (.int .i64))],b1]) (hl:fr.length=98) (h2:A2 fr 2=.ptr 0 0) (h85:A2 fr 85=sl m' 4 (D1 l)) (h86:A2 fr 86=.int .i64 l.length) (h87:A2 fr 87=.int .i64 0) :
  C3 (lp (A4 (N5 Q) (B9 D8) O5) (fr,h)) λe fr' h'=>Kp O5.wr fr fr'/\(e=.exit 1/\C0 (Z3 ns rs) l=0\/e=.ret/\A2 fr' 4=.int .i64 (C0 (Z3 ns rs) l)):=by
 refine C1 rfl fr (λn fr h'=>∃(i:Nat),i+n=l.length/\A2 fr 87=.int .i64 (i:Nat)/\(∃B,h'.boxes=[sl m 1 (rs.map .str),.vm (ns.map .str) (vs.map (.int .i64))]::B)/\C0 (Z3 ns rs) (l.drop i)=C0 (Z3 ns rs) l) ?_ l.length h ⟨0,by omega,h87,⟨_,hh⟩,rfl⟩;rintro J Φ hJ hΦ n E4 H1 K ⟨i,hi,k87,hr⟩;have A6:=K.1.trans hl;have k2:=B8 K 2 h2;have k85:=B8 K 85 h85;have k86:=B8 K 86 h86;clear K;by_cases A9:i<l.length
 .have j0:=C9 i (by omega);obtain⟨⟨B,hB⟩,hr⟩:=hr;obtain⟨bx,fams⟩:=H1;simp only at hB;subst hB;have hx:=Et A9;have hI:=IH l[i] (List.getElem_mem A9);rw[zf6z A9]at hr;simp only[C0]at hr;generalize l[i]=t at *
  generalize Z3 ns rs t=v at *
  by_cases hz:v=0
  .rw[if_neg (by simp[hz])]at hr;simp[O5,A6,k2,k85,k86,k87,A9,j0,hx,hI,hz];exact H0 hJ ⟨i+1,by omega,by simp[A6],⟨_,rfl⟩,hr⟩
  .rw[if_pos hz]at hr;simp[O5,A6,k2,k85,k86,k87,A9,j0,hx,hI,hz];exact hΦ _ _ _ (.inr ⟨rfl,by simp[A6,hr]⟩)
 .obtain⟨_,hr⟩:=hr;rw[zf7z (by omega)]at hr;simp[O5,A6,k2,k85,k86,k87,A9];exact hΦ _ _ _ (.inl ⟨rfl,hr.symm⟩)
theorem Ed {t:Tm} {nm:R7} {n:Int} (h:(t.kids.length:Int)≠n):W8 t nm n=false:=by simp[W8,h]
theorem Tt {l:Hg} (h:l.length=2):∃a b,l=[a,b]:=by
 match l,h with
 | [a,b],_=>exact⟨a,b,rfl⟩
theorem Xu (m:U8) (rs ns:List ByteArray) (vs:List Int) (hr:rs.length<=1048576) (hkv:ns.length=vs.length):∀(n:Nat) (t:Tm),t.size<=n->t.size<=1099511627776 ->
  pc Q D8 [.agg [sl m 1 (rs.map .str),.vm (ns.map .str) (vs.map (.int .i64))],I1 t]=some (.int .i64 (Z3 ns rs t)):=by
 intro n
 induction n with
 |zero=>intro t h;have:=t.size_pos;omega
 |succ n ih =>
  intro t hn hb;have L4:=t.kids_size;have C4:=Tm.length_le t.kids;have hkids:∀l:List Tm,(∀a∈l,a∈t.kids)->∀a∈l,pc Q D8 [.agg [sl m 1 (rs.map .str),.vm (ns.map .str) (vs.map (.int .i64))],I1 a]=some (.int .i64 (Z3 ns rs a)) :=
   λl hs a ha=>ih a (by have:=Tm.size_le (hs a ha);omega) (by have:=Tm.size_le (hs a ha);omega)
  have IW:=λ(m':Bool×Bool) (l:List Tm) (hs:∀a∈l,a∈t.kids) (hl:l.length<=1099511627776)=>ZQ m rs ns vs m' l hl (hkids l hs);clear ih hkids;have hE:=Ns ns rs t;have p1:=NC t (bs [112,97,105,114]) 2;have p2:=NC t (bs [101,110,99]) 2;have p3:=NC t (bs [104,97,115,104]) 1;have p4:=NC t (bs [97,101,110,99]) 2;have p5:=NC t (bs [115,105,103,110]) 2;have p6:=Qt m rs (ns.map .str) (vs.map (.int .i64)) hr t;have p7:=NC t (bs [115,104,107]) 2;generalize Z3 ns rs t=v at *
  refine Fe D0 λfr hl h0 h1=>?_;simp[D0]at hl h0 h1;by_cases hk:t.kind=3
  .rw[if_neg (by simp[hk])]at hE;have key:∀(m':Bool×Bool) (l:List Tm) (E4:Fr) (h:AH),(∀a∈l,a∈t.kids)->l.length<=1099511627776->v=C0 (Z3 ns rs) l->E4.length=98->A2 E4 2=.ptr 0 0->A2 E4 85=sl m' 4 (D1 l)->A2 E4 86=.int .i64 l.length->A2 E4 87=.int .i64 0->(∃b1,h.boxes=[[sl m 1 (rs.map .str),.vm (ns.map .str) (vs.map (.int .i64))],b1]) ->
     C3 (lp (A4 (N5 Q) (B9 D8) O5) (E4,h)) (BL 1 (SQ (N5 Q) (B9 D8) (.seq (.region false [⟨some 4,.mov (.c (.int .i64 0)),none⟩]) .ret) (Vh [.tmp 4] (.int .i64 v)))):=by
    rintro m' l E4 h hs hll rfl hl q2 q85 q86 q87 ⟨b1,hb⟩;refine C3.mono (IW m' l hs hll b1 E4 h hb hl q2 q85 q86 q87) ?_;rintro e T9 h2 ⟨K,⟨rfl,hz⟩|⟨rfl,k4⟩⟩
    .have FN:=K.1.trans hl;simp[FN,hz]
    .simp[k4]
   by_cases h2:t.kids.length=2
   .obtain⟨x,y,hxy⟩:=Tt h2;have n0:JY (D1 t.kids) 0=some (I1 x):=by rw[hxy];rfl
    have n1:JY (D1 t.kids) 1=some (I1 y):=by rw[hxy];rfl
    have s1:=PZ ⟨[[sl m 1 (rs.map .str),.vm (ns.map .str) (vs.map (.int .i64))],[.int .i64 t.kind,.str t.name,.int .i64 t.sort,sl t.cm 4 (D1 t.kids)]],[]⟩ t.cm 4 (by omega) (D1 t.kids) 1 (by simp[h2]);rw[show ((1:Nat):Int)=1 from rfl]at s1;have c1:=Qt m rs (ns.map .str) (vs.map (.int .i64)) hr y;have c2:=Oz m rs (ns.map .str) (vs.map (.int .i64)) hr y;have c3:=ST m rs (ns.map .str) (vs.map (.int .i64)) hr x;have c4:=ST m rs (ns.map .str) (vs.map (.int .i64)) hr y;have f1:Kb (EW rs) t.kids=EW rs y:=by rw[hxy];rfl
    have f2:Kb (Bj rs) t.kids=Bj rs y:=by rw[hxy];rfl
    have f3:NO (Bm rs) t.kids=Bm rs x:=by rw[hxy];rfl
    have f4:Kb (Bm rs) t.kids=Bm rs y:=by rw[hxy];rfl
    have f5:Kr t.kids=decide (x.name≠y.name):=by rw[hxy];rfl
    have b3:W8 t (bs [104,97,115,104]) 1=false:=Ed (by omega);have b6:EW rs t=false:=by simp[EW,Ed (show (t.kids.length:Int)≠1 by omega)]
    simp only[EP,PY,b3,b6,f1,f2,f3,f4,f5]at hE p3 p6;clear f1 f2 f3 f4 f5 b3 b6 IW;have ex1:∀{a b:ByteArray},a≠b->W8 t a 2=true->W8 t b 2=false:=λur ha=>by
     simp only[W8,zg0z,decide_eq_true_eq]at ha;simp[W8,ha.1.2,ur]
    have x45:=ex1 (a:=bs [97,101,110,99]) (b:=bs [115,105,103,110]) (by decide);have x47:=ex1 (a:=bs [97,101,110,99]) (b:=bs [115,104,107]) (by decide);have x57:=ex1 (a:=bs [115,105,103,110]) (b:=bs [115,104,107]) (by decide);clear ex1;generalize W8 t (bs [112,97,105,114]) 2=b1 at *
    generalize W8 t (bs [101,110,99]) 2=b2 at *
    generalize W8 t (bs [97,101,110,99]) 2=b4 at *
    generalize W8 t (bs [115,105,103,110]) 2=b5 at *
    generalize W8 t (bs [115,104,107]) 2=b7 at *
    generalize EW rs y=e1 at *
    generalize Bj rs y=e2 at *
    generalize Bm rs x=e3 at *
    generalize Bm rs y=e4 at *
    have t2:t.kids.take 2=t.kids:=zf3z (by omega);cases b1 with
    |true =>
     simp[t2]at hE;simp[D0,hl,h0,h1,A7 hk,p1];exact key t.cm t.kids _ _ (λ_ h=>h) (by omega) hE (by simp[hl]) (by simp[hl]) (by simp[hl]) (by simp[hl]) (by simp[hl]) ⟨_,rfl⟩
    |false =>
     cases b2 with
     |true =>
      simp[t2]at hE;simp[D0,hl,h0,h1,A7 hk,p1,p2];exact key t.cm t.kids _ _ (λ_ h=>h) (by omega) hE (by simp[hl]) (by simp[hl]) (by simp[hl]) (by simp[hl]) (by simp[hl]) ⟨_,rfl⟩
     |false =>
      cases b4 with
      |true =>
       obtain rfl:=x45 rfl;obtain rfl:=x47 rfl;cases e1 with
       |true =>
        simp at hE;simp[D0,hl,h0,h1,A7 hk,p1,p2,p3,p4,n1,c1,s1];exact key _ _ _ _ (λq h=>zf9z h) (by rw[zg1z];omega) hE (by simp[hl]) (by simp[hl]) (by simp[hl,j2];rfl) (by simp[hl]) (by simp[hl]) ⟨_,rfl⟩
       |false =>
        simp at hE;subst hE;simp[D0,hl,h0,h1,A7 hk,p1,p2,p3,p4,p5,p6,p7,n1,c1]
      |false =>
       cases b5 with
       |true =>
        obtain rfl:=x57 rfl;cases e2 with
        |true =>
         simp at hE;simp[D0,hl,h0,h1,A7 hk,p1,p2,p3,p4,p5,n1,c2,s1];exact key _ _ _ _ (λq h=>zf9z h) (by rw[zg1z];omega) hE (by simp[hl]) (by simp[hl]) (by simp[hl,j2];rfl) (by simp[hl]) (by simp[hl]) ⟨_,rfl⟩
        |false =>
         simp at hE;subst hE;simp[D0,hl,h0,h1,A7 hk,p1,p2,p3,p4,p5,p6,p7,n1,c2]
       |false =>
        cases b7 with
        |false =>
         simp at hE;subst hE;simp[D0,hl,h0,h1,A7 hk,p1,p2,p3,p4,p5,p6,p7]
        |true =>
         cases e3 with
         |false =>
          simp at hE;subst hE;simp[D0,hl,h0,h1,A7 hk,p1,p2,p3,p4,p5,p6,p7,n0,c3]
         |true =>
          cases e4 with
          |false =>
           simp at hE;subst hE;simp[D0,hl,h0,h1,A7 hk,p1,p2,p3,p4,p5,p6,p7,n0,n1,c3,c4]
          |true =>
           by_cases hxn:x.name=y.name
           .simp[hxn]at hE;subst hE;simp[D0,hl,h0,h1,A7 hk,p1,p2,p3,p4,p5,p6,p7,n0,n1,c3,c4,A7 hxn]
           .simp[hxn,C0]at hE;subst hE;simp[D0,hl,h0,h1,A7 hk,p1,p2,p3,p4,p5,p6,p7,n0,n1,c3,c4,A0 hxn];exact key (true,false) [] _ _ (λq h=>nomatch h) (by simp) rfl (by simp[hl]) (by simp[hl]) (by simp[hl];exact KD 4) (by simp[hl]) (by simp[hl]) ⟨_,rfl⟩
   .have b1:W8 t (bs [112,97,105,114]) 2=false:=Ed (by omega);have b2:W8 t (bs [101,110,99]) 2=false:=Ed (by omega);have b4:W8 t (bs [97,101,110,99]) 2=false:=Ed (by omega);have b5:W8 t (bs [115,105,103,110]) 2=false:=Ed (by omega);have b7:W8 t (bs [115,104,107]) 2=false:=Ed (by omega);simp only[EP,PY,b1,b2,b4,b5,b7]at hE p1 p2 p4 p5 p7;clear b1 b2 b4 b5 b7 IW;have t1:W8 t (bs [104,97,115,104]) 1=true->t.kids.take 1=t.kids:=λh=>by
     obtain⟨a,ha⟩:=Nz h;rw[ha];rfl
    generalize W8 t (bs [104,97,115,104]) 1=b3 at *
    generalize EW rs t=b6 at *
    cases b3 with
    |true =>
     simp[t1 rfl]at hE;simp[D0,hl,h0,h1,A7 hk,p1,p2,p3];exact key t.cm t.kids _ _ (λ_ h=>h) (by omega) hE (by simp[hl]) (by simp[hl]) (by simp[hl]) (by simp[hl]) (by simp[hl]) ⟨_,rfl⟩
    |false =>
     cases b6 with
     |true =>
      simp[C0]at hE;subst hE;simp[D0,hl,h0,h1,A7 hk,p1,p2,p3,p4,p5,p6];exact key (true,false) [] _ _ (λq h=>nomatch h) (by simp) rfl (by simp[hl]) (by simp[hl]) (by simp[hl];exact KD 4) (by simp[hl]) (by simp[hl]) ⟨_,rfl⟩
     |false =>
      simp at hE;subst hE;simp[D0,hl,h0,h1,A7 hk,p1,p2,p3,p4,p5,p6,p7]
  .rw[if_pos hk]at hE;obtain⟨z,hz⟩:=iM ns vs hkv ⟨[[sl m 1 (rs.map .str),.vm (ns.map .str) (vs.map (.int .i64))],[.int .i64 t.kind,.str t.name,.int .i64 t.sort,sl t.cm 4 (D1 t.kids)]],[]⟩ t.name;simp +contextual (maxSteps:=10000000) [D0,hl,h0,h1,hk,hz,hE]
theorem IU (rs seen:List ByteArray) (a:R7) (r:List (ByteArray×Option ByteArray)):U1 rs seen ((a,none)::r)=if JD seen a false≠0 then JD seen a false else U1 rs (seen++[a]) r:=by
 rw[U1];simp[tE]
theorem MH (rs seen:List ByteArray) (a x:R7) (r:List (ByteArray×Option ByteArray)):U1 rs seen ((a,some x)::r)=if JD seen a true≠0 then JD seen a true else if rs.any (V4 x)=false then 13 else U1 rs (seen++[a]) r:=by
 rw[U1];rfl
theorem EG {sz:Nat} {L5:C6} {v:AV} {h:AH} (hg:EY sz L5 v h):v.isTup=false/\v.cells=[v]/\BA [v]=false:=by
 rcases hg with ⟨_,rfl⟩|⟨_,k,rfl,_⟩<;>exact⟨rfl,rfl,rfl⟩
theorem Sa (h:AH) (seen:List ByteArray) (v:AV) (hb:h.boxes[1]?=some [v]) (hg:EY 1 (seen.map .str) v h) (C4:seen.length<=1048576) (a:R7) (f:Bool) :
  ∃w h',rc Q F9 [.str a,.bool f,.ptr 1 0] h=some (w,h')/\w=.int .i64 (JD seen a f)/\(JD seen a f=0->∃v',h'.boxes=h.boxes.set 1 [v']/\EY 1 ((seen++[a]).map .str) v' h'):=by
 have hH:pc Q V7 [.str a,.str (bs [35])]=some (.bool (Mu a)):=kG a 35;obtain⟨m,hm⟩:=Nc hg;have hC:=DG m seen a C4;obtain⟨v',h',ha,Ch,JU⟩:=Eb (c:=B9 F9) (bytes:=16) (x:=.str a) hg rfl (true,true) (by simp;omega) (by simp;omega);have hg2:EY 1 ((seen++[a]).map AV.str) v' h':=by rw[zf1z];exact Ch
 have hv:=(EG hg).2.2;obtain⟨c1,c2,c3⟩:=EG Ch;have A9:1<h.boxes.length:=Q6 hb;have hE:JD seen a f=if Mu a=true then 2 else if f=true/\(a=bs [101]\/a=bs [103])then 1 else if seen.any (V4 a)=true then 5 else 0:=rfl
 generalize JD seen a f=z at *
 generalize seen.any (V4 a)=s at *
 generalize Mu a=x at *
 refine tz L3 λfr hl h0 h1 h2=>?_;simp[L3]at hl h0 h1 h2;cases x with
 |true =>
  simp at hE;simp[L3,hl,h0,h1,h2,hH,hE]
 |false =>
  cases f with
  |true =>
   by_cases he:a=bs [101]
   .subst he;simp at hE;simp[L3,hl,h0,h1,h2,hH,hE]
   .by_cases hg:a=bs [103]
    .subst hg;simp at hE;simp[L3,hl,h0,h1,h2,hH,hE,A0 he]
    .simp[he,hg]at hE;cases s with
     |true =>
      simp at hE;simp[L3,hl,h0,h1,h2,hH,hE,A0 he,A0 hg,hb,hv,hm,hC]
     |false =>
      simp at hE;subst hE;simp[L3,hl,h0,h1,h2,hH,A0 he,A0 hg,hb,hv,hm,hC,B5,ha,JU,c1,c2];exact⟨v',rfl,Cd Ch rfl⟩
  |false =>
   cases s with
   |true =>
    simp at hE;simp[L3,hl,h0,h1,h2,hH,hE,hb,hv,hm,hC]
   |false =>
    simp at hE;subst hE;simp[L3,hl,h0,h1,h2,hH,hb,hv,hm,hC,B5,ha,JU,c1,c2];exact⟨v',rfl,Cd Ch rfl⟩
theorem ZH (m:U8) (rs seen:List ByteArray) (l:List ByteArray) (C4:seen.length+l.length<=1048576) (A:C6) (fr:Fr) (h:AH) (hh:∃v B,h.boxes=A::[v]::B/\EY 1 (seen.map .str) v h) (hl:fr.length=64) (h4:A2 fr 4=.fn F9 [.ptr 1 0]) (h16:A2 fr 16=sl m 1 (l.map .str)) (h17:A2 fr 17=.int .i64 l.length) (h18:A2 fr 18=.int .i64 0) :
  C3 (lp (A4 (N5 Q) (B9 M2) W4) (fr,h)) λe fr' h'=>Kp W4.wr fr fr'/\(e=.exit 0/\U1 rs seen (l.map λa=>(a,none))=0/\(∃v B,h'.boxes=A::[v]::B/\EY 1 ((seen++l).map .str) v h')\/e=.ret/\A2 fr' 2=.int .i64 (U1 rs seen (l.map λa=>(a,none)))/\U1 rs seen (l.map λa=>(a,none))≠0):=by
 refine C1 rfl fr (λn fr h'=>∃(i:Nat),i+n=l.length/\A2 fr 18=.int .i64 (i:Nat)/\(∃v B,h'.boxes=A::[v]::B/\EY 1 ((seen++l.take i).map .str) v h')/\U1 rs (seen++l.take i) ((l.drop i).map λa=>(a,none))=U1 rs seen (l.map λa=>(a,none))) ?_ l.length h ⟨0,by omega,h18,by simpa using hh,by simp⟩;rintro J Φ hJ hΦ n E4 H1 K ⟨i,hi,k18,hr⟩;have A6:=K.1.trans hl;have k4:=B8 K 4 h4;have k16:=B8 K 16 h16;have k17:=B8 K 17 h17;clear K;by_cases A9:i<l.length
 .have j0:=C9 i (by omega);obtain⟨⟨v,B,hB,hg⟩,hr⟩:=hr;have hx:=E5 (f:=AV.str) (zf5z A9);obtain⟨w,h',hN,hw2,hz⟩:=Sa H1 _ v (by rw[hB];rfl) hg (by simp;omega) l[i] false;subst hw2;rw[zf6z A9,zg3z]at hr;rw[IU]at hr;by_cases Oa:JD (seen++l.take i) l[i] false=0
  .obtain⟨v',hb',Ch⟩:=hz Oa;rw[if_neg (by simp[Oa])]at hr;simp[W4,A6,k4,k16,k17,k18,A9,j0,hx,hN,Oa];exact H0 hJ ⟨i+1,by omega,by simp[A6],⟨v',B,by rw[hb',hB];rfl,by rw[zf0z A9,←zf2z];exact Ch⟩,by rw[zf0z A9,←zf2z];exact hr⟩
  .rw[if_pos Oa]at hr;simp[W4,A6,k4,k16,k17,k18,A9,j0,hx,hN,Oa];exact hΦ _ _ _ (.inr ⟨rfl,by simp[A6,hr],by rw[←hr];exact Oa⟩)
 .obtain⟨hh',hr⟩:=hr;rw[zf7z (by omega)]at hr;rw[zf3z (by omega)]at hr hh';simp only[zf4z,U1]at hr;simp[W4,A6,k4,k16,k17,k18,A9];exact hΦ _ _ _ (.inl ⟨rfl,hr.symm,hh'⟩)
theorem ZF (m:U8) (rs seen:List ByteArray) (l:List ByteArray) (C4:seen.length+l.length<=1048576) (A:C6) (fr:Fr) (h:AH) (hh:∃v B,h.boxes=A::[v]::B/\EY 1 (seen.map .str) v h) (hl:fr.length=64) (h4:A2 fr 4=.fn F9 [.ptr 1 0]) (h51:A2 fr 51=sl m 1 (l.map .str)) (h52:A2 fr 52=.int .i64 l.length) (h53:A2 fr 53=.int .i64 0) :
  C3 (lp (A4 (N5 Q) (B9 M2) W3) (fr,h)) λe fr' h'=>Kp W3.wr fr fr'/\(e=.exit 4/\U1 rs seen (l.map λa=>(a,none))=0/\(∃v B,h'.boxes=A::[v]::B/\EY 1 ((seen++l).map .str) v h')\/e=.ret/\A2 fr' 2=.int .i64 (U1 rs seen (l.map λa=>(a,none)))/\U1 rs seen (l.map λa=>(a,none))≠0):=by
 refine C1 rfl fr (λn fr h'=>∃(i:Nat),i+n=l.length/\A2 fr 53=.int .i64 (i:Nat)/\(∃v B,h'.boxes=A::[v]::B/\EY 1 ((seen++l.take i).map .str) v h')/\U1 rs (seen++l.take i) ((l.drop i).map λa=>(a,none))=U1 rs seen (l.map λa=>(a,none))) ?_ l.length h ⟨0,by omega,h53,by simpa using hh,by simp⟩;rintro J Φ hJ hΦ n E4 H1 K ⟨i,hi,k53,hr⟩;have A6:=K.1.trans hl;have k4:=B8 K 4 h4;have k51:=B8 K 51 h51;have k52:=B8 K 52 h52;clear K;by_cases A9:i<l.length
 .have j0:=C9 i (by omega);obtain⟨⟨v,B,hB,hg⟩,hr⟩:=hr;have hx:=E5 (f:=AV.str) (zf5z A9);obtain⟨w,h',hN,hw2,hz⟩:=Sa H1 _ v (by rw[hB];rfl) hg (by simp;omega) l[i] false;subst hw2;rw[zf6z A9,zg3z]at hr;rw[IU]at hr;by_cases Oa:JD (seen++l.take i) l[i] false=0
  .obtain⟨v',hb',Ch⟩:=hz Oa;rw[if_neg (by simp[Oa])]at hr;simp[W3,A6,k4,k51,k52,k53,A9,j0,hx,hN,Oa];exact H0 hJ ⟨i+1,by omega,by simp[A6],⟨v',B,by rw[hb',hB];rfl,by rw[zf0z A9,←zf2z];exact Ch⟩,by rw[zf0z A9,←zf2z];exact hr⟩
  .rw[if_pos Oa]at hr;simp[W3,A6,k4,k51,k52,k53,A9,j0,hx,hN,Oa];exact hΦ _ _ _ (.inr ⟨rfl,by simp[A6,hr],by rw[←hr];exact Oa⟩)
 .obtain⟨hh',hr⟩:=hr;rw[zf7z (by omega)]at hr;rw[zf3z (by omega)]at hr hh';simp only[zf4z,U1]at hr;simp[W3,A6,k4,k51,k52,k53,A9];exact hΦ _ _ _ (.inl ⟨rfl,hr.symm,hh'⟩)
end Go.Abs.Q
