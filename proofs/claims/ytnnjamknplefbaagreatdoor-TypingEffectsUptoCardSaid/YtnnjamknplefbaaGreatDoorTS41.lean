/- A part of the proof. -/
import Derived.Test.YtnnjamknplefbaaGreatDoorTS40
set_option linter.all false
open Bool renaming and_eq_true->zf0z,eq_iff_iff->zf1z,noConfusion->zf2z,not_eq_true'->zf6z,not_eq_true->zf7z
open List renaming mem_of_find?_eq_some->zf3z,all_eq_true->zf8z,isEmpty_iff->zf9z,find?_some->zg0z,range->zg3z
open Nat renaming beq->zf4z,eq_of_beq_eq_true->zf5z,zero_add->zg1z,add->zg2z
set_option linter.all false
set_option linter.unusedVariables false
namespace Go.Abs
noncomputable def qJ(a b:Option (List AV)):Bool:=match a,b with|none,none=>true|some a,some b=>Fy a b|_,_=>false
theorem ki(a b:Option (List AV)):qJ a b=IU a b:=by
 cases a<;>cases b<;>first|rfl|exact XK _ _
noncomputable def Zo(a b:Fam):Bool:=Fy a.xs b.xs&&(zf4z a.sz b.sz&&a.wr == b.wr)
noncomputable def SB(a b:Option Fam):Bool:=match a,b with|none,none=>true|some a,some b=>Zo a b|_,_=>false
theorem Nt(a b:Fam):Zo a b=true↔a=b:=by
 obtain⟨a1,a2,a3⟩:=a;obtain⟨b1,b2,b3⟩:=b;unfold Zo;simp only[zf0z,W8,JZ,beq_iff_eq,Fam.mk.injEq]
theorem Zp(a b:Option Fam):Hh a b=true↔a=b:=by
 cases a with
 |none=>cases b<;>simp[Hh]
 |some a =>
  cases b with
  |none=>simp[Hh]
  |some b =>
   obtain⟨a1,a2,a3⟩:=a;obtain⟨b1,b2,b3⟩:=b;simp only[Hh,zf0z,decide_eq_true_eq,Option.some.injEq,Fam.mk.injEq,←XK,W8];exact⟨λh=>⟨h.1.1,h.1.2,h.2⟩,λh=>⟨⟨h.1,h.2.1⟩,h.2.2⟩⟩
theorem qK(a b:Option (List AV)):IU a b=true↔a=b:=by
 cases a with
 |none=>cases b<;>simp[IU]
 |some a =>
  cases b with
  |none=>simp[IU]
  |some b=>simp only[IU,←XK,W8,Option.some.injEq]
theorem kl(a b:Option Fam):SB a b=Hh a b:=by
 rw[zf1z,Zp];cases a with
 |none=>cases b<;>simp[SB]
 |some a =>
  cases b with
  |none=>simp[SB]
  |some b=>simp only[SB,Nt,Option.some.injEq]
noncomputable def UH(p:List (List AV)×List (List AV)):Option Nat->Bool
 |none=>!(zf4z (JW p.1) (JW p.2))
 |some i=>!qJ (Fo p.1 i) (Fo p.2 i)
noncomputable def UI(p:List Fam×List Fam):Option Nat->Bool
 |none=>!(zf4z (JW p.1) (JW p.2))
 |some i=>!SB (Fo p.1 i) (Fo p.2 i)
theorem qx(a b:Nat):zf4z a b=(a == b):=by rw[zf1z,JZ,beq_iff_eq]
theorem gc(p:List (List AV)×List (List AV))(x:Option Nat):UH p x=vK p x:=by
 cases x with
 |none=>simp only[UH,vK,E6,qx]
 |some i=>simp only[UH,vK,E3,ki]
theorem gd(p:List Fam×List Fam)(x:Option Nat):UI p x=vL p x:=by
 cases x with
 |none=>simp only[UI,vL,E6,qx]
 |some i=>simp only[UI,vL,E3,kl]
section
variable {α:Type}
noncomputable def wlN(b:List α)(k:Nat->Bool):Nat->Bool:=b.rec (λ_=>true) (λ_ _ ih i=>(k i).rec false (ih (zg2z i (nat_lit 1))))
noncomputable def mm(eq:α->α->Bool)(a:List α):List α->(Nat->Bool)->Nat->Bool :=
 a.rec (λb k i=>wlN b k i) (λx _ ih b k i=>b.rec ((k i).rec false (ih [] k (zg2z i (nat_lit 1)))) (λy ys _=>((eq x y).rec (k i) true:Bool).rec false (ih ys k (zg2z i (nat_lit 1)))))
theorem YO(a b:Bool):(a.rec false b:Bool)=(a&&b):=by cases a<;>rfl
theorem rec_or(a b:Bool):(a.rec b true:Bool)=(a||b):=by cases a<;>rfl
theorem jY:∀(b:List α) (k:Nat->Bool) (i:Nat),wlN b k i=true↔∀j,j<b.length->k (i+j)=true
 | [],k,i=>by simp[wlN]
 |y::b,k,i=>by
  show ((k i).rec false (wlN b k (i+1)):Bool)=true↔_;rw[YO,zf0z,jY b k (i+1)];constructor
  .rintro⟨h1,h2⟩ j hj;cases j with
   |zero=>exact h1
   |succ j =>
    have:=h2 j (by simpa using hj);rw[show i+(j+1)=i+1+j by omega];exact this
  .intro h;refine⟨h 0 (by simp),λj hj=>?_⟩;rw[show i+1+j=i+(j+1) by omega];exact h (j+1) (by simpa using hj)
theorem JL{eq:α->α->Bool}(he:∀x y,eq x y=true↔x=y):∀(a b:List α) (k:Nat->Bool) (i:Nat),mm eq a b k i=true↔∀j,a[j]?≠b[j]?->k (i+j)=true
 | [],b,k,i=>by
  show wlN b k i=true↔_;rw[jY];refine⟨λh j hj=>h j (Nat.lt_of_not_le λhl=>hj (by rw[List.getElem?_eq_none hl];rfl)),λh j hj=>h j ?_⟩;rw[List.getElem?_eq_getElem hj];simp
 |x::a,[],k,i=>by
  show ((k i).rec false (mm eq a [] k (i+1)):Bool)=true↔_;rw[YO,zf0z,JL he a [] k (i+1)];constructor
  .rintro⟨h1,h2⟩ j hj;cases j with
   |zero=>exact h1
   |succ j =>
    rw[show i+(j+1)=i+1+j by omega];exact h2 j (by simpa using hj)
  .intro h;refine⟨h 0 (by simp),λj hj=>?_⟩;rw[show i+1+j=i+(j+1) by omega];exact h (j+1) (by simpa using hj)
 |x::a,y::b,k,i=>by
  show (((eq x y).rec (k i) true:Bool).rec false (mm eq a b k (i+1)):Bool)=true↔_;rw[rec_or,YO,zf0z,Bool.or_eq_true,JL he a b k (i+1),he];constructor
  .rintro⟨h1,h2⟩ j hj;cases j with
   |zero =>
    rcases h1 with h1|h1
    .exact absurd (by simp[h1]) hj
    .exact h1
   |succ j =>
    rw[show i+(j+1)=i+1+j by omega];exact h2 j (by simpa using hj)
  .intro h;refine⟨?_,λj hj=>?_⟩
   .by_cases e:x=y
    .exact .inl e
    .exact .inr (h 0 (by simpa using e))
   .rw[show i+1+j=i+(j+1) by omega];exact h (j+1) (by simpa using hj)
end
theorem Rv(p:List (List AV)×List (List AV))(i:Nat):vK p (some i)=true↔p.1[i]?≠p.2[i]?:=by
 have:=qK p.1[i]? p.2[i]?;show (!IU p.1[i]? p.2[i]?)=true↔_;rw[zf6z,←zf7z,this]
theorem Rw(p:List Fam×List Fam)(i:Nat):vL p (some i)=true↔p.1[i]?≠p.2[i]?:=by
 have:=Zp p.1[i]? p.2[i]?;show (!Hh p.1[i]? p.2[i]?)=true↔_;rw[zf6z,←zf7z,this]
noncomputable def vh:Option (List (Option Nat))->Option (List (List AV)×List (List AV))->Bool
 |_,none=>true
 |none,some p=>mm Fy p.1 p.2 (λ_=>false) (nat_lit 0)
 |some l,some p=>l.all λx=>!UH p x
noncomputable def vj:Option (List (Option Nat))->Option (List Fam×List Fam)->Bool
 |_,none=>true
 |none,some p=>mm Zo p.1 p.2 (λ_=>false) (nat_lit 0)
 |some l,some p=>l.all λx=>!UI p x
theorem RS{α:Type}{a b:List α}(h:∀j:Nat,a[j]?=b[j]?):a=b:=List.ext_getElem? h
theorem gR(r:Option (List (Option Nat)))(w:Option (List (List AV)×List (List AV))):vh r w=na r w:=by
 cases w with
 |none=>cases r<;>rfl
 |some p =>
  cases r with
  |some l=>simp only[vh,na,gc]
  |none =>
   show mm Fy p.1 p.2 (λ_=>false) 0=(HM p.1 p.2).isEmpty;rw[zf1z,JL W8,zf9z];constructor
   .intro h;have e:p.2=p.1:=(RS λj=>Classical.byContradiction λhj=>zf2z (h j hj)).symm;exact VA e
   .intro h j hj;have:=(Jz (p:=p) (x:=some j)).2 ((Rv p j).2 hj);rw[h]at this;cases this
theorem gS(r:Option (List (Option Nat)))(w:Option (List Fam×List Fam)):vj r w=nc r w:=by
 cases w with
 |none=>cases r<;>rfl
 |some p =>
  cases r with
  |some l=>simp only[vj,nc,gd]
  |none =>
   show mm Zo p.1 p.2 (λ_=>false) 0=(JT p.1 p.2).isEmpty;rw[zf1z,JL Nt,zf9z];constructor
   .intro h;have e:p.2=p.1:=(RS λj=>Classical.byContradiction λhj=>zf2z (h j hj)).symm;exact VB e
   .intro h j hj;have:=(KA (p:=p) (x:=some j)).2 ((Rw p j).2 hj);rw[h]at this;cases this
noncomputable def wwBZ:Option (List (List AV)×List (List AV))->Option (List (List AV)×List (List AV))->Bool
 |none,_=>true
 |some _,none=>true
 |some p,some q=>((UH p none).rec true (!UH q none))&&mm Fy p.1 p.2 (λi=>!UH q (some i)) (nat_lit 0)
noncomputable def wwFZ:Option (List Fam×List Fam)->Option (List Fam×List Fam)->Bool
 |none,_=>true
 |some _,none=>true
 |some p,some q=>((UI p none).rec true (!UI q none))&&mm Zo p.1 p.2 (λi=>!UI q (some i)) (nat_lit 0)
theorem jE(a b:Bool):(a.rec true b:Bool)=true↔(a=true->b=true):=by cases a<;>simp
theorem zC(w w':Option (List (List AV)×List (List AV))):wwBZ w w'=wwB w w':=by
 cases w with
 |none=>rfl
 |some p =>
  cases w' with
  |none=>rfl
  |some q =>
   show (((UH p none).rec true (!UH q none))&&mm Fy p.1 p.2 (λi=>!UH q (some i)) 0)=(HM p.1 p.2).all λx=>!vK q x;rw[zf1z,zf0z,jE,JL W8,zf8z];simp only[gc,zg1z];constructor
   .rintro⟨h1,h2⟩ x hx;have hx:=Jz.1 hx;cases x with
    |none=>exact h1 hx
    |some i=>exact h2 i ((Rv p i).1 hx)
   .intro h;exact⟨λhx=>h none (Jz.2 hx),λj hj=>h (some j) (Jz.2 ((Rv p j).2 hj))⟩
theorem zD(w w':Option (List Fam×List Fam)):wwFZ w w'=wwF w w':=by
 cases w with
 |none=>rfl
 |some p =>
  cases w' with
  |none=>rfl
  |some q =>
   show (((UI p none).rec true (!UI q none))&&mm Zo p.1 p.2 (λi=>!UI q (some i)) 0)=(JT p.1 p.2).all λx=>!vL q x;rw[zf1z,zf0z,jE,JL Nt,zf8z];simp only[gd,zg1z];constructor
   .rintro⟨h1,h2⟩ x hx;have hx:=KA.1 hx;cases x with
    |none=>exact h1 hx
    |some i=>exact h2 i ((Rw p i).1 hx)
   .intro h;exact⟨λhx=>h none (KA.2 hx),λj hj=>h (some j) (KA.2 ((Rw p j).2 hj))⟩
noncomputable def dO(a b:FQ):Bool:=vh a.rb b.wb&&vh b.rb a.wb&&wwBZ a.wb b.wb&&vj a.rf b.wf&&vj b.rf a.wf&&wwFZ a.wf b.wf
theorem kL(a b:FQ):dO a b=Rh a b:=by
 unfold dO Rh;rw[gR,gR,zC,gS,gS,zD]
noncomputable def iR(bj:Nat)(i:Nat)(oi oj:RO)(fi fj:FQ):Bool :=
 bj.testBit i ||
  (
   (match oi.dst with|some d=>!oj.slots.contains d&&oj.dst != some d|none=>true) &&
   (match oj.dst with|some d=>!oi.slots.contains d|none=>true)&&dO fi fj)
noncomputable def OR(bs:List Nat)(D5:List RO)(fs:List FQ):Bool :=
 (zg3z D5.length).all λj=>(zg3z j).all λi =>
  match Fo D5 i,Fo D5 j,Fo fs i,Fo fs j with
  |some oi,some oj,some fi,some fj=>iR (bs.getD j 0) i oi oj fi fj&&(match oi.dst,oj.dst with|some d,some e=>d != e|_,_=>true)
  |_,_,_,_=>false
theorem au(bs:List Nat)(D5:List RO)(fs:List FQ):OR bs D5 fs=Gz bs D5 fs:=by
 unfold OR Gz;congr 1;funext j;congr 1;funext i;rw[E3,E3,E3,E3];cases D5[i]?<;>cases D5[j]?<;>cases fs[i]?<;>cases fs[j]?<;>try rfl
 simp only[iR,Xl,kL];rfl
noncomputable def fqZ(c:Ctx)(g:Opd->AV)(r:ROp)(h h1:AH):FQ:=⟨FG c (JW h.boxes) g r,if r.writesB c then some (h.boxes,h1.boxes)else none,Db c g r,if r.writesF c then some (h.fams,h1.fams)else none⟩
theorem fqZ_eq(c:Ctx)(g:Opd->AV)(r:ROp)(h h1:AH):fqZ c g r h h1=kx c g r h h1:=by unfold fqZ kx;rw[E6]
noncomputable def iI(o:RO)(ih:Orc->Ctx->FT->AH->Option (FT×AH))(O:Orc)(c:Ctx)(t:FT)(h:AH)(b:Bool):Option (FT×AH) :=
 b.rec (ih O c (NC t o.dst B4) h) (zk o ih O c t (XN o.op O c (gT t.get) h))
noncomputable def XX(o:RO)(_:List RO)(ih:Orc->Ctx->FT->AH->Option (FT×AH))(O:Orc)(c:Ctx)(t:FT)(h:AH):Option (FT×AH) :=
 (Gk t.get o.guard).rec none (iI o ih O c t h)
noncomputable def rH(l:List RO):Orc->Ctx->FT->AH->Option (FT×AH):=l.rec zj XX
theorem an:∀(l:List RO),rH l=US l
 | []=>rfl
 |o::l=>by
  show XX o l (rH l)=eD o l (US l);rw[an l];funext O c t h;unfold XX eD iI eE;rw[SF]
noncomputable def YU(o:RO)(_:List RO)(ih:Orc->Ctx->FT->AH->Option (List (FQ×FT×AH)×FT×AH))(O:Orc)(c:Ctx)(t:FT)(h:AH):Option (List (FQ×FT×AH)×FT×AH) :=
 match Gk t.get o.guard with
 |some true=>(match XN o.op O c (gT t.get) h with|some (v,h')=>(ih O c (NC t o.dst v) h').map λp=>((fqZ c (gT t.get) o.op h h',t,h)::p.1,p.2)|none=>none)
 |some false=>(ih O c (NC t o.dst B4) h).map λp=>((nilQ,t,h)::p.1,p.2)
 |none=>none
noncomputable def eR(l:List RO):Orc->Ctx->FT->AH->Option (List (FQ×FT×AH)×FT×AH):=l.rec zq YU
theorem Ve:∀(l:List RO),eR l=QU l
 | []=>rfl
 |o::l=>by
  show YU o l (eR l)=fG o l (QU l);rw[Ve l];funext O c t h;unfold YU fG;rw[SF];cases Gk t.get o.guard with
  |none=>rfl
  |some b =>
   cases b with
   |false=>rfl
   |true =>
    cases Hn o.op O c (gT t.get) h with
    |none=>rfl
    |some p =>
     obtain⟨v,h'⟩:=p;dsimp only;rw[fqZ_eq]
noncomputable def qV(bs:List Nat)(D5:List RO)(ts:List (FT×AH))(i:Nat):Bool :=
 match Fo D5 i,Fo ts i with
 |some ⟨_,.ld agg n x,none⟩,some (t,h)=>(match gT t.get x with | .ptr b off=>ts.zipIdx.all λs=>(s.2 != 0&&(bs.getD (s.2-1) 0).testBit i)||eqO (Mz s.1.2 agg n (.ptr b off)) (Mz h agg n (.ptr b off))|_=>false)
 |_,_=>false
theorem qW(bs:List Nat)(D5:List RO)(ts:List (FT×AH))(i:Nat):qV bs D5 ts i=aF bs D5 ts i:=by
 unfold qV aF;simp only[E3,B9];rfl
noncomputable def adjZ(bs:List Nat)(D5:List RO)(ts:List (FT×AH))(fs:List FQ):List FQ:=fs.mapIdx λi f=>if qV bs D5 ts i then {f with rb:=some []} else f
theorem vf(bs:List Nat)(D5:List RO)(ts:List (FT×AH))(fs:List FQ):adjZ bs D5 ts fs=kI bs D5 ts fs:=by unfold adjZ kI;simp only[qW]
noncomputable def PK(_:Bool)(ops:List RO)(O:OrcT)(c:Ctx)(s:PF):Fx:=(rH ops O.orc c s.1 s.2).rec none (λs'=>some (.normal,s'))
noncomputable def XA(bs:List Nat)(ops:List RO)(O:OrcT)(c:Ctx)(s:PF):Fx :=
 match eR ops O.orc c s.1 (s.2.holesZ (Tu ops))with
 |some (ps,s')=>if OR bs ops (ps.map (·.1))then some (.normal,s')else if OR bs ops (adjZ bs ops (ps.map (·.2)++[s']) (ps.map (·.1)))then some (.normal,s')else none
 |none=>none
noncomputable def LF(x:RCode):dE:=x.rec dW PK XA Zf Rr Nq Rs dV oM oD
theorem GF:∀x:RCode,LF x=Dt x
 | .skip=>rfl
 | .region d ops=>by
  show PK d ops=Nr d ops;funext O c s;unfold PK Nr;rw[an]
 | .regd bs ops=>by
  show XA bs ops=Wz bs ops;funext O c s;unfold XA Wz;rw[Ve,lC];simp only[au,vf];rfl
 | .seq a b=>by
  show Zf a b (LF a) (LF b)=Zf a b (Dt a) (Dt b);rw[GF a,GF b]
 | .cond q a b=>by
  show Rr q a b (LF a) (LF b)=Rr q a b (Dt a) (Dt b);rw[GF a,GF b]
 | .block id a=>by
  show Nq id a (LF a)=Nq id a (Dt a);rw[GF a]
 | .loop a=>by
  show Rs a (LF a)=Rs a (Dt a);rw[GF a]
 | .exit id=>rfl
 | .ret=>rfl
 | .bad=>rfl
noncomputable def fE(t:FT)(h:AH):List RRes->Option (List AV)
 | []=>some []
 | .tmp k::rest=>(fE t h rest).map (t.get k::·)
 | .cell a agg n::rest=>(Mz h agg n (t.get a)).bind λv=>(fE t h rest).map (v::·)
theorem YR(t:FT)(h:AH):∀l,fE t h l=Qn t h l
 | []=>rfl
 | .tmp k::rest=>by unfold fE Qn;rw[YR t h rest]
 | .cell a agg n::rest=>by unfold fE Qn;rw[YR t h rest,B9]
noncomputable def nq(O:OrcT)(c:Ctx)(rf:RFunc)(args:List AV)(h:AH):Option (AV×AH) :=
 match LF rf.body O c (Me (JH (Nat.succ (Nat.max rf.ntmps args.length)) (Nat.max rf.ntmps args.length)) 0 args,h)with
 |some (.normal,s)=>(fE s.1 s.2 rf.results).map λvs=>(M6 vs,s.2)
 |some (.ret,s)=>(fE s.1 s.2 rf.results).map λvs=>(M6 vs,s.2)
 |_=>none
theorem nr(O:OrcT)(c:Ctx)(rf:RFunc)(args:I7)(h:AH):nq O c rf args h=Rn O c rf args h:=by
 unfold nq Rn;simp only[GF,YR];rfl
noncomputable def iu(C:Cfg)(O:OrcT)(f:FuncId)(args:List AV)(h:AH):Option (AV×AH) :=
 match C.code f with
 |some rf=>nq O (C.ctx f) rf args h
 |none=>match C.rspec f with|some s=>s.run O.orc args h|none=>none
theorem bM(C:Cfg)(O:OrcT)(f:FuncId)(args:I7)(h:AH):iu C O f args h=OZ C O f args h:=by
 unfold iu OZ;simp only[nr];rfl
noncomputable def xO(C:Cfg)(K:Know)(O:OrcT)(f:FuncId)(args:List AV)(h:AH):Option (AV×AH) :=
 (K.raw f args h).rec (Pp (C.ctx f).rst (iu C O f args h)) some
noncomputable def rp(C:Cfg)(K:Know)(O:OrcT)(f:FuncId)(args:List AV):Option AV :=
 match C.spec f with
 |some s=>s args
 |none=>match iu C O f args AH.empty with|some (r,h)=>Dv h r|none=>none
noncomputable def ib(C:Cfg)(K:Know)(O:OrcT)(f:FuncId)(args:List AV):Option AV :=
 (K.pure f args).rec (rp C K O f args) some
noncomputable def rI(C:Cfg)(K:Know)(n:Nat):OrcT :=
 n.rec ⟨λ_ _=>none,λ_ _ _=>none,λ_ _=>none⟩ (λn O=>⟨ib C K O,xO C K O,SU (n+1)⟩)
theorem Xi(C:Cfg)(K:Know):∀n,rI C K n=LS C K n
 |0=>rfl
 |n+1=>by
  show (⟨ib C K (rI C K n),xO C K (rI C K n),SU (n+1)⟩:OrcT)=⟨Pl C K (LS C K n),Vj C K (LS C K n),SU (n+1)⟩;rw[Xi C K n];have e1:ib C K (LS C K n)=Pl C K (LS C K n):=by
   funext f args;unfold ib Pl rp Xo;simp only[bM];rfl
  have e2:xO C K (LS C K n)=Vj C K (LS C K n):=by
   funext f args h;unfold xO Vj;simp only[bM]
  rw[e1,e2]
noncomputable def fO(l:List Told)(g:FuncId->List AV->Option AV)(f:FuncId)(args:List AV):Option AV :=
 match l.find? λx=>zf4z x.f f&&Fy x.args args with
 |some x=>some x.r
 |none=>g f args
noncomputable def eqBL(a b:List (List AV)):Bool:=mm Fy a b (λ_=>false) (nat_lit 0)
noncomputable def eqFL(a b:List Fam):Bool:=mm Zo a b (λ_=>false) (nat_lit 0)
theorem wE{a b:List (List AV)}(h:eqBL a b=true):a=b:=RS λj=>Classical.byContradiction λhj=>zf2z ((JL W8 a b _ 0).1 h j hj)
theorem wG{a b:List Fam}(h:eqFL a b=true):a=b:=RS λj=>Classical.byContradiction λhj=>zf2z ((JL Nt a b _ 0).1 h j hj)
noncomputable def wI(a b:AH):Bool:=eqBL a.boxes b.boxes&&eqFL a.fams b.fams
theorem hZ{a b:AH}(h:wI a b=true):a=b:=by
 obtain⟨a1,a2⟩:=a;obtain⟨b1,b2⟩:=b;unfold wI at h;rw[zf0z]at h;have e1:=wE h.1;have e2:=wG h.2;dsimp only at e1 e2;rw[e1,e2]
noncomputable def fP(m:List ToldR)(f:FuncId)(args:List AV)(h:AH):Option (AV×AH) :=
 match m.find? λx=>zf4z x.f f&&(Fy x.args args&&wI x.h h)with
 |some x=>some (x.r,x.h')
 |none=>none
noncomputable def Bp(l:List Told)(m:List ToldR)(g:FuncId->List AV->Option AV):Know:=⟨fO l g,fP m⟩
theorem R5{C:Cfg}{l:List Told}{m:List ToldR}{g:FuncId->List AV->Option AV}(h:∀x∈l,pc C x.f x.args=some x.r)(hm:∀x∈m,rc C x.f x.args x.h=some (x.r,x.h'))(hg:∀f args r,g f args=some r->pc C f args=some r):KnowOk C (Bp l m g):=by
 refine⟨λf args r he=>?_,λf args hp r he=>?_⟩
 .have he:fO l g f args=some r:=he;unfold fO at he;split at he
  .rename_i x hx;cases he;have h1:=zg0z hx;have h2:=zf3z hx;rw[zf0z]at h1;rw[←zf5z h1.1,←(W8 _ _).1 h1.2];exact h x h2
  .exact hg f args r he
 .have he:fP m f args hp=some r:=he;unfold fP at he;split at he
  .rename_i x hx;cases he;have h1:=zg0z hx;have h2:=zf3z hx;rw[zf0z,zf0z]at h1;rw[←zf5z h1.1,←(W8 _ _).1 h1.2.1,←hZ h1.2.2];exact hm x h2
  .cases he
noncomputable def isZ(o:Option (AV×AH))(r:AV)(h:AH):Bool:=match o with|some p=>eqR p.1 r&&wI p.2 h|none=>false
theorem isZ_eq{o:Option (AV×AH)}{r:AV}{h:AH}(e:isZ o r h=true):o=some (r,h):=by
 unfold isZ at e;cases o with
 |none=>cases e
 |some p =>
  obtain⟨a,b⟩:=p;dsimp only at e;rw[zf0z]at e;rw[(XJ _ _).1 e.1,hZ e.2]
theorem S4{C:Cfg}{K:Know}(hK:KnowOk C K)(n:Nat)(d:ToldR)(he:(spH d.h λh=>spH d.h' λh'=>isZ ((rI C K n).raw d.f d.args h) d.r h')=true):rc C d.f d.args d.h=some (d.r,d.h'):=by
 rw[se,se]at he;have:=isZ_eq he;rw[Xi]at this;exact sU hK n this
theorem rd{C:Cfg}{K:Know}(hK:KnowOk C K)(n:Nat)(d:Told)(he:(match (rI C K n).pure d.f d.args with|some v=>eqR v d.r|none=>false)=true):pc C d.f d.args=some d.r:=by
 refine L7 hK n ?_;rw[Xi]at he;cases h:(LS C K n).pure d.f d.args with
 |none=>rw[h]at he;cases he
 |some v =>
  rw[h]at he;dsimp only at he;rw[(XJ _ _).1 he]
end Go.Abs
