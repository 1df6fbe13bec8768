/- A part of the proof. -/
import Derived.Test.YtohjdamplbhdpaaGreatDoorSD17
set_option linter.all false
open Option renaming bind_some->oD
open List renaming getElem?_set_ne->xX,getElem?_set_self->xY,take_succ_eq_append_getElem->xZ,map_append->xa,getElem_mem->xb,map_cons->xc,getElem?_append_left->xd,map_nil->xe,take_of_length_le->xf,map_eq_nil_iff->xg,getElem?_eq_some_iff->xh,drop_length->xi,take_length->xj,append_nil->xk,drop_zero->xm,any_append->xo
open Nat renaming le_refl->xl
open Bool renaming and_eq_true->xn,true_or->xp
namespace Go.Abs.Q
open Go.Proofs
attribute [local simp] D1 D4 fin I2 G0 Nw
def bg (k sz:Nat) (xs:List AV) (v:AV) (h:AH):Prop:=(xs=[]/\∃b,v=sl (true,b) sz [])\/(xs≠[]/\v=.sl k xs.length 0 xs.length/\h.fams[k]?=some ⟨xs,sz,true⟩)
@[simp] theorem HD (h:AH) (k n off len:Nat):Bj h (.sl k n off len)=y5 h true (.sl k n off len):=rfl
@[simp] theorem lR (h:AH):Bj h (.vs true 0 [])=some (.vs true 0 []):=rfl
theorem PS {k sz:Nat} {xs:E5} {v:AV} {h:AH} (hg:bg k sz xs v h):v.isTup=false/\v.cells=[v]/\CG [v]=false:=by
 rcases hg with ⟨_,b,rfl⟩|⟨_,rfl,_⟩<;>exact⟨rfl,rfl,rfl⟩
theorem Us {k sz:Nat} {xs:E5} {v:AV} {h:AH} (hg:bg k sz xs v h) (h':AH):Pf h' v=some (.int .i64 xs.length,h'):=by
 rcases hg with ⟨rfl,b,rfl⟩|⟨_,rfl,_⟩
 .simp
 .rfl
theorem MM (m:J0) (xs:E5) (ac:xs.length<=1048576):∃m',pc Q Y4 [sl m 1 xs]=some (sl m' 1 xs):=by
 suffices h:∃r,pc Q Y4 [sl m 1 xs]=some r/\∃m',r=sl m' 1 xs by
  obtain⟨r,h1,m',rfl⟩:=h;exact⟨m',h1⟩
 have hr:xs.length*16<=G5/\xs.length<=maxLen:=by simp only[G5,maxLen];omega
 refine Ja Y7 λΨ hΨ fr hl h0=>?_;simp[Y7]at hl h0;by_cases he:xs=[]
 .subst he;obtain⟨m1,m2⟩:=m;cases m2 with
  |false =>
   simp[Y7,hl,h0];exact hΨ _ ⟨(true,false),Fk 1⟩
  |true =>
   simp[Y7,hl,h0,FQ,A3];exact hΨ _ ⟨_,rfl⟩
 .have he':xs.isEmpty=false:=by simpa using he
  simp[Y7,hl,h0,he',FQ,A3,he,hr,HD];exact hΨ _ ⟨_,rfl⟩
theorem TN (m:J0) (xs:E5) (ac:xs.length<=1048576):∃m',pc Q BF [sl m 3 xs]=some (sl m' 3 xs):=by
 suffices h:∃r,pc Q BF [sl m 3 xs]=some r/\∃m',r=sl m' 3 xs by
  obtain⟨r,h1,m',rfl⟩:=h;exact⟨m',h1⟩
 have hr:xs.length*40<=G5/\xs.length<=maxLen:=by simp only[G5,maxLen];omega
 refine Ja j5 λΨ hΨ fr hl h0=>?_;simp[j5]at hl h0;by_cases he:xs=[]
 .subst he;obtain⟨m1,m2⟩:=m;cases m2 with
  |false =>
   simp[j5,hl,h0];exact hΨ _ ⟨(true,false),Fk 3⟩
  |true =>
   simp[j5,hl,h0,FQ,A3];exact hΨ _ ⟨_,rfl⟩
 .have he':xs.isEmpty=false:=by simpa using he
  simp[j5,hl,h0,he',FQ,A3,he,hr,HD];exact hΨ _ ⟨_,rfl⟩
theorem Kv (m:J0) (xs:E5) (ac:xs.length<=1048576) (h:AH):∃w h',rc Q G6 [sl m 4 xs] h=some (w,h')/\bg h.fams.length 4 xs w h'/\h'.boxes=h.boxes/\∃e,h'.fams=h.fams++e:=by
 have hr:xs.length*56<=G5/\xs.length<=maxLen:=by simp only[G5,maxLen];omega
 suffices hq:∃w h',rc Q G6 [sl m 4 xs] h=some (w,h')/\∀Ψ:AV->AH->Prop,(∀w h',bg h.fams.length 4 xs w h'/\h'.boxes=h.boxes/\(∃e,h'.fams=h.fams++e)->Ψ w h')->Ψ w h' by
  obtain⟨w,h',h1,h2⟩:=hq;exact⟨w,h',h1,h2 _ λ_ _ h=>h⟩
 refine YC N9 λfr hl h0=>?_;simp[N9]at hl h0;by_cases he:xs=[]
 .subst he;obtain⟨m1,m2⟩:=m;cases m2 with
  |false =>
   simp[N9,hl,h0];exact λΨ hΨ=>hΨ _ _ (.inl ⟨rfl,false,Fk 4⟩) rfl [] (by simp)
  |true =>
   simp[N9,hl,h0,FQ,A3];exact λΨ hΨ=>hΨ _ _ (.inl ⟨rfl,true,rfl⟩) rfl [] (by simp)
 .have he':xs.isEmpty=false:=by simpa using he
  simp[N9,hl,h0,he',FQ,A3,he,hr,show TM G6=true from rfl];exact λΨ hΨ=>hΨ _ _ (.inr ⟨he,rfl,by simp⟩) rfl _ rfl
theorem Vn (m:J0) (xs:E5) (ac:xs.length<=1048576) (h:AH):∃w h',rc Q M2 [sl m 7 xs] h=some (w,h')/\bg h.fams.length 7 xs w h'/\h'.boxes=h.boxes/\∃e,h'.fams=h.fams++e:=by
 have hr:xs.length*96<=G5/\xs.length<=maxLen:=by simp only[G5,maxLen];omega
 suffices hq:∃w h',rc Q M2 [sl m 7 xs] h=some (w,h')/\∀Ψ:AV->AH->Prop,(∀w h',bg h.fams.length 7 xs w h'/\h'.boxes=h.boxes/\(∃e,h'.fams=h.fams++e)->Ψ w h')->Ψ w h' by
  obtain⟨w,h',h1,h2⟩:=hq;exact⟨w,h',h1,h2 _ λ_ _ h=>h⟩
 refine YC u9 λfr hl h0=>?_;simp[u9]at hl h0;by_cases he:xs=[]
 .subst he;obtain⟨m1,m2⟩:=m;cases m2 with
  |false =>
   simp[u9,hl,h0];exact λΨ hΨ=>hΨ _ _ (.inl ⟨rfl,false,Fk 7⟩) rfl [] (by simp)
  |true =>
   simp[u9,hl,h0,FQ,A3];exact λΨ hΨ=>hΨ _ _ (.inl ⟨rfl,true,rfl⟩) rfl [] (by simp)
 .have he':xs.isEmpty=false:=by simpa using he
  simp[u9,hl,h0,he',FQ,A3,he,hr,show TM M2=true from rfl];exact λΨ hΨ=>hΨ _ _ (.inr ⟨he,rfl,by simp⟩) rfl _ rfl
theorem Vm (m:J0) (xs:E5) (ac:xs.length<=1048576) (h:AH):∃w h',rc Q M1 [sl m 5 xs] h=some (w,h')/\bg h.fams.length 5 xs w h'/\h'.boxes=h.boxes/\∃e,h'.fams=h.fams++e:=by
 have hr:xs.length*72<=G5/\xs.length<=maxLen:=by simp only[G5,maxLen];omega
 suffices hq:∃w h',rc Q M1 [sl m 5 xs] h=some (w,h')/\∀Ψ:AV->AH->Prop,(∀w h',bg h.fams.length 5 xs w h'/\h'.boxes=h.boxes/\(∃e,h'.fams=h.fams++e)->Ψ w h')->Ψ w h' by
  obtain⟨w,h',h1,h2⟩:=hq;exact⟨w,h',h1,h2 _ λ_ _ h=>h⟩
 refine YC t8 λfr hl h0=>?_;simp[t8]at hl h0;by_cases he:xs=[]
 .subst he;obtain⟨m1,m2⟩:=m;cases m2 with
  |false =>
   simp[t8,hl,h0];exact λΨ hΨ=>hΨ _ _ (.inl ⟨rfl,false,Fk 5⟩) rfl [] (by simp)
  |true =>
   simp[t8,hl,h0,FQ,A3];exact λΨ hΨ=>hΨ _ _ (.inl ⟨rfl,true,rfl⟩) rfl [] (by simp)
 .have he':xs.isEmpty=false:=by simpa using he
  simp[t8,hl,h0,he',FQ,A3,he,hr,show TM M1=true from rfl];exact λΨ hΨ=>hΨ _ _ (.inr ⟨he,rfl,by simp⟩) rfl _ rfl
end Go.Abs.Q
namespace Go.Abs.Q
open Go.Proofs
attribute [local simp] D1 D4 fin I2 G0
@[simp] theorem vh (B:List (List AV)) (f f':List Fam) (v:AV):UJ true ⟨B,f⟩ (some (v,⟨B,f'⟩))=some (v,⟨B,f'⟩):=fy ⟨B,f⟩ v f'
@[simp] theorem pt (s:Ste) (cs:E5):(Ci s).reform cs=some (.agg cs):=rfl
@[simp] theorem oq (s:Gol) (cs:E5):(DP s).reform cs=some (.agg cs):=rfl
@[simp] theorem qB (s:Tm) (cs:E5):(B8 s).reform cs=some (.agg cs):=by cases s;rfl
theorem tK (a b:H6) (t:Tm) (c:Int):AV.agg [.str a,.str b,.int .i64 t.kind,.str t.name,.int .i64 t.sort,sl t.cm 4 (A4 t.kids),.int .i64 c]=Ci ⟨a,b,t,c⟩:=by cases t;rfl
def LX (s:Ste):Ste:=⟨s.frm,s.to,D2 s.msg,s.line⟩
def DB (f:ByteArray->Int) (s:Ste):Ste:=⟨s.frm,s.to,U3 f s.msg,s.line⟩
def lO (g:Gol):Gol:=⟨g.kind,g.role,g.wth,(false,false),H3 g.data,g.line⟩
def YR (f:ByteArray->Int) (g:Gol):Gol:=⟨g.kind,g.role,g.wth,(false,false),AO f g.data,g.line⟩
theorem NB {α β:Type} (g:α->β) (done l:List α) {i:Nat} (hi:i<l.length) (hd:done.length=i):∃h:i<((done++l.drop i).map g).length,((done++l.drop i).map g)[i]=g l[i]/\((done++l.drop i).map g).length=l.length:=by
 have e:(done++l.drop i).length=l.length:=by simp[hd];omega
 refine⟨by simp[hd];omega,?_,by simpa using e⟩;simp[hd,List.getElem_append_right]
theorem NC {α β:Type} (g:α->β) (done l:List α) {i:Nat} (hi:i<l.length) (hd:done.length=i) (x:α):((done++l.drop i).map g).set i (g x)=((done++[x])++l.drop (i+1)).map g:=by
 rw[List.drop_eq_getElem_cons hi,←List.map_set,List.set_append_right _ _ (by omega),hd,Nat.sub_self,List.set_cons_zero,List.append_assoc,List.singleton_append]
theorem Ch {α:Type} {l:List α} {k:Nat} {x:α} (h:l[k]?=some x):l.set k x=l:=by
 obtain⟨h1,h2⟩:=xh.1 h;subst h2;exact List.set_getElem_self h1
theorem cu (by':AV) (f:ByteArray->Int) (l:List Ste) (C2:l.length<=1048576) (hby:∀h am,frz h am by'=some by') (hby2:∀h,tame h by'=true) (IH:∀s∈l,∃t',pc Q I5 [B8 s.msg,by']=some (B8 t')/\D2 t'=U3 f s.msg) (k:Nat) (b0 b1 b2 b3 b5:AV) (C:E5) (fr:Fr) (h:AH) (hh:h.boxes=[[b0,b1,b2,b3,.sl k l.length 0 l.length,b5],C]) (hfam:h.fams[k]?=some ⟨l.map Ci,7,true⟩) (hl:fr.length=85) (h1:A0 fr 1=by') (h2:A0 fr 2=.ptr 0 0) (h31:A0 fr 31=.int .i64 l.length) (h32:A0 fr 32=.int .i64 0) :
  C8 (lp (A1 (Q8 Q) (G8 x8) Ed) (fr,h)) λe D3 h'=>Kp Ed.wr fr D3/\e=.exit 0/\∃done:List Ste,h'=⟨h.boxes,h.fams.set k ⟨done.map Ci,7,true⟩⟩/\done.map LX=l.map (DB f)/\done.length=l.length:=by
 refine C3 rfl fr (λn fr h'=>∃(i:Nat),i+n=l.length/\A0 fr 32=.int .i64 (i:Nat)/\(∃done:List Ste,h'=⟨h.boxes,h.fams.set k ⟨(done++l.drop i).map Ci,7,true⟩⟩/\done.map LX=(l.take i).map (DB f)/\done.length=i)) ?_ l.length h ⟨0,by omega,h32,⟨[],by simp[Ch hfam],rfl,rfl⟩⟩;rintro J Φ hJ hΦ n H0 H1 K ⟨i,hi,k32,hr⟩;have B5:=K.1.trans hl;have k1:=A5 K 1 h1;have k2:=A5 K 2 h2;have k31:=A5 K 31 h31;clear K;by_cases A7:i<l.length
 .have V9:=E6 i (by omega);obtain⟨done,rfl,hd,EF⟩:=hr;obtain⟨t',hI,ht⟩:=IH l[i] (xb A7);obtain⟨q1,q2,q3⟩:=NB Ci done l A7 EF;have q4:=NC Ci done l A7 EF ⟨l[i].frm,l[i].to,t',l[i].line⟩;have e2:(done++[Ste.mk l[i].frm l[i].to t' l[i].line]).map LX=(l.take (i+1)).map (DB f):=by
   rw[xZ A7,xa,hd,xa,xc,xe,xc,xe];simp only[LX,ht,DB]
  have CF:=J1 hfam;have e6:=tK l[i].frm l[i].to t' l[i].line;rw[hh]at hJ ⊢;clear hd ht;generalize (done++l.drop i).map Ci=X at *
  generalize hY:(done++[Ste.mk l[i].frm l[i].to t' l[i].line]++l.drop (i+1)).map Ci=Y at *
  generalize l[i]=s at *
  simp[Ed,B5,k1,k2,k31,k32,A7,V9,hI,hby,hby2,q2,q3,q4,e6,CF];exact O9 hJ ⟨i+1,by omega,by simp[B5],⟨_,by rw[hY],e2,by simp[EF]⟩⟩
 .obtain⟨done,rfl,hd,EF⟩:=hr;have e:i=l.length:=by omega
  subst e;rw[xj]at hd;rw[xi,xk];simp[Ed,B5,k31,k32];exact hΦ _ _ _ ⟨rfl,done,rfl,hd,EF⟩
theorem cq (by':AV) (f:ByteArray->Int) (l:I1) (C2:l.length<=1048576) (hby:∀h am,frz h am by'=some by') (hby2:∀h,tame h by'=true) (IH:∀s∈l,∃t',pc Q I5 [B8 s,by']=some (B8 t')/\D2 t'=U3 f s) (k:Nat) (fr:Fr) (h:AH) (hfam:h.fams[k]?=some ⟨A4 l,4,true⟩) (hl:fr.length=85) (h1:A0 fr 1=by') (h7:A0 fr 7=.sl k l.length 0 l.length) (h63:A0 fr 63=.int .i64 l.length) (h64:A0 fr 64=.int .i64 0) :
  C8 (lp (A1 (Q8 Q) (G8 x8) y4) (fr,h)) λe D3 h'=>Kp y4.wr fr D3/\e=.exit 4/\∃done:List Tm,h'=⟨h.boxes,h.fams.set k ⟨A4 done,4,true⟩⟩/\H3 done=AO f l/\done.length=l.length:=by
 refine C3 rfl fr (λn fr h'=>∃(i:Nat),i+n=l.length/\A0 fr 64=.int .i64 (i:Nat)/\(∃done:List Tm,h'=⟨h.boxes,h.fams.set k ⟨(done++l.drop i).map B8,4,true⟩⟩/\H3 done=AO f (l.take i)/\done.length=i)) ?_ l.length h ⟨0,by omega,h64,⟨[],by simp[Ch hfam,←D7],by simp[H3,AO],rfl⟩⟩;rintro J Φ hJ hΦ n H0 H1 K ⟨i,hi,k64,hr⟩;have B5:=K.1.trans hl;have k1:=A5 K 1 h1;have k7:=A5 K 7 h7;have k63:=A5 K 63 h63;clear K;by_cases A7:i<l.length
 .have V9:=E6 i (by omega);obtain⟨done,rfl,hd,EF⟩:=hr;obtain⟨t',hI,ht⟩:=IH l[i] (xb A7);obtain⟨q1,q2,q3⟩:=NB B8 done l A7 EF;have q4:=NC B8 done l A7 EF t';have e2:H3 (done++[t'])=AO f (l.take (i+1)):=by
   rw[xZ A7,E4,xa,←E4,hd,KN,KN,xa,xc,xe,xc,xe,ht]
  have CF:=J1 hfam;clear hd ht;generalize (done++l.drop i).map B8=X at *
  generalize hY:(done++[t']++l.drop (i+1)).map B8=Y at *
  generalize l[i]=s at *
  simp[y4,B5,k1,k7,k63,k64,A7,V9,hI,hby,hby2,q2,q3,q4,CF];exact O9 hJ ⟨i+1,by omega,by simp[B5],⟨_,by rw[hY],e2,by simp[EF]⟩⟩
 .obtain⟨done,rfl,hd,EF⟩:=hr;have e:i=l.length:=by omega
  subst e;rw[xj]at hd;rw[xi,xk,←D7];simp[y4,B5,k63,k64];exact hΦ _ _ _ ⟨rfl,done,rfl,hd,EF⟩
theorem ez (fr:Fr) (h:AH) (hl:fr.length=85) (h63:A0 fr 63=.int .i64 0) (h64:A0 fr 64=.int .i64 0) :
  C8 (lp (A1 (Q8 Q) (G8 x8) y4) (fr,h)) λe D3 h'=>Kp y4.wr fr D3/\e=.exit 4/\h'=h:=by
 refine C3 rfl fr (λn D3 h'=>D3=fr/\h'=h) ?_ 0 h ⟨rfl,rfl⟩;rintro J Φ hJ hΦ n H0 H1 K ⟨rfl,rfl⟩;simp[y4,hl,h63,h64];exact hΦ _ _ _ ⟨rfl,rfl⟩
theorem lS (a:Int) (b c:H6) (m:J0) (l:I1) (d:Int):AV.agg [.int .i64 a,.str b,.str c,sl m 4 (A4 l),.int .i64 d]=DP ⟨a,b,c,m,l,d⟩:=rfl
theorem Zu {h:AH} {kd kg i m:Nat} {dd:I1} {X:E5} {g:Gol} (h1:h.fams[kd]?=some ⟨A4 dd,4,true⟩) (h2:h.fams[kg]?=some ⟨X,5,true⟩) (M8:kd≠kg) (hm:X.length=m) (hx:X[i]?=some (DP g)) :
  HS h 1 (.sl kd dd.length 0 dd.length) (.ep kg m i 3 5)=some ⟨h.boxes,(h.fams.set kd ⟨A4 dd,4,false⟩).set kg ⟨X.set i (DP ⟨g.kind,g.role,g.wth,(false,true),dd,g.line⟩),5,true⟩⟩:=by
 have hk:=J1 h1;have hl:VN h (.sl kd dd.length 0 dd.length)=some ⟨h.boxes,h.fams.set kd ⟨A4 dd,4,false⟩⟩:=by
  simp[VN,Rd,Do,h1,eK]
 have hf:frz ⟨h.boxes,h.fams.set kd ⟨A4 dd,4,false⟩⟩ false (.sl kd dd.length 0 dd.length)=some (sl (false,true) 4 (A4 dd)):=by
  rw[Rd,Do];simp only;rw[xY hk,oD,if_pos ⟨by simp,by omega,rfl⟩,xm,xf (by simp)]
 rw[NK,hl,oD];simp only;rw[xX M8,h2,oD,if_pos ⟨hm,rfl,rfl⟩];simp only;rw[hx,oD,hf,oD];simp[lS]
theorem YW {h:AH} {kg i m:Nat} {b:Bool} {X:E5} {g:Gol} (h2:h.fams[kg]?=some ⟨X,5,true⟩) (hm:X.length=m) (hx:X[i]?=some (DP g)) :
  HS h 1 (sl (true,b) 4 []) (.ep kg m i 3 5)=some ⟨h.boxes,h.fams.set kg ⟨X.set i (DP ⟨g.kind,g.role,g.wth,(true,b),[],g.line⟩),5,true⟩⟩:=by
 rw[NK];simp only[VN,ng,oD];rw[h2,oD,if_pos ⟨hm,rfl,rfl⟩];simp only;rw[hx,oD];have e:=lS g.kind g.role g.wth (true,b) [] g.line;rw[show A4 []=[] from rfl]at e;simp[e]
theorem ct (by':AV) (f:ByteArray->Int) (l:List Gol) (C2:l.length<=1048576) (EF:∀g∈l,g.data.length<=1048576) (hby:∀h am,frz h am by'=some by') (hby2:∀h,tame h by'=true) (IH:∀g∈l,∀t∈g.data,∃t',pc Q I5 [B8 t,by']=some (B8 t')/\D2 t'=U3 f t) (kg:Nat) (b0 b1 b2 b3 b4:AV) (C:E5) (fr:Fr) (h:AH) (hh:h.boxes=[[b0,b1,b2,b3,b4,.sl kg l.length 0 l.length],C]) (hfam:h.fams[kg]?=some ⟨l.map DP,5,true⟩) (hl:fr.length=85) (h1:A0 fr 1=by') (h2:A0 fr 2=.ptr 0 0) (h51:A0 fr 51=.int .i64 l.length) (h52:A0 fr 52=.int .i64 0) :
  C8 (lp (A1 (Q8 Q) (G8 x8) d7) (fr,h)) λe D3 h'=>Kp d7.wr fr D3/\e=.exit 2/\∃(F:List Fam) (done:List Gol),h'=⟨h.boxes,F⟩/\F[kg]?=some ⟨done.map DP,5,true⟩/\(∀j,j≠kg->j<h.fams.length->F[j]?=h.fams[j]?)/\done.map lO=l.map (YR f)/\done.length=l.length:=by
 refine C3 rfl fr (λn fr h'=>∃(i:Nat),i+n=l.length/\A0 fr 52=.int .i64 (i:Nat)/\(∃(F:List Fam) (done:List Gol),h'=⟨h.boxes,F⟩/\F[kg]?=some ⟨(done++l.drop i).map DP,5,true⟩/\(∀j,j≠kg->j<h.fams.length->F[j]?=h.fams[j]?)/\h.fams.length<=F.length/\done.map lO=(l.take i).map (YR f)/\done.length=i)) ?_ l.length h ⟨0,by omega,h52,⟨_,[],rfl,by simpa using hfam,λ_ _ _=>rfl,xl _,rfl,rfl⟩⟩;rintro J Φ hJ hΦ n H0 H1 K ⟨i,hi,k52,hr⟩;have B5:=K.1.trans hl;have k1:=A5 K 1 h1;have k2:=A5 K 2 h2;have k51:=A5 K 51 h51;clear K;by_cases A7:i<l.length
 .have V9:=E6 i (by omega);obtain⟨F,done,rfl,hF,hFo,hFl,hd,hdn⟩:=hr;obtain⟨q1,q2,q3⟩:=NB DP done l A7 hdn;have hq2:=xh.2 ⟨q1,q2⟩;have hkg:=J1 hF;have hkg0:=J1 hfam;obtain⟨w,⟨bx,F1⟩,hC,hRow,fk,e,hFe⟩:=Kv l[i].dm (A4 l[i].data) (by have:=EF l[i] (xb A7);simpa using this) ⟨h.boxes,F⟩;simp only at fk hFe;subst fk;have hF1:F1[kg]?=some ⟨(done++l.drop i).map DP,5,true⟩:=by rw[hFe,xd hkg];exact hF
  have hF1o:∀j,j≠kg->j<h.fams.length->F1[j]?=h.fams[j]?:=λj h1 h2=>by rw[hFe,xd (by omega)];exact hFo j h1 h2
  have hF1l:h.fams.length<=F1.length:=by rw[hFe];simp;omega
  have hlen7:∀h',Pf h' w=some (.int .i64 l[i].data.length,h'):=λh'=>by have:=Us hRow h';simpa using this
  have hIH:=IH l[i] (xb A7);have hdl':=EF l[i] (xb A7);have q4:=λg':Gol=>NC DP done l A7 hdn g';have fin:∀g':Gol,lO g'=YR f l[i]->(done++[g']).map lO=(l.take (i+1)).map (YR f):=by
   intro g' he;rw[xZ A7,xa,hd,xa,xc,xe,xc,xe,he]
  rw[hh]at hC hJ ⊢;clear hd hFe hFo;generalize hX:(done++l.drop i).map DP=X at *
  generalize l[i]=g at *
  by_cases hnil:g.data=[]
  .obtain⟨-,b,rfl⟩:A4 g.data=[]/\∃b,w=sl (true,b) 4 []:=by
    rcases hRow with h|⟨h,_⟩
    .exact h
    .rw[hnil]at h;exact absurd rfl h
   have hSt:=YW (h:=⟨[[b0,b1,b2,b3,b4,.sl kg l.length 0 l.length],C],F1⟩) (b:=b) hF1 q3 hq2;simp[d7,B5,k2,k51,k52,A7,hF,q2,q3,hC,hlen7];rw[hnil];refine C8.mono (ez _ _ ?_ ?_ ?_) ?_<;>first|(simp[B5];done)|skip
   rintro e Cq h2 ⟨K,rfl,rfl⟩;have FT:Cq.length=85:=K.1.trans (by simp[B5]);have k2fr2:A0 Cq 2=.ptr 0 0:=A5 K 2 (by simp[k2]);have k6fr2:A0 Cq 6=.int .i64 (i:Nat):=A5 K 6 (by simp[B5]);have k7fr2:A0 Cq 7=sl (true,b) 4 []:=A5 K 7 (by simp[B5]);have k52fr2:A0 Cq 52=.int .i64 (i:Nat):=A5 K 52 (by simp[k52]);clear K;simp[FT,k2fr2,k6fr2,k7fr2,k52fr2,A7,hSt,V9,-NK];exact O9 hJ ⟨i+1,by omega,by simp[FT],_,done++[⟨g.kind,g.role,g.wth,(true,b),[],g.line⟩],rfl,by rw[xY (J1 hF1),q4],λj h1 h2=>by rw[xX (Ne.symm h1)];exact hF1o j h1 h2,by simpa using hF1l,fin _ (by simp[lO,YR,hnil,H3,AO]),by simp[hdn]⟩
  .obtain⟨rfl,hkd⟩:w=.sl F.length g.data.length 0 g.data.length/\F1[F.length]?=some ⟨A4 g.data,4,true⟩:=by
    rcases hRow with ⟨h,_⟩|⟨_,h,h'⟩
    .rw[D7,xg]at h;exact absurd h hnil
    .exact⟨by simpa using h,h'⟩
   have M8:F.length≠kg:=by omega
   simp[d7,B5,k2,k51,k52,A7,hF,q2,q3,hC,hlen7];refine C8.mono (cq by' f g.data hdl' hby hby2 hIH F.length _ _ ?_ ?_ ?_ ?_ ?_ ?_) ?_<;>first|(simp[B5,k1];done)|skip
   .exact hkd
   rintro e Cq h2 ⟨K,rfl,dd,rfl,hdd,hddl⟩;have FT:Cq.length=85:=K.1.trans (by simp[B5]);have k2fr2:A0 Cq 2=.ptr 0 0:=A5 K 2 (by simp[k2]);have k6fr2:A0 Cq 6=.int .i64 (i:Nat):=A5 K 6 (by simp[B5]);have k7fr2:A0 Cq 7=.sl F.length g.data.length 0 g.data.length:=A5 K 7 (by simp[B5]);have k52fr2:A0 Cq 52=.int .i64 (i:Nat):=A5 K 52 (by simp[k52]);clear K;have hkdl:=J1 hkd;have hSt:=Zu (h:=⟨[[b0,b1,b2,b3,b4,.sl kg l.length 0 l.length],C],F1.set F.length ⟨A4 dd,4,true⟩⟩) (kd:=F.length) (dd:=dd) (xY hkdl) (by simp only;rw[xX M8];exact hF1) M8 q3 hq2;rw[hddl]at hSt;simp only[List.set_set]at hSt;simp[FT,k2fr2,k6fr2,k7fr2,k52fr2,A7,hSt,V9,-NK];exact O9 hJ ⟨i+1,by omega,by simp[FT],_,done++[⟨g.kind,g.role,g.wth,(false,true),dd,g.line⟩],rfl,by rw[xY (by simpa using J1 hF1),q4],λj h1 h2=>by rw[xX (Ne.symm h1),xX (by omega)];exact hF1o j h1 h2,by simpa using hF1l,fin _ (by simp[lO,YR,hdd]),by simp[hdn]⟩
 .obtain⟨F,done,rfl,hF,hFo,hFl,hd,hdn⟩:=hr;have e:i=l.length:=by omega
  subst e;rw[xj]at hd;rw[xi,xk]at hF;simp[d7,B5,k51,k52];exact hΦ _ _ _ ⟨rfl,F,done,rfl,hF,hFo,hd,hdn⟩
def Oc (n:Nar):Nar:=⟨n.name,(false,false),n.roles,(false,false),n.fresh,(false,false),n.tags,(false,false),n.steps.map LX,(false,false),n.goals.map lO⟩
def DA (f:ByteArray->Int) (n:Nar):Nar:=⟨n.name,(false,false),n.roles,(false,false),n.fresh,(false,false),n.tags,(false,false),n.steps.map (DB f),(false,false),n.goals.map (YR f)⟩
theorem fA (fr:Fr) (h:AH) (hl:fr.length=85) (h51:A0 fr 51=.int .i64 0) (h52:A0 fr 52=.int .i64 0) :
  C8 (lp (A1 (Q8 Q) (G8 x8) d7) (fr,h)) λe D3 h'=>Kp d7.wr fr D3/\e=.exit 2/\h'=h:=by
 refine C3 rfl fr (λn D3 h'=>D3=fr/\h'=h) ?_ 0 h ⟨rfl,rfl⟩;rintro J Φ hJ hΦ n H0 H1 K ⟨rfl,rfl⟩;simp[d7,hl,h51,h52];exact hΦ _ _ _ ⟨rfl,rfl⟩
theorem Hj {h:AH} {k sz:Nat} {xs:E5} {b:Bool} (hk:h.fams[k]?=some ⟨xs,sz,b⟩) {n:Nat} (hn:xs.length=n):y5 h true (.sl k n 0 n)=some (sl (false,true) sz xs):=by
 rw[Do,hk,oD,if_pos ⟨hn,by omega,rfl⟩,xm,xf (by simp[hn])]
structure Lens (n:Nar):Prop where
 names:n.roles.length+n.fresh.length+n.tags.length<=1048576
 steps:n.steps.length<=1048576
 goals:n.goals.length<=1048576
 data:∀g∈n.goals,g.data.length<=1048576
theorem nN (n:Nar) (hS:Lens n) (M8:n.steps≠[]) (r:AV) (ns:List ByteArray) (vs:List Int) (f:ByteArray->Int)
  (IH1:∀s∈n.steps,∃t',pc Q I5 [B8 s.msg,Yi r ns vs]=some (B8 t')/\D2 t'=U3 f s.msg) (IH2:∀g∈n.goals,∀t∈g.data,∃t',pc Q I5 [B8 t,Yi r ns vs]=some (B8 t')/\D2 t'=U3 f t) :
  ∃n',pc Q x8 [X7 n,Yi r ns vs]=some (X7 n')/\Oc n'=DA f n:=by
 suffices h:∃v,pc Q x8 [X7 n,Yi r ns vs]=some v/\∃n',v=X7 n'/\Oc n'=DA f n by
  obtain⟨v,h1,n',rfl,h2⟩:=h;exact⟨n',h1,h2⟩
 obtain⟨s0,s1,s2,s3⟩:=hS;obtain⟨name,rm,roles,fm,fresh,tm,tags,sm,steps,gm,goals⟩:=n;simp only at *
 obtain⟨m1,c1⟩:=MM rm (roles.map .str) (by simp;omega);obtain⟨m2,c2⟩:=TN fm (fresh.map Gq) (by simp;omega);obtain⟨m3,c3⟩:=MM tm (tags.map .str) (by simp;omega);obtain⟨w1,⟨B1,F1⟩,c4,r4,hb4,e4,f4⟩:=Vn sm (steps.map Ci) (by simpa using s1) ⟨[[.str name,sl m1 1 (roles.map .str),sl m2 3 (fresh.map Gq),sl m3 1 (tags.map .str),sl sm 7 (steps.map Ci),sl gm 5 (goals.map DP)],[.str (bs []),.vs true 0 [],.vs true 0 [],.vs true 0 [],.vs true 0 [],.vs true 0 []]],[]⟩;simp only at hb4 f4;subst hb4;obtain⟨w2,⟨B2,F2⟩,c5,r5,hb5,e5,f5⟩:=Vm gm (goals.map DP) (by simpa using s2) ⟨[[.str name,sl m1 1 (roles.map .str),sl m2 3 (fresh.map Gq),sl m3 1 (tags.map .str),sl sm 7 (steps.map Ci),sl gm 5 (goals.map DP)],[.str (bs []),.vs true 0 [],.vs true 0 [],.vs true 0 [],.vs true 0 [],.vs true 0 []]],F1⟩;simp only at hb5 f5;subst hb5;obtain⟨rfl,hF1⟩:w1=.sl 0 steps.length 0 steps.length/\F1[0]?=some ⟨steps.map Ci,7,true⟩:=by
  rcases r4 with ⟨h,_⟩|⟨_,h,h'⟩
  .rw[xg]at h;exact absurd h M8
  .exact⟨by simpa using h,by simpa using h'⟩
 have hF2:F2[0]?=some ⟨steps.map Ci,7,true⟩:=by rw[f5,xd (J1 hF1)];exact hF1
 have hw2:=PS r5;have hn2:∀h',Pf h' w2=some (.int .i64 goals.length,h'):=λh'=>by have:=Us r5 h';simpa using this
 have g1:=cu (Yi r ns vs) f steps s1 (λ_ _=>rfl) (λ_=>rfl) IH1 0 (.str name) (sl m1 1 (roles.map .str)) (sl m2 3 (fresh.map Gq)) (sl m3 1 (tags.map .str)) w2 [.str (bs []),.vs true 0 [],.vs true 0 [],.vs true 0 [],.vs true 0 [],.vs true 0 []];refine TT Mf λΨ hΨ fr hl h0 h1=>?_;simp[Mf,X7]at hl h0 h1;simp[Mf,hl,h0,c1,c2,c3,c4,c5,hw2];refine C8.mono (g1 _ _ ?_ ?_ ?_ ?_ ?_ ?_ ?_) ?_<;>first|(simp[hl,h1];done)|skip
 .exact hF2
 rintro e H0 Jp ⟨K,rfl,S,rfl,hS1,hS2⟩;have M7:H0.length=85:=K.1.trans (by simp[hl]);have GB:A0 H0 1=Yi r ns vs:=A5 K 1 (by simp[h1]);have FH:A0 H0 2=.ptr 0 0:=A5 K 2 (by simp[hl]);have MC:A0 H0 4=.ptr 1 0:=A5 K 4 (by simp[hl]);clear K;simp[M7,FH,hn2];have hFz:(F2.set 0 ⟨S.map Ci,7,true⟩)[0]?=some ⟨S.map Ci,7,true⟩:=xY (J1 hF2);by_cases hg:goals=[]
 .subst hg;obtain⟨-,b,rfl⟩:([]:List Gol).map DP=[]/\∃b,w2=sl (true,b) 5 []:=by
   rcases r5 with h|⟨h,_⟩
   .exact h
   .exact absurd rfl h
  refine C8.mono (fA _ _ ?_ ?_ ?_) ?_<;>first|(simp[M7];done)|skip
  rintro e Cq h2 ⟨K,rfl,rfl⟩;have FT:Cq.length=85:=K.1.trans (by simp[M7]);have k2fr2:A0 Cq 2=.ptr 0 0:=A5 K 2 (by simp[FH]);have k4fr2:A0 Cq 4=.ptr 1 0:=A5 K 4 (by simp[MC]);clear K;have hz:=λB:List (List AV)=>Hj (h:=⟨B,F2.set 0 ⟨S.map Ci,7,true⟩⟩) hFz (n:=steps.length) (by simpa using hS2);simp[FT,k2fr2,k4fr2,hz];exact hΨ _ ⟨⟨name,m1,roles,m2,fresh,m3,tags,(false,true),S,(true,b),[]⟩,rfl,by simp[Oc,DA,hS1]⟩
 .obtain⟨rfl,hF2g⟩:w2=.sl F1.length goals.length 0 goals.length/\F2[F1.length]?=some ⟨goals.map DP,5,true⟩:=by
   rcases r5 with ⟨h,_⟩|⟨_,h,h'⟩
   .rw[xg]at h;exact absurd h hg
   .exact⟨by simpa using h,h'⟩
  have h0F:0<F1.length:=J1 hF1;have hFg:(F2.set 0 ⟨S.map Ci,7,true⟩)[F1.length]?=some ⟨goals.map DP,5,true⟩:=by rw[xX (by omega)];exact hF2g
  refine C8.mono (ct (Yi r ns vs) f goals s2 s3 (λ_ _=>rfl) (λ_=>rfl) IH2 F1.length (.str name) (sl m1 1 (roles.map .str)) (sl m2 3 (fresh.map Gq)) (sl m3 1 (tags.map .str)) (.sl 0 steps.length 0 steps.length) [.str (bs []),.vs true 0 [],.vs true 0 [],.vs true 0 [],.vs true 0 [],.vs true 0 []] _ _ ?_ ?_ ?_ ?_ ?_ ?_ ?_) ?_<;>first|(simp[M7,GB,FH];done)|skip
  .exact hFg
  rintro e Cq h2 ⟨K,rfl,F,G,rfl,hG1,hG2,hG3,hG4⟩;have FT:Cq.length=85:=K.1.trans (by simp[M7]);have k2fr2:A0 Cq 2=.ptr 0 0:=A5 K 2 (by simp[FH]);have k4fr2:A0 Cq 4=.ptr 1 0:=A5 K 4 (by simp[MC]);clear K;have hFs:=hG2 0 (by omega) (by simpa using J1 hF2);rw[hFz]at hFs;have hz:=λB:List (List AV)=>Hj (h:=⟨B,F⟩) hFs (n:=steps.length) (by simpa using hS2);have hz2:=λB:List (List AV)=>Hj (h:=⟨B,F⟩) hG1 (n:=goals.length) (by simpa using hG4);simp[FT,k2fr2,k4fr2,hz,hz2];exact hΨ _ ⟨⟨name,m1,roles,m2,fresh,m3,tags,(false,true),S,(false,true),G⟩,rfl,by simp[Oc,DA,hS1,hG3]⟩
theorem Yf {t:Tm} (h:S6 t=0):L0 t=0:=by
 unfold S6 at h;apply Classical.byContradiction;intro hv;rw[if_pos hv]at h;exact hv h
theorem Ph {t:Tm} (h:HF t=0):L0 t=0:=by
 refine Yf ?_;unfold HF KJ at h;apply Classical.byContradiction;intro hv;rw[if_pos hv,if_pos hv]at h;exact hv h
theorem GU {n:Nar} (h:NP n=0):Hc n=0/\(∀s∈n.steps,LE s=0)/\∀g∈n.goals,Nr g=0:=by
 unfold NP at h;by_cases h1:Hc n=0
 .rw[if_neg (by simp[h1])]at h;by_cases h2:E8 LE n.steps=0
  .rw[if_neg (by simp[h2])]at h;exact⟨h1,FF h2,FF h⟩
  .rw[if_pos h2]at h;exact absurd h h2
 .rw[if_pos h1]at h;exact absurd h h1
theorem Re {n:Nar} (h:Hc n=0):n.steps≠[]/\Pl n=0:=by
 have hn:Pl n=0:=by
  unfold Hc at h;by_cases h1:Y2 n.name=false
  .rw[if_pos h1]at h;omega
  .rw[if_neg h1]at h;apply Classical.byContradiction;intro h2;rw[if_pos h2]at h;exact h2 h
 refine⟨λe=>?_,hn⟩;unfold Pl at hn;rw[e]at hn;split at hn
 .omega
 .split at hn
  .omega
  .simp at hn
theorem RC {s:Ste} (h:LE s=0):HF s.msg=0:=by
 unfold LE at h;split at h
 .omega
 .exact h
theorem fi {g:Gol} (h:Nr g=0):∀t∈g.data,HF t=0:=by
 unfold Nr at h;split at h
 .omega
 .split at h
  .omega
  .split at h
   .omega
   .split at h
    .omega
    .exact FF h
theorem Kh {α:Type} {g ln:α->Int}:∀{l:List α},(Ag g ln l).2=0->Ag g ln l=(0,0)/\∀a∈l,g a=0
 | [],_=>⟨rfl,λa h=>by cases h⟩
 |a::l,h=>by
  simp only[Ag]at h ⊢;by_cases hz:g a=0
  .rw[if_neg (by simp[hz])]at h ⊢;obtain⟨h1,h2⟩:=Kh h;exact⟨h1,λb hb=>by rcases List.mem_cons.1 hb with rfl|hb;exact hz;exact h2 b hb⟩
  .rw[if_pos hz]at h;exact absurd h hz
structure Right (n:Nar):Prop where
 nar:NP n=0
 dec:Hf n=0
 steps:∀s∈n.steps,Is (B4 n) n.roles s=0
 goals:∀g∈n.goals,MX (B4 n) n.roles g=0
theorem KK {n:Nar} (h:(Ae n).2=0):Ae n=(0,0)/\Right n:=by
 unfold Ae at h ⊢;by_cases h1:NP n=0
 .rw[if_neg (by simp[h1])]at h ⊢;by_cases h2:Hf n=0
  .rw[if_neg (by simp[h2])]at h ⊢;by_cases h3:Ag (Is (B4 n) n.roles) Ste.line n.steps=(0,0)
   .rw[if_neg (by simp[h3])]at h ⊢;obtain⟨q1,q2⟩:=Kh h;exact⟨q1,h1,h2,(Kh (by rw[h3])).2,q2⟩
   .rw[if_pos h3]at h;exact absurd (Kh h).1 h3
  .rw[if_pos h2]at h;exact absurd h h2
 .rw[if_pos h1]at h;exact absurd h h1
@[simp] theorem rJ (h:AH) (am:Bool) (f:FuncId) (cs:E5):frz h am (.fn f [.pv cs])=some (.fn f [.pv cs]):=rfl
@[simp] theorem uw (h:AH) (f:FuncId) (cs:E5):tame h (.fn f cs)=true:=rfl
def iz:Nar:=⟨bs [],(true,false),[],(true,false),[],(true,false),[],(true,false),[],(true,false),[]⟩
theorem nC:AV.agg [.str (bs []),sl (true,false) 1 [],sl (true,false) 1 [],sl (true,false) 1 [],sl (true,false) 1 [],sl (true,false) 1 []]=X7 iz:=by
 unfold X7 iz;simp[sl]
theorem ZW (n:Nar) (F:Fine n) (S:Lens n):∃r,pc Q Ap [X7 n]=some (.tup [X7 r,.int .i64 (Ae n).1,.int .i64 (Ae n).2])/\((Ae n).2=0->Oc r=DA (G3 (B4 n) (D6 n)) n):=by
 suffices h:∃v,pc Q Ap [X7 n]=some v/\∃r,v=.tup [X7 r,.int .i64 (Ae n).1,.int .i64 (Ae n).2]/\((Ae n).2=0->Oc r=DA (G3 (B4 n) (D6 n)) n) by
  obtain⟨v,h1,r,rfl,h2⟩:=h;exact⟨r,h1,h2⟩
 have hC:=QT n F S.names;have nb:=Y6 n;by_cases hz:(Ae n).2=0
 .obtain⟨hz0,hR⟩:=KK hz;obtain⟨k1,k2,k3⟩:=GU hR.nar;have hN:=NZ n S.names hR.dec;have hA:∃n',pc Q x8 [X7 n,Yi (sl n.rm 1 (n.roles.map .str)) (B4 n) (D6 n)]=some (X7 n')/\Oc n'=DA (G3 (B4 n) (D6 n)) n:=by
   refine nN n S (Re k1).1 _ _ _ _ (λs hs=>?_) λg hg t ht=>?_
   .exact SJ _ rfl _ _ (Kk n) _ _ (xl _) (F.steps s hs).2.2 (Ph (RC (k2 s hs)))
   .exact SJ _ rfl _ _ (Kk n) _ _ (xl _) (by have:=(F.goals g hg).2.2;have:=Tm.size_le ht;omega) (Ph (fi (k3 g hg) t ht))
  obtain⟨n',hA,hA2⟩:=hA;rw[hz0]at hC ⊢;unfold Zv at hN;unfold Yi at hA;generalize hU:(B4 n).map AV.str=U at *
  generalize hV:(D6 n).map (AV.int .i64)=V at *
  refine Ja Au λΨ hΨ fr hl h0=>?_;simp[Au]at hl h0;simp[Au,hl,h0,Y6,hC,hN,hA,Ai,show (AV.vm U V).flat=true from rfl];exact hΨ _ ⟨n',rfl,λ_=>hA2⟩
 .refine Ja Au λΨ hΨ fr hl h0=>?_;simp[Au]at hl h0;simp[Au,hl,h0,nb,hC,hz,E7,D0];exact hΨ _ ⟨iz,by rw[←nC,Db (true,false) rfl 1 1],λh=>absurd h hz⟩
end Go.Abs.Q
namespace Go.Abs.Q
open Go.Proofs
attribute [local simp] D1 D4 fin I2 G0 K7 I3 N4 O5 Y6
end Go.Abs.Q
namespace Go.Abs.Q
open Go.Proofs
attribute [local simp] D1 D4 fin I2 G0 N4 O5 Y6
end Go.Abs.Q
namespace Go.Abs.Q
open Go.Proofs
attribute [local simp] D1 D4 fin I2 G0 Y6
mutual
def xS (ns:List ByteArray):Tm->Bool
 | .mk k nm _ _ l=>(decide (k≠2)||ns.any (BR nm))&&rl ns l
def rl (ns:List ByteArray):List Tm->Bool
 | []=>true
 |t::l=>xS ns t&&rl ns l
end
@[simp] theorem tV (t:Tm):KA (B8 t)=true:=by cases t;rfl
end Go.Abs.Q
namespace Go.Abs.Q
open Go.Proofs
attribute [local simp] D1 D4 fin I2 G0
structure Grx (sz:Nat) (G2:List AV) (v:AV) (h0 h:AH):Prop where
 g:Mq sz G2 v h
 low:∀j,j<h0.fams.length->h.fams[j]?=h0.fams[j]?
 row:∀k n o l,v=.sl k n o l->h0.fams.length<=k
theorem WL {sz:Nat} {G2:E5} {v:AV} {h:AH} (hg:Mq sz G2 v h):∃m,∀(B:List (List AV)) (am:Bool),y5 ⟨B,h.fams⟩ am v=some (sl m sz G2):=by
 rcases hg with ⟨rfl,rfl⟩|⟨_,k,rfl,h3⟩
 .exact⟨(true,false),λB am=>by rw[fc];exact congrArg some (Db _ rfl _ _)⟩
 .refine⟨(false,true),λB am=>?_⟩;rw[Do];simp only[h3,oD];rw[if_pos (by simp),xm,xf (xl _)]
theorem fF (nm s) (m:J0) (l:I1) (x:H6) (n:Int):(Ah (.mk 3 nm s m l) x n=true)=(nm=x/\(l.length:Int)=n):=by
 rw[Ah,xn,xn];exact propext ⟨λh=>⟨of_decide_eq_true h.1.2,of_decide_eq_true h.2⟩,λh=>⟨⟨decide_eq_true (p:=(3:Int)=3) rfl,decide_eq_true (p:=nm=x) h.1⟩,decide_eq_true (p:=(l.length:Int)=n) h.2⟩⟩
theorem ju (rs:List ByteArray) (nm s) (m:J0) (l:I1):EV rs (.mk 3 nm s m l) =
  if (nm=bs [112,97,105,114]/\(l.length:Int)=2)\/(nm=bs [101,110,99]/\(l.length:Int)=2)then 2
  else if nm=bs [104,97,115,104]/\(l.length:Int)=1 then 1
  else if ((nm=bs [97,101,110,99]/\(l.length:Int)=2)/\Si (Kq rs) l=true)\/((nm=bs [115,105,103,110]/\(l.length:Int)=2)/\Si (HJ rs) l=true)then 1
  else if Kq rs (.mk 3 nm s m l)=true\/YO rs (.mk 3 nm s m l)=true then 0 else -1:=by
 unfold EV;simp only[fF];rfl
theorem YI (n:Nar):∀a,n.roles.any (BR a)=true->(B4 n).any (BR a)=true:=by
 intro a h;unfold B4;rw[xo,xo,h,xp,xp]
theorem iL {ns rs:List ByteArray} {s:Ste} (h:Is ns rs s=0):Af ns rs s.msg=0:=by
 unfold Is at h;split at h
 .rename_i h1;exact absurd h h1
 .exact h
end Go.Abs.Q
