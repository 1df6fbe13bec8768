/- A part of the proof. -/
import Derived.Test.YtohjdamplbhdpaaGreatDoorSK18
set_option linter.all false
open Option renaming bind_some->A0A
open List renaming getElem?_set_ne->A0B,getElem_mem->A0C,getElem?_set_self->A0D,take_succ_eq_append_getElem->A0E,map_append->A0F,map_cons->A0G,drop_eq_getElem_cons->A0H,getElem?_append_left->A0I,map_nil->A0J,map_eq_nil_iff->A0K,getElem?_eq_some_iff->A0M,drop_length->A0N,length_take->A0O,take_length->A0P,append_nil->A0Q,drop_eq_nil_of_le->A0R,length_eq_one_iff->A0S,take_of_length_le->A0T,mem_of_mem_take->A0U,drop_zero->A0V
open Nat renaming le_refl->A0L
namespace Go.Abs.Q
open Go.Proofs
attribute [local simp] D9 E4 fin I8 G6
@[simp] theorem yb (B:List (List AV)) (f f':List Fam) (v:AV):Ve true ⟨B,f⟩ (some (v,⟨B,f'⟩))=some (v,⟨B,f'⟩):=ku ⟨B,f⟩ v f'
@[simp] theorem tj (s:Ste) (cs:G1):(DY s).reform cs=some (.agg cs):=rfl
@[simp] theorem tE (s:Gol) (cs:G1):(Da s).reform cs=some (.agg cs):=rfl
@[simp] theorem tz (s:Tm) (cs:G1):(B7 s).reform cs=some (.agg cs):=by cases s;rfl
theorem qZ (a b:I3) (t:Tm) (c:Int):AV.agg [.str a,.str b,.int .i64 t.kind,.str t.name,.int .i64 t.sort,sl t.cm 4 (A4 t.kids),.int .i64 c]=DY ⟨a,b,t,c⟩:=by cases t;rfl
def KV (s:Ste):Ste:=⟨s.frm,s.to,E8 s.msg,s.line⟩
def Cd (f:ByteArray->Int) (s:Ste):Ste:=⟨s.frm,s.to,BT f s.msg,s.line⟩
def gb (g:Gol):Gol:=⟨g.kind,g.role,g.wth,(false,false),H2 g.data,g.line⟩
def Si (f:ByteArray->Int) (g:Gol):Gol:=⟨g.kind,g.role,g.wth,(false,false),Z6 f g.data,g.line⟩
theorem Pt {α β:Type} (g:α->β) (done l:List α) {i:Nat} (hi:i<l.length) (hd:done.length=i):∃h:i<((done++l.drop i).map g).length,((done++l.drop i).map g)[i]=g l[i]/\((done++l.drop i).map g).length=l.length:=by
 have e:(done++l.drop i).length=l.length:=by simp[hd];omega
 refine⟨by simp[hd];omega,?_,by simpa using e⟩;simp[hd,List.getElem_append_right]
theorem Pu {α β:Type} (g:α->β) (done l:List α) {i:Nat} (hi:i<l.length) (hd:done.length=i) (x:α):((done++l.drop i).map g).set i (g x)=((done++[x])++l.drop (i+1)).map g:=by
 rw[A0H hi,←List.map_set,List.set_append_right _ _ (by omega),hd,Nat.sub_self,List.set_cons_zero,List.append_assoc,List.singleton_append]
theorem DC {α:Type} {l:List α} {k:Nat} {x:α} (h:l[k]?=some x):l.set k x=l:=by
 obtain⟨h1,h2⟩:=A0M.1 h;subst h2;exact List.set_getElem_self h1
theorem gt (by':AV) (f:ByteArray->Int) (l:List Ste) (B8:l.length<=1048576) (hby:∀h am,JW h am by'=some by') (hby2:∀h,Ef h by'=true) (IH:∀s∈l,∃t',pc Q J2 [B7 s.msg,by']=some (B7 t')/\E8 t'=BT f s.msg) (k:Nat) (b0 b1 b2 b3 b5:AV) (C:G1) (fr:Fr) (h:AH) (hh:h.boxes=[[b0,b1,b2,b3,.sl k l.length 0 l.length,b5],C]) (hfam:h.fams[k]?=some ⟨l.map DY,7,true⟩) (hl:fr.length=85) (h1:A0 fr 1=by') (h2:A0 fr 2=.ptr 0 0) (h31:A0 fr 31=.int .i64 l.length) (h32:A0 fr 32=.int .i64 0) :
  B9 (lp (A3 (L5 Q) (E5 Aj) Gr) (fr,h)) λe C6 h'=>Kp Gr.wr fr C6/\e=.exit 0/\∃done:List Ste,h'=⟨h.boxes,h.fams.set k ⟨done.map DY,7,true⟩⟩/\done.map KV=l.map (Cd f)/\done.length=l.length:=by
 refine B5 rfl fr (λn fr h'=>∃(i:Nat),i+n=l.length/\A0 fr 32=.int .i64 (i:Nat)/\(∃done:List Ste,h'=⟨h.boxes,h.fams.set k ⟨(done++l.drop i).map DY,7,true⟩⟩/\done.map KV=(l.take i).map (Cd f)/\done.length=i)) ?_ l.length h ⟨0,by omega,h32,⟨[],by simp[DC hfam],rfl,rfl⟩⟩;rintro J Φ hJ hΦ n E1 H1 K ⟨i,hi,k32,hr⟩;have A6:=K.1.trans hl;have k1:=A9 K 1 h1;have k2:=A9 K 2 h2;have k31:=A9 K 31 h31;clear K;by_cases A7:i<l.length
 .have Q6:=D1 i (by omega);obtain⟨done,rfl,hd,DX⟩:=hr;obtain⟨t',hI,ht⟩:=IH l[i] (A0C A7);obtain⟨q1,q2,q3⟩:=Pt DY done l A7 DX;have q4:=Pu DY done l A7 DX ⟨l[i].frm,l[i].to,t',l[i].line⟩;have e2:(done++[Ste.mk l[i].frm l[i].to t' l[i].line]).map KV=(l.take (i+1)).map (Cd f):=by
   rw[A0E A7,A0F,hd,A0F,A0G,A0J,A0G,A0J];simp only[KV,ht,Cd]
  have HH:=I2 hfam;have e6:=qZ l[i].frm l[i].to t' l[i].line;rw[hh]at hJ ⊢;clear hd ht;generalize (done++l.drop i).map DY=X at *
  generalize hY:(done++[Ste.mk l[i].frm l[i].to t' l[i].line]++l.drop (i+1)).map DY=Y at *
  generalize l[i]=s at *
  simp[Gr,A6,k1,k2,k31,k32,A7,Q6,hI,hby,hby2,q2,q3,q4,e6,HH];exact G8 hJ ⟨i+1,by omega,by simp[A6],⟨_,by rw[hY],e2,by simp[DX]⟩⟩
 .obtain⟨done,rfl,hd,DX⟩:=hr;have e:i=l.length:=by omega
  subst e;rw[A0P]at hd;rw[A0N,A0Q];simp[Gr,A6,k31,k32];exact hΦ _ _ _ ⟨rfl,done,rfl,hd,DX⟩
theorem gq (by':AV) (f:ByteArray->Int) (l:I6) (B8:l.length<=1048576) (hby:∀h am,JW h am by'=some by') (hby2:∀h,Ef h by'=true) (IH:∀s∈l,∃t',pc Q J2 [B7 s,by']=some (B7 t')/\E8 t'=BT f s) (k:Nat) (fr:Fr) (h:AH) (hfam:h.fams[k]?=some ⟨A4 l,4,true⟩) (hl:fr.length=85) (h1:A0 fr 1=by') (h7:A0 fr 7=.sl k l.length 0 l.length) (h63:A0 fr 63=.int .i64 l.length) (h64:A0 fr 64=.int .i64 0) :
  B9 (lp (A3 (L5 Q) (E5 Aj) Al) (fr,h)) λe C6 h'=>Kp Al.wr fr C6/\e=.exit 4/\∃done:List Tm,h'=⟨h.boxes,h.fams.set k ⟨A4 done,4,true⟩⟩/\H2 done=Z6 f l/\done.length=l.length:=by
 refine B5 rfl fr (λn fr h'=>∃(i:Nat),i+n=l.length/\A0 fr 64=.int .i64 (i:Nat)/\(∃done:List Tm,h'=⟨h.boxes,h.fams.set k ⟨(done++l.drop i).map B7,4,true⟩⟩/\H2 done=Z6 f (l.take i)/\done.length=i)) ?_ l.length h ⟨0,by omega,h64,⟨[],by simp[DC hfam,←D6],by simp[H2,Z6],rfl⟩⟩;rintro J Φ hJ hΦ n E1 H1 K ⟨i,hi,k64,hr⟩;have A6:=K.1.trans hl;have k1:=A9 K 1 h1;have k7:=A9 K 7 h7;have k63:=A9 K 63 h63;clear K;by_cases A7:i<l.length
 .have Q6:=D1 i (by omega);obtain⟨done,rfl,hd,DX⟩:=hr;obtain⟨t',hI,ht⟩:=IH l[i] (A0C A7);obtain⟨q1,q2,q3⟩:=Pt B7 done l A7 DX;have q4:=Pu B7 done l A7 DX t';have e2:H2 (done++[t'])=Z6 f (l.take (i+1)):=by
   rw[A0E A7,E3,A0F,←E3,hd,Hh,Hh,A0F,A0G,A0J,A0G,A0J,ht]
  have HH:=I2 hfam;clear hd ht;generalize (done++l.drop i).map B7=X at *
  generalize hY:(done++[t']++l.drop (i+1)).map B7=Y at *
  generalize l[i]=s at *
  simp[Al,A6,k1,k7,k63,k64,A7,Q6,hI,hby,hby2,q2,q3,q4,HH];exact G8 hJ ⟨i+1,by omega,by simp[A6],⟨_,by rw[hY],e2,by simp[DX]⟩⟩
 .obtain⟨done,rfl,hd,DX⟩:=hr;have e:i=l.length:=by omega
  subst e;rw[A0P]at hd;rw[A0N,A0Q,←D6];simp[Al,A6,k63,k64];exact hΦ _ _ _ ⟨rfl,done,rfl,hd,DX⟩
theorem jw (fr:Fr) (h:AH) (hl:fr.length=85) (h63:A0 fr 63=.int .i64 0) (h64:A0 fr 64=.int .i64 0) :
  B9 (lp (A3 (L5 Q) (E5 Aj) Al) (fr,h)) λe C6 h'=>Kp Al.wr fr C6/\e=.exit 4/\h'=h:=by
 refine B5 rfl fr (λn C6 h'=>C6=fr/\h'=h) ?_ 0 h ⟨rfl,rfl⟩;rintro J Φ hJ hΦ n E1 H1 K ⟨rfl,rfl⟩;simp[Al,hl,h63,h64];exact hΦ _ _ _ ⟨rfl,rfl⟩
theorem kW (a:Int) (b c:I3) (m:J3) (l:I6) (d:Int):AV.agg [.int .i64 a,.str b,.str c,sl m 4 (A4 l),.int .i64 d]=Da ⟨a,b,c,m,l,d⟩:=rfl
theorem eG {h:AH} {kd kg i m:Nat} {dd:I6} {X:G1} {g:Gol} (h1:h.fams[kd]?=some ⟨A4 dd,4,true⟩) (h2:h.fams[kg]?=some ⟨X,5,true⟩) (P1:kd≠kg) (hm:X.length=m) (hx:X[i]?=some (Da g)) :
  KJ h 1 (.sl kd dd.length 0 dd.length) (.ep kg m i 3 5)=some ⟨h.boxes,(h.fams.set kd ⟨A4 dd,4,false⟩).set kg ⟨X.set i (Da ⟨g.kind,g.role,g.wth,(false,true),dd,g.line⟩),5,true⟩⟩:=by
 have hk:=I2 h1;have hl:Xu h (.sl kd dd.length 0 dd.length)=some ⟨h.boxes,h.fams.set kd ⟨A4 dd,4,false⟩⟩:=by
  simp[Xu,Ou,Cr,h1,jQ]
 have hf:JW ⟨h.boxes,h.fams.set kd ⟨A4 dd,4,false⟩⟩ false (.sl kd dd.length 0 dd.length)=some (sl (false,true) 4 (A4 dd)):=by
  rw[Ou,Cr];simp only;rw[A0D hk,A0A,if_pos ⟨by simp,by omega,rfl⟩,A0V,A0T (by simp)]
 rw[QD,hl,A0A];simp only;rw[A0B P1,h2,A0A,if_pos ⟨hm,rfl,rfl⟩];simp only;rw[hx,A0A,hf,A0A];simp[kW]
theorem bh {h:AH} {kg i m:Nat} {b:Bool} {X:G1} {g:Gol} (h2:h.fams[kg]?=some ⟨X,5,true⟩) (hm:X.length=m) (hx:X[i]?=some (Da g)) :
  KJ h 1 (sl (true,b) 4 []) (.ep kg m i 3 5)=some ⟨h.boxes,h.fams.set kg ⟨X.set i (Da ⟨g.kind,g.role,g.wth,(true,b),[],g.line⟩),5,true⟩⟩:=by
 rw[QD];simp only[Xu,sV,A0A];rw[h2,A0A,if_pos ⟨hm,rfl,rfl⟩];simp only;rw[hx,A0A];have e:=kW g.kind g.role g.wth (true,b) [] g.line;rw[show A4 []=[] from rfl]at e;simp[e]
theorem gr (by':AV) (f:ByteArray->Int) (l:List Gol) (B8:l.length<=1048576) (DX:∀g∈l,g.data.length<=1048576) (hby:∀h am,JW h am by'=some by') (hby2:∀h,Ef h by'=true) (IH:∀g∈l,∀t∈g.data,∃t',pc Q J2 [B7 t,by']=some (B7 t')/\E8 t'=BT f t) (kg:Nat) (b0 b1 b2 b3 b4:AV) (C:G1) (fr:Fr) (h:AH) (hh:h.boxes=[[b0,b1,b2,b3,b4,.sl kg l.length 0 l.length],C]) (hfam:h.fams[kg]?=some ⟨l.map Da,5,true⟩) (hl:fr.length=85) (h1:A0 fr 1=by') (h2:A0 fr 2=.ptr 0 0) (h51:A0 fr 51=.int .i64 l.length) (h52:A0 fr 52=.int .i64 0) :
  B9 (lp (A3 (L5 Q) (E5 Aj) t8) (fr,h)) λe C6 h'=>Kp t8.wr fr C6/\e=.exit 2/\∃(F:List Fam) (done:List Gol),h'=⟨h.boxes,F⟩/\F[kg]?=some ⟨done.map Da,5,true⟩/\(∀j,j≠kg->j<h.fams.length->F[j]?=h.fams[j]?)/\done.map gb=l.map (Si f)/\done.length=l.length:=by
 refine B5 rfl fr (λn fr h'=>∃(i:Nat),i+n=l.length/\A0 fr 52=.int .i64 (i:Nat)/\(∃(F:List Fam) (done:List Gol),h'=⟨h.boxes,F⟩/\F[kg]?=some ⟨(done++l.drop i).map Da,5,true⟩/\(∀j,j≠kg->j<h.fams.length->F[j]?=h.fams[j]?)/\h.fams.length<=F.length/\done.map gb=(l.take i).map (Si f)/\done.length=i)) ?_ l.length h ⟨0,by omega,h52,⟨_,[],rfl,by simpa using hfam,λ_ _ _=>rfl,A0L _,rfl,rfl⟩⟩;rintro J Φ hJ hΦ n E1 H1 K ⟨i,hi,k52,hr⟩;have A6:=K.1.trans hl;have k1:=A9 K 1 h1;have k2:=A9 K 2 h2;have k51:=A9 K 51 h51;clear K;by_cases A7:i<l.length
 .have Q6:=D1 i (by omega);obtain⟨F,done,rfl,hF,hFo,hFl,hd,hdn⟩:=hr;obtain⟨q1,q2,q3⟩:=Pt Da done l A7 hdn;have hq2:=A0M.2 ⟨q1,q2⟩;have hkg:=I2 hF;have hkg0:=I2 hfam;obtain⟨w,⟨bx,F1⟩,hC,hRow,Qz,e,hFe⟩:=Nv l[i].dm (A4 l[i].data) (by have:=DX l[i] (A0C A7);simpa using this) ⟨h.boxes,F⟩;simp only at Qz hFe;subst Qz;have hF1:F1[kg]?=some ⟨(done++l.drop i).map Da,5,true⟩:=by rw[hFe,A0I hkg];exact hF
  have hF1o:∀j,j≠kg->j<h.fams.length->F1[j]?=h.fams[j]?:=λj h1 h2=>by rw[hFe,A0I (by omega)];exact hFo j h1 h2
  have hF1l:h.fams.length<=F1.length:=by rw[hFe];simp;omega
  have hlen7:∀h',Xv h' w=some (.int .i64 l[i].data.length,h'):=λh'=>by have:=XT hRow h';simpa using this
  have hIH:=IH l[i] (A0C A7);have hdl':=DX l[i] (A0C A7);have q4:=λg':Gol=>Pu Da done l A7 hdn g';have fin:∀g':Gol,gb g'=Si f l[i]->(done++[g']).map gb=(l.take (i+1)).map (Si f):=by
   intro g' he;rw[A0E A7,A0F,hd,A0F,A0G,A0J,A0G,A0J,he]
  rw[hh]at hC hJ ⊢;clear hd hFe hFo;generalize hX:(done++l.drop i).map Da=X at *
  generalize l[i]=g at *
  by_cases hnil:g.data=[]
  .obtain⟨-,b,rfl⟩:A4 g.data=[]/\∃b,w=sl (true,b) 4 []:=by
    rcases hRow with h|⟨h,_⟩
    .exact h
    .rw[hnil]at h;exact absurd rfl h
   have hSt:=bh (h:=⟨[[b0,b1,b2,b3,b4,.sl kg l.length 0 l.length],C],F1⟩) (b:=b) hF1 q3 hq2;simp[t8,A6,k2,k51,k52,A7,hF,q2,q3,hC,hlen7];rw[hnil];refine B9.mono (jw _ _ ?_ ?_ ?_) ?_<;>first|(simp[A6];done)|skip
   rintro e V8 h2 ⟨K,rfl,rfl⟩;have R5:V8.length=85:=K.1.trans (by simp[A6]);have k2fr2:A0 V8 2=.ptr 0 0:=A9 K 2 (by simp[k2]);have k6fr2:A0 V8 6=.int .i64 (i:Nat):=A9 K 6 (by simp[A6]);have k7fr2:A0 V8 7=sl (true,b) 4 []:=A9 K 7 (by simp[A6]);have k52fr2:A0 V8 52=.int .i64 (i:Nat):=A9 K 52 (by simp[k52]);clear K;simp[R5,k2fr2,k6fr2,k7fr2,k52fr2,A7,hSt,Q6,-QD];exact G8 hJ ⟨i+1,by omega,by simp[R5],_,done++[⟨g.kind,g.role,g.wth,(true,b),[],g.line⟩],rfl,by rw[A0D (I2 hF1),q4],λj h1 h2=>by rw[A0B (Ne.symm h1)];exact hF1o j h1 h2,by simpa using hF1l,fin _ (by simp[gb,Si,hnil,H2,Z6]),by simp[hdn]⟩
  .obtain⟨rfl,hkd⟩:w=.sl F.length g.data.length 0 g.data.length/\F1[F.length]?=some ⟨A4 g.data,4,true⟩:=by
    rcases hRow with ⟨h,_⟩|⟨_,h,h'⟩
    .rw[D6,A0K]at h;exact absurd h hnil
    .exact⟨by simpa using h,h'⟩
   have P1:F.length≠kg:=by omega
   simp[t8,A6,k2,k51,k52,A7,hF,q2,q3,hC,hlen7];refine B9.mono (gq by' f g.data hdl' hby hby2 hIH F.length _ _ ?_ ?_ ?_ ?_ ?_ ?_) ?_<;>first|(simp[A6,k1];done)|skip
   .exact hkd
   rintro e V8 h2 ⟨K,rfl,dd,rfl,hdd,hddl⟩;have R5:V8.length=85:=K.1.trans (by simp[A6]);have k2fr2:A0 V8 2=.ptr 0 0:=A9 K 2 (by simp[k2]);have k6fr2:A0 V8 6=.int .i64 (i:Nat):=A9 K 6 (by simp[A6]);have k7fr2:A0 V8 7=.sl F.length g.data.length 0 g.data.length:=A9 K 7 (by simp[A6]);have k52fr2:A0 V8 52=.int .i64 (i:Nat):=A9 K 52 (by simp[k52]);clear K;have hkdl:=I2 hkd;have hSt:=eG (h:=⟨[[b0,b1,b2,b3,b4,.sl kg l.length 0 l.length],C],F1.set F.length ⟨A4 dd,4,true⟩⟩) (kd:=F.length) (dd:=dd) (A0D hkdl) (by simp only;rw[A0B P1];exact hF1) P1 q3 hq2;rw[hddl]at hSt;simp only[List.set_set]at hSt;simp[R5,k2fr2,k6fr2,k7fr2,k52fr2,A7,hSt,Q6,-QD];exact G8 hJ ⟨i+1,by omega,by simp[R5],_,done++[⟨g.kind,g.role,g.wth,(false,true),dd,g.line⟩],rfl,by rw[A0D (by simpa using I2 hF1),q4],λj h1 h2=>by rw[A0B (Ne.symm h1),A0B (by omega)];exact hF1o j h1 h2,by simpa using hF1l,fin _ (by simp[gb,Si,hdd]),by simp[hdn]⟩
 .obtain⟨F,done,rfl,hF,hFo,hFl,hd,hdn⟩:=hr;have e:i=l.length:=by omega
  subst e;rw[A0P]at hd;rw[A0N,A0Q]at hF;simp[t8,A6,k51,k52];exact hΦ _ _ _ ⟨rfl,F,done,rfl,hF,hFo,hd,hdn⟩
def Pn (n:Nar):Nar:=⟨n.name,(false,false),n.roles,(false,false),n.fresh,(false,false),n.tags,(false,false),n.steps.map KV,(false,false),n.goals.map gb⟩
def Cn (f:ByteArray->Int) (n:Nar):Nar:=⟨n.name,(false,false),n.roles,(false,false),n.fresh,(false,false),n.tags,(false,false),n.steps.map (Cd f),(false,false),n.goals.map (Si f)⟩
theorem jx (fr:Fr) (h:AH) (hl:fr.length=85) (h51:A0 fr 51=.int .i64 0) (h52:A0 fr 52=.int .i64 0) :
  B9 (lp (A3 (L5 Q) (E5 Aj) t8) (fr,h)) λe C6 h'=>Kp t8.wr fr C6/\e=.exit 2/\h'=h:=by
 refine B5 rfl fr (λn C6 h'=>C6=fr/\h'=h) ?_ 0 h ⟨rfl,rfl⟩;rintro J Φ hJ hΦ n E1 H1 K ⟨rfl,rfl⟩;simp[t8,hl,h51,h52];exact hΦ _ _ _ ⟨rfl,rfl⟩
theorem JX {h:AH} {k sz:Nat} {xs:G1} {b:Bool} (hk:h.fams[k]?=some ⟨xs,sz,b⟩) {n:Nat} (hn:xs.length=n):Dy h true (.sl k n 0 n)=some (sl (false,true) sz xs):=by
 rw[Cr,hk,A0A,if_pos ⟨hn,by omega,rfl⟩,A0V,A0T (by simp[hn])]
structure Lens (n:Nar):Prop where
 names:n.roles.length+n.fresh.length+n.tags.length<=1048576
 steps:n.steps.length<=1048576
 goals:n.goals.length<=1048576
 data:∀g∈n.goals,g.data.length<=1048576
theorem sC (n:Nar) (hS:Lens n) (P1:n.steps≠[]) (r:AV) (ns:List ByteArray) (vs:List Int) (f:ByteArray->Int)
  (IH1:∀s∈n.steps,∃t',pc Q J2 [B7 s.msg,bv r ns vs]=some (B7 t')/\E8 t'=BT f s.msg) (IH2:∀g∈n.goals,∀t∈g.data,∃t',pc Q J2 [B7 t,bv r ns vs]=some (B7 t')/\E8 t'=BT f t) :
  ∃n',pc Q Aj [F0 n,bv r ns vs]=some (F0 n')/\Pn n'=Cn f n:=by
 suffices h:∃v,pc Q Aj [F0 n,bv r ns vs]=some v/\∃n',v=F0 n'/\Pn n'=Cn f n by
  obtain⟨v,h1,n',rfl,h2⟩:=h;exact⟨n',h1,h2⟩
 obtain⟨s0,s1,s2,s3⟩:=hS;obtain⟨name,rm,roles,fm,fresh,tm,tags,sm,steps,gm,goals⟩:=n;simp only at *
 obtain⟨m1,c1⟩:=PH rm (roles.map .str) (by simp;omega);obtain⟨m2,c2⟩:=Vq fm (fresh.map KD) (by simp;omega);obtain⟨m3,c3⟩:=PH tm (tags.map .str) (by simp;omega);obtain⟨w1,⟨B1,F1⟩,c4,r4,hb4,e4,f4⟩:=YZ sm (steps.map DY) (by simpa using s1) ⟨[[.str name,sl m1 1 (roles.map .str),sl m2 3 (fresh.map KD),sl m3 1 (tags.map .str),sl sm 7 (steps.map DY),sl gm 5 (goals.map Da)],[.str (bs []),.vs true 0 [],.vs true 0 [],.vs true 0 [],.vs true 0 [],.vs true 0 []]],[]⟩;simp only at hb4 f4;subst hb4;obtain⟨w2,⟨B2,F2⟩,c5,r5,hb5,e5,f5⟩:=YY gm (goals.map Da) (by simpa using s2) ⟨[[.str name,sl m1 1 (roles.map .str),sl m2 3 (fresh.map KD),sl m3 1 (tags.map .str),sl sm 7 (steps.map DY),sl gm 5 (goals.map Da)],[.str (bs []),.vs true 0 [],.vs true 0 [],.vs true 0 [],.vs true 0 [],.vs true 0 []]],F1⟩;simp only at hb5 f5;subst hb5;obtain⟨rfl,hF1⟩:w1=.sl 0 steps.length 0 steps.length/\F1[0]?=some ⟨steps.map DY,7,true⟩:=by
  rcases r4 with ⟨h,_⟩|⟨_,h,h'⟩
  .rw[A0K]at h;exact absurd h P1
  .exact⟨by simpa using h,by simpa using h'⟩
 have hF2:F2[0]?=some ⟨steps.map DY,7,true⟩:=by rw[f5,A0I (I2 hF1)];exact hF1
 have hw2:=SG r5;have hn2:∀h',Xv h' w2=some (.int .i64 goals.length,h'):=λh'=>by have:=XT r5 h';simpa using this
 have g1:=gt (bv r ns vs) f steps s1 (λ_ _=>rfl) (λ_=>rfl) IH1 0 (.str name) (sl m1 1 (roles.map .str)) (sl m2 3 (fresh.map KD)) (sl m3 1 (tags.map .str)) w2 [.str (bs []),.vs true 0 [],.vs true 0 [],.vs true 0 [],.vs true 0 [],.vs true 0 []];refine Qp PX λΨ hΨ fr hl h0 h1=>?_;simp[PX,F0]at hl h0 h1;simp[PX,hl,h0,c1,c2,c3,c4,c5,hw2];refine B9.mono (g1 _ _ ?_ ?_ ?_ ?_ ?_ ?_ ?_) ?_<;>first|(simp[hl,h1];done)|skip
 .exact hF2
 rintro e E1 Ei ⟨K,rfl,S,rfl,hS1,hS2⟩;have J5:E1.length=85:=K.1.trans (by simp[hl]);have Ey:A0 E1 1=bv r ns vs:=A9 K 1 (by simp[h1]);have GG:A0 E1 2=.ptr 0 0:=A9 K 2 (by simp[hl]);have LC:A0 E1 4=.ptr 1 0:=A9 K 4 (by simp[hl]);clear K;simp[J5,GG,hn2];have hFz:(F2.set 0 ⟨S.map DY,7,true⟩)[0]?=some ⟨S.map DY,7,true⟩:=A0D (I2 hF2);by_cases hg:goals=[]
 .subst hg;obtain⟨-,b,rfl⟩:([]:List Gol).map Da=[]/\∃b,w2=sl (true,b) 5 []:=by
   rcases r5 with h|⟨h,_⟩
   .exact h
   .exact absurd rfl h
  refine B9.mono (jx _ _ ?_ ?_ ?_) ?_<;>first|(simp[J5];done)|skip
  rintro e V8 h2 ⟨K,rfl,rfl⟩;have R5:V8.length=85:=K.1.trans (by simp[J5]);have k2fr2:A0 V8 2=.ptr 0 0:=A9 K 2 (by simp[GG]);have k4fr2:A0 V8 4=.ptr 1 0:=A9 K 4 (by simp[LC]);clear K;have hz:=λB:List (List AV)=>JX (h:=⟨B,F2.set 0 ⟨S.map DY,7,true⟩⟩) hFz (n:=steps.length) (by simpa using hS2);simp[R5,k2fr2,k4fr2,hz];exact hΨ _ ⟨⟨name,m1,roles,m2,fresh,m3,tags,(false,true),S,(true,b),[]⟩,rfl,by simp[Pn,Cn,hS1]⟩
 .obtain⟨rfl,hF2g⟩:w2=.sl F1.length goals.length 0 goals.length/\F2[F1.length]?=some ⟨goals.map Da,5,true⟩:=by
   rcases r5 with ⟨h,_⟩|⟨_,h,h'⟩
   .rw[A0K]at h;exact absurd h hg
   .exact⟨by simpa using h,h'⟩
  have h0F:0<F1.length:=I2 hF1;have hFg:(F2.set 0 ⟨S.map DY,7,true⟩)[F1.length]?=some ⟨goals.map Da,5,true⟩:=by rw[A0B (by omega)];exact hF2g
  refine B9.mono (gr (bv r ns vs) f goals s2 s3 (λ_ _=>rfl) (λ_=>rfl) IH2 F1.length (.str name) (sl m1 1 (roles.map .str)) (sl m2 3 (fresh.map KD)) (sl m3 1 (tags.map .str)) (.sl 0 steps.length 0 steps.length) [.str (bs []),.vs true 0 [],.vs true 0 [],.vs true 0 [],.vs true 0 [],.vs true 0 []] _ _ ?_ ?_ ?_ ?_ ?_ ?_ ?_) ?_<;>first|(simp[J5,Ey,GG];done)|skip
  .exact hFg
  rintro e V8 h2 ⟨K,rfl,F,G,rfl,hG1,hG2,hG3,hG4⟩;have R5:V8.length=85:=K.1.trans (by simp[J5]);have k2fr2:A0 V8 2=.ptr 0 0:=A9 K 2 (by simp[GG]);have k4fr2:A0 V8 4=.ptr 1 0:=A9 K 4 (by simp[LC]);clear K;have hFs:=hG2 0 (by omega) (by simpa using I2 hF2);rw[hFz]at hFs;have hz:=λB:List (List AV)=>JX (h:=⟨B,F⟩) hFs (n:=steps.length) (by simpa using hS2);have hz2:=λB:List (List AV)=>JX (h:=⟨B,F⟩) hG1 (n:=goals.length) (by simpa using hG4);simp[R5,k2fr2,k4fr2,hz,hz2];exact hΨ _ ⟨⟨name,m1,roles,m2,fresh,m3,tags,(false,true),S,(false,true),G⟩,rfl,by simp[Pn,Cn,hS1,hG3]⟩
theorem bt {t:Tm} (h:Q4 t=0):I7 t=0:=by
 unfold Q4 at h;apply Classical.byContradiction;intro hv;rw[if_pos hv]at h;exact hv h
theorem Iu {t:Tm} (h:Es t=0):I7 t=0:=by
 refine bt ?_;unfold Es Jx at h;apply Classical.byContradiction;intro hv;rw[if_pos hv,if_pos hv]at h;exact hv h
theorem EU {n:Nar} (h:NJ n=0):Ij n=0/\(∀s∈n.steps,Ih s=0)/\∀g∈n.goals,Kc g=0:=by
 unfold NJ at h;by_cases h1:Ij n=0
 .rw[if_neg (by simp[h1])]at h;by_cases h2:C9 Ih n.steps=0
  .rw[if_neg (by simp[h2])]at h;exact⟨h1,DZ h2,DZ h⟩
  .rw[if_pos h2]at h;exact absurd h h2
 .rw[if_pos h1]at h;exact absurd h h1
theorem Ng {n:Nar} (h:Ij n=0):n.steps≠[]/\PG n=0:=by
 have hn:PG n=0:=by
  unfold Ij at h;by_cases h1:N8 n.name=false
  .rw[if_pos h1]at h;omega
  .rw[if_neg h1]at h;apply Classical.byContradiction;intro h2;rw[if_pos h2]at h;exact h2 h
 refine⟨λe=>?_,hn⟩;unfold PG at hn;rw[e]at hn;split at hn
 .omega
 .split at hn
  .omega
  .simp at hn
theorem QC {s:Ste} (h:Ih s=0):Es s.msg=0:=by
 unfold Ih at h;split at h
 .omega
 .exact h
theorem UR {g:Gol} (h:Kc g=0):∀t∈g.data,Es t=0:=by
 unfold Kc at h;split at h
 .omega
 .split at h
  .omega
  .split at h
   .omega
   .split at h
    .omega
    .exact DZ h
theorem Nl {α:Type} {g ln:α->Int}:∀{l:List α},(Q7 g ln l).2=0->Q7 g ln l=(0,0)/\∀a∈l,g a=0
 | [],_=>⟨rfl,λa h=>by cases h⟩
 |a::l,h=>by
  simp only[Q7]at h ⊢;by_cases hz:g a=0
  .rw[if_neg (by simp[hz])]at h ⊢;obtain⟨h1,h2⟩:=Nl h;exact⟨h1,λb hb=>by rcases List.mem_cons.1 hb with rfl|hb;exact hz;exact h2 b hb⟩
  .rw[if_pos hz]at h;exact absurd h hz
structure Right (n:Nar):Prop where
 nar:NJ n=0
 dec:GY n=0
 steps:∀s∈n.steps,FN (B4 n) n.roles s=0
 goals:∀g∈n.goals,HN (B4 n) n.roles g=0
theorem DB {n:Nar} (h:(Z5 n).2=0):Z5 n=(0,0)/\Right n:=by
 unfold Z5 at h ⊢;by_cases h1:NJ n=0
 .rw[if_neg (by simp[h1])]at h ⊢;by_cases h2:GY n=0
  .rw[if_neg (by simp[h2])]at h ⊢;by_cases h3:Q7 (FN (B4 n) n.roles) Ste.line n.steps=(0,0)
   .rw[if_neg (by simp[h3])]at h ⊢;obtain⟨q1,q2⟩:=Nl h;exact⟨q1,h1,h2,(Nl (by rw[h3])).2,q2⟩
   .rw[if_pos h3]at h;exact absurd (Nl h).1 h3
  .rw[if_pos h2]at h;exact absurd h h2
 .rw[if_pos h1]at h;exact absurd h h1
@[simp] theorem ur (h:AH) (am:Bool) (f:FuncId) (cs:G1):JW h am (.fn f [.pv cs])=some (.fn f [.pv cs]):=rfl
@[simp] theorem xy (h:AH) (f:FuncId) (cs:G1):Ef h (.fn f cs)=true:=rfl
def iQ:Nar:=⟨bs [],(true,false),[],(true,false),[],(true,false),[],(true,false),[],(true,false),[]⟩
theorem Uk:AV.agg [.str (bs []),sl (true,false) 1 [],sl (true,false) 1 [],sl (true,false) 1 [],sl (true,false) 1 [],sl (true,false) 1 []]=F0 iQ:=by
 unfold F0 iQ;simp[sl]
theorem dW (n:Nar) (F:Fine n) (S:Lens n):∃r,pc Q Be [F0 n]=some (.tup [F0 r,.int .i64 (Z5 n).1,.int .i64 (Z5 n).2])/\((Z5 n).2=0->Pn r=Cn (J8 (B4 n) (G3 n)) n):=by
 suffices h:∃v,pc Q Be [F0 n]=some v/\∃r,v=.tup [F0 r,.int .i64 (Z5 n).1,.int .i64 (Z5 n).2]/\((Z5 n).2=0->Pn r=Cn (J8 (B4 n) (G3 n)) n) by
  obtain⟨v,h1,r,rfl,h2⟩:=h;exact⟨r,h1,h2⟩
 have hC:=TJ n F S.names;have nb:=D8 n;by_cases hz:(Z5 n).2=0
 .obtain⟨hz0,hR⟩:=DB hz;obtain⟨k1,k2,k3⟩:=EU hR.nar;have hN:=QO n S.names hR.dec;have hA:∃n',pc Q Aj [F0 n,bv (sl n.rm 1 (n.roles.map .str)) (B4 n) (G3 n)]=some (F0 n')/\Pn n'=Cn (J8 (B4 n) (G3 n)) n:=by
   refine sC n S (Ng k1).1 _ _ _ _ (λs hs=>?_) λg hg t ht=>?_
   .exact Us _ rfl _ _ (LI n) _ _ (A0L _) (F.steps s hs).2.2 (Iu (QC (k2 s hs)))
   .exact Us _ rfl _ _ (LI n) _ _ (A0L _) (by have:=(F.goals g hg).2.2;have:=Tm.size_le ht;omega) (Iu (UR (k3 g hg) t ht))
  obtain⟨n',hA,hA2⟩:=hA;rw[hz0]at hC ⊢;unfold eH at hN;unfold bv at hA;generalize hU:(B4 n).map AV.str=U at *
  generalize hV:(G3 n).map (AV.int .i64)=V at *
  refine HL Bu λΨ hΨ fr hl h0=>?_;simp[Bu]at hl h0;simp[Bu,hl,h0,D8,hC,hN,hA,BW,show (AV.vm U V).flat=true from rfl];exact hΨ _ ⟨n',rfl,λ_=>hA2⟩
 .refine HL Bu λΨ hΨ fr hl h0=>?_;simp[Bu]at hl h0;simp[Bu,hl,h0,nb,hC,hz,E7,D2];exact hΨ _ ⟨iQ,by rw[←Uk,o7 (true,false) rfl 1 1],λh=>absurd h hz⟩
end Go.Abs.Q
namespace Go.Abs.Q
open Go.Proofs
attribute [local simp] D9 E4 fin I8 G6 P7 M4 R4 R3 D8
theorem Xq (x:I3) (l:List ByteArray):(0<=idx (U3 x) l)↔l.any (U3 x)=true:=CX _ l 0
theorem Pp (x:I3) (l:List ByteArray):(idx (U3 x) l<0)↔l.any (U3 x)=false:=by
 have:=Xq x l;cases h:l.any (U3 x)with
 |true=>rw[h]at this;simp at this;simp;omega
 |false=>rw[h]at this;simp at this;simp;omega
theorem Uy (t:Tm) (nm:I3):pc Q Np [B7 t,.str nm]=some (.bool (decide (t.kind=3)&&decide (t.name=nm))):=by
 refine O2 Qu λfr hl h0 h1=>?_;simp[Qu]at hl h0 h1;simp +contextual (maxSteps:=10000000) [Qu,hl,h0,h1]
theorem Fq (m:J3) (l:List ByteArray) (x:I3) (h:l.length<=1048576):pc Q P2 [sl m 1 (l.map AV.str),.str x]=some (.int .i64 (idx (U3 x) l)):=lm m l x (by omega)
theorem VB (n:Nar) (hr:n.roles.length<=1048576) (t:Tm):pc Q ID [F0 n,B7 t]=some (.bool (BG n.roles t)):=by
 have hC:=Fq n.rm n.roles t.name hr;have hI:=Xq t.name n.roles;refine O2 IV λfr hl h0 h1=>?_;simp[IV]at hl h0 h1;unfold BG;generalize n.roles.any (U3 t.name)=b at *
 by_cases hk:t.kind=2
 .cases b with
  |true =>
   simp[IV,hl,h0,h1,hC,B6 (hI.2 rfl),B6 hk]
  |false =>
   simp[IV,hl,h0,h1,hC,A2 (show ¬0<=idx (U3 t.name) n.roles from λh=>nomatch (hI.1 h)),B6 hk]
 .simp[IV,hl,h0,h1,A2 hk]
theorem TI (n:Nar) (hr:n.roles.length<=1048576) (t:Tm):pc Q HA [F0 n,B7 t]=some (.bool (BU n.roles t)):=by
 have hI:=Uy t (bs [115,107]);refine O2 Br λfr hl h0 h1=>?_;simp[Br]at hl h0 h1;by_cases hk:t.kind=3
 .by_cases hn:t.name=bs [115,107]
  .by_cases A6:(t.kids.length:Int)=1
   .obtain⟨a,hka⟩:=A0S.1 (show t.kids.length=1 by omega);have hx:Jb (A4 t.kids) 0=some (B7 a):=by rw[hka];rfl
    have hf:Qj (BG n.roles) t.kids=BG n.roles a:=by rw[hka];rfl
    have hR:=VB n hr a;simp[Br,hl,h0,h1,BU,f8,hI,B6 hk,B6 hn,B6 A6,hR,hx,hf]
   .simp[Br,hl,h0,h1,BU,f8,hI,B6 hk,B6 hn,A2 A6]
  .simp[Br,hl,h0,h1,BU,f8,hI,B6 hk,A2 hn]
 .simp[Br,hl,h0,h1,BU,f8,hI,A2 hk]
theorem VA (n:Nar) (hr:n.roles.length<=1048576) (t:Tm):pc Q IC [F0 n,B7 t]=some (.bool (Ft n.roles t)):=by
 have hI:=Uy t (bs [112,107]);refine O2 DJ λfr hl h0 h1=>?_;simp[DJ]at hl h0 h1;by_cases hk:t.kind=3
 .by_cases hn:t.name=bs [112,107]
  .by_cases A6:(t.kids.length:Int)=1
   .obtain⟨a,hka⟩:=A0S.1 (show t.kids.length=1 by omega);have hx:Jb (A4 t.kids) 0=some (B7 a):=by rw[hka];rfl
    have hf:Qj (BU n.roles) t.kids=BU n.roles a:=by rw[hka];rfl
    have hR:=TI n hr a;simp[DJ,hl,h0,h1,Ft,f8,hI,B6 hk,B6 hn,B6 A6,hR,hx,hf]
   .simp[DJ,hl,h0,h1,Ft,f8,hI,B6 hk,B6 hn,A2 A6]
  .simp[DJ,hl,h0,h1,Ft,f8,hI,B6 hk,A2 hn]
 .simp[DJ,hl,h0,h1,Ft,f8,hI,A2 hk]
end Go.Abs.Q
namespace Go.Abs.Q
open Go.Proofs
attribute [local simp] D9 E4 fin I8 G6 R4 R3 D8
set_option maxHeartbeats 1000000 in
theorem pG (n:Nar) (hr:n.roles.length<=1048576) (t:Tm) (hk:t.kind=3):pc Q Kg [F0 n,B7 t]=some (.int .i64 (Hb n.roles t)):=by
 have p6:=VA n hr t;have hv:Hb n.roles t=if f8 t (bs [112,97,105,114]) 2=true\/f8 t (bs [101,110,99]) 2=true then 2
   else if f8 t (bs [104,97,115,104]) 1=true then 1
   else if (f8 t (bs [97,101,110,99]) 2=true/\OA (Ft n.roles) t.kids=true)\/(f8 t (bs [115,105,103,110]) 2=true/\OA (BU n.roles) t.kids=true)then 1
   else if Ft n.roles t=true\/Sh n.roles t=true then 0 else -1:=rfl
 have eA:∀(nm:ByteArray) (k:Int),f8 t nm k=true↔t.name=nm/\(t.kids.length:Int)=k:=λnm k=>by simp[f8,hk]
 generalize Hb n.roles t=v at *
 refine O2 I0 λfr hl h0 h1=>?_;simp[I0]at hl h0 h1;by_cases h2:(t.kids.length:Int)=2
 .obtain⟨x,y,hxy⟩:=Zj (show t.kids.length=2 by omega);have h1n:¬(t.kids.length:Int)=1:=by omega
  have n0:Jb (A4 t.kids) 0=some (B7 x):=by rw[hxy];rfl
  have n1:Jb (A4 t.kids) 1=some (B7 y):=by rw[hxy];rfl
  have c1:=VA n hr y;have c2:=TI n hr y;have c3:=VB n hr x;have c4:=VB n hr y;have b6:Ft n.roles t=false:=by simp[Ft,Hl (show (t.kids.length:Int)≠1 by omega)]
  have f1:OA (Ft n.roles) t.kids=Ft n.roles y:=by rw[hxy];rfl
  have f2:OA (BU n.roles) t.kids=BU n.roles y:=by rw[hxy];rfl
  have f3:Sh n.roles t=true↔t.name=bs [115,104,107]/\BG n.roles x=true/\BG n.roles y=true/\x.name≠y.name:=by
   simp only[Sh,Bool.and_eq_true,eA,hxy,Qj,OA,nY,decide_eq_true_eq];simp[and_assoc]
  rw[b6]at p6;simp only[eA,h2,and_true,b6,f1,f2,f3]at hv;clear f1 f2 f3 b6 eA;generalize Ft n.roles y=e1 at *
  generalize BU n.roles y=e2 at *
  generalize BG n.roles x=e3 at *
  generalize BG n.roles y=e4 at *
  by_cases m1:t.name=bs [112,97,105,114]
  .rw[if_pos (.inl m1)]at hv;simp[I0,hl,h0,h1,B6 m1,B6 h2,hv]
  by_cases m2:t.name=bs [101,110,99]
  .rw[if_pos (.inr m2)]at hv;simp[I0,hl,h0,h1,A2 m1,B6 m2,B6 h2,hv]
  rw[if_neg (by simp[m1,m2]),if_neg (by simp)]at hv;by_cases m3:t.name=bs [104,97,115,104]
  .have m4:¬t.name=bs [97,101,110,99]:=by rw[m3];decide
   have m5:¬t.name=bs [115,105,103,110]:=by rw[m3];decide
   have m6:¬t.name=bs [115,104,107]:=by rw[m3];decide
   rw[if_neg (by simp[m4,m5]),if_neg (by simp[m6])]at hv;simp[I0,hl,h0,h1,A2 m1,A2 m2,B6 m3,A2 m4,A2 m5,A2 m6,A2 h1n,p6,hv]
  by_cases m4:t.name=bs [97,101,110,99]
  .have m5:¬t.name=bs [115,105,103,110]:=by rw[m4];decide
   have m6:¬t.name=bs [115,104,107]:=by rw[m4];decide
   cases e1 with
   |true =>
    rw[if_pos (.inl ⟨m4,rfl⟩)]at hv;simp[I0,hl,h0,h1,A2 m1,A2 m2,A2 m3,B6 m4,B6 h2,n1,c1,hv]
   |false =>
    rw[if_neg (by simp[m5]),if_neg (by simp[m6])]at hv;simp[I0,hl,h0,h1,A2 m1,A2 m2,A2 m3,B6 m4,A2 m5,A2 m6,B6 h2,n1,c1,p6,hv]
  by_cases m5:t.name=bs [115,105,103,110]
  .have m6:¬t.name=bs [115,104,107]:=by rw[m5];decide
   cases e2 with
   |true =>
    rw[if_pos (.inr ⟨m5,rfl⟩)]at hv;simp[I0,hl,h0,h1,A2 m1,A2 m2,A2 m3,A2 m4,B6 m5,B6 h2,n1,c2,hv]
   |false =>
    rw[if_neg (by simp[m4]),if_neg (by simp[m6])]at hv;simp[I0,hl,h0,h1,A2 m1,A2 m2,A2 m3,A2 m4,B6 m5,A2 m6,B6 h2,n1,c2,p6,hv]
  rw[if_neg (by simp[m4,m5])]at hv;by_cases m6:t.name=bs [115,104,107]
  .cases e3 with
   |false =>
    simp at hv;simp[I0,hl,h0,h1,A2 m1,A2 m2,A2 m3,A2 m4,A2 m5,B6 m6,B6 h2,n0,c3,p6,hv]
   |true =>
    cases e4 with
    |false =>
     simp at hv;simp[I0,hl,h0,h1,A2 m1,A2 m2,A2 m3,A2 m4,A2 m5,B6 m6,B6 h2,n0,n1,c3,c4,p6,hv]
    |true =>
     by_cases m7:x.name=y.name
     .simp[m7]at hv;simp[I0,hl,h0,h1,A2 m1,A2 m2,A2 m3,A2 m4,A2 m5,B6 m6,B6 m7,B6 h2,n0,n1,c3,c4,p6,hv]
     .simp[m6,m7]at hv;simp[I0,hl,h0,h1,A2 m1,A2 m2,A2 m3,A2 m4,A2 m5,B6 m6,A2 m7,B6 h2,n0,n1,c3,c4,p6,hv]
  .simp[m6]at hv;simp[I0,hl,h0,h1,A2 m1,A2 m2,A2 m3,A2 m4,A2 m5,A2 m6,p6,hv]
 .have b7:Sh n.roles t=false:=by simp[Sh,Hl h2]
  simp only[eA,h2,and_false,false_or,false_and,if_false,b7]at hv;generalize Ft n.roles t=b6 at *
  by_cases m3:t.name=bs [104,97,115,104]/\(t.kids.length:Int)=1
  .rw[if_pos m3]at hv;by_cases m1:t.name=bs [112,97,105,114]
   .exact absurd (m1.symm.trans m3.1) (by decide)
   by_cases m2:t.name=bs [101,110,99]
   .exact absurd (m2.symm.trans m3.1) (by decide)
   simp[I0,hl,h0,h1,A2 m1,A2 m2,B6 m3.1,B6 m3.2,hv]
  .have m3':=m3;clear m3;rw[if_neg m3']at hv;by_cases m1:t.name=bs [112,97,105,114]
   .have m2:¬t.name=bs [101,110,99]:=by rw[m1];decide
    have m3:¬t.name=bs [104,97,115,104]:=by rw[m1];decide
    have m4:¬t.name=bs [97,101,110,99]:=by rw[m1];decide
    have m5:¬t.name=bs [115,105,103,110]:=by rw[m1];decide
    have m6:¬t.name=bs [115,104,107]:=by rw[m1];decide
    cases b6<;>simp[I0,hl,h0,h1,B6 m1,A2 m2,A2 m3,A2 m4,A2 m5,A2 m6,A2 h2,p6,hv]
   by_cases m2:t.name=bs [101,110,99]
   .have m3:¬t.name=bs [104,97,115,104]:=by rw[m2];decide
    have m4:¬t.name=bs [97,101,110,99]:=by rw[m2];decide
    have m5:¬t.name=bs [115,105,103,110]:=by rw[m2];decide
    have m6:¬t.name=bs [115,104,107]:=by rw[m2];decide
    cases b6<;>simp[I0,hl,h0,h1,A2 m1,B6 m2,A2 m3,A2 m4,A2 m5,A2 m6,A2 h2,p6,hv]
   by_cases m3:t.name=bs [104,97,115,104]
   .have m4:¬t.name=bs [97,101,110,99]:=by rw[m3];decide
    have m5:¬t.name=bs [115,105,103,110]:=by rw[m3];decide
    have m6:¬t.name=bs [115,104,107]:=by rw[m3];decide
    have h1n:¬(t.kids.length:Int)=1:=λh=>m3' ⟨m3,h⟩;cases b6<;>simp[I0,hl,h0,h1,A2 m1,A2 m2,B6 m3,A2 m4,A2 m5,A2 m6,p6,hv,A2 h1n]
   by_cases m4:t.name=bs [97,101,110,99]
   .have m5:¬t.name=bs [115,105,103,110]:=by rw[m4];decide
    have m6:¬t.name=bs [115,104,107]:=by rw[m4];decide
    cases b6<;>simp[I0,hl,h0,h1,A2 m1,A2 m2,A2 m3,B6 m4,A2 m5,A2 m6,A2 h2,p6,hv]
   by_cases m5:t.name=bs [115,105,103,110]
   .have m6:¬t.name=bs [115,104,107]:=by rw[m5];decide
    cases b6<;>simp[I0,hl,h0,h1,A2 m1,A2 m2,A2 m3,A2 m4,B6 m5,A2 m6,A2 h2,p6,hv]
   by_cases m6:t.name=bs [115,104,107]
   .cases b6<;>simp[I0,hl,h0,h1,A2 m1,A2 m2,A2 m3,A2 m4,A2 m5,B6 m6,A2 h2,p6,hv]
   cases b6<;>simp[I0,hl,h0,h1,A2 m1,A2 m2,A2 m3,A2 m4,A2 m5,A2 m6,p6,hv]
end Go.Abs.Q
namespace Go.Abs.Q
open Go.Proofs
attribute [local simp] D9 E4 fin I8 G6 R4 R3 D8
theorem ki (rs:List ByteArray) (t:Tm):Hb rs t<=t.kids.length/\-1<=Hb rs t:=by
 unfold Hb;have e2:∀(nm:ByteArray) (k:Int),f8 t nm k=true->(t.kids.length:Int)=k:=λnm k h=>by simp[f8]at h;exact h.2
 split
 .rename_i h;rcases h with h|h<;>have:=e2 _ _ h<;>omega
 .split
  .rename_i h;have:=e2 _ _ h;omega
  .split
   .rename_i h;rcases h with h|h<;>have:=e2 _ _ h.1<;>omega
   .split<;>omega
theorem dF (na:Nar) (ns rs:List ByteArray) (l' l:I6) (hl':l'.length<=1099511627776) (hll:∃c:Nat,l=l'.take c/\c<=l'.length) (IH:∀t∈l,pc Q CF [F0 na,B7 t]=some (.int .i64 (o6 ns rs t))) (t:Tm) (ht:t.kids=l') (fr:Fr) (h:AH) (hh:h=⟨[(F0 na).cells,(B7 t).cells],[]⟩) (hl:fr.length=43) (h2:A0 fr 2=.ptr 0 0) (h3:A0 fr 3=.ptr 1 0) (h7:A0 fr 7=.int .i64 l.length) (h8:A0 fr 8=.int .i64 0) :
  B9 (lp (A3 (L5 Q) (E5 CF) DI) (fr,h)) λe C6 h'=>Kp DI.wr fr C6/\(e=.exit 0/\C9 (o6 ns rs) l=0\/e=.ret/\A0 C6 4=.int .i64 (C9 (o6 ns rs) l)):=by
 refine B5 rfl fr (λn fr h'=>∃(i:Nat),i+n=l.length/\A0 fr 8=.int .i64 (i:Nat)/\h'=⟨[(F0 na).cells,(B7 t).cells],[]⟩/\C9 (o6 ns rs) (l.drop i)=C9 (o6 ns rs) l) ?_ l.length h ⟨0,by omega,h8,hh,rfl⟩;rintro J Φ hJ hΦ n E1 H1 K ⟨i,hi,k8,hr⟩;have A6:=K.1.trans hl;have k2:=A9 K 2 h2;have k3:=A9 K 3 h3;have k7:=A9 K 7 h7;clear K;by_cases A7:i<l.length
 .have B8:l.length<=1099511627776:=by obtain⟨c,rfl,hc⟩:=hll;rw[A0O];omega
  have Q6:=D1 i (by omega);obtain⟨rfl,hr⟩:=hr;have i7:i<l'.length:=by obtain⟨c,rfl,hc⟩:=hll;rw[A0O]at A7;omega
  have he:l[i]=l'[i]:=by obtain⟨c,rfl,hc⟩:=hll;simp
  have hx:=N6 i7;rw[←he,←ht]at hx;have hI:=IH l[i] (A0C A7);rw[A0H A7]at hr;simp only[C9]at hr;generalize l[i]=a at *
  generalize o6 ns rs a=v at *
  by_cases hz:v=0
  .rw[if_neg (by simp[hz])]at hr;simp[DI,A6,k2,k3,k7,k8,A7,Q6,hx,hI,hz];exact G8 hJ ⟨i+1,by omega,by simp[A6],by simp[D8],hr⟩
  .rw[if_pos hz]at hr;simp[DI,A6,k2,k3,k7,k8,A7,hx,hI,hz];exact hΦ _ _ _ (.inr ⟨rfl,by simp[A6,hr]⟩)
 .obtain⟨_,hr⟩:=hr;rw[A0R (by omega)]at hr;simp[DI,A6,k7,k8,A7];exact hΦ _ _ _ (.inl ⟨rfl,hr.symm⟩)
theorem an (na:Nar) (S:Lens na):∀(n:Nat) (t:Tm),t.size<=n->t.size<=1099511627776->pc Q CF [F0 na,B7 t]=some (.int .i64 (o6 (B4 na) na.roles t)):=by
 have s0:=S.names;intro n
 induction n with
 |zero=>intro t h;have:=t.size_pos;omega
 |succ n ih =>
  intro t hn hb;have I9:=t.kids_size;have B8:=Tm.length_le t.kids;have hE:=QA (B4 na) na.roles t;obtain⟨kl,kg⟩:=ki na.roles t;obtain⟨r,hNm,m,m',rfl⟩:=Up na ⟨by omega,by omega,by omega⟩;have hI:=Fq m (B4 na) t.name (by simp[B4];omega);have hge:=Pp t.name (B4 na);have KB:=dF na (B4 na) na.roles t.kids (t.kids.take (Hb na.roles t).toNat) (by omega) ⟨(Hb na.roles t).toNat,rfl,by omega⟩ (λa ha=>ih a (by have:=Tm.size_le (A0U ha);omega) (by have:=Tm.size_le (A0U ha);omega)) t rfl;have hKl:(t.kids.take (Hb na.roles t).toNat).length=(Hb na.roles t).toNat:=by rw[A0O];omega
  clear ih;have hK:t.kind=3->pc Q Kg [F0 na,B7 t]=some (.int .i64 (Hb na.roles t)):=pG na (by omega) t;generalize o6 (B4 na) na.roles t=v at *
  unfold CK at hNm;generalize hkt:Hb na.roles t=kt at *
  refine O2 Fw λfr hl h0 h1=>?_;simp[Fw]at hl h0 h1;by_cases hk:t.kind=3
  .rw[if_neg (by simp[hk])]at hE;have hK:=hK hk;by_cases hz:kt<0
   .rw[if_pos hz]at hE;simp[Fw,hl,h0,h1,B6 hk,hK,B6 hz,hE]
   .rw[if_neg hz]at hE;simp[Fw,hl,h0,h1,B6 hk,hK,A2 hz];have e:(kt.toNat:Int)=kt:=by omega
    rw[hKl,e]at KB;refine B9.mono (KB _ _ ?_ ?_ ?_ ?_ ?_ ?_) ?_<;>first|(simp[hl];done)|skip
    rintro e E1 Ei ⟨K,⟨rfl,hz⟩|⟨rfl,k4⟩⟩
    .have J5:E1.length=43:=K.1.trans (by simp[hl]);clear K;simp[J5,hE,hz]
    .simp[k4,hE]
  .rw[if_pos hk]at hE;cases hb':(B4 na).any (U3 t.name)with
   |true =>
    rw[hb']at hge hE;simp[Fw,hl,h0,h1,A2 hk,hNm,hI,A2 (show ¬idx (U3 t.name) (B4 na)<0 from λh=>nomatch (hge.1 h)),hE]
   |false =>
    rw[hb']at hge hE;simp[Fw,hl,h0,h1,A2 hk,hNm,hI,B6 (hge.2 rfl),hE]
theorem mA (na:Nar) (S:Lens na) (s:Ste) (hs:s.msg.size<=1099511627776):pc Q Kh [F0 na,DY s]=some (.int .i64 (FN (B4 na) na.roles s)):=by
 have s0:=S.names;have hT:=an na S _ s.msg (A0L _) hs;have c1:=Fq na.rm na.roles s.frm (by omega);have c2:=Fq na.rm na.roles s.to (by omega);have g1:=Pp s.frm na.roles;have g2:=Pp s.to na.roles;have hE:FN (B4 na) na.roles s=if LQ na.roles s.frm s.to≠0 then LQ na.roles s.frm s.to else o6 (B4 na) na.roles s.msg:=rfl
 have hE2:LQ na.roles s.frm s.to=if na.roles.any (U3 s.frm)=true/\na.roles.any (U3 s.to)=true then (if s.frm=s.to then 1 else 0)else 13:=rfl
 generalize FN (B4 na) na.roles s=v at *
 generalize o6 (B4 na) na.roles s.msg=v2 at *
 generalize LQ na.roles s.frm s.to=v3 at *
 generalize na.roles.any (U3 s.frm)=b1 at *
 generalize na.roles.any (U3 s.to)=b2 at *
 generalize idx (U3 s.frm) na.roles=i1 at *
 generalize idx (U3 s.to) na.roles=i2 at *
 refine O2 Fx λfr hl h0 h1=>?_;simp[Fx]at hl h0 h1;have q1:b1=true->¬i1<0:=λh h'=>by rw[h]at g1;exact nomatch (g1.1 h')
 have q2:b2=true->¬i2<0:=λh h'=>by rw[h]at g2;exact nomatch (g2.1 h')
 cases b1 with
 |false =>
  simp at hE2;simp[hE2]at hE;simp[Fx,hl,h0,h1,c1,B6 (g1.2 rfl),hE]
 |true =>
  cases b2 with
  |false =>
   simp at hE2;simp[hE2]at hE;simp[Fx,hl,h0,h1,c1,A2 (q1 rfl),c2,B6 (g2.2 rfl),hE]
  |true =>
   by_cases he:s.frm=s.to
   .simp[he]at hE2;simp[hE2]at hE;simp[Fx,hl,h0,h1,c1,A2 (q1 rfl),c2,A2 (q2 rfl),B6 he,hE]
   .simp[he]at hE2;simp[hE2]at hE;simp[Fx,hl,h0,h1,c1,A2 (q1 rfl),c2,A2 (q2 rfl),A2 he,hT,hE]
theorem dI (na:Nar) (ns rs:List ByteArray) (g:Gol) (B8:g.data.length<=1099511627776) (IH:∀t∈g.data,pc Q CF [F0 na,B7 t]=some (.int .i64 (o6 ns rs t))) (fr:Fr) (h:AH) (hh:h=⟨[(F0 na).cells,(Da g).cells],[]⟩) (hl:fr.length=49) (h2:A0 fr 2=.ptr 0 0) (h3:A0 fr 3=.ptr 1 0) (h5:A0 fr 5=.int .i64 0) :
  B9 (lp (A3 (L5 Q) (E5 Dj) BK) (fr,h)) λe C6 h'=>Kp BK.wr fr C6/\(e=.exit 0/\C9 (o6 ns rs) g.data=0\/e=.ret/\A0 C6 4=.int .i64 (C9 (o6 ns rs) g.data)):=by
 refine B5 rfl fr (λn fr h'=>∃(i:Nat),i+n=g.data.length/\A0 fr 5=.int .i64 (i:Nat)/\h'=⟨[(F0 na).cells,(Da g).cells],[]⟩/\C9 (o6 ns rs) (g.data.drop i)=C9 (o6 ns rs) g.data) ?_ g.data.length h ⟨0,by omega,h5,hh,rfl⟩;rintro J Φ hJ hΦ n E1 H1 K ⟨i,hi,k5,hr⟩;have A6:=K.1.trans hl;have k2:=A9 K 2 h2;have k3:=A9 K 3 h3;clear K;by_cases A7:i<g.data.length
 .have Q6:=D1 i (by omega);obtain⟨rfl,hr⟩:=hr;have hx:=N6 A7;have hI:=IH g.data[i] (A0C A7);rw[A0H A7]at hr;simp only[C9]at hr;generalize g.data[i]=a at *
  generalize o6 ns rs a=v at *
  by_cases hz:v=0
  .rw[if_neg (by simp[hz])]at hr;simp[BK,A6,k2,k3,k5,A7,Q6,hx,hI,hz];exact G8 hJ ⟨i+1,by omega,by simp[A6],by simp[D8],hr⟩
  .rw[if_pos hz]at hr;simp[BK,A6,k2,k3,k5,A7,hx,hI,hz];exact hΦ _ _ _ (.inr ⟨rfl,by simp[A6,hr]⟩)
 .obtain⟨rfl,hr⟩:=hr;rw[A0R (by omega)]at hr;simp[BK,A6,k3,k5,A7];exact hΦ _ _ _ (.inl ⟨rfl,hr.symm⟩)
theorem ly (na:Nar) (S:Lens na) (g:Gol) (hd:Tm.sizes g.data<=1099511627776):pc Q Dj [F0 na,Da g]=some (.int .i64 (HN (B4 na) na.roles g)):=by
 have s0:=S.names;have B8:=Tm.length_le g.data;have c1:=Fq na.rm na.roles g.role (by omega);have c2:=Fq na.rm na.roles g.wth (by omega);have g1:=Pp g.role na.roles;have g2:=Pp g.wth na.roles;have KB:=dI na (B4 na) na.roles g (by omega) (λt ht=>an na S _ t (A0L _) (by have:=Tm.size_le ht;omega));have hE:HN (B4 na) na.roles g=if na.roles.any (U3 g.role)=false then 13 else if Ln g=true/\LQ na.roles g.role g.wth≠0 then LQ na.roles g.role g.wth else C9 (o6 (B4 na) na.roles) g.data:=rfl
 have hE2:LQ na.roles g.role g.wth=if na.roles.any (U3 g.role)=true/\na.roles.any (U3 g.wth)=true then (if g.role=g.wth then 1 else 0)else 13:=rfl
 have hA:Ln g=(decide (g.kind=2)||decide (g.kind=3)):=rfl;generalize HN (B4 na) na.roles g=v at *
 generalize C9 (o6 (B4 na) na.roles) g.data=v2 at *
 generalize LQ na.roles g.role g.wth=v3 at *
 generalize na.roles.any (U3 g.role)=b1 at *
 generalize na.roles.any (U3 g.wth)=b2 at *
 generalize idx (U3 g.role) na.roles=i1 at *
 generalize idx (U3 g.wth) na.roles=i2 at *
 generalize Ln g=ab at *
 refine O2 t7 λfr hl h0 h1=>?_;simp[t7]at hl h0 h1;have q1:b1=true->¬i1<0:=λh h'=>by rw[h]at g1;exact nomatch (g1.1 h')
 have q2:b2=true->¬i2<0:=λh h'=>by rw[h]at g2;exact nomatch (g2.1 h')
 cases b1 with
 |false =>
  simp at hE;simp[t7,hl,h0,h1,c1,B6 (g1.2 rfl),hE]
 |true =>
  have key:∀(E1:Fr),v=v2->E1.length=49->A0 E1 2=.ptr 0 0->A0 E1 3=.ptr 1 0->A0 E1 5=.int .i64 0 ->
    B9 (lp (A3 (L5 Q) (E5 Dj) BK) (E1,⟨[[.str na.name,sl na.rm 1 (na.roles.map .str),sl na.fm 3 (na.fresh.map KD),sl na.tm 1 (na.tags.map .str),sl na.sm 7 (na.steps.map DY),sl na.gm 5 (na.goals.map Da)],[.int .i64 g.kind,.str g.role,.str g.wth,sl g.dm 4 (A4 g.data),.int .i64 g.line]],[]⟩)) (BL 0 (SQ (L5 Q) (E5 Dj) (.seq (.region false [⟨some 4,.mov (.c (.int .i64 0)),none⟩]) .ret) (eN [.tmp 4] (.int .i64 v)))):=by
   rintro E1 rfl hl q2 q3 q5;refine B9.mono (KB E1 _ rfl hl q2 q3 q5) ?_;rintro e V8 h2 ⟨K,⟨rfl,hz⟩|⟨rfl,k4⟩⟩
   .have GI:=K.1.trans hl;simp[GI,hz]
   .simp[k4]
  have cases2:ab=true->((b2=false/\v=13)\/(b2=true/\g.wth=g.role/\v=1)\/(b2=true/\¬g.wth=g.role/\v=v2)):=by
   intro h;subst h;cases b2 with
   |false =>
    simp at hE2;simp[hE2]at hE;exact .inl ⟨rfl,hE⟩
   |true =>
    by_cases he:g.role=g.wth
    .simp[he]at hE2;simp[hE2]at hE;exact .inr (.inl ⟨rfl,he.symm,hE⟩)
    .simp[he]at hE2;simp[hE2]at hE;exact .inr (.inr ⟨rfl,λh=>he h.symm,hE⟩)
  by_cases k2:g.kind=2
  .rcases cases2 (by simp[hA,k2])with ⟨rfl,hv⟩|⟨rfl,he,hv⟩|⟨rfl,he,hv⟩
   .simp[t7,hl,h0,h1,c1,A2 (q1 rfl),B6 k2,c2,B6 (g2.2 rfl),hv]
   .simp[t7,hl,h0,h1,c1,A2 (q1 rfl),B6 k2,c2,A2 (q2 rfl),B6 he,hv]
   .simp[t7,hl,h0,h1,c1,A2 (q1 rfl),B6 k2,c2,A2 (q2 rfl),A2 he];exact key _ hv (by simp[hl]) (by simp[hl]) (by simp[hl]) (by simp[hl])
  .by_cases k3:g.kind=3
   .rcases cases2 (by simp[hA,k3])with ⟨rfl,hv⟩|⟨rfl,he,hv⟩|⟨rfl,he,hv⟩
    .simp[t7,hl,h0,h1,c1,A2 (q1 rfl),A2 k2,B6 k3,c2,B6 (g2.2 rfl),hv]
    .simp[t7,hl,h0,h1,c1,A2 (q1 rfl),A2 k2,B6 k3,c2,A2 (q2 rfl),B6 he,hv]
    .simp[t7,hl,h0,h1,c1,A2 (q1 rfl),A2 k2,B6 k3,c2,A2 (q2 rfl),A2 he];exact key _ hv (by simp[hl]) (by simp[hl]) (by simp[hl]) (by simp[hl])
   .have ea:ab=false:=by simp[hA,k2,k3]
    simp[ea]at hE;simp[t7,hl,h0,h1,c1,A2 (q1 rfl),A2 k2,A2 k3];exact key _ hE (by simp[hl]) (by simp[hl]) (by simp[hl]) (by simp[hl])
end Go.Abs.Q
