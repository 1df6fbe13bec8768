/- A part of the proof. -/
import Derived.Test.YtjhgilockkmniaaGreatDoorSJ25
set_option linter.all false
open Option renaming bind_some->zf0z
open List renaming getElem?_set_ne->zf1z,getElem?_set_self->zf2z,take_succ_eq_append_getElem->zf3z,map_append->zf4z,getElem_mem->zf5z,map_cons->zf6z,getElem?_append_left->zf7z,map_nil->zf8z,map_eq_nil_iff->zf9z,getElem?_eq_some_iff->zg0z,drop_length->zg1z,take_length->zg2z,append_nil->zg3z,length_eq_one_iff->zg4z,take_of_length_le->zg5z,drop_zero->zg7z
open Nat renaming le_refl->zg6z
namespace Go.Abs.Q
open Go.Proofs
attribute [local simp] C8 D5 fin H6 G0 jx
def iS (k sz:Nat) (xs:List AV) (v:AV) (h:AH):Prop:=(xs=[]/\∃b,v=sl (true,b) sz [])\/(xs≠[]/\v=.sl k xs.length 0 xs.length/\h.fams[k]?=some ⟨xs,sz,true⟩)
@[simp] theorem Mt (h:AH) (k n off len:Nat):Cg h (.sl k n off len)=AS h true (.sl k n off len):=rfl
@[simp] theorem ic (h:AH):Cg h (.vs true 0 [])=some (.vs true 0 []):=rfl
theorem YS {k sz:Nat} {xs:C6} {v:AV} {h:AH} (hg:iS k sz xs v h):v.isTup=false/\v.cells=[v]/\BA [v]=false:=by
 rcases hg with ⟨_,b,rfl⟩|⟨_,rfl,_⟩<;>exact⟨rfl,rfl,rfl⟩
theorem XQ {k sz:Nat} {xs:C6} {v:AV} {h:AH} (hg:iS k sz xs v h) (h':AH):Ps h' v=some (.int .i64 xs.length,h'):=by
 rcases hg with ⟨rfl,b,rfl⟩|⟨_,rfl,_⟩
 .simp
 .rfl
theorem Jv (m:U8) (xs:C6) (Nj:xs.length<=1048576):∃m',pc Q I8 [sl m 1 xs]=some (sl m' 1 xs):=by
 suffices h:∃r,pc Q I8 [sl m 1 xs]=some r/\∃m',r=sl m' 1 xs by
  obtain⟨r,h1,m',rfl⟩:=h;exact⟨m',h1⟩
 have hr:xs.length*16<=I0/\xs.length<=maxLen:=by simp only[I0,maxLen];omega
 refine Ka V3 λΨ hΨ fr hl h0=>?_;simp[V3]at hl h0;by_cases he:xs=[]
 .subst he;obtain⟨m1,m2⟩:=m;cases m2 with
  |false =>
   simp[V3,hl,h0];exact hΨ _ ⟨(true,false),KD 1⟩
  |true =>
   simp[V3,hl,h0,Hu,B5];exact hΨ _ ⟨_,rfl⟩
 .have he':xs.isEmpty=false:=by simpa using he
  simp[V3,hl,h0,he',Hu,B5,he,hr,Mt];exact hΨ _ ⟨_,rfl⟩
theorem Pv (m:U8) (xs:C6) (Nj:xs.length<=1048576):∃m',pc Q Y7 [sl m 3 xs]=some (sl m' 3 xs):=by
 suffices h:∃r,pc Q Y7 [sl m 3 xs]=some r/\∃m',r=sl m' 3 xs by
  obtain⟨r,h1,m',rfl⟩:=h;exact⟨m',h1⟩
 have hr:xs.length*40<=I0/\xs.length<=maxLen:=by simp only[I0,maxLen];omega
 refine Ka Z5 λΨ hΨ fr hl h0=>?_;simp[Z5]at hl h0;by_cases he:xs=[]
 .subst he;obtain⟨m1,m2⟩:=m;cases m2 with
  |false =>
   simp[Z5,hl,h0];exact hΨ _ ⟨(true,false),KD 3⟩
  |true =>
   simp[Z5,hl,h0,Hu,B5];exact hΨ _ ⟨_,rfl⟩
 .have he':xs.isEmpty=false:=by simpa using he
  simp[Z5,hl,h0,he',Hu,B5,he,hr,Mt];exact hΨ _ ⟨_,rfl⟩
theorem SZ (m:U8) (xs:C6) (Nj:xs.length<=1048576) (h:AH):∃w h',rc Q H4 [sl m 4 xs] h=some (w,h')/\iS h.fams.length 4 xs w h'/\h'.boxes=h.boxes/\∃e,h'.fams=h.fams++e:=by
 have hr:xs.length*56<=I0/\xs.length<=maxLen:=by simp only[I0,maxLen];omega
 suffices hq:∃w h',rc Q H4 [sl m 4 xs] h=some (w,h')/\∀Ψ:AV->AH->Prop,(∀w h',iS h.fams.length 4 xs w h'/\h'.boxes=h.boxes/\(∃e,h'.fams=h.fams++e)->Ψ w h')->Ψ w h' by
  obtain⟨w,h',h1,h2⟩:=hq;exact⟨w,h',h1,h2 _ λ_ _ h=>h⟩
 refine kP j6 λfr hl h0=>?_;simp[j6]at hl h0;by_cases he:xs=[]
 .subst he;obtain⟨m1,m2⟩:=m;cases m2 with
  |false =>
   simp[j6,hl,h0];exact λΨ hΨ=>hΨ _ _ (.inl ⟨rfl,false,KD 4⟩) rfl [] (by simp)
  |true =>
   simp[j6,hl,h0,Hu,B5];exact λΨ hΨ=>hΨ _ _ (.inl ⟨rfl,true,rfl⟩) rfl [] (by simp)
 .have he':xs.isEmpty=false:=by simpa using he
  simp[j6,hl,h0,he',Hu,B5,he,hr,show cq H4=true from rfl];exact λΨ hΨ=>hΨ _ _ (.inr ⟨he,rfl,by simp⟩) rfl _ rfl
theorem SY (m:U8) (xs:C6) (Nj:xs.length<=1048576) (h:AH):∃w h',rc Q H3 [sl m 7 xs] h=some (w,h')/\iS h.fams.length 7 xs w h'/\h'.boxes=h.boxes/\∃e,h'.fams=h.fams++e:=by
 have hr:xs.length*96<=I0/\xs.length<=maxLen:=by simp only[I0,maxLen];omega
 suffices hq:∃w h',rc Q H3 [sl m 7 xs] h=some (w,h')/\∀Ψ:AV->AH->Prop,(∀w h',iS h.fams.length 7 xs w h'/\h'.boxes=h.boxes/\(∃e,h'.fams=h.fams++e)->Ψ w h')->Ψ w h' by
  obtain⟨w,h',h1,h2⟩:=hq;exact⟨w,h',h1,h2 _ λ_ _ h=>h⟩
 refine kP j5 λfr hl h0=>?_;simp[j5]at hl h0;by_cases he:xs=[]
 .subst he;obtain⟨m1,m2⟩:=m;cases m2 with
  |false =>
   simp[j5,hl,h0];exact λΨ hΨ=>hΨ _ _ (.inl ⟨rfl,false,KD 7⟩) rfl [] (by simp)
  |true =>
   simp[j5,hl,h0,Hu,B5];exact λΨ hΨ=>hΨ _ _ (.inl ⟨rfl,true,rfl⟩) rfl [] (by simp)
 .have he':xs.isEmpty=false:=by simpa using he
  simp[j5,hl,h0,he',Hu,B5,he,hr,show cq H3=true from rfl];exact λΨ hΨ=>hΨ _ _ (.inr ⟨he,rfl,by simp⟩) rfl _ rfl
theorem SX (m:U8) (xs:C6) (Nj:xs.length<=1048576) (h:AH):∃w h',rc Q H2 [sl m 5 xs] h=some (w,h')/\iS h.fams.length 5 xs w h'/\h'.boxes=h.boxes/\∃e,h'.fams=h.fams++e:=by
 have hr:xs.length*72<=I0/\xs.length<=maxLen:=by simp only[I0,maxLen];omega
 suffices hq:∃w h',rc Q H2 [sl m 5 xs] h=some (w,h')/\∀Ψ:AV->AH->Prop,(∀w h',iS h.fams.length 5 xs w h'/\h'.boxes=h.boxes/\(∃e,h'.fams=h.fams++e)->Ψ w h')->Ψ w h' by
  obtain⟨w,h',h1,h2⟩:=hq;exact⟨w,h',h1,h2 _ λ_ _ h=>h⟩
 refine kP j4 λfr hl h0=>?_;simp[j4]at hl h0;by_cases he:xs=[]
 .subst he;obtain⟨m1,m2⟩:=m;cases m2 with
  |false =>
   simp[j4,hl,h0];exact λΨ hΨ=>hΨ _ _ (.inl ⟨rfl,false,KD 5⟩) rfl [] (by simp)
  |true =>
   simp[j4,hl,h0,Hu,B5];exact λΨ hΨ=>hΨ _ _ (.inl ⟨rfl,true,rfl⟩) rfl [] (by simp)
 .have he':xs.isEmpty=false:=by simpa using he
  simp[j4,hl,h0,he',Hu,B5,he,hr,show cq H2=true from rfl];exact λΨ hΨ=>hΨ _ _ (.inr ⟨he,rfl,by simp⟩) rfl _ rfl
end Go.Abs.Q
namespace Go.Abs.Q
open Go.Proofs
attribute [local simp] C8 D5 fin H6 G0
@[simp] theorem tF (B:List (List AV)) (f f':List Fam) (v:AV):Yw true ⟨B,f⟩ (some (v,⟨B,f'⟩))=some (v,⟨B,f'⟩):=ow ⟨B,f⟩ v f'
@[simp] theorem lq (s:Ste) (cs:C6):(Q2 s).reform cs=some (.agg cs):=rfl
@[simp] theorem lN (s:Gol) (cs:C6):(Be s).reform cs=some (.agg cs):=rfl
@[simp] theorem ly (s:Tm) (cs:C6):(I1 s).reform cs=some (.agg cs):=by cases s;rfl
theorem ix (a b:R7) (t:Tm) (c:Int):AV.agg [.str a,.str b,.int .i64 t.kind,.str t.name,.int .i64 t.sort,sl t.cm 4 (D1 t.kids),.int .i64 c]=Q2 ⟨a,b,t,c⟩:=by cases t;rfl
def Re (s:Ste):Ste:=⟨s.frm,s.to,Hw s.msg,s.line⟩
def LC (f:ByteArray->Int) (s:Ste):Ste:=⟨s.frm,s.to,ED f s.msg,s.line⟩
def Yq (g:Gol):Gol:=⟨g.kind,g.role,g.wth,(false,false),AR g.data,g.line⟩
def Md (f:ByteArray->Int) (g:Gol):Gol:=⟨g.kind,g.role,g.wth,(false,false),a7 f g.data,g.line⟩
theorem SC {α β:Type} (g:α->β) (done l:List α) {i:Nat} (hi:i<l.length) (hd:done.length=i):∃h:i<((done++l.drop i).map g).length,((done++l.drop i).map g)[i]=g l[i]/\((done++l.drop i).map g).length=l.length:=by
 have e:(done++l.drop i).length=l.length:=by simp[hd];omega
 refine⟨by simp[hd];omega,?_,by simpa using e⟩;simp[hd,List.getElem_append_right]
theorem SD {α β:Type} (g:α->β) (done l:List α) {i:Nat} (hi:i<l.length) (hd:done.length=i) (x:α):((done++l.drop i).map g).set i (g x)=((done++[x])++l.drop (i+1)).map g:=by
 rw[List.drop_eq_getElem_cons hi,←List.map_set,List.set_append_right _ _ (by omega),hd,Nat.sub_self,List.set_cons_zero,List.append_assoc,List.singleton_append]
theorem HU {α:Type} {l:List α} {k:Nat} {x:α} (h:l[k]?=some x):l.set k x=l:=by
 obtain⟨h1,h2⟩:=zg0z.1 h;subst h2;exact List.set_getElem_self h1
theorem ZD (by':AV) (f:ByteArray->Int) (l:List Ste) (C4:l.length<=1048576) (hby:∀h am,frz h am by'=some by') (hby2:∀h,tame h by'=true) (IH:∀s∈l,∃t',pc Q E6 [I1 s.msg,by']=some (I1 t')/\Hw t'=ED f s.msg) (k:Nat) (b0 b1 b2 b3 b5:AV) (C:C6) (fr:Fr) (h:AH) (hh:h.boxes=[[b0,b1,b2,b3,.sl k l.length 0 l.length,b5],C]) (hfam:h.fams[k]?=some ⟨l.map Q2,7,true⟩) (hl:fr.length=85) (h1:A2 fr 1=by') (h2:A2 fr 2=.ptr 0 0) (h31:A2 fr 31=.int .i64 l.length) (h32:A2 fr 32=.int .i64 0) :
  C3 (lp (A4 (N5 Q) (B9 Y5) Dp) (fr,h)) λe fr' h'=>Kp Dp.wr fr fr'/\e=.exit 0/\∃done:List Ste,h'=⟨h.boxes,h.fams.set k ⟨done.map Q2,7,true⟩⟩/\done.map Re=l.map (LC f)/\done.length=l.length:=by
 refine C1 rfl fr (λn fr h'=>∃(i:Nat),i+n=l.length/\A2 fr 32=.int .i64 (i:Nat)/\(∃done:List Ste,h'=⟨h.boxes,h.fams.set k ⟨(done++l.drop i).map Q2,7,true⟩⟩/\done.map Re=(l.take i).map (LC f)/\done.length=i)) ?_ l.length h ⟨0,by omega,h32,⟨[],by simp[HU hfam],rfl,rfl⟩⟩;rintro J Φ hJ hΦ n E4 H1 K ⟨i,hi,k32,hr⟩;have A6:=K.1.trans hl;have k1:=B8 K 1 h1;have k2:=B8 K 2 h2;have k31:=B8 K 31 h31;clear K;by_cases A9:i<l.length
 .have j0:=C9 i (by omega);obtain⟨done,rfl,hd,Gr⟩:=hr;obtain⟨t',hI,ht⟩:=IH l[i] (zf5z A9);obtain⟨q1,q2,q3⟩:=SC Q2 done l A9 Gr;have q4:=SD Q2 done l A9 Gr ⟨l[i].frm,l[i].to,t',l[i].line⟩;have e2:(done++[Ste.mk l[i].frm l[i].to t' l[i].line]).map Re=(l.take (i+1)).map (LC f):=by
   rw[zf3z A9,zf4z,hd,zf4z,zf6z,zf8z,zf6z,zf8z];simp only[Re,ht,LC]
  have nw:=Q6 hfam;have e6:=ix l[i].frm l[i].to t' l[i].line;rw[hh]at hJ ⊢;clear hd ht;generalize (done++l.drop i).map Q2=X at *
  generalize hY:(done++[Ste.mk l[i].frm l[i].to t' l[i].line]++l.drop (i+1)).map Q2=Y at *
  generalize l[i]=s at *
  simp[Dp,A6,k1,k2,k31,k32,A9,j0,hI,hby,hby2,q2,q3,q4,e6,nw];exact H0 hJ ⟨i+1,by omega,by simp[A6],⟨_,by rw[hY],e2,by simp[Gr]⟩⟩
 .obtain⟨done,rfl,hd,Gr⟩:=hr;have e:i=l.length:=by omega
  subst e;rw[zg2z]at hd;rw[zg1z,zg3z];simp[Dp,A6,k1,k2,k31,k32,A9];exact hΦ _ _ _ ⟨rfl,done,rfl,hd,Gr⟩
theorem ZB (by':AV) (f:ByteArray->Int) (l:Hg) (C4:l.length<=1048576) (hby:∀h am,frz h am by'=some by') (hby2:∀h,tame h by'=true) (IH:∀s∈l,∃t',pc Q E6 [I1 s,by']=some (I1 t')/\Hw t'=ED f s) (k:Nat) (fr:Fr) (h:AH) (hfam:h.fams[k]?=some ⟨D1 l,4,true⟩) (hl:fr.length=85) (h1:A2 fr 1=by') (h7:A2 fr 7=.sl k l.length 0 l.length) (h63:A2 fr 63=.int .i64 l.length) (h64:A2 fr 64=.int .i64 0) :
  C3 (lp (A4 (N5 Q) (B9 Y5) n9) (fr,h)) λe fr' h'=>Kp n9.wr fr fr'/\e=.exit 4/\∃done:List Tm,h'=⟨h.boxes,h.fams.set k ⟨D1 done,4,true⟩⟩/\AR done=a7 f l/\done.length=l.length:=by
 refine C1 rfl fr (λn fr h'=>∃(i:Nat),i+n=l.length/\A2 fr 64=.int .i64 (i:Nat)/\(∃done:List Tm,h'=⟨h.boxes,h.fams.set k ⟨(done++l.drop i).map I1,4,true⟩⟩/\AR done=a7 f (l.take i)/\done.length=i)) ?_ l.length h ⟨0,by omega,h64,⟨[],by simp[HU hfam,←j2],by simp[AR,a7],rfl⟩⟩;rintro J Φ hJ hΦ n E4 H1 K ⟨i,hi,k64,hr⟩;have A6:=K.1.trans hl;have k1:=B8 K 1 h1;have k7:=B8 K 7 h7;have k63:=B8 K 63 h63;clear K;by_cases A9:i<l.length
 .have j0:=C9 i (by omega);obtain⟨done,rfl,hd,Gr⟩:=hr;obtain⟨t',hI,ht⟩:=IH l[i] (zf5z A9);obtain⟨q1,q2,q3⟩:=SC I1 done l A9 Gr;have q4:=SD I1 done l A9 Gr t';have e2:AR (done++[t'])=a7 f (l.take (i+1)):=by
   rw[zf3z A9,Ef,zf4z,←Ef,hd,EU,EU,zf4z,zf6z,zf8z,zf6z,zf8z,ht]
  have nw:=Q6 hfam;clear hd ht;generalize (done++l.drop i).map I1=X at *
  generalize hY:(done++[t']++l.drop (i+1)).map I1=Y at *
  generalize l[i]=s at *
  simp[n9,A6,k1,k7,k63,k64,A9,j0,hI,hby,hby2,q2,q3,q4,nw];exact H0 hJ ⟨i+1,by omega,by simp[A6],⟨_,by rw[hY],e2,by simp[Gr]⟩⟩
 .obtain⟨done,rfl,hd,Gr⟩:=hr;have e:i=l.length:=by omega
  subst e;rw[zg2z]at hd;rw[zg1z,zg3z,←j2];simp[n9,A6,k1,k7,k63,k64,A9];exact hΦ _ _ _ ⟨rfl,done,rfl,hd,Gr⟩
theorem bD (fr:Fr) (h:AH) (hl:fr.length=85) (h63:A2 fr 63=.int .i64 0) (h64:A2 fr 64=.int .i64 0) :
  C3 (lp (A4 (N5 Q) (B9 Y5) n9) (fr,h)) λe fr' h'=>Kp n9.wr fr fr'/\e=.exit 4/\h'=h:=by
 refine C1 rfl fr (λn fr' h'=>fr'=fr/\h'=h) ?_ 0 h ⟨rfl,rfl⟩;rintro J Φ hJ hΦ n E4 H1 K ⟨rfl,rfl⟩;simp[n9,hl,h63,h64];exact hΦ _ _ _ ⟨rfl,rfl⟩
theorem cK (a:Int) (b c:R7) (m:U8) (l:Hg) (d:Int):AV.agg [.int .i64 a,.str b,.str c,sl m 4 (D1 l),.int .i64 d]=Be ⟨a,b,c,m,l,d⟩:=rfl
theorem XG {h:AH} {kd kg i m:Nat} {dd:Hg} {X:C6} {g:Gol} (h1:h.fams[kd]?=some ⟨D1 dd,4,true⟩) (h2:h.fams[kg]?=some ⟨X,5,true⟩) (T6:kd≠kg) (hm:X.length=m) (hx:X[i]?=some (Be g)) :
  x9 h 1 (.sl kd dd.length 0 dd.length) (.ep kg m i 3 5)=some ⟨h.boxes,(h.fams.set kd ⟨D1 dd,4,false⟩).set kg ⟨X.set i (Be ⟨g.kind,g.role,g.wth,(false,true),dd,g.line⟩),5,true⟩⟩:=by
 have hk:=Q6 h1;have hl:Rr h (.sl kd dd.length 0 dd.length)=some ⟨h.boxes,h.fams.set kd ⟨D1 dd,4,false⟩⟩:=by
  simp[Rr,Jo,EM,h1,Uw]
 have hf:frz ⟨h.boxes,h.fams.set kd ⟨D1 dd,4,false⟩⟩ false (.sl kd dd.length 0 dd.length)=some (sl (false,true) 4 (D1 dd)):=by
  rw[Jo,EM];simp only;rw[zf2z hk,zf0z,if_pos ⟨by simp,by omega,rfl⟩,zg7z,zg5z (by simp)]
 rw[KW,hl,zf0z];simp only;rw[zf1z T6,h2,zf0z,if_pos ⟨hm,rfl,rfl⟩];simp only;rw[hx,zf0z,hf,zf0z];simp[cK]
theorem VH {h:AH} {kg i m:Nat} {b:Bool} {X:C6} {g:Gol} (h2:h.fams[kg]?=some ⟨X,5,true⟩) (hm:X.length=m) (hx:X[i]?=some (Be g)) :
  x9 h 1 (sl (true,b) 4 []) (.ep kg m i 3 5)=some ⟨h.boxes,h.fams.set kg ⟨X.set i (Be ⟨g.kind,g.role,g.wth,(true,b),[],g.line⟩),5,true⟩⟩:=by
 rw[KW];simp only[Rr,kV,zf0z];rw[h2,zf0z,if_pos ⟨hm,rfl,rfl⟩];simp only;rw[hx,zf0z];have e:=cK g.kind g.role g.wth (true,b) [] g.line;rw[show D1 []=[] from rfl]at e;simp[e]
theorem ZC (by':AV) (f:ByteArray->Int) (l:List Gol) (C4:l.length<=1048576) (Gr:∀g∈l,g.data.length<=1048576) (hby:∀h am,frz h am by'=some by') (hby2:∀h,tame h by'=true) (IH:∀g∈l,∀t∈g.data,∃t',pc Q E6 [I1 t,by']=some (I1 t')/\Hw t'=ED f t) (kg:Nat) (b0 b1 b2 b3 b4:AV) (C:C6) (fr:Fr) (h:AH) (hh:h.boxes=[[b0,b1,b2,b3,b4,.sl kg l.length 0 l.length],C]) (hfam:h.fams[kg]?=some ⟨l.map Be,5,true⟩) (hl:fr.length=85) (h1:A2 fr 1=by') (h2:A2 fr 2=.ptr 0 0) (h51:A2 fr 51=.int .i64 l.length) (h52:A2 fr 52=.int .i64 0) :
  C3 (lp (A4 (N5 Q) (B9 Y5) X5) (fr,h)) λe fr' h'=>Kp X5.wr fr fr'/\e=.exit 2/\∃(F:List Fam) (done:List Gol),h'=⟨h.boxes,F⟩/\F[kg]?=some ⟨done.map Be,5,true⟩/\(∀j,j≠kg->j<h.fams.length->F[j]?=h.fams[j]?)/\done.map Yq=l.map (Md f)/\done.length=l.length:=by
 refine C1 rfl fr (λn fr h'=>∃(i:Nat),i+n=l.length/\A2 fr 52=.int .i64 (i:Nat)/\(∃(F:List Fam) (done:List Gol),h'=⟨h.boxes,F⟩/\F[kg]?=some ⟨(done++l.drop i).map Be,5,true⟩/\(∀j,j≠kg->j<h.fams.length->F[j]?=h.fams[j]?)/\h.fams.length<=F.length/\done.map Yq=(l.take i).map (Md f)/\done.length=i)) ?_ l.length h ⟨0,by omega,h52,⟨_,[],rfl,by simpa using hfam,λ_ _ _=>rfl,zg6z _,rfl,rfl⟩⟩;rintro J Φ hJ hΦ n E4 H1 K ⟨i,hi,k52,hr⟩;have A6:=K.1.trans hl;have k1:=B8 K 1 h1;have k2:=B8 K 2 h2;have k51:=B8 K 51 h51;clear K;by_cases A9:i<l.length
 .have j0:=C9 i (by omega);obtain⟨F,done,rfl,hF,hFo,hFl,hd,hdn⟩:=hr;obtain⟨q1,q2,q3⟩:=SC Be done l A9 hdn;have hq2:=zg0z.2 ⟨q1,q2⟩;have hkg:=Q6 hF;have hkg0:=Q6 hfam;obtain⟨w,⟨bx,F1⟩,hC,hRow,JU,e,hFe⟩:=SZ l[i].dm (D1 l[i].data) (by have:=Gr l[i] (zf5z A9);simpa using this) ⟨h.boxes,F⟩;simp only at JU hFe;subst JU;have hF1:F1[kg]?=some ⟨(done++l.drop i).map Be,5,true⟩:=by rw[hFe,zf7z hkg];exact hF
  have hF1o:∀j,j≠kg->j<h.fams.length->F1[j]?=h.fams[j]?:=λj h1 h2=>by rw[hFe,zf7z (by omega)];exact hFo j h1 h2
  have hF1l:h.fams.length<=F1.length:=by rw[hFe];simp;omega
  have hlen7:∀h',Ps h' w=some (.int .i64 l[i].data.length,h'):=λh'=>by have:=XQ hRow h';simpa using this
  have hIH:=IH l[i] (zf5z A9);have hdl':=Gr l[i] (zf5z A9);have q4:=λg':Gol=>SD Be done l A9 hdn g';have fin:∀g':Gol,Yq g'=Md f l[i]->(done++[g']).map Yq=(l.take (i+1)).map (Md f):=by
   intro g' he;rw[zf3z A9,zf4z,hd,zf4z,zf6z,zf8z,zf6z,zf8z,he]
  rw[hh]at hC hJ ⊢;clear hd hFe hFo;generalize hX:(done++l.drop i).map Be=X at *
  generalize l[i]=g at *
  by_cases hnil:g.data=[]
  .obtain⟨-,b,rfl⟩:D1 g.data=[]/\∃b,w=sl (true,b) 4 []:=by
    rcases hRow with h|⟨h,_⟩
    .exact h
    .rw[hnil]at h;exact absurd rfl h
   have hSt:=VH (h:=⟨[[b0,b1,b2,b3,b4,.sl kg l.length 0 l.length],C],F1⟩) (b:=b) hF1 q3 hq2;simp[X5,A6,k1,k2,k51,k52,A9,j0,hF,q2,q3,hC,hlen7];rw[hnil];refine C3.mono (bD _ _ ?_ ?_ ?_) ?_<;>first|(simp[A6];done)|skip
   rintro e T9 h2 ⟨K,rfl,rfl⟩;have M3:T9.length=85:=K.1.trans (by simp[A6]);have k2fr2:A2 T9 2=.ptr 0 0:=B8 K 2 (by simp[A6,k2]);have k6fr2:A2 T9 6=.int .i64 (i:Nat):=B8 K 6 (by simp[A6]);have k7fr2:A2 T9 7=sl (true,b) 4 []:=B8 K 7 (by simp[A6]);have k52fr2:A2 T9 52=.int .i64 (i:Nat):=B8 K 52 (by simp[A6,k52]);clear K;simp[M3,k2fr2,k6fr2,k7fr2,k52fr2,A9,hSt,j0,-KW];exact H0 hJ ⟨i+1,by omega,by simp[M3],_,done++[⟨g.kind,g.role,g.wth,(true,b),[],g.line⟩],rfl,by rw[zf2z (Q6 hF1),q4],λj h1 h2=>by rw[zf1z (Ne.symm h1)];exact hF1o j h1 h2,by simpa using hF1l,fin _ (by simp[Yq,Md,hnil,AR,a7]),by simp[hdn]⟩
  .obtain⟨rfl,hkd⟩:w=.sl F.length g.data.length 0 g.data.length/\F1[F.length]?=some ⟨D1 g.data,4,true⟩:=by
    rcases hRow with ⟨h,_⟩|⟨_,h,h'⟩
    .rw[j2,zf9z]at h;exact absurd h hnil
    .exact⟨by simpa using h,h'⟩
   have T6:F.length≠kg:=by omega
   simp[X5,A6,k1,k2,k51,k52,A9,j0,hF,q2,q3,hC,hlen7];refine C3.mono (ZB by' f g.data hdl' hby hby2 hIH F.length _ _ ?_ ?_ ?_ ?_ ?_ ?_) ?_<;>first|(simp[A6,k1];done)|skip
   .exact hkd
   rintro e T9 h2 ⟨K,rfl,dd,rfl,hdd,hddl⟩;have M3:T9.length=85:=K.1.trans (by simp[A6]);have k2fr2:A2 T9 2=.ptr 0 0:=B8 K 2 (by simp[A6,k2]);have k6fr2:A2 T9 6=.int .i64 (i:Nat):=B8 K 6 (by simp[A6]);have k7fr2:A2 T9 7=.sl F.length g.data.length 0 g.data.length:=B8 K 7 (by simp[A6]);have k52fr2:A2 T9 52=.int .i64 (i:Nat):=B8 K 52 (by simp[A6,k52]);clear K;have hkdl:=Q6 hkd;have hSt:=XG (h:=⟨[[b0,b1,b2,b3,b4,.sl kg l.length 0 l.length],C],F1.set F.length ⟨D1 dd,4,true⟩⟩) (kd:=F.length) (dd:=dd) (zf2z hkdl) (by simp only;rw[zf1z T6];exact hF1) T6 q3 hq2;rw[hddl]at hSt;simp only[List.set_set]at hSt;simp[M3,k2fr2,k6fr2,k7fr2,k52fr2,A9,hSt,j0,-KW];exact H0 hJ ⟨i+1,by omega,by simp[M3],_,done++[⟨g.kind,g.role,g.wth,(false,true),dd,g.line⟩],rfl,by rw[zf2z (by simpa using Q6 hF1),q4],λj h1 h2=>by rw[zf1z (Ne.symm h1),zf1z (by omega)];exact hF1o j h1 h2,by simpa using hF1l,fin _ (by simp[Yq,Md,hdd]),by simp[hdn]⟩
 .obtain⟨F,done,rfl,hF,hFo,hFl,hd,hdn⟩:=hr;have e:i=l.length:=by omega
  subst e;rw[zg2z]at hd;rw[zg1z,zg3z]at hF;simp[X5,A6,k51,k52];exact hΦ _ _ _ ⟨rfl,F,done,rfl,hF,hFo,hd,hdn⟩
def aM (n:Nar):Nar:=⟨n.name,(false,false),n.roles,(false,false),n.fresh,(false,false),n.tags,(false,false),n.steps.map Re,(false,false),n.goals.map Yq⟩
def NX (f:ByteArray->Int) (n:Nar):Nar:=⟨n.name,(false,false),n.roles,(false,false),n.fresh,(false,false),n.tags,(false,false),n.steps.map (LC f),(false,false),n.goals.map (Md f)⟩
theorem bE (fr:Fr) (h:AH) (hl:fr.length=85) (h51:A2 fr 51=.int .i64 0) (h52:A2 fr 52=.int .i64 0) :
  C3 (lp (A4 (N5 Q) (B9 Y5) X5) (fr,h)) λe fr' h'=>Kp X5.wr fr fr'/\e=.exit 2/\h'=h:=by
 refine C1 rfl fr (λn fr' h'=>fr'=fr/\h'=h) ?_ 0 h ⟨rfl,rfl⟩;rintro J Φ hJ hΦ n E4 H1 K ⟨rfl,rfl⟩;simp[X5,hl,h51,h52];exact hΦ _ _ _ ⟨rfl,rfl⟩
theorem Ni {h:AH} {k sz:Nat} {xs:C6} {b:Bool} (hk:h.fams[k]?=some ⟨xs,sz,b⟩) {n:Nat} (hn:xs.length=n):AS h true (.sl k n 0 n)=some (sl (false,true) sz xs):=by
 rw[EM,hk,zf0z,if_pos ⟨hn,by omega,rfl⟩,zg7z,zg5z (by simp[hn])]
structure Lens (n:Nar):Prop where
 names:n.roles.length+n.fresh.length+n.tags.length<=1048576
 steps:n.steps.length<=1048576
 goals:n.goals.length<=1048576
 data:∀g∈n.goals,g.data.length<=1048576
theorem kE (n:Nar) (hS:Lens n) (T6:n.steps≠[]) (r:AV) (ns:List ByteArray) (vs:List Int) (f:ByteArray->Int)
  (IH1:∀s∈n.steps,∃t',pc Q E6 [I1 s.msg,VW r ns vs]=some (I1 t')/\Hw t'=ED f s.msg) (IH2:∀g∈n.goals,∀t∈g.data,∃t',pc Q E6 [I1 t,VW r ns vs]=some (I1 t')/\Hw t'=ED f t) :
  ∃n',pc Q Y5 [D2 n,VW r ns vs]=some (D2 n')/\aM n'=NX f n:=by
 suffices h:∃v,pc Q Y5 [D2 n,VW r ns vs]=some v/\∃n',v=D2 n'/\aM n'=NX f n by
  obtain⟨v,h1,n',rfl,h2⟩:=h;exact⟨n',h1,h2⟩
 obtain⟨s0,s1,s2,s3⟩:=hS;obtain⟨name,rm,roles,fm,fresh,tm,tags,sm,steps,gm,goals⟩:=n;simp only at *
 obtain⟨m1,c1⟩:=Jv rm (roles.map .str) (by simp;omega);obtain⟨m2,c2⟩:=Pv fm (fresh.map Gq) (by simp;omega);obtain⟨m3,c3⟩:=Jv tm (tags.map .str) (by simp;omega);obtain⟨w1,⟨B1,F1⟩,c4,r4,hb4,e4,f4⟩:=SY sm (steps.map Q2) (by simpa using s1) ⟨[[.str name,sl m1 1 (roles.map .str),sl m2 3 (fresh.map Gq),sl m3 1 (tags.map .str),sl sm 7 (steps.map Q2),sl gm 5 (goals.map Be)],[.str (bs []),.vs true 0 [],.vs true 0 [],.vs true 0 [],.vs true 0 [],.vs true 0 []]],[]⟩;simp only at hb4 f4;subst hb4;obtain⟨w2,⟨B2,F2⟩,c5,r5,hb5,e5,f5⟩:=SX gm (goals.map Be) (by simpa using s2) ⟨[[.str name,sl m1 1 (roles.map .str),sl m2 3 (fresh.map Gq),sl m3 1 (tags.map .str),sl sm 7 (steps.map Q2),sl gm 5 (goals.map Be)],[.str (bs []),.vs true 0 [],.vs true 0 [],.vs true 0 [],.vs true 0 [],.vs true 0 []]],F1⟩;simp only at hb5 f5;subst hb5;obtain⟨rfl,hF1⟩:w1=.sl 0 steps.length 0 steps.length/\F1[0]?=some ⟨steps.map Q2,7,true⟩:=by
  rcases r4 with ⟨h,_⟩|⟨_,h,h'⟩
  .rw[zf9z]at h;exact absurd h T6
  .exact⟨by simpa using h,by simpa using h'⟩
 have hF2:F2[0]?=some ⟨steps.map Q2,7,true⟩:=by rw[f5,zf7z (Q6 hF1)];exact hF1
 have hw2:=YS r5;have hn2:∀h',Ps h' w2=some (.int .i64 goals.length,h'):=λh'=>by have:=XQ r5 h';simpa using this
 have g1:=ZD (VW r ns vs) f steps s1 (λ_ _=>rfl) (λ_=>rfl) IH1 0 (.str name) (sl m1 1 (roles.map .str)) (sl m2 3 (fresh.map Gq)) (sl m3 1 (tags.map .str)) w2 [.str (bs []),.vs true 0 [],.vs true 0 [],.vs true 0 [],.vs true 0 [],.vs true 0 []];refine Ud KF λΨ hΨ fr hl h0 h1=>?_;simp[KF,D2]at hl h0 h1;simp[KF,hl,h0,h1,c1,c2,c3,c4,c5,hw2];refine C3.mono (g1 _ _ ?_ ?_ ?_ ?_ ?_ ?_ ?_) ?_<;>first|(simp[hl,h1];done)|skip
 .exact hF2
 rintro e E4 X7 ⟨K,rfl,S,rfl,hS1,hS2⟩;have M9:E4.length=85:=K.1.trans (by simp[hl]);have EO:A2 E4 1=VW r ns vs:=B8 K 1 (by simp[hl,h1]);have IX:A2 E4 2=.ptr 0 0:=B8 K 2 (by simp[hl]);have IY:A2 E4 4=.ptr 1 0:=B8 K 4 (by simp[hl]);clear K;simp[M9,EO,IX,IY,hn2];have hFz:(F2.set 0 ⟨S.map Q2,7,true⟩)[0]?=some ⟨S.map Q2,7,true⟩:=zf2z (Q6 hF2);by_cases hg:goals=[]
 .subst hg;obtain⟨-,b,rfl⟩:([]:List Gol).map Be=[]/\∃b,w2=sl (true,b) 5 []:=by
   rcases r5 with h|⟨h,_⟩
   .exact h
   .exact absurd rfl h
  refine C3.mono (bE _ _ ?_ ?_ ?_) ?_<;>first|(simp[M9];done)|skip
  rintro e T9 h2 ⟨K,rfl,rfl⟩;have M3:T9.length=85:=K.1.trans (by simp[M9]);have k2fr2:A2 T9 2=.ptr 0 0:=B8 K 2 (by simp[M9,IX]);have k4fr2:A2 T9 4=.ptr 1 0:=B8 K 4 (by simp[M9,IY]);clear K;have hz:=λB:List (List AV)=>Ni (h:=⟨B,F2.set 0 ⟨S.map Q2,7,true⟩⟩) hFz (n:=steps.length) (by simpa using hS2);simp[M3,k2fr2,k4fr2,hz];exact hΨ _ ⟨⟨name,m1,roles,m2,fresh,m3,tags,(false,true),S,(true,b),[]⟩,rfl,by simp[aM,NX,hS1]⟩
 .obtain⟨rfl,hF2g⟩:w2=.sl F1.length goals.length 0 goals.length/\F2[F1.length]?=some ⟨goals.map Be,5,true⟩:=by
   rcases r5 with ⟨h,_⟩|⟨_,h,h'⟩
   .rw[zf9z]at h;exact absurd h hg
   .exact⟨by simpa using h,h'⟩
  have h0F:0<F1.length:=Q6 hF1;have hFg:(F2.set 0 ⟨S.map Q2,7,true⟩)[F1.length]?=some ⟨goals.map Be,5,true⟩:=by rw[zf1z (by omega)];exact hF2g
  refine C3.mono (ZC (VW r ns vs) f goals s2 s3 (λ_ _=>rfl) (λ_=>rfl) IH2 F1.length (.str name) (sl m1 1 (roles.map .str)) (sl m2 3 (fresh.map Gq)) (sl m3 1 (tags.map .str)) (.sl 0 steps.length 0 steps.length) [.str (bs []),.vs true 0 [],.vs true 0 [],.vs true 0 [],.vs true 0 [],.vs true 0 []] _ _ ?_ ?_ ?_ ?_ ?_ ?_ ?_) ?_<;>first|(simp[M9,EO,IX];done)|skip
  .exact hFg
  rintro e T9 h2 ⟨K,rfl,F,G,rfl,hG1,hG2,hG3,hG4⟩;have M3:T9.length=85:=K.1.trans (by simp[M9]);have k2fr2:A2 T9 2=.ptr 0 0:=B8 K 2 (by simp[M9,IX]);have k4fr2:A2 T9 4=.ptr 1 0:=B8 K 4 (by simp[M9,IY]);clear K;have hFs:=hG2 0 (by omega) (by simpa using Q6 hF2);rw[hFz]at hFs;have hz:=λB:List (List AV)=>Ni (h:=⟨B,F⟩) hFs (n:=steps.length) (by simpa using hS2);have hz2:=λB:List (List AV)=>Ni (h:=⟨B,F⟩) hG1 (n:=goals.length) (by simpa using hG4);simp[M3,k2fr2,k4fr2,hz,hz2];exact hΨ _ ⟨⟨name,m1,roles,m2,fresh,m3,tags,(false,true),S,(false,true),G⟩,rfl,by simp[aM,NX,hS1,hG3]⟩
theorem VQ {t:Tm} (h:BS t=0):N9 t=0:=by
 unfold BS at h;apply Classical.byContradiction;intro hv;rw[if_pos hv]at h;exact hv h
theorem Gt {t:Tm} (h:DT t=0):N9 t=0:=by
 refine VQ ?_;unfold DT GM at h;apply Classical.byContradiction;intro hv;rw[if_pos hv,if_pos hv]at h;exact hv h
theorem Gu {n:Nar} (h:JB n=0):Eg n=0/\(∀s∈n.steps,FA s=0)/\∀g∈n.goals,Gf g=0:=by
 unfold JB at h;by_cases h1:Eg n=0
 .rw[if_neg (by simp[h1])]at h;by_cases h2:C0 FA n.steps=0
  .rw[if_neg (by simp[h2])]at h;exact⟨h1,EL h2,EL h⟩
  .rw[if_pos h2]at h;exact absurd h h2
 .rw[if_pos h1]at h;exact absurd h h1
theorem Kx {n:Nar} (h:Eg n=0):n.steps≠[]/\JV n=0:=by
 have hn:JV n=0:=by
  unfold Eg at h;by_cases h1:L6 n.name=false
  .rw[if_pos h1]at h;omega
  .rw[if_neg h1]at h;apply Classical.byContradiction;intro h2;rw[if_pos h2]at h;exact h2 h
 refine⟨λe=>?_,hn⟩;unfold JV at hn;rw[e]at hn;split at hn
 .omega
 .split at hn
  .omega
  .simp at hn
theorem Sl {s:Ste} (h:FA s=0):DT s.msg=0:=by
 unfold FA at h;split at h
 .omega
 .exact h
theorem OX {g:Gol} (h:Gf g=0):∀t∈g.data,DT t=0:=by
 unfold Gf at h;split at h
 .omega
 .split at h
  .omega
  .split at h
   .omega
   .split at h
    .omega
    .exact EL h
theorem Iw {α:Type} {g ln:α->Int}:∀{l:List α},(M4 g ln l).2=0->M4 g ln l=(0,0)/\∀a∈l,g a=0
 | [],_=>⟨rfl,λa h=>by cases h⟩
 |a::l,h=>by
  simp only[M4]at h ⊢;by_cases hz:g a=0
  .rw[if_neg (by simp[hz])]at h ⊢;obtain⟨h1,h2⟩:=Iw h;exact⟨h1,λb hb=>by rcases List.mem_cons.1 hb with rfl|hb;exact hz;exact h2 b hb⟩
  .rw[if_pos hz]at h;exact absurd h hz
structure Right (n:Nar):Prop where
 nar:JB n=0
 dec:GZ n=0
 steps:∀s∈n.steps,DI (B4 n) n.roles s=0
 goals:∀g∈n.goals,EB (B4 n) n.roles g=0
theorem Ih {n:Nar} (h:(Bv n).2=0):Bv n=(0,0)/\Right n:=by
 unfold Bv at h ⊢;by_cases h1:JB n=0
 .rw[if_neg (by simp[h1])]at h ⊢;by_cases h2:GZ n=0
  .rw[if_neg (by simp[h2])]at h ⊢;by_cases h3:M4 (DI (B4 n) n.roles) Ste.line n.steps=(0,0)
   .rw[if_neg (by simp[h3])]at h ⊢;obtain⟨q1,q2⟩:=Iw h;exact⟨q1,h1,h2,(Iw (by rw[h3])).2,q2⟩
   .rw[if_pos h3]at h;exact absurd (Iw h).1 h3
  .rw[if_pos h2]at h;exact absurd h h2
 .rw[if_pos h1]at h;exact absurd h h1
@[simp] theorem np (h:AH) (am:Bool) (f:FuncId) (cs:C6):frz h am (.fn f [.pv cs])=some (.fn f [.pv cs]):=rfl
@[simp] theorem sD (h:AH) (f:FuncId) (cs:C6):tame h (.fn f cs)=true:=rfl
def rW:Nar:=⟨bs [],(true,false),[],(true,false),[],(true,false),[],(true,false),[],(true,false),[]⟩
theorem cu:AV.agg [.str (bs []),sl (true,false) 1 [],sl (true,false) 1 [],sl (true,false) 1 [],sl (true,false) 1 [],sl (true,false) 1 []]=D2 rW:=by
 unfold D2 rW;simp[sl]
theorem Wk (n:Nar) (F:Fine n) (S:Lens n):∃r,pc Q i6 [D2 n]=some (.tup [D2 r,.int .i64 (Bv n).1,.int .i64 (Bv n).2])/\((Bv n).2=0->aM r=NX (W6 (B4 n) (J7 n)) n):=by
 suffices h:∃v,pc Q i6 [D2 n]=some v/\∃r,v=.tup [D2 r,.int .i64 (Bv n).1,.int .i64 (Bv n).2]/\((Bv n).2=0->aM r=NX (W6 (B4 n) (J7 n)) n) by
  obtain⟨v,h1,r,rfl,h2⟩:=h;exact⟨r,h1,h2⟩
 have hC:=NE n F S.names;have nb:=D4 n;by_cases hz:(Bv n).2=0
 .obtain⟨hz0,hR⟩:=Ih hz;obtain⟨k1,k2,k3⟩:=Gu hR.nar;have hN:=Ki n S.names hR.dec;have hA:∃n',pc Q Y5 [D2 n,VW (sl n.rm 1 (n.roles.map .str)) (B4 n) (J7 n)]=some (D2 n')/\aM n'=NX (W6 (B4 n) (J7 n)) n:=by
   refine kE n S (Kx k1).1 _ _ _ _ (λs hs=>?_) λg hg t ht=>?_
   .exact Ou _ rfl _ _ (HS n) _ _ (zg6z _) (F.steps s hs).2.2 (Gt (Sl (k2 s hs)))
   .exact Ou _ rfl _ _ (HS n) _ _ (zg6z _) (by have:=(F.goals g hg).2.2;have:=Tm.size_le ht;omega) (Gt (OX (k3 g hg) t ht))
  obtain⟨n',hA,hA2⟩:=hA;rw[hz0]at hC ⊢;unfold XI at hN;unfold VW at hA;generalize hU:(B4 n).map AV.str=U at *
  generalize hV:(J7 n).map (AV.int .i64)=V at *
  refine Ka AK λΨ hΨ fr hl h0=>?_;simp[AK]at hl h0;simp[AK,hl,h0,D4,hC,hN,hA,Ct,show (AV.vm U V).flat=true from rfl];exact hΨ _ ⟨n',rfl,λ_=>hA2⟩
 .refine Ka AK λΨ hΨ fr hl h0=>?_;simp[AK]at hl h0;simp[AK,hl,h0,nb,hC,hz,Q3,F8];exact hΨ _ ⟨rW,by rw[←cu,EC (true,false) rfl 1 1],λh=>absurd h hz⟩
end Go.Abs.Q
namespace Go.Abs.Q
open Go.Proofs
attribute [local simp] C8 D5 fin H6 G0 Cb BG Af Ae D4
theorem Rn (x:R7) (l:List ByteArray):(0<=idx (V4 x) l)↔l.any (V4 x)=true:=FS _ l 0
theorem KM (x:R7) (l:List ByteArray):(idx (V4 x) l<0)↔l.any (V4 x)=false:=by
 have:=Rn x l;cases h:l.any (V4 x)with
 |true=>rw[h]at this;simp at this;simp;omega
 |false=>rw[h]at this;simp at this;simp;omega
theorem PA (t:Tm) (nm:R7):pc Q HP [I1 t,.str nm]=some (.bool (decide (t.kind=3)&&decide (t.name=nm))):=by
 refine Fe LE λfr hl h0 h1=>?_;simp[LE]at hl h0 h1;simp +contextual (maxSteps:=10000000) [LE,hl,h0,h1]
theorem DH (m:U8) (l:List ByteArray) (x:R7) (h:l.length<=1048576):pc Q K0 [sl m 1 (l.map AV.str),.str x]=some (.int .i64 (idx (V4 x) l)):=dK m l x (by omega)
theorem PD (n:Nar) (hr:n.roles.length<=1048576) (t:Tm):pc Q DC [D2 n,I1 t]=some (.bool (Bm n.roles t)):=by
 have hC:=DH n.rm n.roles t.name hr;have hI:=Rn t.name n.roles;refine Fe FF λfr hl h0 h1=>?_;simp[FF]at hl h0 h1;unfold Bm;generalize n.roles.any (V4 t.name)=b at *
 by_cases hk:t.kind=2
 .cases b with
  |true =>
   simp[FF,hl,h0,h1,hC,A7 (hI.2 rfl),A7 hk]
  |false =>
   simp[FF,hl,h0,h1,hC,A0 (show ¬0<=idx (V4 t.name) n.roles from λh=>nomatch (hI.1 h)),A7 hk]
 .simp[FF,hl,h0,h1,hC,A0 hk]
theorem ND (n:Nar) (hr:n.roles.length<=1048576) (t:Tm):pc Q CA [D2 n,I1 t]=some (.bool (Bj n.roles t)):=by
 have hI:=PA t (bs [115,107]);refine Fe AI λfr hl h0 h1=>?_;simp[AI]at hl h0 h1;by_cases hk:t.kind=3
 .by_cases hn:t.name=bs [115,107]
  .by_cases A6:(t.kids.length:Int)=1
   .obtain⟨a,hka⟩:=zg4z.1 (show t.kids.length=1 by omega);have hx:JY (D1 t.kids) 0=some (I1 a):=by rw[hka];rfl
    have hf:NO (Bm n.roles) t.kids=Bm n.roles a:=by rw[hka];rfl
    have hR:=PD n hr a;simp[AI,hl,h0,h1,Bj,W8,hI,A7 hk,A7 hn,A7 A6,hR,hx,hf]
   .simp[AI,hl,h0,h1,Bj,W8,hI,A7 hk,A7 hn,A0 A6]
  .simp[AI,hl,h0,h1,Bj,W8,hI,A7 hk,A0 hn]
 .simp[AI,hl,h0,h1,Bj,W8,hI,A0 hk]
theorem PC (n:Nar) (hr:n.roles.length<=1048576) (t:Tm):pc Q Cq [D2 n,I1 t]=some (.bool (EW n.roles t)):=by
 have hI:=PA t (bs [112,107]);refine Fe BW λfr hl h0 h1=>?_;simp[BW]at hl h0 h1;by_cases hk:t.kind=3
 .by_cases hn:t.name=bs [112,107]
  .by_cases A6:(t.kids.length:Int)=1
   .obtain⟨a,hka⟩:=zg4z.1 (show t.kids.length=1 by omega);have hx:JY (D1 t.kids) 0=some (I1 a):=by rw[hka];rfl
    have hf:NO (Bj n.roles) t.kids=Bj n.roles a:=by rw[hka];rfl
    have hR:=ND n hr a;simp[BW,hl,h0,h1,EW,W8,hI,A7 hk,A7 hn,A7 A6,hR,hx,hf]
   .simp[BW,hl,h0,h1,EW,W8,hI,A7 hk,A7 hn,A0 A6]
  .simp[BW,hl,h0,h1,EW,W8,hI,A7 hk,A0 hn]
 .simp[BW,hl,h0,h1,EW,W8,hI,A0 hk]
end Go.Abs.Q
