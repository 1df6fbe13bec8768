/- A part of the proof. -/
import Derived.Test.YtjhgilockkmniaaGreatDoorSH25
set_option linter.all false
open Option renaming bind_some->zf0z
open List renaming getElem?_set_ne->zf1z,getElem?_set_self->zf2z,take_succ_eq_append_getElem->zf3z,map_append->zf4z,getElem_mem->zf5z,map_cons->zf6z,getElem?_append_left->zf7z,map_nil->zf8z,map_eq_nil_iff->zf9z,getElem?_eq_some_iff->zg0z,drop_length->zg1z,take_length->zg2z,append_nil->zg3z,length_eq_one_iff->zg4z,take_of_length_le->zg5z,drop_zero->zg7z
open Nat renaming le_refl->zg6z
namespace Go.Abs.Q
open Go.Proofs
attribute [local simp] D3 D6 fin H4 G2 jR
def gZ (k sz:Nat) (xs:List AV) (v:AV) (h:AH):Prop:=(xs=[]/\∃b,v=sl (true,b) sz [])\/(xs≠[]/\v=.sl k xs.length 0 xs.length/\h.fams[k]?=some ⟨xs,sz,true⟩)
@[simp] theorem Ml (h:AH) (k n off len:Nat):BW h (.sl k n off len)=uE h true (.sl k n off len):=rfl
@[simp] theorem gu (h:AH):BW h (.vs true 0 [])=some (.vs true 0 []):=rfl
theorem Xq {k sz:Nat} {xs:C6} {v:AV} {h:AH} (hg:gZ k sz xs v h):v.isTup=false/\v.cells=[v]/\AZ [v]=false:=by
 rcases hg with ⟨_,b,rfl⟩|⟨_,rfl,_⟩<;>exact⟨rfl,rfl,rfl⟩
theorem Wl {k sz:Nat} {xs:C6} {v:AV} {h:AH} (hg:gZ k sz xs v h) (h':AH):Pe h' v=some (.int .i64 xs.length,h'):=by
 rcases hg with ⟨rfl,b,rfl⟩|⟨_,rfl,_⟩
 .simp
 .rfl
theorem Jm (m:W8) (xs:C6) (NE:xs.length<=1048576):∃m',pc Q I0 [sl m 1 xs]=some (sl m' 1 xs):=by
 suffices h:∃r,pc Q I0 [sl m 1 xs]=some r/\∃m',r=sl m' 1 xs by
  obtain⟨r,h1,m',rfl⟩:=h;exact⟨m',h1⟩
 have hr:xs.length*16<=G3/\xs.length<=maxLen:=by simp only[G3,maxLen];omega
 refine JA U0 λΨ hΨ fr hl h0=>?_;simp[U0]at hl h0;by_cases he:xs=[]
 .subst he;obtain⟨m1,m2⟩:=m;cases m2 with
  |false =>
   simp[U0,hl,h0];exact hΨ _ ⟨(true,false),Jv 1⟩
  |true =>
   simp[U0,hl,h0,Hn,B4];exact hΨ _ ⟨_,rfl⟩
 .have he':xs.isEmpty=false:=by simpa using he
  simp[U0,hl,h0,he',Hn,B4,he,hr,Ml];exact hΨ _ ⟨_,rfl⟩
theorem Ph (m:W8) (xs:C6) (NE:xs.length<=1048576):∃m',pc Q Y0 [sl m 3 xs]=some (sl m' 3 xs):=by
 suffices h:∃r,pc Q Y0 [sl m 3 xs]=some r/\∃m',r=sl m' 3 xs by
  obtain⟨r,h1,m',rfl⟩:=h;exact⟨m',h1⟩
 have hr:xs.length*40<=G3/\xs.length<=maxLen:=by simp only[G3,maxLen];omega
 refine JA Y8 λΨ hΨ fr hl h0=>?_;simp[Y8]at hl h0;by_cases he:xs=[]
 .subst he;obtain⟨m1,m2⟩:=m;cases m2 with
  |false =>
   simp[Y8,hl,h0];exact hΨ _ ⟨(true,false),Jv 3⟩
  |true =>
   simp[Y8,hl,h0,Hn,B4];exact hΨ _ ⟨_,rfl⟩
 .have he':xs.isEmpty=false:=by simpa using he
  simp[Y8,hl,h0,he',Hn,B4,he,hr,Ml];exact hΨ _ ⟨_,rfl⟩
theorem SF (m:W8) (xs:C6) (NE:xs.length<=1048576) (h:AH):∃w h',rc Q G6 [sl m 4 xs] h=some (w,h')/\gZ h.fams.length 4 xs w h'/\h'.boxes=h.boxes/\∃e,h'.fams=h.fams++e:=by
 have hr:xs.length*56<=G3/\xs.length<=maxLen:=by simp only[G3,maxLen];omega
 suffices hq:∃w h',rc Q G6 [sl m 4 xs] h=some (w,h')/\∀Ψ:AV->AH->Prop,(∀w h',gZ h.fams.length 4 xs w h'/\h'.boxes=h.boxes/\(∃e,h'.fams=h.fams++e)->Ψ w h')->Ψ w h' by
  obtain⟨w,h',h1,h2⟩:=hq;exact⟨w,h',h1,h2 _ λ_ _ h=>h⟩
 refine jk i3 λfr hl h0=>?_;simp[i3]at hl h0;by_cases he:xs=[]
 .subst he;obtain⟨m1,m2⟩:=m;cases m2 with
  |false =>
   simp[i3,hl,h0];exact λΨ hΨ=>hΨ _ _ (.inl ⟨rfl,false,Jv 4⟩) rfl [] (by simp)
  |true =>
   simp[i3,hl,h0,Hn,B4];exact λΨ hΨ=>hΨ _ _ (.inl ⟨rfl,true,rfl⟩) rfl [] (by simp)
 .have he':xs.isEmpty=false:=by simpa using he
  simp[i3,hl,h0,he',Hn,B4,he,hr,show bu G6=true from rfl];exact λΨ hΨ=>hΨ _ _ (.inr ⟨he,rfl,by simp⟩) rfl _ rfl
theorem SE (m:W8) (xs:C6) (NE:xs.length<=1048576) (h:AH):∃w h',rc Q G5 [sl m 7 xs] h=some (w,h')/\gZ h.fams.length 7 xs w h'/\h'.boxes=h.boxes/\∃e,h'.fams=h.fams++e:=by
 have hr:xs.length*96<=G3/\xs.length<=maxLen:=by simp only[G3,maxLen];omega
 suffices hq:∃w h',rc Q G5 [sl m 7 xs] h=some (w,h')/\∀Ψ:AV->AH->Prop,(∀w h',gZ h.fams.length 7 xs w h'/\h'.boxes=h.boxes/\(∃e,h'.fams=h.fams++e)->Ψ w h')->Ψ w h' by
  obtain⟨w,h',h1,h2⟩:=hq;exact⟨w,h',h1,h2 _ λ_ _ h=>h⟩
 refine jk uK λfr hl h0=>?_;simp[uK]at hl h0;by_cases he:xs=[]
 .subst he;obtain⟨m1,m2⟩:=m;cases m2 with
  |false =>
   simp[uK,hl,h0];exact λΨ hΨ=>hΨ _ _ (.inl ⟨rfl,false,Jv 7⟩) rfl [] (by simp)
  |true =>
   simp[uK,hl,h0,Hn,B4];exact λΨ hΨ=>hΨ _ _ (.inl ⟨rfl,true,rfl⟩) rfl [] (by simp)
 .have he':xs.isEmpty=false:=by simpa using he
  simp[uK,hl,h0,he',Hn,B4,he,hr,show bu G5=true from rfl];exact λΨ hΨ=>hΨ _ _ (.inr ⟨he,rfl,by simp⟩) rfl _ rfl
theorem SD (m:W8) (xs:C6) (NE:xs.length<=1048576) (h:AH):∃w h',rc Q G4 [sl m 5 xs] h=some (w,h')/\gZ h.fams.length 5 xs w h'/\h'.boxes=h.boxes/\∃e,h'.fams=h.fams++e:=by
 have hr:xs.length*72<=G3/\xs.length<=maxLen:=by simp only[G3,maxLen];omega
 suffices hq:∃w h',rc Q G4 [sl m 5 xs] h=some (w,h')/\∀Ψ:AV->AH->Prop,(∀w h',gZ h.fams.length 5 xs w h'/\h'.boxes=h.boxes/\(∃e,h'.fams=h.fams++e)->Ψ w h')->Ψ w h' by
  obtain⟨w,h',h1,h2⟩:=hq;exact⟨w,h',h1,h2 _ λ_ _ h=>h⟩
 refine jk uJ λfr hl h0=>?_;simp[uJ]at hl h0;by_cases he:xs=[]
 .subst he;obtain⟨m1,m2⟩:=m;cases m2 with
  |false =>
   simp[uJ,hl,h0];exact λΨ hΨ=>hΨ _ _ (.inl ⟨rfl,false,Jv 5⟩) rfl [] (by simp)
  |true =>
   simp[uJ,hl,h0,Hn,B4];exact λΨ hΨ=>hΨ _ _ (.inl ⟨rfl,true,rfl⟩) rfl [] (by simp)
 .have he':xs.isEmpty=false:=by simpa using he
  simp[uJ,hl,h0,he',Hn,B4,he,hr,show bu G4=true from rfl];exact λΨ hΨ=>hΨ _ _ (.inr ⟨he,rfl,by simp⟩) rfl _ rfl
end Go.Abs.Q
namespace Go.Abs.Q
open Go.Proofs
attribute [local simp] D3 D6 fin H4 G2
@[simp] theorem sA (B:List (List AV)) (f f':List Fam) (v:AV):YU true ⟨B,f⟩ (some (v,⟨B,f'⟩))=some (v,⟨B,f'⟩):=nT ⟨B,f⟩ v f'
@[simp] theorem kz (s:Ste) (cs:C6):(P3 s).reform cs=some (.agg cs):=rfl
@[simp] theorem kU (s:Gol) (cs:C6):(Bz s).reform cs=some (.agg cs):=rfl
@[simp] theorem lE (s:Tm) (cs:C6):(H2 s).reform cs=some (.agg cs):=by cases s;rfl
theorem iG (a b:Q1) (t:Tm) (c:Int):AV.agg [.str a,.str b,.int .i64 t.kind,.str t.name,.int .i64 t.sort,sl t.cm 4 (D0 t.kids),.int .i64 c]=P3 ⟨a,b,t,c⟩:=by cases t;rfl
def OB (s:Ste):Ste:=⟨s.frm,s.to,Km s.msg,s.line⟩
def MW (f:ByteArray->Int) (s:Ste):Ste:=⟨s.frm,s.to,HM f s.msg,s.line⟩
def YO (g:Gol):Gol:=⟨g.kind,g.role,g.wth,(false,false),Cr g.data,g.line⟩
def MV (f:ByteArray->Int) (g:Gol):Gol:=⟨g.kind,g.role,g.wth,(false,false),BS f g.data,g.line⟩
theorem Rj {α β:Type} (g:α->β) (done l:List α) {i:Nat} (hi:i<l.length) (hd:done.length=i):∃h:i<((done++l.drop i).map g).length,((done++l.drop i).map g)[i]=g l[i]/\((done++l.drop i).map g).length=l.length:=by
 have e:(done++l.drop i).length=l.length:=by simp[hd];omega
 refine⟨by simp[hd];omega,?_,by simpa using e⟩;simp[hd,List.getElem_append_right]
theorem Rk {α β:Type} (g:α->β) (done l:List α) {i:Nat} (hi:i<l.length) (hd:done.length=i) (x:α):((done++l.drop i).map g).set i (g x)=((done++[x])++l.drop (i+1)).map g:=by
 rw[List.drop_eq_getElem_cons hi,←List.map_set,List.set_append_right _ _ (by omega),hd,Nat.sub_self,List.set_cons_zero,List.append_assoc,List.singleton_append]
theorem GB {α:Type} {l:List α} {k:Nat} {x:α} (h:l[k]?=some x):l.set k x=l:=by
 obtain⟨h1,h2⟩:=zg0z.1 h;subst h2;exact List.set_getElem_self h1
theorem Yb (by':AV) (f:ByteArray->Int) (l:List Ste) (C4:l.length<=1048576) (hby:∀h am,frz h am by'=some by') (hby2:∀h,tame h by'=true) (IH:∀s∈l,∃t',pc Q E5 [H2 s.msg,by']=some (H2 t')/\Km t'=HM f s.msg) (k:Nat) (b0 b1 b2 b3 b5:AV) (C:C6) (fr:Fr) (h:AH) (hh:h.boxes=[[b0,b1,b2,b3,.sl k l.length 0 l.length,b5],C]) (hfam:h.fams[k]?=some ⟨l.map P3,7,true⟩) (hl:fr.length=85) (h1:A2 fr 1=by') (h2:A2 fr 2=.ptr 0 0) (h31:A2 fr 31=.int .i64 l.length) (h32:A2 fr 32=.int .i64 0) :
  C3 (lp (A4 (M3 Q) (B8 X8) De) (fr,h)) λe fr' h'=>Kp De.wr fr fr'/\e=.exit 0/\∃done:List Ste,h'=⟨h.boxes,h.fams.set k ⟨done.map P3,7,true⟩⟩/\done.map OB=l.map (MW f)/\done.length=l.length:=by
 refine C1 rfl fr (λn fr h'=>∃(i:Nat),i+n=l.length/\A2 fr 32=.int .i64 (i:Nat)/\(∃done:List Ste,h'=⟨h.boxes,h.fams.set k ⟨(done++l.drop i).map P3,7,true⟩⟩/\done.map OB=(l.take i).map (MW f)/\done.length=i)) ?_ l.length h ⟨0,by omega,h32,⟨[],by simp[GB hfam],rfl,rfl⟩⟩;rintro J Φ hJ hΦ n E3 H1 K ⟨i,hi,k32,hr⟩;have A6:=K.1.trans hl;have k1:=C0 K 1 h1;have k2:=C0 K 2 h2;have k31:=C0 K 31 h31;clear K;by_cases A9:i<l.length
 .have Z0:=C8 i (by omega);obtain⟨done,rfl,hd,Gi⟩:=hr;obtain⟨t',hI,ht⟩:=IH l[i] (zf5z A9);obtain⟨q1,q2,q3⟩:=Rj P3 done l A9 Gi;have q4:=Rk P3 done l A9 Gi ⟨l[i].frm,l[i].to,t',l[i].line⟩;have e2:(done++[Ste.mk l[i].frm l[i].to t' l[i].line]).map OB=(l.take (i+1)).map (MW f):=by
   rw[zf3z A9,zf4z,hd,zf4z,zf6z,zf8z,zf6z,zf8z];simp only[OB,ht,MW]
  have jH:=P5 hfam;have e6:=iG l[i].frm l[i].to t' l[i].line;rw[hh]at hJ ⊢;clear hd ht;generalize (done++l.drop i).map P3=X at *
  generalize hY:(done++[Ste.mk l[i].frm l[i].to t' l[i].line]++l.drop (i+1)).map P3=Y at *
  generalize l[i]=s at *
  simp[De,A6,k1,k2,k31,k32,A9,Z0,hI,hby,hby2,q2,q3,q4,e6,jH];exact F7 hJ ⟨i+1,by omega,by simp[A6],⟨_,by rw[hY],e2,by simp[Gi]⟩⟩
 .obtain⟨done,rfl,hd,Gi⟩:=hr;have e:i=l.length:=by omega
  subst e;rw[zg2z]at hd;rw[zg1z,zg3z];simp[De,A6,k1,k2,k31,k32,A9];exact hΦ _ _ _ ⟨rfl,done,rfl,hd,Gi⟩
theorem YZ (by':AV) (f:ByteArray->Int) (l:Hm) (C4:l.length<=1048576) (hby:∀h am,frz h am by'=some by') (hby2:∀h,tame h by'=true) (IH:∀s∈l,∃t',pc Q E5 [H2 s,by']=some (H2 t')/\Km t'=HM f s) (k:Nat) (fr:Fr) (h:AH) (hfam:h.fams[k]?=some ⟨D0 l,4,true⟩) (hl:fr.length=85) (h1:A2 fr 1=by') (h7:A2 fr 7=.sl k l.length 0 l.length) (h63:A2 fr 63=.int .i64 l.length) (h64:A2 fr 64=.int .i64 0) :
  C3 (lp (A4 (M3 Q) (B8 X8) l6) (fr,h)) λe fr' h'=>Kp l6.wr fr fr'/\e=.exit 4/\∃done:List Tm,h'=⟨h.boxes,h.fams.set k ⟨D0 done,4,true⟩⟩/\Cr done=BS f l/\done.length=l.length:=by
 refine C1 rfl fr (λn fr h'=>∃(i:Nat),i+n=l.length/\A2 fr 64=.int .i64 (i:Nat)/\(∃done:List Tm,h'=⟨h.boxes,h.fams.set k ⟨(done++l.drop i).map H2,4,true⟩⟩/\Cr done=BS f (l.take i)/\done.length=i)) ?_ l.length h ⟨0,by omega,h64,⟨[],by simp[GB hfam,←uH],by simp[Cr,BS],rfl⟩⟩;rintro J Φ hJ hΦ n E3 H1 K ⟨i,hi,k64,hr⟩;have A6:=K.1.trans hl;have k1:=C0 K 1 h1;have k7:=C0 K 7 h7;have k63:=C0 K 63 h63;clear K;by_cases A9:i<l.length
 .have Z0:=C8 i (by omega);obtain⟨done,rfl,hd,Gi⟩:=hr;obtain⟨t',hI,ht⟩:=IH l[i] (zf5z A9);obtain⟨q1,q2,q3⟩:=Rj H2 done l A9 Gi;have q4:=Rk H2 done l A9 Gi t';have e2:Cr (done++[t'])=BS f (l.take (i+1)):=by
   rw[zf3z A9,EV,zf4z,←EV,hd,EK,EK,zf4z,zf6z,zf8z,zf6z,zf8z,ht]
  have jH:=P5 hfam;clear hd ht;generalize (done++l.drop i).map H2=X at *
  generalize hY:(done++[t']++l.drop (i+1)).map H2=Y at *
  generalize l[i]=s at *
  simp[l6,A6,k1,k7,k63,k64,A9,Z0,hI,hby,hby2,q2,q3,q4,jH];exact F7 hJ ⟨i+1,by omega,by simp[A6],⟨_,by rw[hY],e2,by simp[Gi]⟩⟩
 .obtain⟨done,rfl,hd,Gi⟩:=hr;have e:i=l.length:=by omega
  subst e;rw[zg2z]at hd;rw[zg1z,zg3z,←uH];simp[l6,A6,k1,k7,k63,k64,A9];exact hΦ _ _ _ ⟨rfl,done,rfl,hd,Gi⟩
theorem aU (fr:Fr) (h:AH) (hl:fr.length=85) (h63:A2 fr 63=.int .i64 0) (h64:A2 fr 64=.int .i64 0) :
  C3 (lp (A4 (M3 Q) (B8 X8) l6) (fr,h)) λe fr' h'=>Kp l6.wr fr fr'/\e=.exit 4/\h'=h:=by
 refine C1 rfl fr (λn fr' h'=>fr'=fr/\h'=h) ?_ 0 h ⟨rfl,rfl⟩;rintro J Φ hJ hΦ n E3 H1 K ⟨rfl,rfl⟩;simp[l6,hl,h63,h64];exact hΦ _ _ _ ⟨rfl,rfl⟩
theorem bS (a:Int) (b c:Q1) (m:W8) (l:Hm) (d:Int):AV.agg [.int .i64 a,.str b,.str c,sl m 4 (D0 l),.int .i64 d]=Bz ⟨a,b,c,m,l,d⟩:=rfl
theorem Wc {h:AH} {kd kg i m:Nat} {dd:Hm} {X:C6} {g:Gol} (h1:h.fams[kd]?=some ⟨D0 dd,4,true⟩) (h2:h.fams[kg]?=some ⟨X,5,true⟩) (S6:kd≠kg) (hm:X.length=m) (hx:X[i]?=some (Bz g)) :
  uG h 1 (.sl kd dd.length 0 dd.length) (.ep kg m i 3 5)=some ⟨h.boxes,(h.fams.set kd ⟨D0 dd,4,false⟩).set kg ⟨X.set i (Bz ⟨g.kind,g.role,g.wth,(false,true),dd,g.line⟩),5,true⟩⟩:=by
 have hk:=P5 h1;have hl:RX h (.sl kd dd.length 0 dd.length)=some ⟨h.boxes,h.fams.set kd ⟨D0 dd,4,false⟩⟩:=by
  simp[RX,Jd,EA,h1,UY]
 have hf:frz ⟨h.boxes,h.fams.set kd ⟨D0 dd,4,false⟩⟩ false (.sl kd dd.length 0 dd.length)=some (sl (false,true) 4 (D0 dd)):=by
  rw[Jd,EA];simp only;rw[zf2z hk,zf0z,if_pos ⟨by simp,by omega,rfl⟩,zg7z,zg5z (by simp)]
 rw[KO,hl,zf0z];simp only;rw[zf1z S6,h2,zf0z,if_pos ⟨hm,rfl,rfl⟩];simp only;rw[hx,zf0z,hf,zf0z];simp[bS]
theorem Uh {h:AH} {kg i m:Nat} {b:Bool} {X:C6} {g:Gol} (h2:h.fams[kg]?=some ⟨X,5,true⟩) (hm:X.length=m) (hx:X[i]?=some (Bz g)) :
  uG h 1 (sl (true,b) 4 []) (.ep kg m i 3 5)=some ⟨h.boxes,h.fams.set kg ⟨X.set i (Bz ⟨g.kind,g.role,g.wth,(true,b),[],g.line⟩),5,true⟩⟩:=by
 rw[KO];simp only[RX,jq,zf0z];rw[h2,zf0z,if_pos ⟨hm,rfl,rfl⟩];simp only;rw[hx,zf0z];have e:=bS g.kind g.role g.wth (true,b) [] g.line;rw[show D0 []=[] from rfl]at e;simp[e]
theorem Ya (by':AV) (f:ByteArray->Int) (l:List Gol) (C4:l.length<=1048576) (Gi:∀g∈l,g.data.length<=1048576) (hby:∀h am,frz h am by'=some by') (hby2:∀h,tame h by'=true) (IH:∀g∈l,∀t∈g.data,∃t',pc Q E5 [H2 t,by']=some (H2 t')/\Km t'=HM f t) (kg:Nat) (b0 b1 b2 b3 b4:AV) (C:C6) (fr:Fr) (h:AH) (hh:h.boxes=[[b0,b1,b2,b3,b4,.sl kg l.length 0 l.length],C]) (hfam:h.fams[kg]?=some ⟨l.map Bz,5,true⟩) (hl:fr.length=85) (h1:A2 fr 1=by') (h2:A2 fr 2=.ptr 0 0) (h51:A2 fr 51=.int .i64 l.length) (h52:A2 fr 52=.int .i64 0) :
  C3 (lp (A4 (M3 Q) (B8 X8) W6) (fr,h)) λe fr' h'=>Kp W6.wr fr fr'/\e=.exit 2/\∃(F:List Fam) (done:List Gol),h'=⟨h.boxes,F⟩/\F[kg]?=some ⟨done.map Bz,5,true⟩/\(∀j,j≠kg->j<h.fams.length->F[j]?=h.fams[j]?)/\done.map YO=l.map (MV f)/\done.length=l.length:=by
 refine C1 rfl fr (λn fr h'=>∃(i:Nat),i+n=l.length/\A2 fr 52=.int .i64 (i:Nat)/\(∃(F:List Fam) (done:List Gol),h'=⟨h.boxes,F⟩/\F[kg]?=some ⟨(done++l.drop i).map Bz,5,true⟩/\(∀j,j≠kg->j<h.fams.length->F[j]?=h.fams[j]?)/\h.fams.length<=F.length/\done.map YO=(l.take i).map (MV f)/\done.length=i)) ?_ l.length h ⟨0,by omega,h52,⟨_,[],rfl,by simpa using hfam,λ_ _ _=>rfl,zg6z _,rfl,rfl⟩⟩;rintro J Φ hJ hΦ n E3 H1 K ⟨i,hi,k52,hr⟩;have A6:=K.1.trans hl;have k1:=C0 K 1 h1;have k2:=C0 K 2 h2;have k51:=C0 K 51 h51;clear K;by_cases A9:i<l.length
 .have Z0:=C8 i (by omega);obtain⟨F,done,rfl,hF,hFo,hFl,hd,hdn⟩:=hr;obtain⟨q1,q2,q3⟩:=Rj Bz done l A9 hdn;have hq2:=zg0z.2 ⟨q1,q2⟩;have hkg:=P5 hF;have hkg0:=P5 hfam;obtain⟨w,⟨bx,F1⟩,hC,hRow,Ie,e,hFe⟩:=SF l[i].dm (D0 l[i].data) (by have:=Gi l[i] (zf5z A9);simpa using this) ⟨h.boxes,F⟩;simp only at Ie hFe;subst Ie;have hF1:F1[kg]?=some ⟨(done++l.drop i).map Bz,5,true⟩:=by rw[hFe,zf7z hkg];exact hF
  have hF1o:∀j,j≠kg->j<h.fams.length->F1[j]?=h.fams[j]?:=λj h1 h2=>by rw[hFe,zf7z (by omega)];exact hFo j h1 h2
  have hF1l:h.fams.length<=F1.length:=by rw[hFe];simp;omega
  have hlen7:∀h',Pe h' w=some (.int .i64 l[i].data.length,h'):=λh'=>by have:=Wl hRow h';simpa using this
  have hIH:=IH l[i] (zf5z A9);have hdl':=Gi l[i] (zf5z A9);have q4:=λg':Gol=>Rk Bz done l A9 hdn g';have fin:∀g':Gol,YO g'=MV f l[i]->(done++[g']).map YO=(l.take (i+1)).map (MV f):=by
   intro g' he;rw[zf3z A9,zf4z,hd,zf4z,zf6z,zf8z,zf6z,zf8z,he]
  rw[hh]at hC hJ ⊢;clear hd hFe hFo;generalize hX:(done++l.drop i).map Bz=X at *
  generalize l[i]=g at *
  by_cases hnil:g.data=[]
  .obtain⟨-,b,rfl⟩:D0 g.data=[]/\∃b,w=sl (true,b) 4 []:=by
    rcases hRow with h|⟨h,_⟩
    .exact h
    .rw[hnil]at h;exact absurd rfl h
   have hSt:=Uh (h:=⟨[[b0,b1,b2,b3,b4,.sl kg l.length 0 l.length],C],F1⟩) (b:=b) hF1 q3 hq2;simp[W6,A6,k1,k2,k51,k52,A9,Z0,hF,q2,q3,hC,hlen7];rw[hnil];refine C3.mono (aU _ _ ?_ ?_ ?_) ?_<;>first|(simp[A6];done)|skip
   rintro e X2 h2 ⟨K,rfl,rfl⟩;have L3:X2.length=85:=K.1.trans (by simp[A6]);have k2fr2:A2 X2 2=.ptr 0 0:=C0 K 2 (by simp[A6,k2]);have k6fr2:A2 X2 6=.int .i64 (i:Nat):=C0 K 6 (by simp[A6]);have k7fr2:A2 X2 7=sl (true,b) 4 []:=C0 K 7 (by simp[A6]);have k52fr2:A2 X2 52=.int .i64 (i:Nat):=C0 K 52 (by simp[A6,k52]);clear K;simp[L3,k2fr2,k6fr2,k7fr2,k52fr2,A9,hSt,Z0,-KO];exact F7 hJ ⟨i+1,by omega,by simp[L3],_,done++[⟨g.kind,g.role,g.wth,(true,b),[],g.line⟩],rfl,by rw[zf2z (P5 hF1),q4],λj h1 h2=>by rw[zf1z (Ne.symm h1)];exact hF1o j h1 h2,by simpa using hF1l,fin _ (by simp[YO,MV,hnil,Cr,BS]),by simp[hdn]⟩
  .obtain⟨rfl,hkd⟩:w=.sl F.length g.data.length 0 g.data.length/\F1[F.length]?=some ⟨D0 g.data,4,true⟩:=by
    rcases hRow with ⟨h,_⟩|⟨_,h,h'⟩
    .rw[uH,zf9z]at h;exact absurd h hnil
    .exact⟨by simpa using h,h'⟩
   have S6:F.length≠kg:=by omega
   simp[W6,A6,k1,k2,k51,k52,A9,Z0,hF,q2,q3,hC,hlen7];refine C3.mono (YZ by' f g.data hdl' hby hby2 hIH F.length _ _ ?_ ?_ ?_ ?_ ?_ ?_) ?_<;>first|(simp[A6,k1];done)|skip
   .exact hkd
   rintro e X2 h2 ⟨K,rfl,dd,rfl,hdd,hddl⟩;have L3:X2.length=85:=K.1.trans (by simp[A6]);have k2fr2:A2 X2 2=.ptr 0 0:=C0 K 2 (by simp[A6,k2]);have k6fr2:A2 X2 6=.int .i64 (i:Nat):=C0 K 6 (by simp[A6]);have k7fr2:A2 X2 7=.sl F.length g.data.length 0 g.data.length:=C0 K 7 (by simp[A6]);have k52fr2:A2 X2 52=.int .i64 (i:Nat):=C0 K 52 (by simp[A6,k52]);clear K;have hkdl:=P5 hkd;have hSt:=Wc (h:=⟨[[b0,b1,b2,b3,b4,.sl kg l.length 0 l.length],C],F1.set F.length ⟨D0 dd,4,true⟩⟩) (kd:=F.length) (dd:=dd) (zf2z hkdl) (by simp only;rw[zf1z S6];exact hF1) S6 q3 hq2;rw[hddl]at hSt;simp only[List.set_set]at hSt;simp[L3,k2fr2,k6fr2,k7fr2,k52fr2,A9,hSt,Z0,-KO];exact F7 hJ ⟨i+1,by omega,by simp[L3],_,done++[⟨g.kind,g.role,g.wth,(false,true),dd,g.line⟩],rfl,by rw[zf2z (by simpa using P5 hF1),q4],λj h1 h2=>by rw[zf1z (Ne.symm h1),zf1z (by omega)];exact hF1o j h1 h2,by simpa using hF1l,fin _ (by simp[YO,MV,hdd]),by simp[hdn]⟩
 .obtain⟨F,done,rfl,hF,hFo,hFl,hd,hdn⟩:=hr;have e:i=l.length:=by omega
  subst e;rw[zg2z]at hd;rw[zg1z,zg3z]at hF;simp[W6,A6,k51,k52];exact hΦ _ _ _ ⟨rfl,F,done,rfl,hF,hFo,hd,hdn⟩
def Zo (n:Nar):Nar:=⟨n.name,(false,false),n.roles,(false,false),n.fresh,(false,false),n.tags,(false,false),n.steps.map OB,(false,false),n.goals.map YO⟩
def NN (f:ByteArray->Int) (n:Nar):Nar:=⟨n.name,(false,false),n.roles,(false,false),n.fresh,(false,false),n.tags,(false,false),n.steps.map (MW f),(false,false),n.goals.map (MV f)⟩
theorem aV (fr:Fr) (h:AH) (hl:fr.length=85) (h51:A2 fr 51=.int .i64 0) (h52:A2 fr 52=.int .i64 0) :
  C3 (lp (A4 (M3 Q) (B8 X8) W6) (fr,h)) λe fr' h'=>Kp W6.wr fr fr'/\e=.exit 2/\h'=h:=by
 refine C1 rfl fr (λn fr' h'=>fr'=fr/\h'=h) ?_ 0 h ⟨rfl,rfl⟩;rintro J Φ hJ hΦ n E3 H1 K ⟨rfl,rfl⟩;simp[W6,hl,h51,h52];exact hΦ _ _ _ ⟨rfl,rfl⟩
theorem NZ {h:AH} {k sz:Nat} {xs:C6} {b:Bool} (hk:h.fams[k]?=some ⟨xs,sz,b⟩) {n:Nat} (hn:xs.length=n):uE h true (.sl k n 0 n)=some (sl (false,true) sz xs):=by
 rw[EA,hk,zf0z,if_pos ⟨hn,by omega,rfl⟩,zg7z,zg5z (by simp[hn])]
structure Lens (n:Nar):Prop where
 names:n.roles.length+n.fresh.length+n.tags.length<=1048576
 steps:n.steps.length<=1048576
 goals:n.goals.length<=1048576
 data:∀g∈n.goals,g.data.length<=1048576
theorem jZ (n:Nar) (hS:Lens n) (S6:n.steps≠[]) (r:AV) (ns:List ByteArray) (vs:List Int) (f:ByteArray->Int)
  (IH1:∀s∈n.steps,∃t',pc Q E5 [H2 s.msg,Uv r ns vs]=some (H2 t')/\Km t'=HM f s.msg) (IH2:∀g∈n.goals,∀t∈g.data,∃t',pc Q E5 [H2 t,Uv r ns vs]=some (H2 t')/\Km t'=HM f t) :
  ∃n',pc Q X8 [D1 n,Uv r ns vs]=some (D1 n')/\Zo n'=NN f n:=by
 suffices h:∃v,pc Q X8 [D1 n,Uv r ns vs]=some v/\∃n',v=D1 n'/\Zo n'=NN f n by
  obtain⟨v,h1,n',rfl,h2⟩:=h;exact⟨n',h1,h2⟩
 obtain⟨s0,s1,s2,s3⟩:=hS;obtain⟨name,rm,roles,fm,fresh,tm,tags,sm,steps,gm,goals⟩:=n;simp only at *
 obtain⟨m1,c1⟩:=Jm rm (roles.map .str) (by simp;omega);obtain⟨m2,c2⟩:=Ph fm (fresh.map Hp) (by simp;omega);obtain⟨m3,c3⟩:=Jm tm (tags.map .str) (by simp;omega);obtain⟨w1,⟨B1,F1⟩,c4,r4,hb4,e4,f4⟩:=SE sm (steps.map P3) (by simpa using s1) ⟨[[.str name,sl m1 1 (roles.map .str),sl m2 3 (fresh.map Hp),sl m3 1 (tags.map .str),sl sm 7 (steps.map P3),sl gm 5 (goals.map Bz)],[.str (bs []),.vs true 0 [],.vs true 0 [],.vs true 0 [],.vs true 0 [],.vs true 0 []]],[]⟩;simp only at hb4 f4;subst hb4;obtain⟨w2,⟨B2,F2⟩,c5,r5,hb5,e5,f5⟩:=SD gm (goals.map Bz) (by simpa using s2) ⟨[[.str name,sl m1 1 (roles.map .str),sl m2 3 (fresh.map Hp),sl m3 1 (tags.map .str),sl sm 7 (steps.map P3),sl gm 5 (goals.map Bz)],[.str (bs []),.vs true 0 [],.vs true 0 [],.vs true 0 [],.vs true 0 [],.vs true 0 []]],F1⟩;simp only at hb5 f5;subst hb5;obtain⟨rfl,hF1⟩:w1=.sl 0 steps.length 0 steps.length/\F1[0]?=some ⟨steps.map P3,7,true⟩:=by
  rcases r4 with ⟨h,_⟩|⟨_,h,h'⟩
  .rw[zf9z]at h;exact absurd h S6
  .exact⟨by simpa using h,by simpa using h'⟩
 have hF2:F2[0]?=some ⟨steps.map P3,7,true⟩:=by rw[f5,zf7z (P5 hF1)];exact hF1
 have hw2:=Xq r5;have hn2:∀h',Pe h' w2=some (.int .i64 goals.length,h'):=λh'=>by have:=Wl r5 h';simpa using this
 have g1:=Yb (Uv r ns vs) f steps s1 (λ_ _=>rfl) (λ_=>rfl) IH1 0 (.str name) (sl m1 1 (roles.map .str)) (sl m2 3 (fresh.map Hp)) (sl m3 1 (tags.map .str)) w2 [.str (bs []),.vs true 0 [],.vs true 0 [],.vs true 0 [],.vs true 0 [],.vs true 0 []];refine MN Jy λΨ hΨ fr hl h0 h1=>?_;simp[Jy,D1]at hl h0 h1;simp[Jy,hl,h0,h1,c1,c2,c3,c4,c5,hw2];refine C3.mono (g1 _ _ ?_ ?_ ?_ ?_ ?_ ?_ ?_) ?_<;>first|(simp[hl,h1];done)|skip
 .exact hF2
 rintro e E3 U1 ⟨K,rfl,S,rfl,hS1,hS2⟩;have K1:E3.length=85:=K.1.trans (by simp[hl]);have EC:A2 E3 1=Uv r ns vs:=C0 K 1 (by simp[hl,h1]);have IR:A2 E3 2=.ptr 0 0:=C0 K 2 (by simp[hl]);have IS:A2 E3 4=.ptr 1 0:=C0 K 4 (by simp[hl]);clear K;simp[K1,EC,IR,IS,hn2];have hFz:(F2.set 0 ⟨S.map P3,7,true⟩)[0]?=some ⟨S.map P3,7,true⟩:=zf2z (P5 hF2);by_cases hg:goals=[]
 .subst hg;obtain⟨-,b,rfl⟩:([]:List Gol).map Bz=[]/\∃b,w2=sl (true,b) 5 []:=by
   rcases r5 with h|⟨h,_⟩
   .exact h
   .exact absurd rfl h
  refine C3.mono (aV _ _ ?_ ?_ ?_) ?_<;>first|(simp[K1];done)|skip
  rintro e X2 h2 ⟨K,rfl,rfl⟩;have L3:X2.length=85:=K.1.trans (by simp[K1]);have k2fr2:A2 X2 2=.ptr 0 0:=C0 K 2 (by simp[K1,IR]);have k4fr2:A2 X2 4=.ptr 1 0:=C0 K 4 (by simp[K1,IS]);clear K;have hz:=λB:List (List AV)=>NZ (h:=⟨B,F2.set 0 ⟨S.map P3,7,true⟩⟩) hFz (n:=steps.length) (by simpa using hS2);simp[L3,k2fr2,k4fr2,hz];exact hΨ _ ⟨⟨name,m1,roles,m2,fresh,m3,tags,(false,true),S,(true,b),[]⟩,rfl,by simp[Zo,NN,hS1]⟩
 .obtain⟨rfl,hF2g⟩:w2=.sl F1.length goals.length 0 goals.length/\F2[F1.length]?=some ⟨goals.map Bz,5,true⟩:=by
   rcases r5 with ⟨h,_⟩|⟨_,h,h'⟩
   .rw[zf9z]at h;exact absurd h hg
   .exact⟨by simpa using h,h'⟩
  have h0F:0<F1.length:=P5 hF1;have hFg:(F2.set 0 ⟨S.map P3,7,true⟩)[F1.length]?=some ⟨goals.map Bz,5,true⟩:=by rw[zf1z (by omega)];exact hF2g
  refine C3.mono (Ya (Uv r ns vs) f goals s2 s3 (λ_ _=>rfl) (λ_=>rfl) IH2 F1.length (.str name) (sl m1 1 (roles.map .str)) (sl m2 3 (fresh.map Hp)) (sl m3 1 (tags.map .str)) (.sl 0 steps.length 0 steps.length) [.str (bs []),.vs true 0 [],.vs true 0 [],.vs true 0 [],.vs true 0 [],.vs true 0 []] _ _ ?_ ?_ ?_ ?_ ?_ ?_ ?_) ?_<;>first|(simp[K1,EC,IR];done)|skip
  .exact hFg
  rintro e X2 h2 ⟨K,rfl,F,G,rfl,hG1,hG2,hG3,hG4⟩;have L3:X2.length=85:=K.1.trans (by simp[K1]);have k2fr2:A2 X2 2=.ptr 0 0:=C0 K 2 (by simp[K1,IR]);have k4fr2:A2 X2 4=.ptr 1 0:=C0 K 4 (by simp[K1,IS]);clear K;have hFs:=hG2 0 (by omega) (by simpa using P5 hF2);rw[hFz]at hFs;have hz:=λB:List (List AV)=>NZ (h:=⟨B,F⟩) hFs (n:=steps.length) (by simpa using hS2);have hz2:=λB:List (List AV)=>NZ (h:=⟨B,F⟩) hG1 (n:=goals.length) (by simpa using hG4);simp[L3,k2fr2,k4fr2,hz,hz2];exact hΨ _ ⟨⟨name,m1,roles,m2,fresh,m3,tags,(false,true),S,(false,true),G⟩,rfl,by simp[Zo,NN,hS1,hG3]⟩
theorem Uq {t:Tm} (h:Az t=0):N0 t=0:=by
 unfold Az at h;apply Classical.byContradiction;intro hv;rw[if_pos hv]at h;exact hv h
theorem Gk {t:Tm} (h:DT t=0):N0 t=0:=by
 refine Uq ?_;unfold DT HI at h;apply Classical.byContradiction;intro hv;rw[if_pos hv,if_pos hv]at h;exact hv h
theorem Gl {n:Nar} (h:JN n=0):GP n=0/\(∀s∈n.steps,FA s=0)/\∀g∈n.goals,GY g=0:=by
 unfold JN at h;by_cases h1:GP n=0
 .rw[if_neg (by simp[h1])]at h;by_cases h2:B9 FA n.steps=0
  .rw[if_neg (by simp[h2])]at h;exact⟨h1,Dz h2,Dz h⟩
  .rw[if_pos h2]at h;exact absurd h h2
 .rw[if_pos h1]at h;exact absurd h h1
theorem Gz {n:Nar} (h:GP n=0):n.steps≠[]/\Jk n=0:=by
 have hn:Jk n=0:=by
  unfold GP at h;by_cases h1:K4 n.name=false
  .rw[if_pos h1]at h;omega
  .rw[if_neg h1]at h;apply Classical.byContradiction;intro h2;rw[if_pos h2]at h;exact h2 h
 refine⟨λe=>?_,hn⟩;unfold Jk at hn;rw[e]at hn;split at hn
 .omega
 .split at hn
  .omega
  .simp at hn
theorem SS {s:Ste} (h:FA s=0):DT s.msg=0:=by
 unfold FA at h;split at h
 .omega
 .exact h
theorem OO {g:Gol} (h:GY g=0):∀t∈g.data,DT t=0:=by
 unfold GY at h;split at h
 .omega
 .split at h
  .omega
  .split at h
   .omega
   .split at h
    .omega
    .exact Dz h
theorem Iq {α:Type} {g ln:α->Int}:∀{l:List α},(M4 g ln l).2=0->M4 g ln l=(0,0)/\∀a∈l,g a=0
 | [],_=>⟨rfl,λa h=>by cases h⟩
 |a::l,h=>by
  simp only[M4]at h ⊢;by_cases hz:g a=0
  .rw[if_neg (by simp[hz])]at h ⊢;obtain⟨h1,h2⟩:=Iq h;exact⟨h1,λb hb=>by rcases List.mem_cons.1 hb with rfl|hb;exact hz;exact h2 b hb⟩
  .rw[if_pos hz]at h;exact absurd h hz
structure Right (n:Nar):Prop where
 nar:JN n=0
 dec:GS n=0
 steps:∀s∈n.steps,DN (B7 n) n.roles s=0
 goals:∀g∈n.goals,Dq (B7 n) n.roles g=0
theorem EJ {n:Nar} (h:(AQ n).2=0):AQ n=(0,0)/\Right n:=by
 unfold AQ at h ⊢;by_cases h1:JN n=0
 .rw[if_neg (by simp[h1])]at h ⊢;by_cases h2:GS n=0
  .rw[if_neg (by simp[h2])]at h ⊢;by_cases h3:M4 (DN (B7 n) n.roles) Ste.line n.steps=(0,0)
   .rw[if_neg (by simp[h3])]at h ⊢;obtain⟨q1,q2⟩:=Iq h;exact⟨q1,h1,h2,(Iq (by rw[h3])).2,q2⟩
   .rw[if_pos h3]at h;exact absurd (Iq h).1 h3
  .rw[if_pos h2]at h;exact absurd h h2
 .rw[if_pos h1]at h;exact absurd h h1
@[simp] theorem mt (h:AH) (am:Bool) (f:FuncId) (cs:C6):frz h am (.fn f [.pv cs])=some (.fn f [.pv cs]):=rfl
@[simp] theorem qz (h:AH) (f:FuncId) (cs:C6):tame h (.fn f cs)=true:=rfl
def qf:Nar:=⟨bs [],(true,false),[],(true,false),[],(true,false),[],(true,false),[],(true,false),[]⟩
theorem bz:AV.agg [.str (bs []),sl (true,false) 1 [],sl (true,false) 1 [],sl (true,false) 1 [],sl (true,false) 1 [],sl (true,false) 1 []]=D1 qf:=by
 unfold D1 qf;simp[sl]
theorem WI (n:Nar) (F:Fine n) (S:Lens n):∃r,pc Q Z9 [D1 n]=some (.tup [D1 r,.int .i64 (AQ n).1,.int .i64 (AQ n).2])/\((AQ n).2=0->Zo r=NN (Bj (B7 n) (R6 n)) n):=by
 suffices h:∃v,pc Q Z9 [D1 n]=some v/\∃r,v=.tup [D1 r,.int .i64 (AQ n).1,.int .i64 (AQ n).2]/\((AQ n).2=0->Zo r=NN (Bj (B7 n) (R6 n)) n) by
  obtain⟨v,h1,r,rfl,h2⟩:=h;exact⟨r,h1,h2⟩
 have hC:=Jn n F S.names;have nb:=C7 n;by_cases hz:(AQ n).2=0
 .obtain⟨hz0,hR⟩:=EJ hz;obtain⟨k1,k2,k3⟩:=Gl hR.nar;have hN:=Ka n S.names hR.dec;have hA:∃n',pc Q X8 [D1 n,Uv (sl n.rm 1 (n.roles.map .str)) (B7 n) (R6 n)]=some (D1 n')/\Zo n'=NN (Bj (B7 n) (R6 n)) n:=by
   refine jZ n S (Gz k1).1 _ _ _ _ (λs hs=>?_) λg hg t ht=>?_
   .exact Og _ rfl _ _ (HH n) _ _ (zg6z _) (F.steps s hs).2.2 (Gk (SS (k2 s hs)))
   .exact Og _ rfl _ _ (HH n) _ _ (zg6z _) (by have:=(F.goals g hg).2.2;have:=Tm.size_le ht;omega) (Gk (OO (k3 g hg) t ht))
  obtain⟨n',hA,hA2⟩:=hA;rw[hz0]at hC ⊢;unfold We at hN;unfold Uv at hA;generalize hU:(B7 n).map AV.str=U at *
  generalize hV:(R6 n).map (AV.int .i64)=V at *
  refine JA z7 λΨ hΨ fr hl h0=>?_;simp[z7]at hl h0;simp[z7,hl,h0,C7,hC,hN,hA,Ci,show (AV.vm U V).flat=true from rfl];exact hΨ _ ⟨n',rfl,λ_=>hA2⟩
 .refine JA z7 λΨ hΨ fr hl h0=>?_;simp[z7]at hl h0;simp[z7,hl,h0,nb,hC,hz,P2,F4];exact hΨ _ ⟨qf,by rw[←bz,Dr (true,false) rfl 1 1],λh=>absurd h hz⟩
end Go.Abs.Q
namespace Go.Abs.Q
open Go.Proofs
attribute [local simp] D3 D6 fin H4 G2 EP Co Bd Bc C7
theorem RT (x:Q1) (l:List ByteArray):(0<=idx (U4 x) l)↔l.any (U4 x)=true:=FF _ l 0
theorem KG (x:Q1) (l:List ByteArray):(idx (U4 x) l<0)↔l.any (U4 x)=false:=by
 have:=RT x l;cases h:l.any (U4 x)with
 |true=>rw[h]at this;simp at this;simp;omega
 |false=>rw[h]at this;simp at this;simp;omega
theorem Oo (t:Tm) (nm:Q1):pc Q HE [H2 t,.str nm]=some (.bool (decide (t.kind=3)&&decide (t.name=nm))):=by
 refine Ez Kw λfr hl h0 h1=>?_;simp[Kw]at hl h0 h1;simp +contextual (maxSteps:=10000000) [Kw,hl,h0,h1]
theorem Cy (m:W8) (l:List ByteArray) (x:Q1) (h:l.length<=1048576):pc Q I9 [sl m 1 (l.map AV.str),.str x]=some (.int .i64 (idx (U4 x) l)):=cP m l x (by omega)
theorem Ou (n:Nar) (hr:n.roles.length<=1048576) (t:Tm):pc Q Ct [D1 n,H2 t]=some (.bool (BR n.roles t)):=by
 have hC:=Cy n.rm n.roles t.name hr;have hI:=RT t.name n.roles;refine Ez Es λfr hl h0 h1=>?_;simp[Es]at hl h0 h1;unfold BR;generalize n.roles.any (U4 t.name)=b at *
 by_cases hk:t.kind=2
 .cases b with
  |true =>
   simp[Es,hl,h0,h1,hC,A7 (hI.2 rfl),A7 hk]
  |false =>
   simp[Es,hl,h0,h1,hC,A0 (show ¬0<=idx (U4 t.name) n.roles from λh=>nomatch (hI.1 h)),A7 hk]
 .simp[Es,hl,h0,h1,hC,A0 hk]
theorem Mu (n:Nar) (hr:n.roles.length<=1048576) (t:Tm):pc Q Bk [D1 n,H2 t]=some (.bool (BQ n.roles t)):=by
 have hI:=Oo t (bs [115,107]);refine Ez y8 λfr hl h0 h1=>?_;simp[y8]at hl h0 h1;by_cases hk:t.kind=3
 .by_cases hn:t.name=bs [115,107]
  .by_cases A6:(t.kids.length:Int)=1
   .obtain⟨a,hka⟩:=zg4z.1 (show t.kids.length=1 by omega);have hx:Jj (D0 t.kids) 0=some (H2 a):=by rw[hka];rfl
    have hf:ND (BR n.roles) t.kids=BR n.roles a:=by rw[hka];rfl
    have hR:=Ou n hr a;simp[y8,hl,h0,h1,BQ,V7,hI,A7 hk,A7 hn,A7 A6,hR,hx,hf]
   .simp[y8,hl,h0,h1,BQ,V7,hI,A7 hk,A7 hn,A0 A6]
  .simp[y8,hl,h0,h1,BQ,V7,hI,A7 hk,A0 hn]
 .simp[y8,hl,h0,h1,BQ,V7,hI,A0 hk]
theorem Ot (n:Nar) (hr:n.roles.length<=1048576) (t:Tm):pc Q Cf [D1 n,H2 t]=some (.bool (EM n.roles t)):=by
 have hI:=Oo t (bs [112,107]);refine Ez BG λfr hl h0 h1=>?_;simp[BG]at hl h0 h1;by_cases hk:t.kind=3
 .by_cases hn:t.name=bs [112,107]
  .by_cases A6:(t.kids.length:Int)=1
   .obtain⟨a,hka⟩:=zg4z.1 (show t.kids.length=1 by omega);have hx:Jj (D0 t.kids) 0=some (H2 a):=by rw[hka];rfl
    have hf:ND (BQ n.roles) t.kids=BQ n.roles a:=by rw[hka];rfl
    have hR:=Mu n hr a;simp[BG,hl,h0,h1,EM,V7,hI,A7 hk,A7 hn,A7 A6,hR,hx,hf]
   .simp[BG,hl,h0,h1,EM,V7,hI,A7 hk,A7 hn,A0 A6]
  .simp[BG,hl,h0,h1,EM,V7,hI,A7 hk,A0 hn]
 .simp[BG,hl,h0,h1,EM,V7,hI,A0 hk]
end Go.Abs.Q
