/- A part of the proof. -/
import Derived.Test.YtohjdamplbhdpaaGreatDoorSG31
import Derived.KernelRfl
set_option linter.all false
open List renaming mem_cons_self->xk,map_cons->xl,mem_cons_of_mem->xm,mem_singleton->xn,length_replicate->xo,eq_nil_of_length_eq_zero->xp,mem_map_of_mem->xq,length_map->xr,all_eq_true->xw,map_append->xy,mem_range->xz,replicate->yA,mem_cons->yC,mem_map->yD
open Int renaming toNat_natCast->xt
open Bool renaming and_eq_true->xu,true_and->yB
open Nat renaming le_refl->yE
namespace Go.Abs.Q
open Go.Proofs
attribute [local simp] D0 D1 fin I1 E7 K8 I3 N6 P4
noncomputable def IN (kf:Nat->List Tm) (t:Tm):Nat->Nat->Int×Int
 |_,0=>(0,4)
 |i,c+1=>if (U1 (kf i) t).1≠0 then (0,(U1 (kf i) t).1)else if (U1 (kf i) t).2=true then ((i:Nat),0)else IN kf t (i+1) c
theorem bH {kf kf':Nat->List Tm} {t t':Tm} (h:∀i,(kf i).map D5=(kf' i).map D5) (ht:D5 t=D5 t'):∀(c i:Nat),IN kf t i c=IN kf' t' i c
 |0,_=>rfl
 |c+1,i=>by rw[IN,IN,NH (h i) ht,bH h ht c (i+1)]
theorem kU (L:List Unit) (hL1:L.length<=2000) (r na:Nar) (hL:L.length=r.steps.length+1) (F:Fine na) (S:Lens na) (hz:(Al na).2=0) (hR:Right na) (he:On r=DD (H5 (B5 na) (E4 na)) na) (t:Tm) (ht:GoodT t) (me:H7) (role:Nat) (hme:r.roles[role]?=some me) (C0:E6) (fr:Fr) (h:AH) (B0:List (List AV)) (hB0:h.boxes=C0::(B8 t).cells::(Dw r na).cells::B0) (hl:fr.length=45) (h5:A0 fr 5=.ptr 1 0) (h8:A0 fr 8=.ptr 2 0) (h1:A0 fr 1=.int .i64 (role:Nat)) (h26:A0 fr 26=.int .i64 L.length) (h27:A0 fr 27=.int .i64 0) :
  C8 (lp (A1 (Q8 Q) (G7 Cw) s7) (fr,h)) λe D4 h'=>Kp s7.wr fr D4/\((e=.exit 0/\IN (Kv (true,true) r na me role) t 0 L.length=(0,4))\/(e=.ret/\A0 D4 6=.int .i64 (IN (Kv (true,true) r na me role) t 0 L.length).1/\A0 D4 7=.int .i64 (IN (Kv (true,true) r na me role) t 0 L.length).2)):=by
 refine C3 rfl fr (λn fr h'=>∃(i:Nat),i+n=L.length/\A0 fr 27=.int .i64 (i:Nat)/\(∃B,h'.boxes=C0::(B8 t).cells::(Dw r na).cells::B)/\IN (Kv (true,true) r na me role) t i (L.length-i)=IN (Kv (true,true) r na me role) t 0 L.length) ?_ L.length h ⟨0,by omega,h27,⟨_,hB0⟩,rfl⟩;rintro J Φ hJ hΦ n G9 H1 K ⟨i,hi,k27,hr⟩;have B4:=K.1.trans hl;have k5:=A5 K 5 h5;have k8:=A5 K 8 h8;have k1:=A5 K 1 h1;have k26:=A5 K 26 h26;clear K;by_cases A6:i<L.length
 .have V7:=E5 i (by omega);obtain⟨⟨B,hB⟩,hr⟩:=hr;obtain⟨bx,fams⟩:=H1;simp only at hB;subst hB;have sb:=AR r na;obtain⟨hsm,-⟩:=Hy hR.nar he;obtain⟨e2,e3,e5⟩:=Fe he;obtain⟨mk,hK⟩:=PG r na F S hz hsm e2 role me hme i (by omega);have Lf:∀x∈Kv (true,true) r na me role i,GoodT x:=λx hx=>by
   obtain⟨h1,h2⟩:=Ox hR he (by rw[←e2];exact List.mem_of_getElem? hme) hx;exact h1.good h2
  have CI:=VV (m:=(true,true)) (me:=me) (role:=role) (q:=i) hsm;have hD:=Vh mk _ t Lf ht (by omega);rw[show L.length-i=(L.length-(i+1))+1 from by omega,IN]at hr;generalize Kv (true,true) r na me role i=kk at *
  generalize U1 kk t=d at *
  obtain⟨de,db⟩:=d;simp only at hD hr;have ht4:(B8 t).cells=[.int .i64 t.kind,.str t.name,.int .i64 t.sort,sl t.cm 4 (A3 t.kids)]:=H3 t;by_cases hde:de=0
  .subst hde;rw[if_neg (by simp)]at hr;cases db with
   |true =>
    simp only[if_true]at hr;simp[s7,B4,k5,k8,k1,k26,k27,A6,sb,hK,hD];exact hΦ _ _ _ (.inr ⟨rfl,by rw[←hr];simp[B4],by rw[←hr];simp[B4]⟩)
   |false =>
    simp only[Bool.false_eq_true,if_false]at hr;simp[s7,B4,k5,k8,k1,k26,k27,A6,V7,sb,hK,hD];exact O4 hJ ⟨i+1,by omega,by simp[B4],⟨B,by rw[sb,H3]⟩,hr⟩
  .rw[if_pos hde]at hr;simp[s7,B4,k5,k8,k1,k26,k27,A6,sb,hK,hD,hde];exact hΦ _ _ _ (.inr ⟨rfl,by rw[←hr];simp[B4],by rw[←hr];simp[B4]⟩)
 .obtain⟨⟨B,hB⟩,hr⟩:=hr;rw[show L.length-i=0 from by omega,IN]at hr;simp[s7,B4,k26,k27,A6];exact hΦ _ _ _ (.inl ⟨rfl,hr.symm⟩)
noncomputable def LB (n:Nar) (role:Int) (t:Tm):Int×Int :=
 if Nt n role 0≠0 then (0,Nt n role 0)else IN (JA (H5 (B5 n) (E4 n)) n (n.roles.getD role.toNat (bs [])) role.toNat) t 0 (n.steps.length+1)
theorem Pw (n:Nar) (F:Fine n) (S:Lens n) (role:Int) (t:Tm) (ht:GoodT t):pc Q Cw [V8 n,.int .i64 role,B8 t]=some (.tup [.int .i64 (LB n role t).1,.int .i64 (LB n role t).2]):=by
 obtain⟨r,n',hO,hE⟩:=Xm n F S role 0;have nb:=U9 n;have sb:=AR r n';by_cases hat:Nt n role 0=0
 .obtain⟨rfl,he⟩:=hE hat;obtain⟨hs0,g1,g2,g3,g4⟩:=MC hat;obtain⟨-,hR⟩:=FQ hs0;obtain⟨hsm,-⟩:=Hy hR.nar he;obtain⟨e2,-,e5⟩:=Fe he;obtain⟨role,rfl⟩:=Int.eq_ofNat_of_zero_le g1;simp only[xt]at g2;have hL:LB n' role t=IN (JA (H5 (B5 n') (E4 n')) n' (n'.roles.getD role (bs [])) role) t 0 (n'.steps.length+1):=by
   unfold LB;rw[if_neg (by simp[hat]),xt]
  have hme:r.roles[role]?=some (n'.roles.getD role (bs [])):=by
   rw[e2,List.getD_eq_getElem?_getD,List.getElem?_eq_getElem g2];rfl
  have hX:LB n' role t=IN (Kv (true,true) r n' (n'.roles.getD role (bs [])) role) t 0 (yA (r.steps.length+1) ()).length:=by
   rw[hL,xo,e5];refine bH (λi=>?_) rfl _ _;have hme':n'.roles[role]?=some (n'.roles.getD role (bs [])):=by have h:=hme;rw[e2]at h;exact h
   rw[Rt hR.dec he hme'];exact(Kw hR.dec he hme' _).symm
  rw[hat]at hO;rw[hX];generalize n'.roles.getD role (bs [])=me at *
  have DH:=hsm.steps;have hw:IntKind.i64.wrap ((r.steps.length:Int)+1)=(r.steps.length:Int)+1:=M3 (by omega) (by omega);refine IW DA λfr hl h0 h1 h2=>?_;simp[DA]at hl h0 h1 h2;simp[DA,hl,h0,h1,h2,nb,sb,hO,hw];refine C8.mono (kU (yA (r.steps.length+1) ()) (by simp;omega) r n' (by simp) F S hs0 hR he t ht me role hme (V8 n').cells _ _ [] ?_ ?_ ?_ ?_ ?_ ?_ ?_) ?_<;>first|(simp[hl,nb,sb,h1];done)|skip
  rintro e G9 ⟨bx,F1⟩ ⟨K,⟨rfl,hn⟩|⟨rfl,l6,l7⟩⟩
  .have B4:G9.length=45:=K.1.trans (by simp[hl]);simp only[xo]at hn;simp[B4,hn]
  .simp only[xo]at l6 l7;simp[l6,l7]
 .have hX:LB n role t=(0,Nt n role 0):=by unfold LB;rw[if_pos hat]
  rw[hX];generalize Nt n role 0=e at *
  have M5:=hat;refine IW DA λfr hl h0 h1 h2=>?_;simp[DA]at hl h0 h1 h2;simp[DA,hl,h0,h1,h2,nb,sb,hO,M5]
end Go.Abs.Q
namespace Go.Abs.Q
open Go.Proofs
theorem kO {S U T:I2} (hS:cO S T) (Cc:∀u∈U,P2 T u=true\/Ec T u=false) {e:Tm} (h:Kn S U e):e∈T.map D5:=by
 induction h with
 |base e h=>exact hS e h
 |step T0 _ u hu hs ih =>
  rcases Cc u hu with h|h
  .exact s9.1 h
  .rw[Sz ih hs]at h;cases h
def ie (U T:List Tm):List Tm:=T++U.filter λu=>!P2 T u&&Ec T u
def aB (U:List Tm):Nat->List Tm->List Tm
 |0,T=>T
 |n+1,T=>aB U n (ie U T)
def vW (U T:List Tm):Bool:=U.all λu=>P2 T u||!Ec T u
theorem lQ {S U T:I2} (h:∀e,e∈T.map D5->Kn S U e):∀e,e∈(ie U T).map D5->Kn S U e:=by
 intro e he;unfold ie at he;rw[xy,List.mem_append]at he;rcases he with he|he
 .exact h e he
 .obtain⟨u,hu,rfl⟩:=yD.1 he;obtain⟨h1,h2⟩:=List.mem_filter.1 hu;rw[xu]at h2;exact Kn.step T h u h1 h2.2
theorem bh {S U:I2}:∀(n:Nat) {T:I2},(∀e,e∈T.map D5->Kn S U e)->∀e,e∈(aB U n T).map D5->Kn S U e
 |0,_,h=>h
 |n+1,_,h=>bh n (lQ h)
theorem YT {U:I2}:∀(n:Nat) (T:I2),cO T (aB U n T)
 |0,_,_,h=>h
 |n+1,T,e,h=>YT n (ie U T) e (by unfold ie;rw[xy];exact List.mem_append_left _ h)
def ZH (k:List Tm) (t:Tm):Bool×Bool :=
 let U:=alls (k++[t])
 let T:=aB U 3 k
 (decide (k.length<=60)&&decide (U.length<=200)&&vW U T,P2 T t)
open Classical in
theorem Rg {k:I2} {t:Tm} {b:Bool} (h:ZH k t=(true,b)):U1 k t=(0,b):=by
 unfold ZH at h;simp only[Prod.mk.injEq,xu,decide_eq_true_eq]at h;obtain⟨⟨⟨h1,h2⟩,h3⟩,h4⟩:=h;unfold U1;rw[if_neg (by have:=ae k t;omega)];congr 1;subst h4;have Cc:∀u∈alls (k++[t]),P2 (aB (alls (k++[t])) 3 k) u=true\/Ec (aB (alls (k++[t])) 3 k) u=false:=λu hu=>by
  have:=xw.1 h3 u hu;simpa using this
 by_cases hd:PW k t
 .rw[@decide_eq_true _ (Classical.propDecidable _) hd];have:=kO (YT 3 k) Cc hd;exact(s9.2 this).symm
 .rw[@decide_eq_false _ (Classical.propDecidable _) hd];cases hq:P2 (aB (alls (k++[t])) 3 k) t with
  |false=>rfl
  |true=>exact absurd (bh 3 (λe he=>Kn.base e he) _ (s9.1 hq)) hd
end Go.Abs.Q
namespace Go.Abs.Q
open Go.Proofs
attribute [local simp] D0 D1 fin I1 E7 K8 I3 N6 P4
def C7 (a:ByteArray):Tm:=.mk 2 a 0 (true,false) []
theorem RJ (a:H7):pc Q DV [.str a]=some (B8 (C7 a)):=by
 have hA:=Vg a 0;refine N4 Mo λfr hl h0=>?_;simp[Mo]at hl h0;simp[Mo,hl,h0,hA,I9];rfl
def rL (k:Tm):Nar:=⟨bs [80],(true,true),[bs [65],bs [66]],(true,true),[⟨bs [65],bs [110],2⟩,⟨bs [65],bs [107],3⟩],(true,false),[],(true,true),[⟨bs [65],bs [66],Y4 (bs [101,110,99]) (false,true) [C7 (bs [110]),k],0⟩,⟨bs [66],bs [65],C7 (bs [110]),0⟩],(true,false),[]⟩
theorem SV (k:Tm):pc Q El [B8 k]=some (V8 (rL k)):=by
 have hR:=RJ (bs [110]);have hA:=RI (bs [101,110,99]) (true,true) [C7 (bs [110]),k] (by simp) (by simp);rw[show A3 [C7 (bs [110]),k]=[B8 (C7 (bs [110])),B8 k] from rfl]at hA;refine N4 HY λfr hl h0=>?_;simp[HY]at hl h0;simp[HY,hl,h0,hR,hA,A4,D2,E8,I9];rfl
def GX:Nar:=rL (Y4 (bs [115,104,107]) (false,true) [C7 (bs [65]),C7 (bs [66])])
def Iy:Nar:=rL (C7 (bs [107]))
def NZ:Tm:=.mk 2 (bs [110]) 2 (true,false) []
theorem aq:(Al GX).2=0:=by kernel_rfl
theorem ar:(Al Iy).2=0:=by kernel_rfl
theorem Kl:Hk GX=0:=by kernel_rfl
theorem VP:Hk Iy=0:=by kernel_rfl
def fN (n:Nar):ByteArray->Int:=H5 (B5 n) (E4 n)
theorem Nz:On (DD (fN GX) GX)=DD (fN GX) GX:=by kernel_rfl
theorem ZK:On (DD (fN Iy) Iy)=DD (fN Iy) Iy:=by kernel_rfl
theorem au (k:Tm) (hk:k.size<=100):Fine (rL k) where
 name:=of_decide_eq_true (by kernel_rfl)
 roles:=of_decide_eq_true (by kernel_rfl)
 rolesL:=of_decide_eq_true (by kernel_rfl)
 fresh:=of_decide_eq_true (by kernel_rfl)
 freshL:=of_decide_eq_true (by kernel_rfl)
 tags:=of_decide_eq_true (by kernel_rfl)
 tagsL:=of_decide_eq_true (by kernel_rfl)
 steps:=by
  intro s hs;rcases yC.1 hs with rfl|hs
  .refine⟨of_decide_eq_true (by kernel_rfl),of_decide_eq_true (by kernel_rfl),?_⟩;simp only[Y4,C7,Tm.size,Tm.sizes];omega
  .rw[xn.1 hs];exact⟨of_decide_eq_true (by kernel_rfl),of_decide_eq_true (by kernel_rfl),of_decide_eq_true (by kernel_rfl)⟩
 stepsL:=of_decide_eq_true (by kernel_rfl)
 goals:=λg hg=>nomatch hg
 goalsL:=of_decide_eq_true (by kernel_rfl)
theorem bD (k:Tm):Lens (rL k) where
 names:=of_decide_eq_true (by kernel_rfl)
 steps:=of_decide_eq_true (by kernel_rfl)
 goals:=of_decide_eq_true (by kernel_rfl)
 data:=λg hg=>nomatch hg
theorem dA {n:Nar} (hd:Hk n=0) (he:On (DD (fN n) n)=DD (fN n) n) {me:H7} {role i:Nat} {t:Tm} {b:Bool} (hme:n.roles[role]?=some me)
  (h:ZH (Kv (true,true) (DD (fN n) n) n me role i) t=(true,b)):U1 (JA (fN n) n me role i) t=(0,b):=by
 rw[NH (k':=Kv (true,true) (DD (fN n) n) n me role i) (by rw[Rt hd he hme];exact(Kw hd he hme i).symm) rfl];exact Rg h
theorem ZL {kf:ByteArray->Nat->List Tm} {i:Nat} {s:Ste} {l:List Ste} (h:U1 (kf s.frm i) s.msg=(0,true)):TM kf i (s::l)=TM kf (i+1) l:=by
 rw[TM,h];rfl
theorem mj {kf:ByteArray->Nat->List Tm} {i:Nat} {s:Ste} {l:List Ste} (h:U1 (kf s.frm i) s.msg=(0,false)) (ha:alls [s.msg]=[s.msg]):VN (TM kf i (s::l))=((i:Int),D5 s.msg,13):=by
 have hS:O1 [s.msg] (alls [s.msg]):=by rw[ha];exact Tl _ (yE _)
 have hs:=RR (k:=kf s.frm i) (k':=kf s.frm i) rfl (i:Int) (RQ hS rfl);have h1:JC (kf s.frm i) (i:Int) [s.msg]=some ((i:Int),s.msg,13):=by rw[JC,h];rfl
 rw[h1]at hs;obtain⟨y,hy,hye⟩:∃y,JC (kf s.frm i) (i:Int) (PR s.msg)=some y/\VN ((i:Int),s.msg,(13:Int))=VN y:=by
  cases hq:JC (kf s.frm i) (i:Int) (PR s.msg)with
  |none=>rw[hq]at hs;simp at hs
  |some y=>rw[hq]at hs;exact⟨y,rfl,by simpa using hs⟩
 rw[TM,h,hy];exact hye.symm
theorem ju:Oq GX=(0,D5 Yx,0):=by
 have q0:U1 (JA (fN GX) GX (bs [65]) 0 0) (Y7 (fN GX) (Y4 (bs [101,110,99]) (false,true) [C7 (bs [110]),Y4 (bs [115,104,107]) (false,true) [C7 (bs [65]),C7 (bs [66])]]))=(0,true):=dA Kl Nz rfl (by kernel_rfl);have q1:U1 (JA (fN GX) GX (bs [66]) 1 1) (Y7 (fN GX) (C7 (bs [110])))=(0,true):=dA Kl Nz rfl (by kernel_rfl);have r0:LL GX.roles (bs [65])=0:=by kernel_rfl
 have r1:LL GX.roles (bs [66])=1:=by kernel_rfl
 have q0':U1 (JA (fN GX) GX (bs [65]) (LL GX.roles (bs [65])) 0) (Y7 (fN GX) (Y4 (bs [101,110,99]) (false,true) [C7 (bs [110]),Y4 (bs [115,104,107]) (false,true) [C7 (bs [65]),C7 (bs [66])]]))=(0,true):=by rw[r0];exact q0
 have q1':U1 (JA (fN GX) GX (bs [66]) (LL GX.roles (bs [66])) 1) (Y7 (fN GX) (C7 (bs [110])))=(0,true):=by rw[r1];exact q1
 unfold Oq;rw[if_neg (by rw[aq];simp)];refine(congrArg VN (ZL (kf:=λme i=>JA (fN GX) GX me (LL GX.roles me) i) q0')).trans ?_;refine(congrArg VN (ZL (kf:=λme i=>JA (fN GX) GX me (LL GX.roles me) i) q1')).trans ?_;rfl
theorem jy:Oq Iy=(1,D5 NZ,13):=by
 have q0:U1 (JA (fN Iy) Iy (bs [65]) 0 0) (Y7 (fN Iy) (Y4 (bs [101,110,99]) (false,true) [C7 (bs [110]),C7 (bs [107])]))=(0,true):=dA VP ZK rfl (by kernel_rfl);have q1:U1 (JA (fN Iy) Iy (bs [66]) 1 1) (Y7 (fN Iy) (C7 (bs [110])))=(0,false):=dA VP ZK rfl (by kernel_rfl);have r0:LL Iy.roles (bs [65])=0:=by kernel_rfl
 have r1:LL Iy.roles (bs [66])=1:=by kernel_rfl
 have q0':U1 (JA (fN Iy) Iy (bs [65]) (LL Iy.roles (bs [65])) 0) (Y7 (fN Iy) (Y4 (bs [101,110,99]) (false,true) [C7 (bs [110]),C7 (bs [107])]))=(0,true):=by rw[r0];exact q0
 have q1':U1 (JA (fN Iy) Iy (bs [66]) (LL Iy.roles (bs [66])) 1) (Y7 (fN Iy) (C7 (bs [110])))=(0,false):=by rw[r1];exact q1
 unfold Oq;rw[if_neg (by rw[ar];simp)];refine(congrArg VN (ZL (kf:=λme i=>JA (fN Iy) Iy me (LL Iy.roles me) i) q0')).trans ?_;refine(mj (kf:=λme i=>JA (fN Iy) Iy me (LL Iy.roles me) i) q1' rfl).trans ?_;have:D5 (Y7 (fN Iy) (C7 (bs [110])))=D5 NZ:=by kernel_rfl
 exact congrArg (λx=>((1:Int),x,(13:Int))) this
theorem jv:LB GX 0 NZ=(0,0):=by
 have q0:U1 (JA (fN GX) GX (bs [65]) 0 0) NZ=(0,true):=dA Kl Nz rfl (by kernel_rfl);have ha:Nt GX 0 0=0:=by kernel_rfl
 unfold LB;rw[if_neg (by rw[ha];simp)];show IN (JA (fN GX) GX (bs [65]) 0) NZ 0 3=_;rw[IN,q0];rfl
theorem jw:LB GX 1 NZ=(1,0):=by
 have q0:U1 (JA (fN GX) GX (bs [66]) 1 0) NZ=(0,false):=dA Kl Nz rfl (by kernel_rfl);have q1:U1 (JA (fN GX) GX (bs [66]) 1 1) NZ=(0,true):=dA Kl Nz rfl (by kernel_rfl);have ha:Nt GX 1 0=0:=by kernel_rfl
 unfold LB;rw[if_neg (by rw[ha];simp)];show IN (JA (fN GX) GX (bs [66]) 1) NZ 0 3=_;rw[IN,q0,IN,q1];rfl
def jQ (k:List Tm):Nat->Tm->Option (List Tm)
 |0,_=>some []
 |n+1,t =>
  if Ct t (bs [112,97,105,114])=true then (match jQ k n (N3 t 0),jQ k n (N3 t 1)with|some a,some b=>some (a++b)|_,_=>none)
  else if Ct t (bs [115,105,103,110])=true then jQ k n (N3 t 0)
  else if Ct t (bs [101,110,99])=true then (if ZH k (N3 t 1)=(true,true)then jQ k n (N3 t 0)else if ZH k (N3 t 1)=(true,false)then some [t]else none)
  else if Ct t (bs [97,101,110,99])=true then none
  else if Ct t (bs [104,97,115,104])=true then none else some []
theorem Og {k:I2}:∀(N:Nat) {t:Tm} {l:I2},jQ k N t=some l->JK k N t=l
 |0,_,_,h=>by rw[jQ]at h;exact Option.some.inj h
 |N+1,t,l,h=>by
  rw[jQ]at h;rw[JK];by_cases c1:Ct t (bs [112,97,105,114])=true
  .rw[if_pos c1]at h ⊢;cases h1:jQ k N (N3 t 0)with
   |none=>rw[h1]at h;cases h
   |some a =>
    cases h2:jQ k N (N3 t 1)with
    |none=>rw[h1,h2]at h;cases h
    |some b =>
     rw[h1,h2]at h;rw[Og N h1,Og N h2];exact Option.some.inj h
  .rw[if_neg c1]at h ⊢;by_cases c2:Ct t (bs [115,105,103,110])=true
   .rw[if_pos c2]at h ⊢;exact Og N h
   .rw[if_neg c2]at h ⊢;by_cases c3:Ct t (bs [101,110,99])=true
    .rw[if_pos c3]at h ⊢;by_cases d1:ZH k (N3 t 1)=(true,true)
     .rw[if_pos d1]at h;rw[Rg d1,if_pos rfl];exact Og N h
     .rw[if_neg d1]at h;by_cases d2:ZH k (N3 t 1)=(true,false)
      .rw[if_pos d2]at h;rw[Rg d2,if_neg (by simp)];exact Option.some.inj h
      .rw[if_neg d2]at h;cases h
    .rw[if_neg c3]at h ⊢;by_cases c4:Ct t (bs [97,101,110,99])=true
     .rw[if_pos c4]at h;cases h
     .rw[if_neg c4]at h ⊢;by_cases c5:Ct t (bs [104,97,115,104])=true
      .rw[if_pos c5]at h;cases h
      .rw[if_neg c5]at h ⊢;exact Option.some.inj h
theorem VG {n:Nar} (hd:Hk n=0) (he:On (DD (fN n) n)=DD (fN n) n) {i N:Nat} {s:Ste} (hs:(n.steps.map (Dd (fN n)))[i]?=some s) (hme:n.roles[LL n.roles s.to]?=some s.to) {l:I2}
  (hN:s.msg.size=N) (h:jQ (Kv (true,true) (DD (fN n) n) n s.to (LL n.roles s.to) (i+1)) N s.msg=some l):(Kg n i).length=l.length:=by
 have h1:=Og N h;have h2:=congrArg List.length (fb (k:=JA (fN n) n s.to (LL n.roles s.to) (i+1)) (k':=Kv (true,true) (DD (fN n) n) n s.to (LL n.roles s.to) (i+1)) (by rw[Rt hd he hme];exact(Kw hd he hme _).symm) N (rfl:D5 s.msg=D5 s.msg));rw[h1,xr,xr]at h2;rw[←h2];unfold Kg;change (match (n.steps.map (Dd (fN n)))[i]? with|some s=>_|none=>_:List Tm).length=_
 rw[hs];show (mO _ s.msg).length=_;unfold mO;rw[hN];rfl
theorem mh:(Kg GX 0).length=0:=VG (l:=[]) Kl Nz rfl (by kernel_rfl) rfl (by kernel_rfl)
theorem mi:(Kg GX 1).length=0:=VG (l:=[]) Kl Nz rfl (by kernel_rfl) rfl (by kernel_rfl)
theorem fx:(Kg Iy 0).length=1:=VG (l:=[Y7 (fN Iy) (Y4 (bs [101,110,99]) (false,true) [C7 (bs [110]),C7 (bs [107])])]) VP ZK rfl (by kernel_rfl) rfl (by kernel_rfl)
theorem jx:WH GX=true:=by
 unfold WH;rw[decide_eq_true aq,yB,xw];intro i hi;have:=xz.1 hi;change i<2 at this;have h2:i=0\/i=1:=by omega
 rcases h2 with rfl|rfl
 .rw[xp mh];rfl
 .rw[xp mi];rfl
theorem jz:WH Iy=false:=by
 unfold WH;rw[decide_eq_true ar,yB,List.all_eq_false];refine⟨0,xz.2 (by decide),?_⟩;have:=fx;cases h:Kg Iy 0 with
 |nil=>rw[h]at this;cases this
 |cons a l=>simp
theorem UW:GoodT NZ:=(NA (m:=(true,false)) (a:=bs [110]) (s:=2) ⟨by kernel_rfl,by kernel_rfl⟩ (by omega) (by omega)).good (of_decide_eq_true (by kernel_rfl))
theorem iI:pc Q EY []=some (.bool true):=by
 have a1:=RJ (bs [65]);have a2:=RJ (bs [66]);have a3:=RJ (bs [107]);have a4:=RI (bs [115,104,107]) (true,true) [C7 (bs [65]),C7 (bs [66])] (by simp) (by simp);rw[show A3 [C7 (bs [65]),C7 (bs [66])]=[B8 (C7 (bs [65])),B8 (C7 (bs [66]))] from rfl]at a4;have a5:=SV (Y4 (bs [115,104,107]) (false,true) [C7 (bs [65]),C7 (bs [66])]);have a6:=SV (C7 (bs [107]));change _=some (V8 GX)at a5;change _=some (V8 Iy)at a6;have a7:=Vg (bs [110]) 2;change _=some (B8 NZ)at a7;have FA:Fine GX:=au _ (of_decide_eq_true (by kernel_rfl));have FB:Fine Iy:=au _ (of_decide_eq_true (by kernel_rfl));have SA:Lens GX:=bD _;have SB:Lens Iy:=bD _;obtain⟨tA,b1,b2⟩:=bU GX FA SA;obtain⟨tB,b3,b4⟩:=bU Iy FB SB;rw[ju]at b1 b2;rw[jy]at b3 b4;have c1:=Pw GX FA SA 0 NZ UW;have c2:=Pw GX FA SA 1 NZ UW;rw[jv]at c1;rw[jw]at c2;have d1:=Xl GX FA SA;have d2:=Xl Iy FB SB;rw[jx]at d1;rw[jz]at d2;obtain⟨m,l,e1,e2,-⟩:=eN Iy FB SB 1 0;have hb:ZE Iy 1 0=0:=by kernel_rfl
 obtain⟨e3,-,-⟩:=e2 hb;rw[hb]at e1;have B4:l.length=1:=by
  have h1:=RW e3;have h2:=Tj e3;change l.length<=(Kg Iy 0).length at h1;change l=[]↔Kg Iy 0=[]at h2;have h3:=fx;cases l with
  |nil=>rw[h2.1 rfl]at h3;cases h3
  |cons a l=>simp only[List.length_cons]at h1 ⊢;omega
 have K4:tB.size<=1099511627776:=by rw[←CK _ tB (yE _),b4];exact of_decide_eq_true (by kernel_rfl)
 have hS:=bV tB NZ K4 (of_decide_eq_true (by kernel_rfl));rw[show GW tB NZ=true from by unfold GW;rw[decide_eq_true_iff,AF,b4]]at hS;have nA:=U9 GX;have nB:=U9 Iy;have tl:(A3 l).length=1:=by rw[D7,xr];exact B4
 generalize GX=xA at *
 generalize Iy=xB at *
 generalize NZ=xT at *
 simp only at b1 b3 c1 c2;refine WM Qt rfl (by simp[HE]) λfr hl ha=>?_;clear ha;simp[HE]at hl ;simp[HE,hl,a1,a2,a3,a4,a5,a6,a7,b1,b3,c1,c2,d1,d2,e1,hS,nA,nB,tl,A4,I9]
end Go.Abs.Q
namespace Go.Abs.Q
open Go.Proofs
def Qo (nm:ByteArray) (l:List Tm):Tm:=.mk 3 nm 0 (false,false) l
def lq (a:ByteArray) (s:Int):Tm:=.mk 2 a s (false,false) []
def Jp:List Tm->Tm
 | []=>Yw
 | [t]=>t
 |t::u::l=>Y4 (bs [112,97,105,114]) (false,true) [t,Jp (u::l)]
def ev:List Tm->Tm
 | []=>Yw
 | [t]=>t
 |t::u::l=>Qo (bs [112,97,105,114]) [t,ev (u::l)]
def IY (fm:Int) (a b:ByteArray) (t:Tm) (us:List ByteArray):Tm :=
 if fm=1 then Y4 (bs [101,110,99]) (false,true) [t,Y4 (bs [115,104,107]) (false,true) [C7 a,C7 b]]
 else if fm=2 then Y4 (bs [97,101,110,99]) (false,true) [t,Y4 (bs [112,107]) (false,true) [Y4 (bs [115,107]) (false,true) [C7 b]]]
 else if fm=3 then Y4 (bs [115,105,103,110]) (false,true) [t,Y4 (bs [115,107]) (false,true) [C7 a]]
 else if fm=4 then Y4 (bs [101,110,99]) (false,true) [t,Y4 (bs [115,104,107]) (false,true) [C7 b,C7 a]]
 else if fm=5 then match us.getLast? with
  |some u=>Y4 (bs [112,97,105,114]) (false,true) [t,Y4 (bs [104,97,115,104]) (false,true) [Y4 (bs [112,97,105,114]) (false,true) [C7 u,Y4 (bs [115,104,107]) (false,true) [C7 b,C7 a]]]]
  |none=>t
 else t
def Uh (fm:Int) (a b:ByteArray) (t:Tm) (o:Option Tm):Tm :=
 if fm=1 then Qo (bs [101,110,99]) [t,Sn a b]
 else if fm=2 then Qo (bs [97,101,110,99]) [t,Pz b]
 else if fm=3 then Qo (bs [115,105,103,110]) [t,Qu a]
 else if fm=4 then Qo (bs [101,110,99]) [t,Sn b a]
 else if fm=5 then match o with
  |some x=>Qo (bs [112,97,105,114]) [t,Qo (bs [104,97,115,104]) [Qo (bs [112,97,105,114]) [x,Sn b a]]]
  |none=>t
 else t
theorem Ic (f:ByteArray->Int) (nm:H7) (m:I8) (l:I2):Y7 f (Y4 nm m l)=Qo nm (l.map (Y7 f)):=by
 unfold Y4 Qo;rw[Y7,if_neg (by decide),KX]
theorem PQ (f:ByteArray->Int) (a:H7):Y7 f (C7 a)=lq a (f a):=by
 unfold C7 lq;rw[Y7,if_pos rfl];rfl
theorem bo (f:ByteArray->Int):∀l:List Tm,l≠[]->Y7 f (Jp l)=ev (l.map (Y7 f))
 | [],h=>absurd rfl h
 | [t],_=>rfl
 |t::u::l,_=>by
  rw[Jp,Ic,xl,xl,List.map_nil,bo f (u::l) (by simp)];rfl
theorem iw (f:ByteArray->Int) {a:H7} (h:f a=1):Y7 f (Y4 (bs [115,107]) (false,true) [C7 a])=Qu a:=by
 rw[Ic,xl,PQ,h];rfl
theorem oT (f:ByteArray->Int) {a:H7} (h:f a=1):Y7 f (Y4 (bs [112,107]) (false,true) [Y4 (bs [115,107]) (false,true) [C7 a]])=Pz a:=by
 rw[Ic,xl,iw f h];rfl
theorem aG (f:ByteArray->Int) {a b:H7} (h:f a=1) (h':f b=1):Y7 f (Y4 (bs [115,104,107]) (false,true) [C7 a,C7 b])=Sn a b:=by
 rw[Ic,xl,xl,PQ,PQ,h,h'];rfl
theorem iv (f:ByteArray->Int) {a b:H7} (ha:f a=1) (hb:f b=1) (fm:Int) (t:Tm) (us:List ByteArray) :
  Y7 f (IY fm a b t us)=Uh fm a b (Y7 f t) (us.getLast?.map λu=>lq u (f u)):=by
 unfold IY Uh;split
 .rw[Ic,xl,xl,aG f ha hb];rfl
 .split
  .rw[Ic,xl,xl,oT f hb];rfl
  .split
   .rw[Ic,xl,xl,iw f ha];rfl
   .split
    .rw[Ic,xl,xl,aG f hb ha];rfl
    .split
     .cases us.getLast? with
      |none=>rfl
      |some u =>
       simp only[Option.map_some];rw[Ic,xl,xl,Ic,xl,Ic,xl,xl,PQ,aG f hb ha];rfl
     .rfl
def cE (U:List Tm) (t:Tm):Prop:=∀x∈EH t,x∈U
theorem cE.self {U:I2} {t:Tm} (h:cE U t):t∈U:=h t (by rw[Ac];exact xk)
theorem cE.kid {U:I2} {t x:Tm} (h:cE U t) (hx:x∈t.kids):cE U x:=λy hy=>h y (by
 rw[Ac,J1];exact xm _ (List.mem_flatMap.2 ⟨x,hx,hy⟩))
theorem MK (t:Tm):GW t t=true:=by
 unfold GW;rw[decide_eq_true_iff,AF]
theorem Pl (nm:H7) (l:I2):Ct (Qo nm l) nm=true:=by simp[Ct,Qo,Tm.kind,Tm.name]
theorem NK {nm nm':H7} (h:nm≠nm') (l:I2):Ct (Qo nm l) nm'=false:=by simp[Ct,Qo,Tm.kind,Tm.name,h]
section
variable {S U:List Tm}
theorem Rw {t:Tm} (h:t∈S):Kn S U (D5 t):=Kn.base _ (xq h)
theorem Rx {T:I2} {t u:Tm} (hu:u∈U) (hT:∀x∈T,Kn S U (D5 x)) (ht:t∈T) (ho:IV T u t=true):Kn S U (D5 u):=by
 refine Kn.step T (λe he=>?_) u hu ?_
 .obtain⟨x,hx,rfl⟩:=yD.1 he;exact hT x hx
 .have:Hw T u=true:=List.any_eq_true.2 ⟨t,ht,ho⟩;unfold Ec;rw[this];simp
theorem bB {x y:Tm} (h:Kn S U (D5 (Qo (bs [112,97,105,114]) [x,y]))) (hU:cE U (Qo (bs [112,97,105,114]) [x,y])):Kn S U (D5 x)/\Kn S U (D5 y):=by
 have hx:x∈U:=(hU.kid (x:=x) (xk)).self;have hy:y∈U:=(hU.kid (x:=y) (xm _ xk)).self;refine⟨Rx hx (NW h) (xn.2 rfl) ?_,Rx hy (NW h) (xn.2 rfl) ?_⟩
 .unfold IV;rw[if_pos (Pl _ _)];show (GW x x||GW y x)=true;rw[MK];rfl
 .unfold IV;rw[if_pos (Pl _ _)];show (GW x y||GW y y)=true;rw[MK];simp
theorem kR {x y:Tm} (h:Kn S U (D5 (Qo (bs [115,105,103,110]) [x,y]))) (hU:cE U (Qo (bs [115,105,103,110]) [x,y])):Kn S U (D5 x):=by
 have hx:x∈U:=(hU.kid (x:=x) (xk)).self;refine Rx hx (NW h) (xn.2 rfl) ?_;unfold IV;rw[if_neg (by rw[NK (by decide)];simp),if_pos (Pl _ _)];exact MK x
theorem gR {x y:Tm} (h:Kn S U (D5 (Qo (bs [101,110,99]) [x,y]))) (hy:Kn S U (D5 y)) (hU:cE U (Qo (bs [101,110,99]) [x,y])):Kn S U (D5 x):=by
 have hx:x∈U:=(hU.kid (x:=x) (xk)).self;refine Rx (T:=[Qo (bs [101,110,99]) [x,y],y]) hx (Hj h hy) xk ?_;unfold IV NX;rw[if_neg (by rw[NK (by decide)];simp),if_neg (by rw[NK (by decide)];simp),if_pos (Pl _ _)];show (GW x x&&P2 _ y)=true;rw[MK,s9.2 (xq (xm _ xk))];rfl
theorem kP {x:Tm} {b:H7} (h:Kn S U (D5 (Qo (bs [97,101,110,99]) [x,Pz b]))) (hy:Kn S U (D5 (Qu b))) (hU:cE U (Qo (bs [97,101,110,99]) [x,Pz b])):Kn S U (D5 x):=by
 have hx:x∈U:=(hU.kid (x:=x) (xk)).self;refine Rx (T:=[Qo (bs [97,101,110,99]) [x,Pz b],Qu b]) hx (Hj h hy) xk ?_;have e1:Ct (N3 (Qo (bs [97,101,110,99]) [x,Pz b]) 1) (bs [112,107])=true:=Pl (bs [112,107]) [Qu b];unfold IV NX;rw[if_neg (by rw[NK (by decide)];simp),if_neg (by rw[NK (by decide)];simp),if_neg (by rw[NK (by decide)];simp),e1,Pl];show (GW x x&&P2 _ (Qu b))=true;rw[MK,s9.2 (xq (xm _ xk))];rfl
theorem gS:∀l:List Tm,Kn S U (D5 (ev l))->cE U (ev l)->∀x∈l,Kn S U (D5 x)
 | [],_,_,x,hx=>nomatch hx
 | [t],h,_,x,hx=>by rw[xn.1 hx];exact h
 |t::u::l,h,hU,x,hx=>by
  obtain⟨h1,h2⟩:=bB (x:=t) (y:=ev (u::l)) h hU;rcases yC.1 hx with rfl|hx
  .exact h1
  .exact gS (u::l) h2 (hU.kid (xm _ xk)) x hx
theorem kQ {fm:Int} {a b:H7} {t:Tm} {o:Option Tm} (h:Kn S U (D5 (Uh fm a b t o))) (hU:cE U (Uh fm a b t o)) (k1:Kn S U (D5 (Sn a b))) (k2:Kn S U (D5 (Qu b))) (k3:Kn S U (D5 (Sn b a))) :
  Kn S U (D5 t)/\cE U t:=by
 unfold Uh at h hU;split at h
 .rename_i c;rw[if_pos c]at hU;exact⟨gR h k1 hU,hU.kid xk⟩
 .rename_i c;rw[if_neg c]at hU;split at h
  .rename_i c;rw[if_pos c]at hU;exact⟨kP h k2 hU,hU.kid xk⟩
  .rename_i c;rw[if_neg c]at hU;split at h
   .rename_i c;rw[if_pos c]at hU;exact⟨kR h hU,hU.kid xk⟩
   .rename_i c;rw[if_neg c]at hU;split at h
    .rename_i c;rw[if_pos c]at hU;exact⟨gR h k3 hU,hU.kid xk⟩
    .rename_i c;rw[if_neg c]at hU;split at h
     .rename_i c;rw[if_pos c]at hU;cases o with
      |none=>exact⟨h,hU⟩
      |some x=>exact⟨(bB h hU).1,hU.kid xk⟩
     .rename_i c;rw[if_neg c]at hU;exact⟨h,hU⟩
end
def uA (k:List Tm):Prop:=k.length<=60/\Tm.sizes k<=150
theorem Wn {k:I2} {t:Tm} (hk:uA k) (ht:t.size<=50):(U1 k t).1=0:=by
 unfold U1;have h1:=ae k t;rw[Cf,Tm.sizes_append,show Tm.sizes [t]=t.size from rfl]at h1;have h2:=hk.1;have h3:=hk.2;rw[if_neg (by omega)]
open Classical in
theorem fu {k:I2} {t:Tm} (hk:uA k) (ht:t.size<=50) (h:PW k t):U1 k t=(0,true):=by
 have h1:=Wn hk ht;unfold U1 at h1 ⊢;split at h1
 .cases h1
 .rename_i hc;rw[if_neg hc,@decide_eq_true _ (Classical.propDecidable _) h]
end Go.Abs.Q
