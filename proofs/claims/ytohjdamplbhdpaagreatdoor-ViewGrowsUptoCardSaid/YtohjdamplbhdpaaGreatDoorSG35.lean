/- A part of the proof. -/
import Derived.Test.YtohjdamplbhdpaaGreatDoorSG34
set_option linter.all false
open List renaming getElem?_eq_getElem->xk,getElem?_cons_succ->xl,mem_of_getElem?->xm,length_cons->xn,length_take->xo,length_map->xq,length_nil->xr,getElem_mem->xt,getElem?_eq_some_iff->xw,mem_singleton->xy,set_cons_zero->xz,getElem?_cons_zero->yA,getElem_cons_succ->yB,getElem_cons_zero->yC,getElem?_zipWith->yD,getElem_toArray->yE,mem_append->yF,drop_succ_cons->yG,take_succ_cons->yH,mem_cons_self->yI,set_cons_succ->yJ,getD_eq_getElem?_getD->yK,getElem?_append_right->yL,map_cons->yM,getElem?_set->yN,getElem?_append_left->yO,map_nil->yP,drop_zero->yQ,length_singleton->yR,take_zero->yS,length_append->yT,getElem?_inj->yU,cons_append->yW,nil_append->yX
open Int renaming eq_ofNat_of_zero_le->xp
open Nat renaming mod_lt->xu,le_refl->yV,zero_mod->yY
namespace Go.Abs.Q
open Go.Proofs
open Go.Proofs.YtohjdamplbhdpaaGreatDoor (Rows.uptoBulk Rows.uptoBulkAll)
theorem vU:Tryz.prog.cellsOf 5=1:=by kernel_rfl
theorem ql:Tryz.prog.cellsOf 4=1:=by kernel_rfl
theorem qq:Tryz.prog.cellsOf 47=1:=by kernel_rfl
theorem qo:Tryz.prog.cellsOf 86=4:=by kernel_rfl
theorem qp:Tryz.prog.cellsOf 48=1:=by kernel_rfl
theorem qm:Tryz.prog.cellsOf 97=4:=by kernel_rfl
theorem qn:Tryz.prog.cellsOf 49=1:=by kernel_rfl
theorem vS:Tryz.prog.cellsOf 51=4:=by kernel_rfl
variable {w:World}
theorem tw {x:Int} (h:(Lit.int .u8 x).wf=true):U8 x:=by
 have h':(decide (IntKind.min .u8<=x)&&decide (x<=IntKind.max .u8))=true:=h;rw[Bool.and_eq_true,decide_eq_true_eq,decide_eq_true_eq]at h';have a1:IntKind.min .u8=0:=by kernel_rfl
 have a2:IntKind.max .u8=255:=by kernel_rfl
 rw[a1,a2]at h';unfold U8;omega
theorem HQ (n:Nat):Nf Tryz.prog w 5 (λi:Int=>[.int .u8 i]) U8 (λ_=>1) n:=by
 intro H enc cs x hx;obtain⟨i,h1,h2,h3⟩:=Pv (w:=w) Tryz.underlying5 n enc _ _ hx;exact⟨i,tw h1,h2,h3⟩
theorem Yh {α:Type} (l:List α):(l.map λ_=>1).sum=l.length:=by
 induction l with
 |nil=>rfl
 |cons a l ih=>rw[yM,List.sum_cons,ih,xn];omega
theorem UY (n:Nat):Nf Tryz.prog w 47 (λys:Bool×List Int=>[sl (false,ys.1) 1 (ys.2.map (.int .u8))]) (λys=>∀a∈ys.2,U8 a) (λys=>ys.2.length+1) n:=by
 intro H enc cs x hx;cases n with
 |zero=>simp[DataW.trod]at hx
 |succ n =>
  obtain⟨ys,h0,h1,h2⟩:=MZ (w:=w) (enc:=AV.int .u8) Tryz.underlying47 vU (by omega) (HQ n) enc _ _ hx;dsimp only at h1;rw[Yh]at h1;exact⟨ys,h0,h1,h2⟩
def qT (m:Msg):Prop:=U8 m.frm/\U8 m.to/\U8 m.form/\∀p∈m.parts,U8 p
def nI (m:Msg):Nat:=m.parts.length+1
theorem du (n:Nat):Nf Tryz.prog w 86 (λm:Msg=>(TT m).cells) qT nI n:=by
 intro H enc cs x hx;obtain⟨m,xs,rfl,Cc,Yv,hx1,hf⟩:=LT Tryz.underlying86 qo hx;obtain⟨y0,hy0,h0⟩:=hf 0 _ rfl;obtain⟨y1,hy1,h1⟩:=hf 1 _ rfl;obtain⟨y2,hy2,h2⟩:=hf 2 _ rfl;obtain⟨y3,hy3,h3⟩:=hf 3 _ rfl;clear hf;obtain⟨v0,v1,v2,v3,rfl⟩:=dM Cc;obtain⟨z0,z1,z2,z3,rfl⟩:=dM Yv;simp only[yA,xl,Option.some.injEq]at hy0 hy1 hy2 hy3;subst hy0 hy1 hy2 hy3;simp only[yE,yC,yB,vU,qq,yQ,yG,yH,yS]at h0 h1 h2 h3;obtain⟨a,g0,w0,cv0⟩:=HQ (w:=w) m enc _ _ h0;obtain⟨b,g1,w1,cv1⟩:=HQ (w:=w) m enc _ _ h1;obtain⟨c,g2,w2,cv2⟩:=HQ (w:=w) m enc _ _ h2;obtain⟨⟨bp,ps⟩,g3,w3,cv3⟩:=UY (w:=w) m enc _ _ h3;refine⟨⟨a,b,c,(false,bp),ps⟩,⟨g0,g1,g2,g3⟩,?_,Gv cv0 (Gv cv1 (Gv cv2 cv3))⟩;rw[hx1];dsimp only at w0 w1 w2 w3;simp only[nI,yM,yP,Rows.uptoBulk,Rows.uptoBulkAll];omega
def qO (c:Clm):Prop:=U8 c.kind/\U8 c.role/\U8 c.wth/\U8 c.data
theorem dq (n:Nat):Nf Tryz.prog w 97 (λc:Clm=>(fA c).cells) qO (λ_=>1) n:=by
 intro H enc cs x hx;obtain⟨m,xs,rfl,Cc,Yv,hx1,hf⟩:=LT Tryz.underlying97 qm hx;obtain⟨y0,hy0,h0⟩:=hf 0 _ rfl;obtain⟨y1,hy1,h1⟩:=hf 1 _ rfl;obtain⟨y2,hy2,h2⟩:=hf 2 _ rfl;obtain⟨y3,hy3,h3⟩:=hf 3 _ rfl;clear hf;obtain⟨v0,v1,v2,v3,rfl⟩:=dM Cc;obtain⟨z0,z1,z2,z3,rfl⟩:=dM Yv;simp only[yA,xl,Option.some.injEq]at hy0 hy1 hy2 hy3;subst hy0 hy1 hy2 hy3;simp only[yE,yC,yB,vU,yQ,yG,yH,yS]at h0 h1 h2 h3;obtain⟨a,g0,w0,cv0⟩:=HQ (w:=w) m enc _ _ h0;obtain⟨b,g1,w1,cv1⟩:=HQ (w:=w) m enc _ _ h1;obtain⟨c,g2,w2,cv2⟩:=HQ (w:=w) m enc _ _ h2;obtain⟨e,g3,w3,cv3⟩:=HQ (w:=w) m enc _ _ h3;refine⟨⟨a,b,c,e⟩,⟨g0,g1,g2,g3⟩,?_,Gv cv0 (Gv cv1 (Gv cv2 cv3))⟩;rw[hx1];dsimp only at w0 w1 w2 w3;simp only[yM,yP,Rows.uptoBulk,Rows.uptoBulkAll];omega
def uO (d:Drf):Nat:=d.fresh.length+(d.steps.map nI).sum+d.goals.length
def wq (d:Drf):Prop:=(∀x∈d.fresh,U8 x)/\(∀m∈d.steps,qT m)/\∀c∈d.goals,qO c
theorem dt (n:Nat):Nf Tryz.prog w 51 (λd:Drf=>(ct d).cells) wq uO n:=by
 intro H enc cs x hx;obtain⟨m,xs,rfl,Cc,Yv,hx1,hf⟩:=LT Tryz.underlying51 vS hx;obtain⟨y0,hy0,h0⟩:=hf 0 _ rfl;obtain⟨y1,hy1,h1⟩:=hf 1 _ rfl;obtain⟨y2,hy2,h2⟩:=hf 2 _ rfl;obtain⟨y3,hy3,h3⟩:=hf 3 _ rfl;clear hf;obtain⟨v0,v1,v2,v3,rfl⟩:=dM Cc;obtain⟨z0,z1,z2,z3,rfl⟩:=dM Yv;simp only[yA,xl,Option.some.injEq]at hy0 hy1 hy2 hy3;subst hy0 hy1 hy2 hy3;simp only[yE,yC,yB,ql,qq,qp,qn,yQ,yG,yH,yS]at h0 h1 h2 h3;obtain⟨a,g0,w0,cv0⟩:=Zh (w:=w) Tryz.underlying4 m enc _ _ h0;obtain⟨⟨b1,fs⟩,g1,w1,cv1⟩:=UY (w:=w) m enc _ _ h1;cases m with
 |zero=>simp[DataW.trod]at h2
 |succ m =>
  obtain⟨⟨b2,ss⟩,g2,w2,cv2⟩:=MZ (w:=w) (enc:=TT) Tryz.underlying48 qo (by omega) (du m) enc _ _ h2;obtain⟨⟨b3,gs⟩,g3,w3,cv3⟩:=MZ (w:=w) (enc:=fA) Tryz.underlying49 qm (by omega) (dq m) enc _ _ h3;refine⟨⟨a,(false,b1),fs,(false,b2),ss,(false,b3),gs⟩,⟨g1,g2,g3⟩,?_,Gv cv0 (Gv cv1 (Gv cv2 cv3))⟩;rw[hx1];dsimp only at w0 w1 w2 w3;rw[Yh]at w3;simp only[uO,yM,yP,Rows.uptoBulk,Rows.uptoBulkAll];omega
theorem mb {d:Drf} (hg:wq d) (h:uO d<=1048576):DrOk d:=by
 obtain⟨g1,g2,g3⟩:=hg;unfold uO at h;have r1:=jD (f:=nI) (λs=>by unfold nI;omega) d.steps;refine⟨g1,by omega,λm hm=>?_,by omega,g3,by omega⟩;have:=bt (f:=nI) hm;obtain⟨a,b,c,e⟩:=g2 m hm;refine⟨a,b,c,e,?_⟩;unfold nI at this h;omega
end Go.Abs.Q
namespace Go.Abs.Q
open Go.Proofs
attribute [local simp] D0 D1 fin I1 E7 K8 I3 N6 P4
def WL (Ks:List (List ByteArray)) (Kc:List AV):List GE:=List.zipWith (λl v=>⟨false,1,l.map AV.str,v⟩) Ks Kc
theorem dC (Ks:List (List ByteArray)) (Kc:E6):(fB Ks Kc).map GE.still=WL Ks Kc:=by
 unfold fB WL;rw[List.map_zipWith];rfl
theorem Ou {Ks:List (List ByteArray)} {Kc:E6} {r:Nat} {l:List ByteArray} {v:AV} (h1:Ks[r]?=some l) (h2:Kc[r]?=some v):(WL Ks Kc)[r]?=some ⟨false,1,l.map AV.str,v⟩:=by
 unfold WL;rw[yD,h1,h2]
theorem kG (Ks:List (List ByteArray)) (Kc:E6) (r:Nat) (l:List ByteArray) (v:AV):(WL Ks Kc).set r ⟨false,1,l.map AV.str,v⟩=WL (Ks.set r l) (Kc.set r v):=by
 unfold WL;apply List.ext_getElem?;intro j;rw[yN,yD,yD,yN,yN,List.length_zipWith];by_cases h:r=j
 .subst h;by_cases h1:r<Ks.length<;>by_cases h2:r<Kc.length
  .rw[if_pos rfl,if_pos (by omega),if_pos rfl,if_pos h1,if_pos rfl,if_pos h2]
  .rw[if_pos rfl,if_neg (by omega),if_pos rfl,if_pos h1,if_pos rfl,if_neg h2]
  .rw[if_pos rfl,if_neg (by omega),if_pos rfl,if_neg h1]
  .rw[if_pos rfl,if_neg (by omega),if_pos rfl,if_neg h1]
 .rw[if_neg h,if_neg h,if_neg h]
theorem tt:∀i:Nat,i<3->(bs [116]++(bs [48,49,50]).extract i (i+1))=OR.getD i (bs []):=by
 intro i hi
 match i,hi with
 |0,_=>decide
 |1,_=>decide
 |2,_=>decide
theorem aK (i:Nat) (hi:i<3):((bs [48,49,50]).extract i (i+1)).size<=4:=by
 match i,hi with
 |0,_=>decide
 |1,_=>decide
 |2,_=>decide
def cG (fs:List Fre) (ss:List Ste) (me:ByteArray) (i:Nat) (u:ByteArray):Prop :=
 (∃f∈fs,f.role=me/\f.name=u)\/∃(j:Nat) (s:Ste),j<i/\ss[j]?=some s/\s.to=me/\∃fm tag us,Nd s fm tag us/\u∈us
theorem cG.more {fs:List Fre} {ss:List Ste} {me:H7} {i:Nat} {u:H7} (h:cG fs ss me i u) (x:Ste) {i':Nat} (hi:i<=i'):cG fs (ss++[x]) me i' u:=by
 rcases h with h|⟨j,s,h1,h2,h3⟩
 .exact .inl h
 .exact .inr ⟨j,s,by omega,by rw[yO (xw.1 h2).1];exact h2,h3⟩
structure PSt (rs:List ByteArray) (fs:List Fre) (ss:List Ste) (i:Nat) (s:Ste):Prop where
 msg:∃(fm:Int) (tag:ByteArray) (us:List ByteArray),Nd s fm tag us/\OR[i]?=some tag/\us.length<=3/\∀u∈us,cG fs ss s.frm i u/\u∈fs.map Fre.name
 frm:s.frm∈rs
 to:s.to∈rs
 ne:s.frm≠s.to
structure SdOk (rs:List ByteArray) (fs:List Fre) (ss:List Ste) (Ks:List (List ByteArray)):Prop where
 steps:∀i s,ss[i]?=some s->PSt rs fs ss i s
 ks:∀(r:Nat) (l:List ByteArray) (u:ByteArray),Ks[r]?=some l->u∈l->u∈fs.map Fre.name/\∃me,rs[r]?=some me/\cG fs ss me ss.length u
 len:∀l∈Ks,l.length<=4+3*ss.length
theorem SdOk.next {rs:List ByteArray} {fs:List Fre} {ss:List Ste} {Ks:List (List ByteArray)} (h:SdOk rs fs ss Ks) {x:Ste} {fm:Int} {tag:H7} {us:List ByteArray} (hm:Nd x fm tag us) (ht:OR[ss.length]?=some tag) (hul:us.length<=3)
  {p q:Nat} (hp:rs[p]?=some x.frm) (hq:rs[q]?=some x.to) (M5:x.frm≠x.to) {kp kq r:List ByteArray} (hkp:Ks[p]?=some kp) (hu:∀u∈us,u∈kp) (hkq:Ks[q]?=some kq) (hr:∀u∈r,u∈kq\/u∈us) (hrl:r.length<=kq.length+us.length) :
  SdOk rs fs (ss++[x]) (Ks.set q r):=by
 have old:∀u∈us,cG fs ss x.frm ss.length u/\u∈fs.map Fre.name:=λu hu'=>by
  obtain⟨h1,me,h2,h3⟩:=h.ks p kp u hkp (hu u hu');rw[hp]at h2;cases h2;exact⟨h3,h1⟩
 refine⟨λi s hs=>?_,λr' l u h1 h2=>?_,λl hl=>?_⟩
 .by_cases hi:i<ss.length
  .rw[yO hi]at hs;obtain⟨⟨fm',tag',us',a1,a2,a3,a4⟩,b1,b2,b3⟩:=h.steps i s hs;exact⟨⟨fm',tag',us',a1,a2,a3,λu hu'=>⟨(a4 u hu').1.more x (yV _),(a4 u hu').2⟩⟩,b1,b2,b3⟩
  .rw[yL (by omega)]at hs;have hi0:i-ss.length=0:=by
    have:=(xw.1 hs).1;simpa using this
   rw[hi0]at hs;cases hs;have:i=ss.length:=by omega
   subst this;exact⟨⟨fm,tag,us,hm,ht,hul,λu hu'=>⟨(old u hu').1.more x (yV _),(old u hu').2⟩⟩,xm hp,xm hq,M5⟩
 .rw[yT,yR];have hql:=(xw.1 hkq).1;by_cases hrr:q=r'
  .subst hrr;rw[List.getElem?_set_self hql]at h1;cases h1;rcases hr u h2 with hu' | hu'
   .obtain⟨g1,me,g2,g3⟩:=h.ks q kq u hkq hu';exact⟨g1,me,g2,g3.more x (by omega)⟩
   .exact⟨(old u hu').2,x.to,hq,.inr ⟨ss.length,x,by omega,by simp,rfl,fm,tag,us,hm,hu'⟩⟩
  .rw[List.getElem?_set_ne hrr]at h1;obtain⟨g1,me,g2,g3⟩:=h.ks r' l u h1 h2;exact⟨g1,me,g2,g3.more x (by omega)⟩
 .rw[yT,yR];rcases List.mem_or_eq_of_mem_set hl with hl|rfl
  .have:=h.len l hl;omega
  .have:=h.len kq (xm hkq);omega
theorem kX (d:Drf) (D:DrOk d) (L:List Unit) (hL:L.length=min (max 1 d.steps.length) 3) (rs:List ByteArray) (hrs:rs=Ui d.three) (fC:rs.Nodup) (Z:E6) (mr:I8) (vf:AV) (fs:List Fre) (Ks0:List (List ByteArray)) (Kc0:E6) (B0:List (List AV)) (hS0:SdOk rs fs [] Ks0) (hkl0:Ks0.length=rs.length) (hcl0:Kc0.length=rs.length) (fr:Fr) (h:AH) (hBX:h.boxes=Ol d::Z::[.str (bs [80]),sl mr 1 (rs.map .str),vf,.vs true 0 [],.vs true 0 [],.vs true 0 []]::Kc0::B0) (hg0:GLs h (⟨true,1,([]:List ByteArray).map .str,.vs true 0 []⟩::⟨true,7,([]:List Ste).map Cl,.vs true 0 []⟩::⟨false,3,fs.map Gy,vf⟩::WL Ks0 Kc0)) (hl:fr.length=265) (h1:A0 fr 1=.ptr 0 0) (h3:A0 fr 3=.ptr 2 0) (h4:A0 fr 4=.int .i64 rs.length) (h5:A0 fr 5=.bsl 3 1 0 rs.length) (h9:A0 fr 9=.int .i64 0) :
  C8 (lp (A1 (Q8 Q) (G7 J7) AX) (fr,h)) λe D4 h'=>Kp AX.wr fr D4/\e=.exit 2/\∃(vt vs:AV) (ss:List Ste) (Ks:List (List ByteArray)) (Kc:List AV) (B:List (List AV)),h'.boxes=Ol d::Z::[.str (bs [80]),sl mr 1 (rs.map .str),vf,vt,vs,.vs true 0 []]::Kc::B/\GLs h' (⟨true,1,(OR.take ss.length).map .str,vt⟩::⟨true,7,ss.map Cl,vs⟩::⟨false,3,fs.map Gy,vf⟩::WL Ks Kc)/\SdOk rs fs ss Ks/\1<=ss.length/\ss.length<=3/\Ks.length=rs.length/\Kc.length=rs.length:=by
 refine C3 rfl fr (λn fr h'=>∃(i:Nat),i+n=L.length/\A0 fr 9=.int .i64 (i:Nat)/\(∃(vt vs:AV) (ss:List Ste) (Ks:List (List ByteArray)) (Kc:List AV) (B:List (List AV)),h'.boxes=Ol d::Z::[.str (bs [80]),sl mr 1 (rs.map .str),vf,vt,vs,.vs true 0 []]::Kc::B/\GLs h' (⟨true,1,(OR.take i).map .str,vt⟩::⟨true,7,ss.map Cl,vs⟩::⟨false,3,fs.map Gy,vf⟩::WL Ks Kc)/\SdOk rs fs ss Ks/\ss.length=i/\Ks.length=rs.length/\Kc.length=rs.length)) ?_ L.length h ⟨0,by omega,h9,.vs true 0 [],.vs true 0 [],[],Ks0,Kc0,B0,hBX,hg0,hS0,rfl,hkl0,hcl0⟩;rintro J Φ hJ hΦ n G9 H1 K ⟨i,hi,k9,hr⟩;have B4:=K.1.trans hl;have k1:=A5 K 1 h1;have k3:=A5 K 3 h3;have k4:=A5 K 4 h4;have k5:=A5 K 5 h5;clear K;by_cases A6:i<L.length
 .have V7:=E5 i (by omega);obtain⟨vt,vs,ss,Ks,Kc,B,hB,hg,hS,Yu,CI,Cc⟩:=hr;obtain⟨bx,F⟩:=H1;simp only at hB;subst hB;have hi3:i<3:=by omega
  have hi3':(i:Int)<3:=by omega
  have him:(i:Int)<(if (d.steps.length:Int) > 1 then (d.steps.length:Int)else 1):=by split<;>omega
  have hi4:(i:Int)+1<=3:=by omega
  have hii:(i:Int)<=(i:Int)+1:=by omega
  have db:Ol d=[.bool d.three,sl d.fm 1 (d.fresh.map (.int .u8)),sl d.sm 4 (d.steps.map TT),sl d.gm 4 (d.goals.map fA)]:=rfl;have hr23:rs.length=2\/rs.length=3:=by rw[hrs];exact Vt _
  have hrl0:0<rs.length:=by omega
  obtain⟨kk,MR⟩:∃kk,rs.length=kk+1:=⟨rs.length-1,by omega⟩;have hw1:IntKind.i64.wrap ((rs.length:Int)-1)=(kk:Int):=by rw[MR,show ((kk+1:Nat):Int)-1=(kk:Int) from by omega];exact M3 (by omega) (by omega)
  have hbin:D6 .add (.str (bs [116])) (.str ((bs [48,49,50]).extract i (i+1)))=some (.str (OR.getD i (bs []))):=by
   have K4:=aK i hi3;rw[Wh (by have:(bs [116]).size=1:=rfl;omega),tt i hi3]
  have hs3:(bs [48,49,50]).size=3:=rfl;have htag:OR[i]?=some (OR.getD i (bs [])):=by
   rw[yK,xk (show i<OR.length from hi3)];rfl
  have htake:(OR.take i).map AV.str++[.str (OR.getD i (bs []))]=(OR.take (i+1)).map .str:=by
   rw[List.take_succ_eq_append_getElem (show i<OR.length from hi3),List.map_append,yK,xk (show i<OR.length from hi3)];rfl
  generalize OR.getD i (bs [])=tag at *
  have hMB:=bM (l:=Kc) (by omega);by_cases hil:i<d.steps.length
  .have hil':(i:Int)<(d.steps.length:Int):=by omega
   have hx:=H8 (f:=TT) (xk hil);obtain⟨⟨f1,f2⟩,⟨t1,t2⟩,⟨o1,o2⟩,hps,hpl⟩:=D.steps _ (xt hil);generalize d.steps[i]=m at *
   obtain⟨mf,mt,mo,mpm,mp⟩:=m;simp only at f1 f2 t1 t2 o1 o2 hps hpl;simp only[TT]at hx;obtain⟨qa,rfl⟩:=xp f1;obtain⟨qb,rfl⟩:=xp t1;have hwa:IntKind.i64.wrap (qa:Int)=(qa:Int):=M3 (by omega) (by omega);have hwb:IntKind.i64.wrap (qb:Int)=(qb:Int):=M3 (by omega) (by omega);have hra:D6 .rem (.int .i64 (qa:Int)) (.int .i64 (rs.length:Int))=some (.int .i64 ((qa % rs.length:Nat):Int)):=Bj qa rs.length hrl0;have hrb:D6 .rem (.int .i64 (qb:Int)) (.int .i64 (kk:Int))=some (.int .i64 ((qb % kk:Nat):Int)):=Bj qb kk (by omega);have hp:qa % rs.length<rs.length:=xu _ hrl0;have ht:qb % kk<kk:=xu _ (by omega);generalize qa % rs.length=p at *
   generalize qb % kk=t at *
   have hwp1:=E5 p (by omega);have hwpt:IntKind.i64.wrap ((p:Int)+1+(t:Int))=(p:Int)+1+(t:Int):=M3 (by omega) (by omega);have hrq:D6 .rem (.int .i64 ((p:Int)+1+(t:Int))) (.int .i64 (rs.length:Int))=some (.int .i64 (((p+1+t) % rs.length:Nat):Int)):=by
    have:=Bj (k:=.i64) (p+1+t) rs.length hrl0
    rwa [show ((p+1+t:Nat):Int)=(p:Int)+1+(t:Int) from by omega]at this
   have hq:(p+1+t) % rs.length<rs.length:=xu _ hrl0;have hpq:p≠(p+1+t) % rs.length:=by
    rcases hr23 with h|h<;>rw[h]at hp⊢<;>omega
   generalize (p+1+t) % rs.length=q at *
   have hplt:(p:Int)<(rs.length:Int):=by omega
   have hqlt:(q:Int)<(rs.length:Int):=by omega
   have hyp:=H8 (f:=AV.str) (xk hp);have hyq:=H8 (f:=AV.str) (xk hq);have hgp:=xk hp;have hgq:=xk hq;have M5:rs[p]≠rs[q]:=λe=>hpq ((yU hp fC).1 (by rw[hgp,hgq,e]));generalize rs[p]=np at *
   generalize rs[q]=nq at *
   have hKp:Ks[p]?=some (Ks[p]'(by omega)):=xk (by omega);have hCp:Kc[p]?=some (Kc[p]'(by omega)):=xk (by omega);have hKq:Ks[q]?=some (Ks[q]'(by omega)):=xk (by omega);have hCq:Kc[q]?=some (Kc[q]'(by omega)):=xk (by omega);have hKpl:=hS.len _ (xt (l:=Ks) (n:=p) (by omega));have hKql:=hS.len _ (xt (l:=Ks) (n:=q) (by omega));generalize Ks[p]=kp at *
   generalize Kc[p]=vp at *
   generalize Ks[q]=kq at *
   generalize Kc[q]=vq at *
   obtain⟨mkp,hfp⟩:=(hg.get (i:=p+3) (by simp only[xl];exact Ou hKp hCp)).frz;have htp:=(hg.get (i:=p+3) (by simp only[xl];exact Ou hKp hCp)).tame;obtain⟨mu,us,hBo,hul,hu⟩:=bX mkp mpm kp mp hps hpl (by omega) tag;generalize hw:Jp (C7 tag::us.map C7)=w at *
   have hPr:=bZ mo ⟨o1,o2⟩ np nq w mu us (by omega);have hmsg:Nd ⟨np,nq,IY (mo.tmod 6) np nq w us,0⟩ (mo.tmod 6) tag us:=by unfold Nd;rw[hw]
   generalize IY (mo.tmod 6) np nq w us=x at *
   obtain⟨vt',Fa,a1,a2⟩:=hg.app (c:=G7 J7) rfl (i:=0) (bytes:=16) (x:=sl (true,true) 1 [.str tag]) (ys:=[.str tag]) rfl (O5 _ _ _ _) (by simp only[G4,maxLen,xq,xn,xr,xo];omega);have a3:=a2 [];rw[xz,htake]at a3;obtain⟨vs',Fb,b1,b2⟩:=a3.app (c:=G7 J7) rfl (i:=1) (bytes:=96) (x:=sl (true,true) 7 [Cl ⟨np,nq,x,0⟩]) (ys:=[Cl ⟨np,nq,x,0⟩]) rfl (O5 _ _ _ _) (by simp only[G4,maxLen,xq,xn,xr];omega);have b3:=b2 [];rw[yJ,xz,show ss.map Cl++[Cl ⟨np,nq,x,0⟩]=(ss++[(⟨np,nq,x,0⟩:Ste)]).map Cl from by simp]at b3;obtain⟨mkq,hfq⟩:=(b3.get (i:=q+3) (by simp only[xl];exact Ou hKq hCq)).frz;have htq:=(b3.get (i:=q+3) (by simp only[xl];exact Ou hKq hCq)).tame;obtain⟨mm,r,hM,hr,hrl⟩:=Xu mkq mu kq us (by omega) (by omega);obtain⟨c1,c2⟩:=(a3.get (i:=0) rfl).cells;obtain⟨c3,c4⟩:=(b3.get (i:=1) rfl).cells;have hFp:=λB=>(hfp B true).1;have hFq:=λB=>(hfq B true).1;simp only[Cl,H3,yW,yX]at a1 b1 hFp hFq htp htq c1 c2 c3 c4;have hsp:Kc.take q++sl mm 1 (r.map .str)::Kc.drop (q+1)=Kc.set q (sl mm 1 (r.map .str)):=by rw[List.set_eq_take_append_cons_drop,if_pos (by omega)]
   have hq1:q+1<=Kc.length:=by omega
   simp[AX,B4,k1,k3,k4,k5,k9,A6,V7,db,hx,hi3',him,hii,hi4,hil',hwa,hwb,hw1,hra,hrb,hwp1,hwpt,hrq,hplt,hqlt,hyp,hyq,hbin,hs3,hMB,hCp,hCq,hFp,htp,hBo,a1,c1,c2,hPr,b1,c3,c4,hFq,htq,hM,hsp,hq1,A4,D2,E8];have d3:∀BB,GLs ⟨BB,Fb⟩ (⟨true,1,(OR.take (i+1)).map .str,vt'⟩::⟨true,7,(ss++[(⟨np,nq,x,0⟩:Ste)]).map Cl,vs'⟩::⟨false,3,fs.map Gy,vf⟩::WL (Ks.set q r) (Kc.set q (sl mm 1 (r.map .str)))):=λBB=>by
    have:=((b3.fams (h':=⟨BB,Fb⟩) rfl).lit (q+3) 1 mm (r.map .str));simp only[yJ]at this;rw[kG]at this;exact this
   exact O4 hJ ⟨i+1,by omega,by simp[B4],vt',vs',_,_,_,_,rfl,d3 _,hS.next hmsg (by rw[Yu];exact htag) hul hgp hgq M5 hKp hu hKq hr hrl,by simp[Yu],by simp[CI],by simp[Cc]⟩
  .have hil':¬(i:Int)<(d.steps.length:Int):=by omega
   obtain⟨np,nq,rt,rfl⟩:∃np nq rt,rs=np::nq::rt:=by
    match rs,hr23 with
    |a::b::l,_=>exact⟨a,b,l,rfl⟩
    | [],h=>simp at h
    | [a],h=>simp at h
   obtain⟨kp,kq,Kt,rfl⟩:∃kp kq Kt,Ks=kp::kq::Kt:=by
    match Ks,CI with
    |a::b::l,_=>exact⟨a,b,l,rfl⟩
    | [],h=>simp at h
    | [a],h=>simp at h
   obtain⟨vp,vq,Kr,rfl⟩:∃vp vq Kr,Kc=vp::vq::Kr:=by
    match Kc,Cc with
    |a::b::l,_=>exact⟨a,b,l,rfl⟩
    | [],h=>simp at h
    | [a],h=>simp at h
   have M5:np≠nq:=by
    intro e;rw[List.nodup_cons]at fC;exact fC.1 (by rw[e];exact yI)
   have hKpl:=hS.len kp yI;have hKql:=hS.len kq (List.mem_cons_of_mem _ yI);have hK2:2<=(np::nq::rt).length:=by omega
   have hyp:IU ((np::nq::rt).map AV.str) 0=some (.str np):=rfl;have hyq:IU ((np::nq::rt).map AV.str) 1=some (.str nq):=rfl;generalize hKK:(np::nq::rt).length=K at *
   have hwa:IntKind.i64.wrap 0=0:=by decide
   have hwb:IntKind.i64.wrap 1=1:=by decide
   have hra:D6 .rem (.int .i64 0) (.int .i64 (K:Int))=some (.int .i64 0):=by
    have:=Bj (k:=.i64) 0 K (by omega)
    rwa [yY]at this
   have hrb:D6 .rem (.int .i64 0) (.int .i64 (kk:Int))=some (.int .i64 0):=by
    have:=Bj (k:=.i64) 0 kk (by omega)
    rwa [yY]at this
   have hrq:D6 .rem (.int .i64 1) (.int .i64 (K:Int))=some (.int .i64 1):=by
    have:=Bj (k:=.i64) 1 K (by omega)
    rwa [Nat.mod_eq_of_lt (by omega)]at this
   have hK1:1<K:=by omega
   have hK0:0<K:=by omega
   have hK1':(1:Int)<(K:Int):=by omega
   have hgp:(np::nq::rt)[0]?=some np:=rfl;have hgq:(np::nq::rt)[1]?=some nq:=rfl;generalize hrr:np::nq::rt=rs at *
   obtain⟨mkp,hfp⟩:=(hg.get (i:=3) rfl).frz;have htp:=(hg.get (i:=3) rfl).tame;obtain⟨mu,us,hBo,hul,hu⟩:=bX mkp (true,false) kp [] (λx hx=>nomatch hx) (by simp) (by omega) tag;generalize hw:Jp (C7 tag::us.map C7)=w at *
   have hPr:=bZ 0 ⟨by omega,by omega⟩ np nq w mu us (by omega);have hmsg:Nd ⟨np,nq,IY ((0:Int).tmod 6) np nq w us,0⟩ ((0:Int).tmod 6) tag us:=by unfold Nd;rw[hw]
   generalize IY ((0:Int).tmod 6) np nq w us=x at *
   obtain⟨vt',Fa,a1,a2⟩:=hg.app (c:=G7 J7) rfl (i:=0) (bytes:=16) (x:=sl (true,true) 1 [.str tag]) (ys:=[.str tag]) rfl (O5 _ _ _ _) (by simp only[G4,maxLen,xq,xn,xr,xo];omega);have a3:=a2 [];rw[xz,htake]at a3;obtain⟨vs',Fb,b1,b2⟩:=a3.app (c:=G7 J7) rfl (i:=1) (bytes:=96) (x:=sl (true,true) 7 [Cl ⟨np,nq,x,0⟩]) (ys:=[Cl ⟨np,nq,x,0⟩]) rfl (O5 _ _ _ _) (by simp only[G4,maxLen,xq,xn,xr];omega);have b3:=b2 [];rw[yJ,xz,show ss.map Cl++[Cl ⟨np,nq,x,0⟩]=(ss++[(⟨np,nq,x,0⟩:Ste)]).map Cl from by simp]at b3;obtain⟨mkq,hfq⟩:=(b3.get (i:=4) rfl).frz;have htq:=(b3.get (i:=4) rfl).tame;obtain⟨mm,r,hM,hr,hrl⟩:=Xu mkq mu kq us (by omega) (by omega);obtain⟨c1,c2⟩:=(a3.get (i:=0) rfl).cells;obtain⟨c3,c4⟩:=(b3.get (i:=1) rfl).cells;have hFp:=λB=>(hfp B true).1;have hFq:=λB=>(hfq B true).1;simp only[Cl,H3,yW,yX]at a1 b1 hFp hFq htp htq c1 c2 c3 c4;simp only[yP]at hBo;simp[AX,B4,k1,k3,k4,k5,k9,A6,V7,db,hi3',him,hii,hi4,hil',hwa,hwb,hw1,hra,hrb,hrq,hK0,hK1,hK1',hyp,hyq,hbin,hs3,hFp,htp,hBo,a1,c1,c2,hPr,b1,c3,c4,hFq,htq,hM,A4,D2,E8];have d3:∀BB,GLs ⟨BB,Fb⟩ (⟨true,1,(OR.take (i+1)).map .str,vt'⟩::⟨true,7,(ss++[(⟨np,nq,x,0⟩:Ste)]).map Cl,vs'⟩::⟨false,3,fs.map Gy,vf⟩::WL (kp::r::Kt) (vp::sl mm 1 (r.map .str)::Kr)):=λBB=>(b3.fams (h':=⟨BB,Fb⟩) rfl).lit 4 1 mm (r.map .str);exact O4 hJ ⟨i+1,by omega,by simp[B4],vt',vs',_,_,_,_,rfl,d3 _,hS.next hmsg (by rw[Yu];exact htag) hul hgp hgq M5 (p:=0) (q:=1) rfl hu rfl hr hrl,by simp[Yu],by simpa using CI,by simpa using Cc⟩
 .obtain⟨vt,vs,ss,Ks,Kc,B,hB,hg,hS,Yu,CI,Cc⟩:=hr;obtain⟨bx,F⟩:=H1;simp only at hB;subst hB;have db:Ol d=[.bool d.three,sl d.fm 1 (d.fresh.map (.int .u8)),sl d.sm 4 (d.steps.map TT),sl d.gm 4 (d.goals.map fA)]:=rfl;have hend:∀D4,Φ (.exit 2) D4 ⟨Ol d::Z::[.str (bs [80]),sl mr 1 (rs.map .str),vf,vt,vs,.vs true 0 []]::Kc::B,F⟩:=λD4=>hΦ _ _ _ ⟨rfl,vt,vs,ss,Ks,Kc,B,rfl,by rw[Yu];exact hg,hS,by omega,by omega,CI,Cc⟩;by_cases him:(i:Int)<(if (d.steps.length:Int) > 1 then (d.steps.length:Int)else 1)
  .have hi3':¬(i:Int)<3:=by split at him<;>omega
   simp[AX,B4,k1,k3,k4,k5,k9,A6,db,him,hi3'];exact hend _
  .simp[AX,B4,k1,k3,k4,k5,k9,A6,db,him];exact hend _
structure PGl (rs:List ByteArray) (fs:List Fre) (g:Gol):Prop where
 kind:1<=g.kind/\g.kind<=5
 role:g.role∈rs
 agr:Hi g=true->g.wth∈rs/\g.role≠g.wth
 nag:Hi g=false->g.wth=bs []
 data:∃u∈fs.map Fre.name,g.data=[C7 u]
theorem kW (d:Drf) (D:DrOk d) (L:List Clm) (hL:L=d.goals.take 3) (hL3:L.length<=3) (rs:List ByteArray) (hr23:rs.length=2\/rs.length=3) (fC:rs.Nodup) (Z:E6) (mr:I8) (vf vt vs:AV) (fs:List Fre) (Ks:List (List ByteArray)) (Kc:E6) (B0:List (List AV)) (R:List GE) (hkn:∀(r:Nat) (l:List ByteArray) (u:H7),Ks[r]?=some l->u∈l->u∈fs.map Fre.name) (CI:Ks.length=rs.length) (Cc:Kc.length=rs.length) (C2:∀l∈Ks,l.length<=100) (fr:Fr) (h:AH) (hBX:h.boxes=Ol d::Z::[.str (bs [80]),sl mr 1 (rs.map .str),vf,vt,vs,.vs true 0 []]::Kc::B0) (hg0:GLs h (⟨true,5,([]:List Gol).map DQ,.vs true 0 []⟩::(R++WL Ks Kc))) (hl:fr.length=265) (h1:A0 fr 1=.ptr 0 0) (h3:A0 fr 3=.ptr 2 0) (h4:A0 fr 4=.int .i64 rs.length) (h5:A0 fr 5=.bsl 3 1 0 rs.length) (h16:A0 fr 16=.int .i64 0) :
  C8 (lp (A1 (Q8 Q) (G7 J7) S8) (fr,h)) λe D4 h'=>Kp S8.wr fr D4/\e=.exit 4/\∃(vg:AV) (gs:List Gol) (B:List (List AV)),h'.boxes=Ol d::Z::[.str (bs [80]),sl mr 1 (rs.map .str),vf,vt,vs,vg]::Kc::B/\GLs h' (⟨true,5,gs.map DQ,vg⟩::(R++WL Ks Kc))/\(∀g∈gs,PGl rs fs g)/\gs.length<=3:=by
 refine C3 rfl fr (λn fr h'=>∃(i:Nat),i+n=L.length/\A0 fr 16=.int .i64 (i:Nat)/\(∃(vg:AV) (gs:List Gol) (B:List (List AV)),h'.boxes=Ol d::Z::[.str (bs [80]),sl mr 1 (rs.map .str),vf,vt,vs,vg]::Kc::B/\GLs h' (⟨true,5,gs.map DQ,vg⟩::(R++WL Ks Kc))/\(∀g∈gs,PGl rs fs g)/\gs.length<=i)) ?_ L.length h ⟨0,by omega,h16,.vs true 0 [],[],B0,hBX,hg0,λg hg=>(nomatch hg),yV _⟩;rintro J Φ hJ hΦ n G9 H1 K ⟨i,hi,k16,hr⟩;have B4:=K.1.trans hl;have k1:=A5 K 1 h1;have k3:=A5 K 3 h3;have k4:=A5 K 4 h4;have k5:=A5 K 5 h5;clear K;by_cases A6:i<L.length
 .have V7:=E5 i (by omega);obtain⟨vg,gs,B,hB,hg,hP,hgl⟩:=hr;obtain⟨bx,F⟩:=H1;simp only at hB;subst hB;subst hL;rw[xo]at A6 hi;have hil:i<d.goals.length:=by omega
  have hi3':(i:Int)<3:=by omega
  have hil':(i:Int)<(d.goals.length:Int):=by omega
  have db:Ol d=[.bool d.three,sl d.fm 1 (d.fresh.map (.int .u8)),sl d.sm 4 (d.steps.map TT),sl d.gm 4 (d.goals.map fA)]:=rfl;have hx:=H8 (f:=fA) (xk hil);obtain⟨⟨u1,u2⟩,⟨u3,u4⟩,⟨u5,u6⟩,u7,u8⟩:=D.goals _ (xt hil);generalize d.goals[i]=c at *
  obtain⟨ck,cr,cw,cd⟩:=c;simp only at u1 u2 u3 u4 u5 u6 u7 u8;simp only[fA]at hx;obtain⟨qk,rfl⟩:=xp u1;obtain⟨qr,rfl⟩:=xp u3;obtain⟨qw,rfl⟩:=xp u5;obtain⟨qd,rfl⟩:=xp u7;have hrl0:0<rs.length:=by omega
  obtain⟨kk,MR⟩:∃kk,rs.length=kk+1:=⟨rs.length-1,by omega⟩;have hw1:IntKind.i64.wrap ((rs.length:Int)-1)=(kk:Int):=by rw[MR,show ((kk+1:Nat):Int)-1=(kk:Int) from by omega];exact M3 (by omega) (by omega)
  have hwk:IntKind.i64.wrap (qk:Int)=(qk:Int):=M3 (by omega) (by omega);have hwr:IntKind.i64.wrap (qr:Int)=(qr:Int):=M3 (by omega) (by omega);have hww:IntKind.i64.wrap (qw:Int)=(qw:Int):=M3 (by omega) (by omega);have hwd:IntKind.i64.wrap (qd:Int)=(qd:Int):=M3 (by omega) (by omega);have hrr:D6 .rem (.int .i64 (qr:Int)) (.int .i64 (rs.length:Int))=some (.int .i64 ((qr % rs.length:Nat):Int)):=Bj qr rs.length hrl0;have hrk:D6 .rem (.int .i64 (qk:Int)) (.int .i64 5)=some (.int .i64 ((qk % 5:Nat):Int)):=Bj qk 5 (by omega);have hrw:D6 .rem (.int .i64 (qw:Int)) (.int .i64 (kk:Int))=some (.int .i64 ((qw % kk:Nat):Int)):=Bj qw kk (by omega);have hp:qr % rs.length<rs.length:=xu _ hrl0;have hk5:qk % 5<5:=xu _ (by omega);have ht:qw % kk<kk:=xu _ (by omega);generalize qr % rs.length=p at *
  generalize qk % 5=kd at *
  generalize qw % kk=t at *
  have hwk1:IntKind.i64.wrap (1+(kd:Int))=1+(kd:Int):=M3 (by omega) (by omega);have hwp1:=E5 p (by omega);have hwpt:IntKind.i64.wrap ((p:Int)+1+(t:Int))=(p:Int)+1+(t:Int):=M3 (by omega) (by omega);have hrq:D6 .rem (.int .i64 ((p:Int)+1+(t:Int))) (.int .i64 (rs.length:Int))=some (.int .i64 (((p+1+t) % rs.length:Nat):Int)):=by
   have:=Bj (k:=.i64) (p+1+t) rs.length hrl0
   rwa [show ((p+1+t:Nat):Int)=(p:Int)+1+(t:Int) from by omega]at this
  have hq:(p+1+t) % rs.length<rs.length:=xu _ hrl0;have hpq:p≠(p+1+t) % rs.length:=by
   rcases hr23 with h|h<;>rw[h]at hp⊢<;>omega
  generalize (p+1+t) % rs.length=q at *
  have hplt:(p:Int)<(rs.length:Int):=by omega
  have hyp:=H8 (f:=AV.str) (xk hp);have hyq:=H8 (f:=AV.str) (xk hq);have hgp:=xk hp;have hgq:=xk hq;have M5:rs[p]≠rs[q]:=λe=>hpq ((yU hp fC).1 (by rw[hgp,hgq,e]));generalize rs[p]=np at *
  generalize rs[q]=nq at *
  have hKp:Ks[p]?=some (Ks[p]'(by omega)):=xk (by omega);have hCp:Kc[p]?=some (Kc[p]'(by omega)):=xk (by omega);have hKpl:=C2 _ (xt (l:=Ks) (n:=p) (by omega));generalize Ks[p]=kp at *
  generalize Kc[p]=vp at *
  have hMB:=bM (l:=Kc) (by omega);have hgE:(⟨true,5,gs.map DQ,vg⟩::(R++WL Ks Kc))[R.length+p+1]?=some ⟨false,1,kp.map AV.str,vp⟩:=by
   rw[xl,yL (by omega),show R.length+p-R.length=p from by omega];exact Ou hKp hCp
  have hOk:=hg.get hgE;have hln:=hOk.len;simp only[xq]at hln;by_cases hz:kp=[]
  .subst hz;have hln0:∀h',Pn h' vp=some (.int .i64 0,h'):=λh'=>hln h';simp[S8,B4,k1,k3,k4,k5,k16,A6,V7,db,hx,hi3',hil',hwr,hrr,hplt,hMB,hCp,hln0];exact O4 hJ ⟨i+1,by rw[xo];omega,by simp[B4],vg,gs,_,rfl,hg.fams rfl,hP,by omega⟩
  .have XI:=List.length_pos_iff.2 hz;have hrd:D6 .rem (.int .i64 (qd:Int)) (.int .i64 (kp.length:Int))=some (.int .i64 ((qd % kp.length:Nat):Int)):=Bj qd kp.length XI;have hj:qd % kp.length<kp.length:=xu _ XI;generalize qd % kp.length=j at *
   have hyj:=H8 (f:=AV.str) (xk hj);have hgj:(kp.map AV.str)[j]?=some (.str kp[j]):=by rw[List.getElem?_map,xk hj];rfl
   have hum:=hkn p kp kp[j] hKp (xt hj);generalize hkj:kp[j]=u at *
   have hA:=KQ u;have hjl:(j:Int)<(kp.length:Int):=by omega
   have hAg0:=Qs ⟨1+(kd:Int),np,bs [],(true,true),[C7 u],0⟩;have hagr0:∀w,Hi ⟨1+(kd:Int),np,w,(true,true),[C7 u],0⟩=Hi ⟨1+(kd:Int),np,bs [],(true,true),[C7 u],0⟩:=λw=>rfl;obtain⟨m,rfl⟩|⟨k,rfl,hkF⟩:(∃m,vp=sl m 1 (kp.map .str))\/∃k,vp=.sl k kp.length 0 kp.length/\F[k]?=some ⟨kp.map .str,1,false⟩:=by
    rcases hOk with (⟨b,e⟩|⟨_,k,e,hk⟩)|⟨_,m,e⟩
    .exact .inl ⟨_,e⟩
    .exact .inr ⟨k,by simpa using e,hk⟩
    .exact .inl ⟨m,e⟩
   .clear hgE;cases hagr:Hi ⟨1+(kd:Int),np,bs [],(true,true),[C7 u],0⟩with
    |true =>
     have hAg:=hAg0;rw[hagr]at hAg;simp only[DQ,A3,H3]at hAg;obtain⟨vg',Fa,a1,a2⟩:=hg.app (c:=G7 J7) rfl (i:=0) (bytes:=72) (x:=sl (true,true) 5 [DQ ⟨1+(kd:Int),np,nq,(true,true),[C7 u],0⟩]) (ys:=[DQ ⟨1+(kd:Int),np,nq,(true,true),[C7 u],0⟩]) rfl (O5 _ _ _ _) (by simp only[G4,maxLen,xq,xn,xr];omega);obtain⟨c1,c2⟩:=((a2 []).get (i:=0) rfl).cells;simp only[DQ,A3,H3]at a1 c1 c2;simp[S8,B4,k1,k3,k4,k5,k16,A6,V7,db,hx,hi3',hil',hwk,hwr,hww,hwd,hw1,hrr,hrk,hrd,hplt,XI,hz,hwk1,hyp,hMB,hCp,hln,hA,hjl,hAg,a1,c1,c2,A4,D2,E8,hyj,hrw,hwp1,hwpt,hrq,hyq];exact⟨n-1,by omega,hJ _ _ _ ⟨i+1,by rw[xo];omega,by simp[B4],vg',gs++[⟨1+(kd:Int),np,nq,(true,true),[C7 u],0⟩],_,rfl,by simpa using a2 _,λg DG=>by
      rcases yF.1 DG with DG|DG
      .exact hP g DG
      .rw[xy.1 DG];exact⟨⟨by simp only;omega,by simp only;omega⟩,xm hgp,λ_=>⟨xm hgq,M5⟩,λe=>absurd (hagr.symm.trans e) (by simp),u,hum,rfl⟩,by simp;omega⟩⟩
    |false =>
     have hAg:=hAg0;rw[hagr]at hAg;simp only[DQ,A3,H3]at hAg;obtain⟨vg',Fa,a1,a2⟩:=hg.app (c:=G7 J7) rfl (i:=0) (bytes:=72) (x:=sl (true,true) 5 [DQ ⟨1+(kd:Int),np,bs [],(true,true),[C7 u],0⟩]) (ys:=[DQ ⟨1+(kd:Int),np,bs [],(true,true),[C7 u],0⟩]) rfl (O5 _ _ _ _) (by simp only[G4,maxLen,xq,xn,xr];omega);obtain⟨c1,c2⟩:=((a2 []).get (i:=0) rfl).cells;simp only[DQ,A3,H3]at a1 c1 c2;simp[S8,B4,k1,k3,k4,k5,k16,A6,V7,db,hx,hi3',hil',hwk,hwr,hww,hwd,hw1,hrr,hrk,hrd,hplt,XI,hz,hwk1,hyp,hMB,hCp,hln,hA,hjl,hAg,a1,c1,c2,A4,D2,E8,hyj];exact⟨n-1,by omega,hJ _ _ _ ⟨i+1,by rw[xo];omega,by simp[B4],vg',gs++[⟨1+(kd:Int),np,bs [],(true,true),[C7 u],0⟩],_,rfl,by simpa using a2 _,λg DG=>by
      rcases yF.1 DG with DG|DG
      .exact hP g DG
      .rw[xy.1 DG];exact⟨⟨by simp only;omega,by simp only;omega⟩,xm hgp,λe=>absurd (hagr.symm.trans e) (by simp),λ_=>rfl,u,hum,rfl⟩,by simp;omega⟩⟩
   .clear hgE;cases hagr:Hi ⟨1+(kd:Int),np,bs [],(true,true),[C7 u],0⟩with
    |true =>
     have hAg:=hAg0;rw[hagr]at hAg;simp only[DQ,A3,H3]at hAg;obtain⟨vg',Fa,a1,a2⟩:=hg.app (c:=G7 J7) rfl (i:=0) (bytes:=72) (x:=sl (true,true) 5 [DQ ⟨1+(kd:Int),np,nq,(true,true),[C7 u],0⟩]) (ys:=[DQ ⟨1+(kd:Int),np,nq,(true,true),[C7 u],0⟩]) rfl (O5 _ _ _ _) (by simp only[G4,maxLen,xq,xn,xr];omega);obtain⟨c1,c2⟩:=((a2 []).get (i:=0) rfl).cells;simp only[DQ,A3,H3]at a1 c1 c2;simp[S8,B4,k1,k3,k4,k5,k16,A6,V7,db,hx,hi3',hil',hwk,hwr,hww,hwd,hw1,hrr,hrk,hrd,hplt,XI,hz,hwk1,hyp,hMB,hCp,hln,hA,hjl,hAg,a1,c1,c2,A4,D2,E8,hkF,hkj,hj,hrw,hwp1,hwpt,hrq,hyq];exact⟨n-1,by omega,hJ _ _ _ ⟨i+1,by rw[xo];omega,by simp[B4],vg',gs++[⟨1+(kd:Int),np,nq,(true,true),[C7 u],0⟩],_,rfl,by simpa using a2 _,λg DG=>by
      rcases yF.1 DG with DG|DG
      .exact hP g DG
      .rw[xy.1 DG];exact⟨⟨by simp only;omega,by simp only;omega⟩,xm hgp,λ_=>⟨xm hgq,M5⟩,λe=>absurd (hagr.symm.trans e) (by simp),u,hum,rfl⟩,by simp;omega⟩⟩
    |false =>
     have hAg:=hAg0;rw[hagr]at hAg;simp only[DQ,A3,H3]at hAg;obtain⟨vg',Fa,a1,a2⟩:=hg.app (c:=G7 J7) rfl (i:=0) (bytes:=72) (x:=sl (true,true) 5 [DQ ⟨1+(kd:Int),np,bs [],(true,true),[C7 u],0⟩]) (ys:=[DQ ⟨1+(kd:Int),np,bs [],(true,true),[C7 u],0⟩]) rfl (O5 _ _ _ _) (by simp only[G4,maxLen,xq,xn,xr];omega);obtain⟨c1,c2⟩:=((a2 []).get (i:=0) rfl).cells;simp only[DQ,A3,H3]at a1 c1 c2;simp[S8,B4,k1,k3,k4,k5,k16,A6,V7,db,hx,hi3',hil',hwk,hwr,hww,hwd,hw1,hrr,hrk,hrd,hplt,XI,hz,hwk1,hyp,hMB,hCp,hln,hA,hjl,hAg,a1,c1,c2,A4,D2,E8,hkF,hkj,hj];exact⟨n-1,by omega,hJ _ _ _ ⟨i+1,by rw[xo];omega,by simp[B4],vg',gs++[⟨1+(kd:Int),np,bs [],(true,true),[C7 u],0⟩],_,rfl,by simpa using a2 _,λg DG=>by
      rcases yF.1 DG with DG|DG
      .exact hP g DG
      .rw[xy.1 DG];exact⟨⟨by simp only;omega,by simp only;omega⟩,xm hgp,λe=>absurd (hagr.symm.trans e) (by simp),λ_=>rfl,u,hum,rfl⟩,by simp;omega⟩⟩
 .obtain⟨vg,gs,B,hB,hg,hP,hgl⟩:=hr;obtain⟨bx,F⟩:=H1;simp only at hB;subst hB;have db:Ol d=[.bool d.three,sl d.fm 1 (d.fresh.map (.int .u8)),sl d.sm 4 (d.steps.map TT),sl d.gm 4 (d.goals.map fA)]:=rfl;have hgol:=D.goalsL;have hend:∀D4,Φ (.exit 4) D4 ⟨Ol d::Z::[.str (bs [80]),sl mr 1 (rs.map .str),vf,vt,vs,vg]::Kc::B,F⟩:=λD4=>hΦ _ _ _ ⟨rfl,vg,gs,B,rfl,hg,hP,by omega⟩;by_cases hil:i<d.goals.length
  .have hil':(i:Int)<(d.goals.length:Int):=by omega
   have hi3':¬(i:Int)<3:=by
    rw[hL,xo]at A6;omega
   simp[S8,B4,k1,k3,k4,k5,k16,A6,db,hil',hi3'];exact hend _
  .have hil':¬(i:Int)<(d.goals.length:Int):=by omega
   simp[S8,B4,k1,k3,k4,k5,k16,A6,db,hil'];exact hend _
end Go.Abs.Q
