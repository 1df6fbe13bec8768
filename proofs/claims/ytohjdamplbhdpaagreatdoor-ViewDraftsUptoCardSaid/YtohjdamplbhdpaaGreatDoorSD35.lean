/- A part of the proof. -/
import Derived.Test.YtohjdamplbhdpaaGreatDoorSD34
set_option linter.all false
open List renaming getElem?_eq_getElem->oD,getElem?_cons_succ->xX,mem_of_getElem?->xY,length_cons->xZ,length_take->xa,length_map->xc,length_nil->xd,getElem_mem->xe,getElem?_eq_some_iff->xg,mem_singleton->xh,set_cons_zero->xi,getElem?_cons_zero->xj,getElem_cons_succ->xk,getElem_cons_zero->xl,getElem?_zipWith->xm,getElem_toArray->xn,mem_append->xo,drop_succ_cons->xp,take_succ_cons->xq,mem_cons_self->xr,set_cons_succ->xt,getD_eq_getElem?_getD->xu,getElem?_append_right->xw,map_cons->xy,getElem?_set->xz,getElem?_append_left->yA,map_nil->yB,drop_zero->yC,length_singleton->yD,take_zero->yE,length_append->yF,getElem?_inj->yG,cons_append->yI,nil_append->yJ
open Int renaming eq_ofNat_of_zero_le->xb
open Nat renaming mod_lt->xf,le_refl->yH,zero_mod->yK
namespace Go.Abs.Q
open Go.Proofs
open Go.Proofs.YtohjdamplbhdpaaGreatDoor (Rows.uptoBulk Rows.uptoBulkAll)
theorem vH:Tryz.prog.cellsOf 5=1:=by kernel_rfl
theorem qW:Tryz.prog.cellsOf 4=1:=by kernel_rfl
theorem qe:Tryz.prog.cellsOf 47=1:=by kernel_rfl
theorem qZ:Tryz.prog.cellsOf 86=4:=by kernel_rfl
theorem qc:Tryz.prog.cellsOf 48=1:=by kernel_rfl
theorem qX:Tryz.prog.cellsOf 97=4:=by kernel_rfl
theorem qY:Tryz.prog.cellsOf 49=1:=by kernel_rfl
theorem vG:Tryz.prog.cellsOf 51=4:=by kernel_rfl
variable {w:World}
theorem ta {x:Int} (h:(Lit.int .u8 x).wf=true):U8 x:=by
 have h':(decide (IntKind.min .u8<=x)&&decide (x<=IntKind.max .u8))=true:=h;rw[Bool.and_eq_true,decide_eq_true_eq,decide_eq_true_eq]at h';have a1:IntKind.min .u8=0:=by kernel_rfl
 have a2:IntKind.max .u8=255:=by kernel_rfl
 rw[a1,a2]at h';unfold U8;omega
theorem HI (n:Nat):OO Tryz.prog w 5 (λi:Int=>[.int .u8 i]) U8 (λ_=>1) n:=by
 intro H enc cs x hx;obtain⟨i,h1,h2,h3⟩:=dS (w:=w) Tryz.underlying5 n enc _ _ hx;exact⟨i,ta h1,h2,h3⟩
theorem YY {α:Type} (l:List α):(l.map λ_=>1).sum=l.length:=by
 induction l with
 |nil=>rfl
 |cons a l ih=>rw[xy,List.sum_cons,ih,xZ];omega
theorem UQ (n:Nat):OO Tryz.prog w 47 (λys:Bool×List Int=>[sl (false,ys.1) 1 (ys.2.map (.int .u8))]) (λys=>∀a∈ys.2,U8 a) (λys=>ys.2.length+1) n:=by
 intro H enc cs x hx;cases n with
 |zero=>simp[DataW.trod]at hx
 |succ n =>
  obtain⟨ys,h0,h1,h2⟩:=MJ (w:=w) (enc:=AV.int .u8) Tryz.underlying47 vH (by omega) (HI n) enc _ _ hx;dsimp only at h1;rw[YY]at h1;exact⟨ys,h0,h1,h2⟩
def qI (m:Msg):Prop:=U8 m.frm/\U8 m.to/\U8 m.form/\∀p∈m.parts,U8 p
def mn (m:Msg):Nat:=m.parts.length+1
theorem dU (n:Nat):OO Tryz.prog w 86 (λm:Msg=>(TL m).cells) qI mn n:=by
 intro H enc cs x hx;obtain⟨m,xs,rfl,Cr,ac,hx1,hf⟩:=OB Tryz.underlying86 qZ hx;obtain⟨y0,hy0,h0⟩:=hf 0 _ rfl;obtain⟨y1,hy1,h1⟩:=hf 1 _ rfl;obtain⟨y2,hy2,h2⟩:=hf 2 _ rfl;obtain⟨y3,hy3,h3⟩:=hf 3 _ rfl;clear hf;obtain⟨v0,v1,v2,v3,rfl⟩:=cp Cr;obtain⟨z0,z1,z2,z3,rfl⟩:=cp ac;simp only[xj,xX,Option.some.injEq]at hy0 hy1 hy2 hy3;subst hy0 hy1 hy2 hy3;simp only[xn,xl,xk,vH,qe,yC,xp,xq,yE]at h0 h1 h2 h3;obtain⟨a,g0,w0,cv0⟩:=HI (w:=w) m enc _ _ h0;obtain⟨b,g1,w1,cv1⟩:=HI (w:=w) m enc _ _ h1;obtain⟨c,g2,w2,cv2⟩:=HI (w:=w) m enc _ _ h2;obtain⟨⟨bp,ps⟩,g3,w3,cv3⟩:=UQ (w:=w) m enc _ _ h3;refine⟨⟨a,b,c,(false,bp),ps⟩,⟨g0,g1,g2,g3⟩,?_,Hd cv0 (Hd cv1 (Hd cv2 cv3))⟩;rw[hx1];dsimp only at w0 w1 w2 w3;simp only[mn,xy,yB,Rows.uptoBulk,Rows.uptoBulkAll];omega
def qD (c:Clm):Prop:=U8 c.kind/\U8 c.role/\U8 c.wth/\U8 c.data
theorem dQ (n:Nat):OO Tryz.prog w 97 (λc:Clm=>(eU c).cells) qD (λ_=>1) n:=by
 intro H enc cs x hx;obtain⟨m,xs,rfl,Cr,ac,hx1,hf⟩:=OB Tryz.underlying97 qX hx;obtain⟨y0,hy0,h0⟩:=hf 0 _ rfl;obtain⟨y1,hy1,h1⟩:=hf 1 _ rfl;obtain⟨y2,hy2,h2⟩:=hf 2 _ rfl;obtain⟨y3,hy3,h3⟩:=hf 3 _ rfl;clear hf;obtain⟨v0,v1,v2,v3,rfl⟩:=cp Cr;obtain⟨z0,z1,z2,z3,rfl⟩:=cp ac;simp only[xj,xX,Option.some.injEq]at hy0 hy1 hy2 hy3;subst hy0 hy1 hy2 hy3;simp only[xn,xl,xk,vH,yC,xp,xq,yE]at h0 h1 h2 h3;obtain⟨a,g0,w0,cv0⟩:=HI (w:=w) m enc _ _ h0;obtain⟨b,g1,w1,cv1⟩:=HI (w:=w) m enc _ _ h1;obtain⟨c,g2,w2,cv2⟩:=HI (w:=w) m enc _ _ h2;obtain⟨e,g3,w3,cv3⟩:=HI (w:=w) m enc _ _ h3;refine⟨⟨a,b,c,e⟩,⟨g0,g1,g2,g3⟩,?_,Hd cv0 (Hd cv1 (Hd cv2 cv3))⟩;rw[hx1];dsimp only at w0 w1 w2 w3;simp only[xy,yB,Rows.uptoBulk,Rows.uptoBulkAll];omega
def uC (d:Drf):Nat:=d.fresh.length+(d.steps.map mn).sum+d.goals.length
def wZ (d:Drf):Prop:=(∀x∈d.fresh,U8 x)/\(∀m∈d.steps,qI m)/\∀c∈d.goals,qD c
theorem dR (n:Nat):OO Tryz.prog w 51 (λd:Drf=>(cN d).cells) wZ uC n:=by
 intro H enc cs x hx;obtain⟨m,xs,rfl,Cr,ac,hx1,hf⟩:=OB Tryz.underlying51 vG hx;obtain⟨y0,hy0,h0⟩:=hf 0 _ rfl;obtain⟨y1,hy1,h1⟩:=hf 1 _ rfl;obtain⟨y2,hy2,h2⟩:=hf 2 _ rfl;obtain⟨y3,hy3,h3⟩:=hf 3 _ rfl;clear hf;obtain⟨v0,v1,v2,v3,rfl⟩:=cp Cr;obtain⟨z0,z1,z2,z3,rfl⟩:=cp ac;simp only[xj,xX,Option.some.injEq]at hy0 hy1 hy2 hy3;subst hy0 hy1 hy2 hy3;simp only[xn,xl,xk,qW,qe,qc,qY,yC,xp,xq,yE]at h0 h1 h2 h3;obtain⟨a,g0,w0,cv0⟩:=ZU (w:=w) Tryz.underlying4 m enc _ _ h0;obtain⟨⟨b1,fs⟩,g1,w1,cv1⟩:=UQ (w:=w) m enc _ _ h1;cases m with
 |zero=>simp[DataW.trod]at h2
 |succ m =>
  obtain⟨⟨b2,ss⟩,g2,w2,cv2⟩:=MJ (w:=w) (enc:=TL) Tryz.underlying48 qZ (by omega) (dU m) enc _ _ h2;obtain⟨⟨b3,gs⟩,g3,w3,cv3⟩:=MJ (w:=w) (enc:=eU) Tryz.underlying49 qX (by omega) (dQ m) enc _ _ h3;refine⟨⟨a,(false,b1),fs,(false,b2),ss,(false,b3),gs⟩,⟨g1,g2,g3⟩,?_,Hd cv0 (Hd cv1 (Hd cv2 cv3))⟩;rw[hx1];dsimp only at w0 w1 w2 w3;rw[YY]at w3;simp only[uC,xy,yB,Rows.uptoBulk,Rows.uptoBulkAll];omega
theorem mN {d:Drf} (hg:wZ d) (h:uC d<=1048576):DrOk d:=by
 obtain⟨g1,g2,g3⟩:=hg;unfold uC at h;have r1:=ib (f:=mn) (λs=>by unfold mn;omega) d.steps;refine⟨g1,by omega,λm hm=>?_,by omega,g3,by omega⟩;have:=bX (f:=mn) hm;obtain⟨a,b,c,e⟩:=g2 m hm;refine⟨a,b,c,e,?_⟩;unfold mn at this h;omega
end Go.Abs.Q
namespace Go.Abs.Q
open Go.Proofs
attribute [local simp] D1 D4 fin I2 G0 K7 I3 N4 O5
def WC (Ks:List (List ByteArray)) (Kc:List AV):List GE:=List.zipWith (λl v=>⟨false,1,l.map AV.str,v⟩) Ks Kc
theorem cY (Ks:List (List ByteArray)) (Kc:E5):(eV Ks Kc).map GE.still=WC Ks Kc:=by
 unfold eV WC;rw[List.map_zipWith];rfl
theorem Og {Ks:List (List ByteArray)} {Kc:E5} {r:Nat} {l:List ByteArray} {v:AV} (h1:Ks[r]?=some l) (h2:Kc[r]?=some v):(WC Ks Kc)[r]?=some ⟨false,1,l.map AV.str,v⟩:=by
 unfold WC;rw[xm,h1,h2]
theorem jn (Ks:List (List ByteArray)) (Kc:E5) (r:Nat) (l:List ByteArray) (v:AV):(WC Ks Kc).set r ⟨false,1,l.map AV.str,v⟩=WC (Ks.set r l) (Kc.set r v):=by
 unfold WC;apply List.ext_getElem?;intro j;rw[xz,xm,xm,xz,xz,List.length_zipWith];by_cases h:r=j
 .subst h;by_cases h1:r<Ks.length<;>by_cases h2:r<Kc.length
  .rw[if_pos rfl,if_pos (by omega),if_pos rfl,if_pos h1,if_pos rfl,if_pos h2]
  .rw[if_pos rfl,if_neg (by omega),if_pos rfl,if_pos h1,if_pos rfl,if_neg h2]
  .rw[if_pos rfl,if_neg (by omega),if_pos rfl,if_neg h1]
  .rw[if_pos rfl,if_neg (by omega),if_pos rfl,if_neg h1]
 .rw[if_neg h,if_neg h,if_neg h]
theorem tY:∀i:Nat,i<3->(bs [116]++(bs [48,49,50]).extract i (i+1))=OH.getD i (bs []):=by
 intro i hi
 match i,hi with
 |0,_=>decide
 |1,_=>decide
 |2,_=>decide
theorem Zw (i:Nat) (hi:i<3):((bs [48,49,50]).extract i (i+1)).size<=4:=by
 match i,hi with
 |0,_=>decide
 |1,_=>decide
 |2,_=>decide
def bf (fs:List Fre) (ss:List Ste) (me:ByteArray) (i:Nat) (u:ByteArray):Prop :=
 (∃f∈fs,f.role=me/\f.name=u)\/∃(j:Nat) (s:Ste),j<i/\ss[j]?=some s/\s.to=me/\∃fm tag us,NU s fm tag us/\u∈us
theorem bf.more {fs:List Fre} {ss:List Ste} {me:H6} {i:Nat} {u:H6} (h:bf fs ss me i u) (x:Ste) {i':Nat} (hi:i<=i'):bf fs (ss++[x]) me i' u:=by
 rcases h with h|⟨j,s,h1,h2,h3⟩
 .exact .inl h
 .exact .inr ⟨j,s,by omega,by rw[yA (xg.1 h2).1];exact h2,h3⟩
structure PSt (rs:List ByteArray) (fs:List Fre) (ss:List Ste) (i:Nat) (s:Ste):Prop where
 msg:∃(fm:Int) (tag:ByteArray) (us:List ByteArray),NU s fm tag us/\OH[i]?=some tag/\us.length<=3/\∀u∈us,bf fs ss s.frm i u/\u∈fs.map Fre.name
 frm:s.frm∈rs
 to:s.to∈rs
 ne:s.frm≠s.to
structure SdOk (rs:List ByteArray) (fs:List Fre) (ss:List Ste) (Ks:List (List ByteArray)):Prop where
 steps:∀i s,ss[i]?=some s->PSt rs fs ss i s
 ks:∀(r:Nat) (l:List ByteArray) (u:ByteArray),Ks[r]?=some l->u∈l->u∈fs.map Fre.name/\∃me,rs[r]?=some me/\bf fs ss me ss.length u
 len:∀l∈Ks,l.length<=4+3*ss.length
theorem SdOk.next {rs:List ByteArray} {fs:List Fre} {ss:List Ste} {Ks:List (List ByteArray)} (h:SdOk rs fs ss Ks) {x:Ste} {fm:Int} {tag:H6} {us:List ByteArray} (hm:NU x fm tag us) (ht:OH[ss.length]?=some tag) (hul:us.length<=3)
  {p q:Nat} (hp:rs[p]?=some x.frm) (hq:rs[q]?=some x.to) (M8:x.frm≠x.to) {kp kq r:List ByteArray} (hkp:Ks[p]?=some kp) (hu:∀u∈us,u∈kp) (hkq:Ks[q]?=some kq) (hr:∀u∈r,u∈kq\/u∈us) (hrl:r.length<=kq.length+us.length) :
  SdOk rs fs (ss++[x]) (Ks.set q r):=by
 have old:∀u∈us,bf fs ss x.frm ss.length u/\u∈fs.map Fre.name:=λu hu'=>by
  obtain⟨h1,me,h2,h3⟩:=h.ks p kp u hkp (hu u hu');rw[hp]at h2;cases h2;exact⟨h3,h1⟩
 refine⟨λi s hs=>?_,λr' l u h1 h2=>?_,λl hl=>?_⟩
 .by_cases hi:i<ss.length
  .rw[yA hi]at hs;obtain⟨⟨fm',tag',us',a1,a2,a3,a4⟩,b1,b2,b3⟩:=h.steps i s hs;exact⟨⟨fm',tag',us',a1,a2,a3,λu hu'=>⟨(a4 u hu').1.more x (yH _),(a4 u hu').2⟩⟩,b1,b2,b3⟩
  .rw[xw (by omega)]at hs;have hi0:i-ss.length=0:=by
    have:=(xg.1 hs).1;simpa using this
   rw[hi0]at hs;cases hs;have:i=ss.length:=by omega
   subst this;exact⟨⟨fm,tag,us,hm,ht,hul,λu hu'=>⟨(old u hu').1.more x (yH _),(old u hu').2⟩⟩,xY hp,xY hq,M8⟩
 .rw[yF,yD];have hql:=(xg.1 hkq).1;by_cases hrr:q=r'
  .subst hrr;rw[List.getElem?_set_self hql]at h1;cases h1;rcases hr u h2 with hu' | hu'
   .obtain⟨g1,me,g2,g3⟩:=h.ks q kq u hkq hu';exact⟨g1,me,g2,g3.more x (by omega)⟩
   .exact⟨(old u hu').2,x.to,hq,.inr ⟨ss.length,x,by omega,by simp,rfl,fm,tag,us,hm,hu'⟩⟩
  .rw[List.getElem?_set_ne hrr]at h1;obtain⟨g1,me,g2,g3⟩:=h.ks r' l u h1 h2;exact⟨g1,me,g2,g3.more x (by omega)⟩
 .rw[yF,yD];rcases List.mem_or_eq_of_mem_set hl with hl|rfl
  .have:=h.len l hl;omega
  .have:=h.len kq (xY hkq);omega
theorem kG (d:Drf) (D:DrOk d) (L:List Unit) (hL:L.length=min (max 1 d.steps.length) 3) (rs:List ByteArray) (hrs:rs=Ua d.three) (eX:rs.Nodup) (Z:E5) (mr:J0) (vf:AV) (fs:List Fre) (Ks0:List (List ByteArray)) (Kc0:E5) (B0:List (List AV)) (hS0:SdOk rs fs [] Ks0) (hkl0:Ks0.length=rs.length) (hcl0:Kc0.length=rs.length) (fr:Fr) (h:AH) (hBX:h.boxes=PL d::Z::[.str (bs [80]),sl mr 1 (rs.map .str),vf,.vs true 0 [],.vs true 0 [],.vs true 0 []]::Kc0::B0) (hg0:GLs h (⟨true,1,([]:List ByteArray).map .str,.vs true 0 []⟩::⟨true,7,([]:List Ste).map Ci,.vs true 0 []⟩::⟨false,3,fs.map Gq,vf⟩::WC Ks0 Kc0)) (hl:fr.length=265) (h1:A0 fr 1=.ptr 0 0) (h3:A0 fr 3=.ptr 2 0) (h4:A0 fr 4=.int .i64 rs.length) (h5:A0 fr 5=.bsl 3 1 0 rs.length) (h9:A0 fr 9=.int .i64 0) :
  C8 (lp (A1 (Q8 Q) (G8 J6) AS) (fr,h)) λe D3 h'=>Kp AS.wr fr D3/\e=.exit 2/\∃(vt vs:AV) (ss:List Ste) (Ks:List (List ByteArray)) (Kc:List AV) (B:List (List AV)),h'.boxes=PL d::Z::[.str (bs [80]),sl mr 1 (rs.map .str),vf,vt,vs,.vs true 0 []]::Kc::B/\GLs h' (⟨true,1,(OH.take ss.length).map .str,vt⟩::⟨true,7,ss.map Ci,vs⟩::⟨false,3,fs.map Gq,vf⟩::WC Ks Kc)/\SdOk rs fs ss Ks/\1<=ss.length/\ss.length<=3/\Ks.length=rs.length/\Kc.length=rs.length:=by
 refine C3 rfl fr (λn fr h'=>∃(i:Nat),i+n=L.length/\A0 fr 9=.int .i64 (i:Nat)/\(∃(vt vs:AV) (ss:List Ste) (Ks:List (List ByteArray)) (Kc:List AV) (B:List (List AV)),h'.boxes=PL d::Z::[.str (bs [80]),sl mr 1 (rs.map .str),vf,vt,vs,.vs true 0 []]::Kc::B/\GLs h' (⟨true,1,(OH.take i).map .str,vt⟩::⟨true,7,ss.map Ci,vs⟩::⟨false,3,fs.map Gq,vf⟩::WC Ks Kc)/\SdOk rs fs ss Ks/\ss.length=i/\Ks.length=rs.length/\Kc.length=rs.length)) ?_ L.length h ⟨0,by omega,h9,.vs true 0 [],.vs true 0 [],[],Ks0,Kc0,B0,hBX,hg0,hS0,rfl,hkl0,hcl0⟩;rintro J Φ hJ hΦ n H0 H1 K ⟨i,hi,k9,hr⟩;have B5:=K.1.trans hl;have k1:=A5 K 1 h1;have k3:=A5 K 3 h3;have k4:=A5 K 4 h4;have k5:=A5 K 5 h5;clear K;by_cases A7:i<L.length
 .have V9:=E6 i (by omega);obtain⟨vt,vs,ss,Ks,Kc,B,hB,hg,hS,cZ,CF,Cr⟩:=hr;obtain⟨bx,F⟩:=H1;simp only at hB;subst hB;have hi3:i<3:=by omega
  have hi3':(i:Int)<3:=by omega
  have him:(i:Int)<(if (d.steps.length:Int) > 1 then (d.steps.length:Int)else 1):=by split<;>omega
  have hi4:(i:Int)+1<=3:=by omega
  have hii:(i:Int)<=(i:Int)+1:=by omega
  have db:PL d=[.bool d.three,sl d.fm 1 (d.fresh.map (.int .u8)),sl d.sm 4 (d.steps.map TL),sl d.gm 4 (d.goals.map eU)]:=rfl;have hr23:rs.length=2\/rs.length=3:=by rw[hrs];exact Vl _
  have hrl0:0<rs.length:=by omega
  obtain⟨kk,MA⟩:∃kk,rs.length=kk+1:=⟨rs.length-1,by omega⟩;have hw1:IntKind.i64.wrap ((rs.length:Int)-1)=(kk:Int):=by rw[MA,show ((kk+1:Nat):Int)-1=(kk:Int) from by omega];exact M5 (by omega) (by omega)
  have hbin:D5 .add (.str (bs [116])) (.str ((bs [48,49,50]).extract i (i+1)))=some (.str (OH.getD i (bs []))):=by
   have K3:=Zw i hi3;rw[Wa (by have:(bs [116]).size=1:=rfl;omega),tY i hi3]
  have hs3:(bs [48,49,50]).size=3:=rfl;have htag:OH[i]?=some (OH.getD i (bs [])):=by
   rw[xu,oD (show i<OH.length from hi3)];rfl
  have htake:(OH.take i).map AV.str++[.str (OH.getD i (bs []))]=(OH.take (i+1)).map .str:=by
   rw[List.take_succ_eq_append_getElem (show i<OH.length from hi3),List.map_append,xu,oD (show i<OH.length from hi3)];rfl
  generalize OH.getD i (bs [])=tag at *
  have hMB:=ar (l:=Kc) (by omega);by_cases hil:i<d.steps.length
  .have hil':(i:Int)<(d.steps.length:Int):=by omega
   have hx:=H8 (f:=TL) (oD hil);obtain⟨⟨f1,f2⟩,⟨t1,t2⟩,⟨o1,o2⟩,hps,hpl⟩:=D.steps _ (xe hil);generalize d.steps[i]=m at *
   obtain⟨mf,mt,mo,mpm,mp⟩:=m;simp only at f1 f2 t1 t2 o1 o2 hps hpl;simp only[TL]at hx;obtain⟨qa,rfl⟩:=xb f1;obtain⟨qb,rfl⟩:=xb t1;have hwa:IntKind.i64.wrap (qa:Int)=(qa:Int):=M5 (by omega) (by omega);have hwb:IntKind.i64.wrap (qb:Int)=(qb:Int):=M5 (by omega) (by omega);have hra:D5 .rem (.int .i64 (qa:Int)) (.int .i64 (rs.length:Int))=some (.int .i64 ((qa % rs.length:Nat):Int)):=DE qa rs.length hrl0;have hrb:D5 .rem (.int .i64 (qb:Int)) (.int .i64 (kk:Int))=some (.int .i64 ((qb % kk:Nat):Int)):=DE qb kk (by omega);have hp:qa % rs.length<rs.length:=xf _ hrl0;have ht:qb % kk<kk:=xf _ (by omega);generalize qa % rs.length=p at *
   generalize qb % kk=t at *
   have hwp1:=E6 p (by omega);have hwpt:IntKind.i64.wrap ((p:Int)+1+(t:Int))=(p:Int)+1+(t:Int):=M5 (by omega) (by omega);have hrq:D5 .rem (.int .i64 ((p:Int)+1+(t:Int))) (.int .i64 (rs.length:Int))=some (.int .i64 (((p+1+t) % rs.length:Nat):Int)):=by
    have:=DE (k:=.i64) (p+1+t) rs.length hrl0
    rwa [show ((p+1+t:Nat):Int)=(p:Int)+1+(t:Int) from by omega]at this
   have hq:(p+1+t) % rs.length<rs.length:=xf _ hrl0;have hpq:p≠(p+1+t) % rs.length:=by
    rcases hr23 with h|h<;>rw[h]at hp⊢<;>omega
   generalize (p+1+t) % rs.length=q at *
   have hplt:(p:Int)<(rs.length:Int):=by omega
   have hqlt:(q:Int)<(rs.length:Int):=by omega
   have hyp:=H8 (f:=AV.str) (oD hp);have hyq:=H8 (f:=AV.str) (oD hq);have hgp:=oD hp;have hgq:=oD hq;have M8:rs[p]≠rs[q]:=λe=>hpq ((yG hp eX).1 (by rw[hgp,hgq,e]));generalize rs[p]=np at *
   generalize rs[q]=nq at *
   have hKp:Ks[p]?=some (Ks[p]'(by omega)):=oD (by omega);have hCp:Kc[p]?=some (Kc[p]'(by omega)):=oD (by omega);have hKq:Ks[q]?=some (Ks[q]'(by omega)):=oD (by omega);have hCq:Kc[q]?=some (Kc[q]'(by omega)):=oD (by omega);have hKpl:=hS.len _ (xe (l:=Ks) (n:=p) (by omega));have hKql:=hS.len _ (xe (l:=Ks) (n:=q) (by omega));generalize Ks[p]=kp at *
   generalize Kc[p]=vp at *
   generalize Ks[q]=kq at *
   generalize Kc[q]=vq at *
   obtain⟨mkp,hfp⟩:=(hg.get (i:=p+3) (by simp only[xX];exact Og hKp hCp)).frz;have htp:=(hg.get (i:=p+3) (by simp only[xX];exact Og hKp hCp)).tame;obtain⟨mu,us,hBo,hul,hu⟩:=bC mkp mpm kp mp hps hpl (by omega) tag;generalize hw:Jf (C7 tag::us.map C7)=w at *
   have hPr:=bE mo ⟨o1,o2⟩ np nq w mu us (by omega);have hmsg:NU ⟨np,nq,IR (mo.tmod 6) np nq w us,0⟩ (mo.tmod 6) tag us:=by unfold NU;rw[hw]
   generalize IR (mo.tmod 6) np nq w us=x at *
   obtain⟨vt',Fa,a1,a2⟩:=hg.app (c:=G8 J6) rfl (i:=0) (bytes:=16) (x:=sl (true,true) 1 [.str tag]) (ys:=[.str tag]) rfl (O4 _ _ _ _) (by simp only[G5,maxLen,xc,xZ,xd,xa];omega);have a3:=a2 [];rw[xi,htake]at a3;obtain⟨vs',Fb,b1,b2⟩:=a3.app (c:=G8 J6) rfl (i:=1) (bytes:=96) (x:=sl (true,true) 7 [Ci ⟨np,nq,x,0⟩]) (ys:=[Ci ⟨np,nq,x,0⟩]) rfl (O4 _ _ _ _) (by simp only[G5,maxLen,xc,xZ,xd];omega);have b3:=b2 [];rw[xt,xi,show ss.map Ci++[Ci ⟨np,nq,x,0⟩]=(ss++[(⟨np,nq,x,0⟩:Ste)]).map Ci from by simp]at b3;obtain⟨mkq,hfq⟩:=(b3.get (i:=q+3) (by simp only[xX];exact Og hKq hCq)).frz;have htq:=(b3.get (i:=q+3) (by simp only[xX];exact Og hKq hCq)).tame;obtain⟨mm,r,hM,hr,hrl⟩:=Xl mkq mu kq us (by omega) (by omega);obtain⟨c1,c2⟩:=(a3.get (i:=0) rfl).cells;obtain⟨c3,c4⟩:=(b3.get (i:=1) rfl).cells;have hFp:=λB=>(hfp B true).1;have hFq:=λB=>(hfq B true).1;simp only[Ci,H4,yI,yJ]at a1 b1 hFp hFq htp htq c1 c2 c3 c4;have hsp:Kc.take q++sl mm 1 (r.map .str)::Kc.drop (q+1)=Kc.set q (sl mm 1 (r.map .str)):=by rw[List.set_eq_take_append_cons_drop,if_pos (by omega)]
   have hq1:q+1<=Kc.length:=by omega
   simp[AS,B5,k1,k3,k4,k5,k9,A7,V9,db,hx,hi3',him,hii,hi4,hil',hwa,hwb,hw1,hra,hrb,hwp1,hwpt,hrq,hplt,hqlt,hyp,hyq,hbin,hs3,hMB,hCp,hCq,hFp,htp,hBo,a1,c1,c2,hPr,b1,c3,c4,hFq,htq,hM,hsp,hq1,A3,D0,E7];have d3:∀BB,GLs ⟨BB,Fb⟩ (⟨true,1,(OH.take (i+1)).map .str,vt'⟩::⟨true,7,(ss++[(⟨np,nq,x,0⟩:Ste)]).map Ci,vs'⟩::⟨false,3,fs.map Gq,vf⟩::WC (Ks.set q r) (Kc.set q (sl mm 1 (r.map .str)))):=λBB=>by
    have:=((b3.fams (h':=⟨BB,Fb⟩) rfl).lit (q+3) 1 mm (r.map .str));simp only[xt]at this;rw[jn]at this;exact this
   exact O9 hJ ⟨i+1,by omega,by simp[B5],vt',vs',_,_,_,_,rfl,d3 _,hS.next hmsg (by rw[cZ];exact htag) hul hgp hgq M8 hKp hu hKq hr hrl,by simp[cZ],by simp[CF],by simp[Cr]⟩
  .have hil':¬(i:Int)<(d.steps.length:Int):=by omega
   obtain⟨np,nq,rt,rfl⟩:∃np nq rt,rs=np::nq::rt:=by
    match rs,hr23 with
    |a::b::l,_=>exact⟨a,b,l,rfl⟩
    | [],h=>simp at h
    | [a],h=>simp at h
   obtain⟨kp,kq,Kt,rfl⟩:∃kp kq Kt,Ks=kp::kq::Kt:=by
    match Ks,CF with
    |a::b::l,_=>exact⟨a,b,l,rfl⟩
    | [],h=>simp at h
    | [a],h=>simp at h
   obtain⟨vp,vq,Kr,rfl⟩:∃vp vq Kr,Kc=vp::vq::Kr:=by
    match Kc,Cr with
    |a::b::l,_=>exact⟨a,b,l,rfl⟩
    | [],h=>simp at h
    | [a],h=>simp at h
   have M8:np≠nq:=by
    intro e;rw[List.nodup_cons]at eX;exact eX.1 (by rw[e];exact xr)
   have hKpl:=hS.len kp xr;have hKql:=hS.len kq (List.mem_cons_of_mem _ xr);have hK2:2<=(np::nq::rt).length:=by omega
   have hyp:Ir ((np::nq::rt).map AV.str) 0=some (.str np):=rfl;have hyq:Ir ((np::nq::rt).map AV.str) 1=some (.str nq):=rfl;generalize hKK:(np::nq::rt).length=K at *
   have hwa:IntKind.i64.wrap 0=0:=by decide
   have hwb:IntKind.i64.wrap 1=1:=by decide
   have hra:D5 .rem (.int .i64 0) (.int .i64 (K:Int))=some (.int .i64 0):=by
    have:=DE (k:=.i64) 0 K (by omega)
    rwa [yK]at this
   have hrb:D5 .rem (.int .i64 0) (.int .i64 (kk:Int))=some (.int .i64 0):=by
    have:=DE (k:=.i64) 0 kk (by omega)
    rwa [yK]at this
   have hrq:D5 .rem (.int .i64 1) (.int .i64 (K:Int))=some (.int .i64 1):=by
    have:=DE (k:=.i64) 1 K (by omega)
    rwa [Nat.mod_eq_of_lt (by omega)]at this
   have hK1:1<K:=by omega
   have hK0:0<K:=by omega
   have hK1':(1:Int)<(K:Int):=by omega
   have hgp:(np::nq::rt)[0]?=some np:=rfl;have hgq:(np::nq::rt)[1]?=some nq:=rfl;generalize hrr:np::nq::rt=rs at *
   obtain⟨mkp,hfp⟩:=(hg.get (i:=3) rfl).frz;have htp:=(hg.get (i:=3) rfl).tame;obtain⟨mu,us,hBo,hul,hu⟩:=bC mkp (true,false) kp [] (λx hx=>nomatch hx) (by simp) (by omega) tag;generalize hw:Jf (C7 tag::us.map C7)=w at *
   have hPr:=bE 0 ⟨by omega,by omega⟩ np nq w mu us (by omega);have hmsg:NU ⟨np,nq,IR ((0:Int).tmod 6) np nq w us,0⟩ ((0:Int).tmod 6) tag us:=by unfold NU;rw[hw]
   generalize IR ((0:Int).tmod 6) np nq w us=x at *
   obtain⟨vt',Fa,a1,a2⟩:=hg.app (c:=G8 J6) rfl (i:=0) (bytes:=16) (x:=sl (true,true) 1 [.str tag]) (ys:=[.str tag]) rfl (O4 _ _ _ _) (by simp only[G5,maxLen,xc,xZ,xd,xa];omega);have a3:=a2 [];rw[xi,htake]at a3;obtain⟨vs',Fb,b1,b2⟩:=a3.app (c:=G8 J6) rfl (i:=1) (bytes:=96) (x:=sl (true,true) 7 [Ci ⟨np,nq,x,0⟩]) (ys:=[Ci ⟨np,nq,x,0⟩]) rfl (O4 _ _ _ _) (by simp only[G5,maxLen,xc,xZ,xd];omega);have b3:=b2 [];rw[xt,xi,show ss.map Ci++[Ci ⟨np,nq,x,0⟩]=(ss++[(⟨np,nq,x,0⟩:Ste)]).map Ci from by simp]at b3;obtain⟨mkq,hfq⟩:=(b3.get (i:=4) rfl).frz;have htq:=(b3.get (i:=4) rfl).tame;obtain⟨mm,r,hM,hr,hrl⟩:=Xl mkq mu kq us (by omega) (by omega);obtain⟨c1,c2⟩:=(a3.get (i:=0) rfl).cells;obtain⟨c3,c4⟩:=(b3.get (i:=1) rfl).cells;have hFp:=λB=>(hfp B true).1;have hFq:=λB=>(hfq B true).1;simp only[Ci,H4,yI,yJ]at a1 b1 hFp hFq htp htq c1 c2 c3 c4;simp only[yB]at hBo;simp[AS,B5,k1,k3,k4,k5,k9,A7,V9,db,hi3',him,hii,hi4,hil',hwa,hwb,hw1,hra,hrb,hrq,hK0,hK1,hK1',hyp,hyq,hbin,hs3,hFp,htp,hBo,a1,c1,c2,hPr,b1,c3,c4,hFq,htq,hM,A3,D0,E7];have d3:∀BB,GLs ⟨BB,Fb⟩ (⟨true,1,(OH.take (i+1)).map .str,vt'⟩::⟨true,7,(ss++[(⟨np,nq,x,0⟩:Ste)]).map Ci,vs'⟩::⟨false,3,fs.map Gq,vf⟩::WC (kp::r::Kt) (vp::sl mm 1 (r.map .str)::Kr)):=λBB=>(b3.fams (h':=⟨BB,Fb⟩) rfl).lit 4 1 mm (r.map .str);exact O9 hJ ⟨i+1,by omega,by simp[B5],vt',vs',_,_,_,_,rfl,d3 _,hS.next hmsg (by rw[cZ];exact htag) hul hgp hgq M8 (p:=0) (q:=1) rfl hu rfl hr hrl,by simp[cZ],by simpa using CF,by simpa using Cr⟩
 .obtain⟨vt,vs,ss,Ks,Kc,B,hB,hg,hS,cZ,CF,Cr⟩:=hr;obtain⟨bx,F⟩:=H1;simp only at hB;subst hB;have db:PL d=[.bool d.three,sl d.fm 1 (d.fresh.map (.int .u8)),sl d.sm 4 (d.steps.map TL),sl d.gm 4 (d.goals.map eU)]:=rfl;have hend:∀D3,Φ (.exit 2) D3 ⟨PL d::Z::[.str (bs [80]),sl mr 1 (rs.map .str),vf,vt,vs,.vs true 0 []]::Kc::B,F⟩:=λD3=>hΦ _ _ _ ⟨rfl,vt,vs,ss,Ks,Kc,B,rfl,by rw[cZ];exact hg,hS,by omega,by omega,CF,Cr⟩;by_cases him:(i:Int)<(if (d.steps.length:Int) > 1 then (d.steps.length:Int)else 1)
  .have hi3':¬(i:Int)<3:=by split at him<;>omega
   simp[AS,B5,k1,k3,k4,k5,k9,A7,db,him,hi3'];exact hend _
  .simp[AS,B5,k1,k3,k4,k5,k9,A7,db,him];exact hend _
structure PGl (rs:List ByteArray) (fs:List Fre) (g:Gol):Prop where
 kind:1<=g.kind/\g.kind<=5
 role:g.role∈rs
 agr:He g=true->g.wth∈rs/\g.role≠g.wth
 nag:He g=false->g.wth=bs []
 data:∃u∈fs.map Fre.name,g.data=[C7 u]
theorem kF (d:Drf) (D:DrOk d) (L:List Clm) (hL:L=d.goals.take 3) (hL3:L.length<=3) (rs:List ByteArray) (hr23:rs.length=2\/rs.length=3) (eX:rs.Nodup) (Z:E5) (mr:J0) (vf vt vs:AV) (fs:List Fre) (Ks:List (List ByteArray)) (Kc:E5) (B0:List (List AV)) (R:List GE) (hkn:∀(r:Nat) (l:List ByteArray) (u:H6),Ks[r]?=some l->u∈l->u∈fs.map Fre.name) (CF:Ks.length=rs.length) (Cr:Kc.length=rs.length) (C2:∀l∈Ks,l.length<=100) (fr:Fr) (h:AH) (hBX:h.boxes=PL d::Z::[.str (bs [80]),sl mr 1 (rs.map .str),vf,vt,vs,.vs true 0 []]::Kc::B0) (hg0:GLs h (⟨true,5,([]:List Gol).map DP,.vs true 0 []⟩::(R++WC Ks Kc))) (hl:fr.length=265) (h1:A0 fr 1=.ptr 0 0) (h3:A0 fr 3=.ptr 2 0) (h4:A0 fr 4=.int .i64 rs.length) (h5:A0 fr 5=.bsl 3 1 0 rs.length) (h16:A0 fr 16=.int .i64 0) :
  C8 (lp (A1 (Q8 Q) (G8 J6) S9) (fr,h)) λe D3 h'=>Kp S9.wr fr D3/\e=.exit 4/\∃(vg:AV) (gs:List Gol) (B:List (List AV)),h'.boxes=PL d::Z::[.str (bs [80]),sl mr 1 (rs.map .str),vf,vt,vs,vg]::Kc::B/\GLs h' (⟨true,5,gs.map DP,vg⟩::(R++WC Ks Kc))/\(∀g∈gs,PGl rs fs g)/\gs.length<=3:=by
 refine C3 rfl fr (λn fr h'=>∃(i:Nat),i+n=L.length/\A0 fr 16=.int .i64 (i:Nat)/\(∃(vg:AV) (gs:List Gol) (B:List (List AV)),h'.boxes=PL d::Z::[.str (bs [80]),sl mr 1 (rs.map .str),vf,vt,vs,vg]::Kc::B/\GLs h' (⟨true,5,gs.map DP,vg⟩::(R++WC Ks Kc))/\(∀g∈gs,PGl rs fs g)/\gs.length<=i)) ?_ L.length h ⟨0,by omega,h16,.vs true 0 [],[],B0,hBX,hg0,λg hg=>(nomatch hg),yH _⟩;rintro J Φ hJ hΦ n H0 H1 K ⟨i,hi,k16,hr⟩;have B5:=K.1.trans hl;have k1:=A5 K 1 h1;have k3:=A5 K 3 h3;have k4:=A5 K 4 h4;have k5:=A5 K 5 h5;clear K;by_cases A7:i<L.length
 .have V9:=E6 i (by omega);obtain⟨vg,gs,B,hB,hg,hP,hgl⟩:=hr;obtain⟨bx,F⟩:=H1;simp only at hB;subst hB;subst hL;rw[xa]at A7 hi;have hil:i<d.goals.length:=by omega
  have hi3':(i:Int)<3:=by omega
  have hil':(i:Int)<(d.goals.length:Int):=by omega
  have db:PL d=[.bool d.three,sl d.fm 1 (d.fresh.map (.int .u8)),sl d.sm 4 (d.steps.map TL),sl d.gm 4 (d.goals.map eU)]:=rfl;have hx:=H8 (f:=eU) (oD hil);obtain⟨⟨u1,u2⟩,⟨u3,u4⟩,⟨u5,u6⟩,u7,u8⟩:=D.goals _ (xe hil);generalize d.goals[i]=c at *
  obtain⟨ck,cr,cw,cd⟩:=c;simp only at u1 u2 u3 u4 u5 u6 u7 u8;simp only[eU]at hx;obtain⟨qk,rfl⟩:=xb u1;obtain⟨qr,rfl⟩:=xb u3;obtain⟨qw,rfl⟩:=xb u5;obtain⟨qd,rfl⟩:=xb u7;have hrl0:0<rs.length:=by omega
  obtain⟨kk,MA⟩:∃kk,rs.length=kk+1:=⟨rs.length-1,by omega⟩;have hw1:IntKind.i64.wrap ((rs.length:Int)-1)=(kk:Int):=by rw[MA,show ((kk+1:Nat):Int)-1=(kk:Int) from by omega];exact M5 (by omega) (by omega)
  have hwk:IntKind.i64.wrap (qk:Int)=(qk:Int):=M5 (by omega) (by omega);have hwr:IntKind.i64.wrap (qr:Int)=(qr:Int):=M5 (by omega) (by omega);have hww:IntKind.i64.wrap (qw:Int)=(qw:Int):=M5 (by omega) (by omega);have hwd:IntKind.i64.wrap (qd:Int)=(qd:Int):=M5 (by omega) (by omega);have hrr:D5 .rem (.int .i64 (qr:Int)) (.int .i64 (rs.length:Int))=some (.int .i64 ((qr % rs.length:Nat):Int)):=DE qr rs.length hrl0;have hrk:D5 .rem (.int .i64 (qk:Int)) (.int .i64 5)=some (.int .i64 ((qk % 5:Nat):Int)):=DE qk 5 (by omega);have hrw:D5 .rem (.int .i64 (qw:Int)) (.int .i64 (kk:Int))=some (.int .i64 ((qw % kk:Nat):Int)):=DE qw kk (by omega);have hp:qr % rs.length<rs.length:=xf _ hrl0;have hk5:qk % 5<5:=xf _ (by omega);have ht:qw % kk<kk:=xf _ (by omega);generalize qr % rs.length=p at *
  generalize qk % 5=kd at *
  generalize qw % kk=t at *
  have hwk1:IntKind.i64.wrap (1+(kd:Int))=1+(kd:Int):=M5 (by omega) (by omega);have hwp1:=E6 p (by omega);have hwpt:IntKind.i64.wrap ((p:Int)+1+(t:Int))=(p:Int)+1+(t:Int):=M5 (by omega) (by omega);have hrq:D5 .rem (.int .i64 ((p:Int)+1+(t:Int))) (.int .i64 (rs.length:Int))=some (.int .i64 (((p+1+t) % rs.length:Nat):Int)):=by
   have:=DE (k:=.i64) (p+1+t) rs.length hrl0
   rwa [show ((p+1+t:Nat):Int)=(p:Int)+1+(t:Int) from by omega]at this
  have hq:(p+1+t) % rs.length<rs.length:=xf _ hrl0;have hpq:p≠(p+1+t) % rs.length:=by
   rcases hr23 with h|h<;>rw[h]at hp⊢<;>omega
  generalize (p+1+t) % rs.length=q at *
  have hplt:(p:Int)<(rs.length:Int):=by omega
  have hyp:=H8 (f:=AV.str) (oD hp);have hyq:=H8 (f:=AV.str) (oD hq);have hgp:=oD hp;have hgq:=oD hq;have M8:rs[p]≠rs[q]:=λe=>hpq ((yG hp eX).1 (by rw[hgp,hgq,e]));generalize rs[p]=np at *
  generalize rs[q]=nq at *
  have hKp:Ks[p]?=some (Ks[p]'(by omega)):=oD (by omega);have hCp:Kc[p]?=some (Kc[p]'(by omega)):=oD (by omega);have hKpl:=C2 _ (xe (l:=Ks) (n:=p) (by omega));generalize Ks[p]=kp at *
  generalize Kc[p]=vp at *
  have hMB:=ar (l:=Kc) (by omega);have hgE:(⟨true,5,gs.map DP,vg⟩::(R++WC Ks Kc))[R.length+p+1]?=some ⟨false,1,kp.map AV.str,vp⟩:=by
   rw[xX,xw (by omega),show R.length+p-R.length=p from by omega];exact Og hKp hCp
  have hOk:=hg.get hgE;have hln:=hOk.len;simp only[xc]at hln;by_cases hz:kp=[]
  .subst hz;have hln0:∀h',Pf h' vp=some (.int .i64 0,h'):=λh'=>hln h';simp[S9,B5,k1,k3,k4,k5,k16,A7,V9,db,hx,hi3',hil',hwr,hrr,hplt,hMB,hCp,hln0];exact O9 hJ ⟨i+1,by rw[xa];omega,by simp[B5],vg,gs,_,rfl,hg.fams rfl,hP,by omega⟩
  .have XA:=List.length_pos_iff.2 hz;have hrd:D5 .rem (.int .i64 (qd:Int)) (.int .i64 (kp.length:Int))=some (.int .i64 ((qd % kp.length:Nat):Int)):=DE qd kp.length XA;have hj:qd % kp.length<kp.length:=xf _ XA;generalize qd % kp.length=j at *
   have hyj:=H8 (f:=AV.str) (oD hj);have hgj:(kp.map AV.str)[j]?=some (.str kp[j]):=by rw[List.getElem?_map,oD hj];rfl
   have hum:=hkn p kp kp[j] hKp (xe hj);generalize hkj:kp[j]=u at *
   have hA:=KH u;have hjl:(j:Int)<(kp.length:Int):=by omega
   have hAg0:=Qf ⟨1+(kd:Int),np,bs [],(true,true),[C7 u],0⟩;have hagr0:∀w,He ⟨1+(kd:Int),np,w,(true,true),[C7 u],0⟩=He ⟨1+(kd:Int),np,bs [],(true,true),[C7 u],0⟩:=λw=>rfl;obtain⟨m,rfl⟩|⟨k,rfl,hkF⟩:(∃m,vp=sl m 1 (kp.map .str))\/∃k,vp=.sl k kp.length 0 kp.length/\F[k]?=some ⟨kp.map .str,1,false⟩:=by
    rcases hOk with (⟨b,e⟩|⟨_,k,e,hk⟩)|⟨_,m,e⟩
    .exact .inl ⟨_,e⟩
    .exact .inr ⟨k,by simpa using e,hk⟩
    .exact .inl ⟨m,e⟩
   .clear hgE;cases hagr:He ⟨1+(kd:Int),np,bs [],(true,true),[C7 u],0⟩with
    |true =>
     have hAg:=hAg0;rw[hagr]at hAg;simp only[DP,A4,H4]at hAg;obtain⟨vg',Fa,a1,a2⟩:=hg.app (c:=G8 J6) rfl (i:=0) (bytes:=72) (x:=sl (true,true) 5 [DP ⟨1+(kd:Int),np,nq,(true,true),[C7 u],0⟩]) (ys:=[DP ⟨1+(kd:Int),np,nq,(true,true),[C7 u],0⟩]) rfl (O4 _ _ _ _) (by simp only[G5,maxLen,xc,xZ,xd];omega);obtain⟨c1,c2⟩:=((a2 []).get (i:=0) rfl).cells;simp only[DP,A4,H4]at a1 c1 c2;simp[S9,B5,k1,k3,k4,k5,k16,A7,V9,db,hx,hi3',hil',hwk,hwr,hww,hwd,hw1,hrr,hrk,hrd,hplt,XA,hz,hwk1,hyp,hMB,hCp,hln,hA,hjl,hAg,a1,c1,c2,A3,D0,E7,hyj,hrw,hwp1,hwpt,hrq,hyq];exact⟨n-1,by omega,hJ _ _ _ ⟨i+1,by rw[xa];omega,by simp[B5],vg',gs++[⟨1+(kd:Int),np,nq,(true,true),[C7 u],0⟩],_,rfl,by simpa using a2 _,λg DF=>by
      rcases xo.1 DF with DF|DF
      .exact hP g DF
      .rw[xh.1 DF];exact⟨⟨by simp only;omega,by simp only;omega⟩,xY hgp,λ_=>⟨xY hgq,M8⟩,λe=>absurd (hagr.symm.trans e) (by simp),u,hum,rfl⟩,by simp;omega⟩⟩
    |false =>
     have hAg:=hAg0;rw[hagr]at hAg;simp only[DP,A4,H4]at hAg;obtain⟨vg',Fa,a1,a2⟩:=hg.app (c:=G8 J6) rfl (i:=0) (bytes:=72) (x:=sl (true,true) 5 [DP ⟨1+(kd:Int),np,bs [],(true,true),[C7 u],0⟩]) (ys:=[DP ⟨1+(kd:Int),np,bs [],(true,true),[C7 u],0⟩]) rfl (O4 _ _ _ _) (by simp only[G5,maxLen,xc,xZ,xd];omega);obtain⟨c1,c2⟩:=((a2 []).get (i:=0) rfl).cells;simp only[DP,A4,H4]at a1 c1 c2;simp[S9,B5,k1,k3,k4,k5,k16,A7,V9,db,hx,hi3',hil',hwk,hwr,hww,hwd,hw1,hrr,hrk,hrd,hplt,XA,hz,hwk1,hyp,hMB,hCp,hln,hA,hjl,hAg,a1,c1,c2,A3,D0,E7,hyj];exact⟨n-1,by omega,hJ _ _ _ ⟨i+1,by rw[xa];omega,by simp[B5],vg',gs++[⟨1+(kd:Int),np,bs [],(true,true),[C7 u],0⟩],_,rfl,by simpa using a2 _,λg DF=>by
      rcases xo.1 DF with DF|DF
      .exact hP g DF
      .rw[xh.1 DF];exact⟨⟨by simp only;omega,by simp only;omega⟩,xY hgp,λe=>absurd (hagr.symm.trans e) (by simp),λ_=>rfl,u,hum,rfl⟩,by simp;omega⟩⟩
   .clear hgE;cases hagr:He ⟨1+(kd:Int),np,bs [],(true,true),[C7 u],0⟩with
    |true =>
     have hAg:=hAg0;rw[hagr]at hAg;simp only[DP,A4,H4]at hAg;obtain⟨vg',Fa,a1,a2⟩:=hg.app (c:=G8 J6) rfl (i:=0) (bytes:=72) (x:=sl (true,true) 5 [DP ⟨1+(kd:Int),np,nq,(true,true),[C7 u],0⟩]) (ys:=[DP ⟨1+(kd:Int),np,nq,(true,true),[C7 u],0⟩]) rfl (O4 _ _ _ _) (by simp only[G5,maxLen,xc,xZ,xd];omega);obtain⟨c1,c2⟩:=((a2 []).get (i:=0) rfl).cells;simp only[DP,A4,H4]at a1 c1 c2;simp[S9,B5,k1,k3,k4,k5,k16,A7,V9,db,hx,hi3',hil',hwk,hwr,hww,hwd,hw1,hrr,hrk,hrd,hplt,XA,hz,hwk1,hyp,hMB,hCp,hln,hA,hjl,hAg,a1,c1,c2,A3,D0,E7,hkF,hkj,hj,hrw,hwp1,hwpt,hrq,hyq];exact⟨n-1,by omega,hJ _ _ _ ⟨i+1,by rw[xa];omega,by simp[B5],vg',gs++[⟨1+(kd:Int),np,nq,(true,true),[C7 u],0⟩],_,rfl,by simpa using a2 _,λg DF=>by
      rcases xo.1 DF with DF|DF
      .exact hP g DF
      .rw[xh.1 DF];exact⟨⟨by simp only;omega,by simp only;omega⟩,xY hgp,λ_=>⟨xY hgq,M8⟩,λe=>absurd (hagr.symm.trans e) (by simp),u,hum,rfl⟩,by simp;omega⟩⟩
    |false =>
     have hAg:=hAg0;rw[hagr]at hAg;simp only[DP,A4,H4]at hAg;obtain⟨vg',Fa,a1,a2⟩:=hg.app (c:=G8 J6) rfl (i:=0) (bytes:=72) (x:=sl (true,true) 5 [DP ⟨1+(kd:Int),np,bs [],(true,true),[C7 u],0⟩]) (ys:=[DP ⟨1+(kd:Int),np,bs [],(true,true),[C7 u],0⟩]) rfl (O4 _ _ _ _) (by simp only[G5,maxLen,xc,xZ,xd];omega);obtain⟨c1,c2⟩:=((a2 []).get (i:=0) rfl).cells;simp only[DP,A4,H4]at a1 c1 c2;simp[S9,B5,k1,k3,k4,k5,k16,A7,V9,db,hx,hi3',hil',hwk,hwr,hww,hwd,hw1,hrr,hrk,hrd,hplt,XA,hz,hwk1,hyp,hMB,hCp,hln,hA,hjl,hAg,a1,c1,c2,A3,D0,E7,hkF,hkj,hj];exact⟨n-1,by omega,hJ _ _ _ ⟨i+1,by rw[xa];omega,by simp[B5],vg',gs++[⟨1+(kd:Int),np,bs [],(true,true),[C7 u],0⟩],_,rfl,by simpa using a2 _,λg DF=>by
      rcases xo.1 DF with DF|DF
      .exact hP g DF
      .rw[xh.1 DF];exact⟨⟨by simp only;omega,by simp only;omega⟩,xY hgp,λe=>absurd (hagr.symm.trans e) (by simp),λ_=>rfl,u,hum,rfl⟩,by simp;omega⟩⟩
 .obtain⟨vg,gs,B,hB,hg,hP,hgl⟩:=hr;obtain⟨bx,F⟩:=H1;simp only at hB;subst hB;have db:PL d=[.bool d.three,sl d.fm 1 (d.fresh.map (.int .u8)),sl d.sm 4 (d.steps.map TL),sl d.gm 4 (d.goals.map eU)]:=rfl;have hgol:=D.goalsL;have hend:∀D3,Φ (.exit 4) D3 ⟨PL d::Z::[.str (bs [80]),sl mr 1 (rs.map .str),vf,vt,vs,vg]::Kc::B,F⟩:=λD3=>hΦ _ _ _ ⟨rfl,vg,gs,B,rfl,hg,hP,by omega⟩;by_cases hil:i<d.goals.length
  .have hil':(i:Int)<(d.goals.length:Int):=by omega
   have hi3':¬(i:Int)<3:=by
    rw[hL,xa]at A7;omega
   simp[S9,B5,k1,k3,k4,k5,k16,A7,db,hil',hi3'];exact hend _
  .have hil':¬(i:Int)<(d.goals.length:Int):=by omega
   simp[S9,B5,k1,k3,k4,k5,k16,A7,db,hil'];exact hend _
end Go.Abs.Q
