/- A part of the proof. -/
import Derived.Test.YtohjdamplbhdpaaGreatDoorSG17
set_option linter.all false
open List renaming drop_eq_getElem_cons->xk,replicate->xl,getElem_mem->xm,take_succ_eq_append_getElem->xn,map_append->xo,map_cons->xp,map_nil->xq,drop_eq_nil_of_le->xr,getElem?_eq_some_iff->xt,getElem?_eq_getElem->xu,take_length->xw,set_append_right->xy,replicate_succ->xz,set_cons_zero->yA,drop_length->yB,append_nil->yC
open Nat renaming le_refl->yD
namespace Go.Abs.Q
open Go.Proofs
attribute [local simp] D0 D1 fin I1 E7
theorem Za (m:I8) (rs ns:List ByteArray) (vs:List Int) (m':I8) (l:I2) (C2:l.length<=1099511627776) (IH:∀t∈l,pc Q H9 [.agg [sl m 1 (rs.map .str),.vm (ns.map .str) (vs.map (.int .i64))],B8 t]=some (.int .i64 (Ah ns rs t))) (b1:E6) (fr:Fr) (h:AH) (hh:h.boxes=[[sl m 1 (rs.map .str),.vm (ns.map .str) (vs.map (.int .i64))],b1]) (hl:fr.length=46) (h2:A0 fr 2=.ptr 0 0) (h33:A0 fr 33=sl m' 4 (A3 l)) (h34:A0 fr 34=.int .i64 l.length) (h35:A0 fr 35=.int .i64 0) :
  C8 (lp (A1 (Q8 Q) (G7 P6) P9) (fr,h)) λe D4 h'=>Kp P9.wr fr D4/\(e=.exit 0/\E9 (Ah ns rs) l=0\/e=.ret/\A0 D4 4=.int .i64 (E9 (Ah ns rs) l)):=by
 refine C3 rfl fr (λn fr h'=>∃(i:Nat),i+n=l.length/\A0 fr 35=.int .i64 (i:Nat)/\(∃B,h'.boxes=[sl m 1 (rs.map .str),.vm (ns.map .str) (vs.map (.int .i64))]::B)/\E9 (Ah ns rs) (l.drop i)=E9 (Ah ns rs) l) ?_ l.length h ⟨0,by omega,h35,⟨_,hh⟩,rfl⟩;rintro J Φ hJ hΦ n G9 H1 K ⟨i,hi,k35,hr⟩;have B4:=K.1.trans hl;have k2:=A5 K 2 h2;have k33:=A5 K 33 h33;have k34:=A5 K 34 h34;clear K;by_cases A6:i<l.length
 .have V7:=E5 i (by omega);obtain⟨⟨B,hB⟩,hr⟩:=hr;obtain⟨bx,fams⟩:=H1;simp only at hB;subst hB;have hx:=S4 A6;have hI:=IH l[i] (xm A6);rw[xk A6]at hr;simp only[E9]at hr;generalize l[i]=t at *
  generalize Ah ns rs t=v at *
  by_cases hz:v=0
  .rw[if_neg (by simp[hz])]at hr;simp[P9,B4,k2,k33,k34,k35,A6,V7,hx,hI,hz];exact O4 hJ ⟨i+1,by omega,by simp[B4],⟨_,rfl⟩,hr⟩
  .rw[if_pos hz]at hr;simp[P9,B4,k2,k33,k34,k35,A6,hx,hI,hz];exact hΦ _ _ _ (.inr ⟨rfl,by simp[B4,hr]⟩)
 .obtain⟨_,hr⟩:=hr;rw[xr (by omega)]at hr;simp[P9,B4,k34,k35,A6];exact hΦ _ _ _ (.inl ⟨rfl,hr.symm⟩)
theorem iQ (m:I8) (rs ns:List ByteArray) (vs:List Int) (hr:rs.length<=1048576) (hkv:ns.length=vs.length) (g:Gol) (hg:Tm.sizes g.data<=1099511627776) :
  pc Q P6 [.agg [sl m 1 (rs.map .str),.vm (ns.map .str) (vs.map (.int .i64))],DQ g]=some (.int .i64 (Ml ns rs g)):=by
 have C2:=Tm.length_le g.data;have Pk:=Za m rs ns vs g.dm g.data (by omega) (λt ht=>bb m rs ns vs hr hkv _ t (yD _) (by have:=Tm.size_le ht;omega));have hC:=Du m rs g.role hr;have hT:=iT m rs (ns.map .str) (vs.map (.int .i64)) hr g.role g.wth;have hE:Ml ns rs g=if rs.any (BS g.role)=false then 13 else if Hi g=true/\Mm rs g.role g.wth≠0 then Mm rs g.role g.wth else E9 (Ah ns rs) g.data:=rfl
 have hA:Hi g=(decide (g.kind=2)||decide (g.kind=3)):=rfl;generalize Ml ns rs g=z at *
 generalize rs.any (BS g.role)=b at *
 generalize Mm rs g.role g.wth=w at *
 generalize Hi g=ab at *
 refine Q6 P8 λfr hl h0 h1=>?_;simp[P8]at hl h0 h1;have key:∀(G9:Fr) (h:AH),z=E9 (Ah ns rs) g.data->G9.length=46->A0 G9 2=.ptr 0 0->A0 G9 33=sl g.dm 4 (A3 g.data)->A0 G9 34=.int .i64 g.data.length->A0 G9 35=.int .i64 0->(∃b1,h.boxes=[[sl m 1 (rs.map .str),.vm (ns.map .str) (vs.map (.int .i64))],b1]) ->
   C8 (lp (A1 (Q8 Q) (G7 P6) P9) (G9,h)) (BL 0 (SQ (Q8 Q) (G7 P6) (.seq (.region false [⟨some 4,.mov (.c (.int .i64 0)),none⟩]) .ret) (jP [.tmp 4] (.int .i64 z)))):=by
  rintro G9 h rfl hl q2 q33 q34 q35 ⟨b1,hb⟩;refine C8.mono (Pk b1 G9 h hb hl q2 q33 q34 q35) ?_;rintro e Cs h2 ⟨K,⟨rfl,hz⟩|⟨rfl,k4⟩⟩
  .have Jc:=K.1.trans hl;simp[Jc,hz]
  .simp[k4]
 cases b with
 |false =>
  rw[if_pos rfl]at hE;simp[P8,hl,h0,h1,hC,hE]
 |true =>
  rw[if_neg (by simp)]at hE;have fin:ab=false\/w=0->z=E9 (Ah ns rs) g.data:=by
   intro h;rw[if_neg (by rintro⟨a,b⟩;rcases h with h|h;simp[h]at a;exact b h)]at hE
   exact hE
  by_cases k2:g.kind=2
  .have ea:ab=true:=by simp[hA,k2]
   by_cases hw:w=0
   .simp[P8,hl,h0,h1,hC,J8 k2,hT,hw];exact key _ _ (fin (.inr hw)) (by simp[hl]) (by simp[hl]) (by simp[hl]) (by simp[hl]) (by simp[hl]) ⟨_,rfl⟩
   .rw[if_pos ⟨ea,hw⟩]at hE;simp[P8,hl,h0,h1,hC,J8 k2,hT,hw,hE]
  .by_cases k3:g.kind=3
   .have ea:ab=true:=by simp[hA,k3]
    by_cases hw:w=0
    .simp[P8,hl,h0,h1,hC,E3 k2,J8 k3,hT,hw];exact key _ _ (fin (.inr hw)) (by simp[hl]) (by simp[hl]) (by simp[hl]) (by simp[hl]) (by simp[hl]) ⟨_,rfl⟩
    .rw[if_pos ⟨ea,hw⟩]at hE;simp[P8,hl,h0,h1,hC,E3 k2,J8 k3,hT,hw,hE]
   .have ea:ab=false:=by simp[hA,k2,k3]
    simp[P8,hl,h0,h1,hC,E3 k2,E3 k3];exact key _ _ (fin (.inl ea)) (by simp[hl]) (by simp[hl]) (by simp[hl]) (by simp[hl]) (by simp[hl]) ⟨_,rfl⟩
theorem XR (m:I8) (rs ns:List ByteArray) (vs:List Int) (hr:rs.length<=1048576) (m':I8) (l:List Ste) (C2:l.length<=1099511627776) (IH:∀s∈l,pc Q H9 [.agg [sl m 1 (rs.map .str),.vm (ns.map .str) (vs.map (.int .i64))],B8 s.msg]=some (.int .i64 (Ah ns rs s.msg))) (A:E6) (fr:Fr) (h:AH) (hh:h.boxes=[A,[sl m 1 (rs.map .str),.vm (ns.map .str) (vs.map (.int .i64))]]) (hl:fr.length=66) (h6:A0 fr 6=.ptr 1 0) (h26:A0 fr 26=sl m' 7 (l.map Cl)) (h27:A0 fr 27=.int .i64 l.length) (h28:A0 fr 28=.int .i64 0) :
  C8 (lp (A1 (Q8 Q) (G7 Cu) r8) (fr,h)) λe D4 h'=>Kp r8.wr fr D4/\(e=.exit 0/\Ai (JB ns rs) Ste.line l=(0,0)/\(∃B,h'.boxes=A::[sl m 1 (rs.map .str),.vm (ns.map .str) (vs.map (.int .i64))]::B)\/e=.ret/\A0 D4 2=.int .i64 (Ai (JB ns rs) Ste.line l).1/\A0 D4 3=.int .i64 (Ai (JB ns rs) Ste.line l).2/\Ai (JB ns rs) Ste.line l≠(0,0)):=by
 refine C3 rfl fr (λn fr h'=>∃(i:Nat),i+n=l.length/\A0 fr 28=.int .i64 (i:Nat)/\(∃B,h'.boxes=A::[sl m 1 (rs.map .str),.vm (ns.map .str) (vs.map (.int .i64))]::B)/\Ai (JB ns rs) Ste.line (l.drop i)=Ai (JB ns rs) Ste.line l) ?_ l.length h ⟨0,by omega,h28,⟨_,hh⟩,rfl⟩;rintro J Φ hJ hΦ n G9 H1 K ⟨i,hi,k28,hr⟩;have B4:=K.1.trans hl;have k6:=A5 K 6 h6;have k26:=A5 K 26 h26;have k27:=A5 K 27 h27;clear K;by_cases A6:i<l.length
 .have V7:=E5 i (by omega);obtain⟨⟨B,hB⟩,hr⟩:=hr;obtain⟨bx,fams⟩:=H1;simp only at hB;subst hB;have hx:=H8 (f:=Cl) (xu A6);have hI:=IH l[i] (xm A6);have hT:=iT m rs (ns.map .str) (vs.map (.int .i64)) (by omega) l[i].frm l[i].to;rw[xk A6]at hr;simp only[Ai]at hr;have hE:JB ns rs l[i]=if Mm rs l[i].frm l[i].to≠0 then Mm rs l[i].frm l[i].to else Ah ns rs l[i].msg:=rfl
  generalize l[i]=t at *
  generalize Ah ns rs t.msg=v at *
  generalize Mm rs t.frm t.to=w at *
  generalize JB ns rs t=z at *
  generalize hgl:Ai (JB ns rs) Ste.line l=L at *
  by_cases hw:w=0
  .rw[if_neg (by simp[hw])]at hE;subst hE;by_cases hz:z=0
   .rw[if_neg (by simp[hz])]at hr;simp[r8,B4,k6,k26,k27,k28,A6,V7,hx,hT,hw,hI,hz];exact O4 hJ ⟨i+1,by omega,by simp[B4],⟨_,rfl⟩,hr⟩
   .rw[if_pos hz]at hr;simp[r8,B4,k6,k26,k27,k28,A6,hx,hT,hw,hI,hz];exact hΦ _ _ _ (.inr ⟨rfl,by simp[B4,←hr],by simp[B4,←hr],by simp[←hr,hz]⟩)
  .rw[if_pos hw]at hE;rw[hE,if_pos hw]at hr;simp[r8,B4,k6,k26,k27,k28,A6,hx,hT,hw];exact hΦ _ _ _ (.inr ⟨rfl,by simp[B4,←hr],by simp[B4,←hr],by simp[←hr,hw]⟩)
 .obtain⟨hh',hr⟩:=hr;rw[xr (by omega)]at hr;simp[r8,B4,k27,k28,A6];exact hΦ _ _ _ (.inl ⟨rfl,hr.symm,hh'⟩)
theorem XQ (m:I8) (rs ns:List ByteArray) (vs:List Int) (m':I8) (l:List Gol) (C2:l.length<=1099511627776) (IH:∀s∈l,pc Q P6 [.agg [sl m 1 (rs.map .str),.vm (ns.map .str) (vs.map (.int .i64))],DQ s]=some (.int .i64 (Ml ns rs s))) (A:E6) (fr:Fr) (h:AH) (hh:∃B,h.boxes=A::[sl m 1 (rs.map .str),.vm (ns.map .str) (vs.map (.int .i64))]::B) (hl:fr.length=66) (h6:A0 fr 6=.ptr 1 0) (h51:A0 fr 51=sl m' 5 (l.map DQ)) (h52:A0 fr 52=.int .i64 l.length) (h53:A0 fr 53=.int .i64 0) :
  C8 (lp (A1 (Q8 Q) (G7 Cu) Av) (fr,h)) λe D4 h'=>Kp Av.wr fr D4/\(e=.exit 2/\Ai (Ml ns rs) Gol.line l=(0,0)\/e=.ret/\A0 D4 2=.int .i64 (Ai (Ml ns rs) Gol.line l).1/\A0 D4 3=.int .i64 (Ai (Ml ns rs) Gol.line l).2):=by
 refine C3 rfl fr (λn fr h'=>∃(i:Nat),i+n=l.length/\A0 fr 53=.int .i64 (i:Nat)/\(∃B,h'.boxes=A::[sl m 1 (rs.map .str),.vm (ns.map .str) (vs.map (.int .i64))]::B)/\Ai (Ml ns rs) Gol.line (l.drop i)=Ai (Ml ns rs) Gol.line l) ?_ l.length h ⟨0,by omega,h53,hh,rfl⟩;rintro J Φ hJ hΦ n G9 H1 K ⟨i,hi,k53,hr⟩;have B4:=K.1.trans hl;have k6:=A5 K 6 h6;have k51:=A5 K 51 h51;have k52:=A5 K 52 h52;clear K;by_cases A6:i<l.length
 .have V7:=E5 i (by omega);obtain⟨⟨B,hB⟩,hr⟩:=hr;obtain⟨bx,fams⟩:=H1;simp only at hB;subst hB;have hx:=H8 (f:=DQ) (xu A6);have hI:=IH l[i] (xm A6);rw[xk A6]at hr;simp only[Ai]at hr;generalize l[i]=t at *
  generalize Ml ns rs t=z at *
  generalize hgl:Ai (Ml ns rs) Gol.line l=L at *
  by_cases hz:z=0
  .rw[if_neg (by simp[hz])]at hr;simp[Av,B4,k6,k51,k52,k53,A6,V7,hx,hI,hz];exact O4 hJ ⟨i+1,by omega,by simp[B4],⟨_,rfl⟩,hr⟩
  .rw[if_pos hz]at hr;simp[Av,B4,k6,k51,k52,k53,A6,hx,hI,hz];exact hΦ _ _ _ (.inr ⟨rfl,by simp[B4,←hr],by simp[B4,←hr]⟩)
 .obtain⟨hh',hr⟩:=hr;rw[xr (by omega)]at hr;simp[Av,B4,k52,k53,A6];exact hΦ _ _ _ (.inl ⟨rfl,hr.symm⟩)
theorem LE (n:Nar):(B5 n).length=(E4 n).length:=by simp[B5,E4]
theorem Qg (n:Nar) (F:Fine n) (hS:n.roles.length+n.fresh.length+n.tags.length<=1048576):pc Q Cu [V8 n]=some (.tup [.int .i64 (Al n).1,.int .i64 (Al n).2]):=by
 have hV:=Xv n F;have hD:=Xq n hS;have l1:=F.stepsL;have l2:=F.goalsL;have fs:=F.steps;have fg:=F.goals;have hT:∀t:Tm,t.size<=1099511627776->pc Q H9 [aJ n.rm n,B8 t]=some (.int .i64 (Ah (B5 n) n.roles t)):=λt ht=>bb n.rm n.roles (B5 n) (E4 n) (by omega) (LE n) _ t (yD _) ht;have hG:∀g:Gol,Tm.sizes g.data<=1099511627776->pc Q P6 [aJ n.rm n,DQ g]=some (.int .i64 (Ml (B5 n) n.roles g)):=λg hg=>iQ n.rm n.roles (B5 n) (E4 n) (by omega) (LE n) g hg;have hE:Al n=if NY n≠0 then (0,NY n)else if Hk n≠0 then (0,Hk n)
  else if Ai (JB (B5 n) n.roles) Ste.line n.steps≠(0,0)then Ai (JB (B5 n) n.roles) Ste.line n.steps else Ai (Ml (B5 n) n.roles) Gol.line n.goals:=rfl
 have hN:Hk n=0->pc Q y6 [V8 n]=some (aJ n.rm n):=Nk n hS;unfold aJ at hT hG hN;generalize Al n=z at *
 generalize NY n=e1 at *
 generalize Hk n=e2 at *
 generalize B5 n=ns at *
 generalize E4 n=vs at *
 clear F;obtain⟨name,rm,roles,fm,fresh,tm,tags,sm,steps,gm,goals⟩:=n;simp only at *
 have q1:=XR rm roles ns vs (by omega) sm steps l1 (λs hs=>hT _ (fs s hs).2.2) [.str name,sl rm 1 (roles.map .str),sl fm 3 (fresh.map Gy),sl tm 1 (tags.map .str),sl sm 7 (steps.map Cl),sl gm 5 (goals.map DQ)];have q2:=XQ rm roles ns vs gm goals l2 (λg hg=>hG g (fg g hg).2.2) [.str name,sl rm 1 (roles.map .str),sl fm 3 (fresh.map Gy),sl tm 1 (tags.map .str),sl sm 7 (steps.map Cl),sl gm 5 (goals.map DQ)];clear hT hG;generalize Ai (JB ns roles) Ste.line steps=L1 at *
 generalize Ai (Ml ns roles) Gol.line goals=L2 at *
 refine N4 Ee λfr hl h0=>?_;simp[Ee,V8]at hl h0;simp only[V8]at hV hD hN;by_cases z1:e1=0
 .rw[if_neg (by simp[z1])]at hE;by_cases z2:e2=0
  .rw[if_neg (by simp[z2])]at hE;have hN:=hN z2;generalize hU:ns.map AV.str=U at *
   generalize hW:vs.map (AV.int .i64)=W at *
   simp[Ee,hl,h0,hV,z1,hD,z2,hN];refine C8.mono (q1 _ _ ?_ ?_ ?_ ?_ ?_ ?_) ?_<;>first|(simp[hl];done)|skip
   rintro e G9 ⟨bx,fams⟩ ⟨K,⟨rfl,hz,B,hB⟩|⟨rfl,k2,k3,hz⟩⟩
   .simp only at hB;subst hB;have M7:G9.length=66:=K.1.trans (by simp[hl]);have GN:A0 G9 1=.ptr 0 0:=A5 K 1 (by simp[hl]);have sA:A0 G9 6=.ptr 1 0:=A5 K 6 (by simp[hl]);clear K;rw[if_neg (by simp[hz])]at hE;simp[M7,GN];refine C8.mono (q2 _ _ ?_ ?_ ?_ ?_ ?_ ?_) ?_<;>first|(simp[M7,sA];done)|skip
    rintro e Cs h2 ⟨K,⟨rfl,hz⟩|⟨rfl,k2,k3⟩⟩
    .have Fd:Cs.length=66:=K.1.trans (by simp[M7]);clear K;simp[Fd,hE,hz]
    .simp[k2,k3,hE]
   .rw[if_pos hz]at hE;simp[k2,k3,hE]
  .rw[if_pos z2]at hE;simp[Ee,hl,h0,hV,z1,hD,z2,hE]
 .rw[if_pos z1]at hE;simp[Ee,hl,h0,hV,z1,hE]
def H5 (ns:List ByteArray) (vs:List Int) (a:ByteArray):Int:=if ns.any (BS a)=true then vs.getD (idx (BS a) ns).toNat 0 else 0
mutual
def Y7 (f:ByteArray->Int):Tm->Tm
 | .mk k nm s _ l=>.mk k nm (if k=2 then f nm else s) (false,false) (AS f l)
def AS (f:ByteArray->Int):List Tm->List Tm
 | []=>[]
 |t::l=>Y7 f t::AS f l
end
mutual
def D5:Tm->Tm
 | .mk k nm s _ l=>.mk k nm s (false,false) (G8 l)
def G8:List Tm->List Tm
 | []=>[]
 |t::l=>D5 t::G8 l
end
theorem KX (f:ByteArray->Int) (l:I2):AS f l=l.map (Y7 f):=by
 induction l with
 |nil=>rfl
 |cons t l ih=>simp[AS,ih]
theorem D3 (l:I2):G8 l=l.map D5:=by
 induction l with
 |nil=>rfl
 |cons t l ih=>simp[G8,ih]
theorem jL (ns:List ByteArray) (vs:List Int) (hkv:ns.length=vs.length) (h:AH) (a:H7) :
  Es true false (.int .i64 0) h (.vm (ns.map .str) (vs.map (.int .i64))) (.str a)=some (.int .i64 (H5 ns vs a),h):=by
 cases hk:ns.any (BS a)with
 |false=>simp[Es,Ow,CN,Km a ns 0 hk,H5,hk]
 |true =>
  have hge:=(CL (BS a) ns 0).2 hk;have A6:=IL (BS a) ns 0;have hi:(R8 (BS a) 0 ns).toNat<vs.length:=by omega
  simp[Es,Ow,CN,OB a ns 0 hk,hi,H5,hk,idx]
theorem Zz (ns:List ByteArray) (vs:List Int) (hkv:ns.length=vs.length) (r x0 x2 x3:AV) (nm:H7) (h:AH) (hb:h.boxes[0]?=some [x0,.str nm,x2,x3]) :
  ∃w h',rc Q l9 [.ptr 0 0,.pv [r,.vm (ns.map .str) (vs.map (.int .i64))]] h=some (w,h')/\w=.tup []/\h'={h with boxes:=h.boxes.set 0 [x0,.str nm,.int .i64 (H5 ns vs nm),x3]}:=by
 have hM:=jL ns vs hkv h nm;have A6:=J0 hb;refine FT GB λfr hl h0 h1=>?_;simp[GB]at hl h0 h1;simp[GB,hl,h0,h1,hb,hM]
def Yr (r:AV) (ns:List ByteArray) (vs:List Int):AV:=.fn l9 [.pv [r,.vm (ns.map .str) (vs.map (.int .i64))]]
@[simp] theorem uL (h:AH) (am:Bool) (r:AV) (ns:List ByteArray) (vs:List Int):frz h am (Yr r ns vs)=some (Yr r ns vs):=rfl
@[simp] theorem qj (h:AH) (r:AV) (ns:List ByteArray) (vs:List Int):tame h (Yr r ns vs)=true:=rfl
def zT:AV:=.agg [.int .i64 0,.str (bs []),.int .i64 0,.vs true 0 []]
theorem VX (by':AV) (f:ByteArray->Int) (m:I8) (l:I2) (C2:l.length<=1099511627776) (hby:∀h am,frz h am by'=some by') (hby2:∀h,tame h by'=true) (IH:∀t∈l,∃t',pc Q I5 [B8 t,by']=some (B8 t')/\D5 t'=Y7 f t) (A C:E6) (fr:Fr) (h:AH) (hh:h=⟨[A,C],[⟨xl l.length zT,4,true⟩]⟩) (hl:fr.length=36) (h1:A0 fr 1=by') (h5:A0 fr 5=.sl 0 l.length 0 l.length) (h19:A0 fr 19=sl m 4 (A3 l)) (h20:A0 fr 20=.int .i64 l.length) (h21:A0 fr 21=.int .i64 0) :
  C8 (lp (A1 (Q8 Q) (G7 I5) BO) (fr,h)) λe D4 h'=>Kp BO.wr fr D4/\e=.exit 0/\∃B done,h'=⟨A::C::B,[⟨A3 done,4,true⟩]⟩/\G8 done=AS f l/\done.length=l.length:=by
 refine C3 rfl fr (λn fr h'=>∃(i:Nat),i+n=l.length/\A0 fr 21=.int .i64 (i:Nat)/\(∃B done,h'=⟨A::C::B,[⟨A3 done++xl (l.length-i) zT,4,true⟩]⟩/\G8 done=AS f (l.take i)/\done.length=i)) ?_ l.length h ⟨0,by omega,h21,⟨[],[],by simp[hh,A3],by simp[G8,AS],rfl⟩⟩;rintro J Φ hJ hΦ n G9 H1 K ⟨i,hi,k21,hr⟩;have B4:=K.1.trans hl;have k1:=A5 K 1 h1;have k5:=A5 K 5 h5;have k19:=A5 K 19 h19;have k20:=A5 K 20 h20;clear K;by_cases A6:i<l.length
 .have V7:=E5 i (by omega);obtain⟨B,done,rfl,hd,EF⟩:=hr;have hx:=S4 A6;obtain⟨t',hI,ht⟩:=IH l[i] (xm A6);have e1:l.length-i=(l.length-(i+1))+1:=by omega
  have e2:G8 (done++[t'])=AS f (l.take (i+1)):=by
   rw[xn A6,D3,xo,←D3,hd,KX,KX,xo,xp,xq,xp,xq,ht]
  have e3:(A3 done++xl (l.length-i) zT).set i (B8 t')=A3 (done++[t'])++xl (l.length-(i+1)) zT:=by
   rw[e1,xz,xy _ _ (by simp[EF]),Dz];simp[EF]
  have e4:(A3 done++xl (l.length-i) zT)[i]?=some zT:=by
   rw[e1,xz,List.getElem?_append_right (by simp[EF])];simp[EF]
  have e5:(A3 done++xl (l.length-i) zT).length=l.length:=by simp[EF];omega
  clear ht hd;generalize l[i]=t at *
  generalize A3 done++xl (l.length-i) zT=X at *
  have e6:(AV.agg [.int .i64 t'.kind,.str t'.name,.int .i64 t'.sort,sl t'.cm 4 (A3 t'.kids)])=B8 t':=WF t';obtain⟨_,e7⟩:=xt.1 e4;simp[BO,B4,k1,k5,k19,k20,k21,A6,V7,hx,hI,hby,hby2,e7,e5,zT,AV.reform];exact O4 hJ ⟨i+1,by omega,by simp[B4],⟨_,done++[t'],by rw[e3],e2,by simp[EF]⟩⟩
 .obtain⟨B,done,rfl,hd,EF⟩:=hr;have e:i=l.length:=by omega
  subst e;rw[xw]at hd;simp[BO,B4,k20,k21];exact hΦ _ _ _ ⟨rfl,B,done,by simp,hd,EF⟩
theorem ST (r:AV) (hr:r.flat=true) (ns:List ByteArray) (vs:List Int) (hkv:ns.length=vs.length):∀(n:Nat) (t:Tm),t.size<=n->t.size<=1099511627776->L3 t=0->∃t',pc Q I5 [B8 t,Yr r ns vs]=some (B8 t')/\D5 t'=Y7 (H5 ns vs) t:=by
 intro n
 induction n with
 |zero=>intro t h;have:=t.size_pos;omega
 |succ n ih =>
  intro t hn hb M5;obtain⟨k,nm,s,m,kids⟩:=t;have K4:Tm.size (.mk k nm s m kids)=1+Tm.sizes kids:=rfl;have C2:=Tm.length_le kids;obtain⟨hne1,hne2⟩:=CS M5;have hnb:=(IT hne1).2.1;have Pk:=VX (Yr r ns vs) (H5 ns vs) m kids (by omega) (λ_ _=>rfl) (λ_=>rfl) (λt ht=>ih t (by have:=Tm.size_le ht;omega) (by have:=Tm.size_le ht;omega) (BM hne2 t ht))
  suffices h:∃v,pc Q I5 [B8 (.mk k nm s m kids),Yr r ns vs]=some v/\∃t',v=B8 t'/\D5 t'=Y7 (H5 ns vs) (.mk k nm s m kids) by
   obtain⟨v,h1,t',rfl,h2⟩:=h;exact⟨t',h1,h2⟩
  refine Ta Eo λΨ hΨ fr hl h0 h1=>?_;simp[Eo,B8]at hl h0 h1;by_cases hk:k=2
  .have hkd:kids=[]:=List.eq_nil_of_length_eq_zero (hnb (.inr hk));have hS:=λ(h:AH) (hb:h.boxes[0]?=some [.int .i64 k,.str nm,.int .i64 s,sl m 4 (A3 kids)])=>Zz ns vs hkv r _ _ _ nm h hb;obtain⟨w,h',q1,q2,q3⟩:=hS ⟨[[.int .i64 k,.str nm,.int .i64 s,sl m 4 (A3 kids)],[.int .i64 0,.str (bs []),.int .i64 0,.vs true 0 []]],[]⟩ rfl;simp only[yA]at q3;subst q2 q3;simp[Eo,hl,h0,h1,Yr,J8 hk,q1];exact hΨ _ ⟨.mk k nm (H5 ns vs nm) m kids,rfl,by subst hkd;simp[D5,G8,Y7,AS,hk]⟩
  .have r1:(kids.length:Int)*56<=(G4:Int)/\kids.length<=maxLen:=by simp only[G4,maxLen];omega
   simp[Eo,hl,h0,E3 hk,r1];refine C8.mono (Pk [.int .i64 k,.str nm,.int .i64 s,sl m 4 (A3 kids)] [.int .i64 0,.str (bs []),.int .i64 0,.vs true 0 []] _ _ ?_ ?_ ?_ ?_ ?_ ?_ ?_) ?_<;>first|(simp[hl,h1];done)|rfl|skip
   rintro e G9 h1 ⟨K,rfl,B,done,rfl,hd,EF⟩;have M7:G9.length=36:=K.1.trans (by simp[hl]);have FM:A0 G9 2=.ptr 0 0:=A5 K 2 (by simp[hl]);have MT:A0 G9 4=.ptr 1 0:=A5 K 4 (by simp[hl]);have rz:A0 G9 5=.sl 0 kids.length 0 kids.length:=A5 K 5 (by simp[hl]);clear K;have e1:List.take kids.length (A3 done)=A3 done:=List.take_of_length_le (by simp[EF]);simp[M7,FM,MT,rz,e1,EF];exact hΨ _ ⟨.mk k nm s (false,true) done,rfl,by simp[D5,Y7,hk,hd]⟩
end Go.Abs.Q
namespace Go.Abs.Q
open Go.Proofs
attribute [local simp] D0 D1 fin I1 E7 OG
def cH (k sz:Nat) (xs:List AV) (v:AV) (h:AH):Prop:=(xs=[]/\∃b,v=sl (true,b) sz [])\/(xs≠[]/\v=.sl k xs.length 0 xs.length/\h.fams[k]?=some ⟨xs,sz,true⟩)
@[simp] theorem HL (h:AH) (k n off len:Nat):Bn h (.sl k n off len)=y8 h true (.sl k n off len):=rfl
@[simp] theorem lj (h:AH):Bn h (.vs true 0 [])=some (.vs true 0 []):=rfl
theorem Pb {k sz:Nat} {xs:E6} {v:AV} {h:AH} (hg:cH k sz xs v h):v.isTup=false/\v.cells=[v]/\CJ [v]=false:=by
 rcases hg with ⟨_,b,rfl⟩|⟨_,rfl,_⟩<;>exact⟨rfl,rfl,rfl⟩
theorem VA {k sz:Nat} {xs:E6} {v:AV} {h:AH} (hg:cH k sz xs v h) (h':AH):Pn h' v=some (.int .i64 xs.length,h'):=by
 rcases hg with ⟨rfl,b,rfl⟩|⟨_,rfl,_⟩
 .simp
 .rfl
theorem Mb (m:I8) (xs:E6) (Yv:xs.length<=1048576):∃m',pc Q Y5 [sl m 1 xs]=some (sl m' 1 xs):=by
 suffices h:∃r,pc Q Y5 [sl m 1 xs]=some r/\∃m',r=sl m' 1 xs by
  obtain⟨r,h1,m',rfl⟩:=h;exact⟨m',h1⟩
 have hr:xs.length*16<=G4/\xs.length<=maxLen:=by simp only[G4,maxLen];omega
 refine Jk Y8 λΨ hΨ fr hl h0=>?_;simp[Y8]at hl h0;by_cases he:xs=[]
 .subst he;obtain⟨m1,m2⟩:=m;cases m2 with
  |false =>
   simp[Y8,hl,h0];exact hΨ _ ⟨(true,false),Fw 1⟩
  |true =>
   simp[Y8,hl,h0,FX,A4];exact hΨ _ ⟨_,rfl⟩
 .have he':xs.isEmpty=false:=by simpa using he
  simp[Y8,hl,h0,he',FX,A4,he,hr,HL];exact hΨ _ ⟨_,rfl⟩
theorem TV (m:I8) (xs:E6) (Yv:xs.length<=1048576):∃m',pc Q BH [sl m 3 xs]=some (sl m' 3 xs):=by
 suffices h:∃r,pc Q BH [sl m 3 xs]=some r/\∃m',r=sl m' 3 xs by
  obtain⟨r,h1,m',rfl⟩:=h;exact⟨m',h1⟩
 have hr:xs.length*40<=G4/\xs.length<=maxLen:=by simp only[G4,maxLen];omega
 refine Jk j5 λΨ hΨ fr hl h0=>?_;simp[j5]at hl h0;by_cases he:xs=[]
 .subst he;obtain⟨m1,m2⟩:=m;cases m2 with
  |false =>
   simp[j5,hl,h0];exact hΨ _ ⟨(true,false),Fw 3⟩
  |true =>
   simp[j5,hl,h0,FX,A4];exact hΨ _ ⟨_,rfl⟩
 .have he':xs.isEmpty=false:=by simpa using he
  simp[j5,hl,h0,he',FX,A4,he,hr,HL];exact hΨ _ ⟨_,rfl⟩
theorem LK (m:I8) (xs:E6) (Yv:xs.length<=1048576) (h:AH):∃w h',rc Q G5 [sl m 4 xs] h=some (w,h')/\cH h.fams.length 4 xs w h'/\h'.boxes=h.boxes/\∃e,h'.fams=h.fams++e:=by
 have hr:xs.length*56<=G4/\xs.length<=maxLen:=by simp only[G4,maxLen];omega
 suffices hq:∃w h',rc Q G5 [sl m 4 xs] h=some (w,h')/\∀Ψ:AV->AH->Prop,(∀w h',cH h.fams.length 4 xs w h'/\h'.boxes=h.boxes/\(∃e,h'.fams=h.fams++e)->Ψ w h')->Ψ w h' by
  obtain⟨w,h',h1,h2⟩:=hq;exact⟨w,h',h1,h2 _ λ_ _ h=>h⟩
 refine YL N9 λfr hl h0=>?_;simp[N9]at hl h0;by_cases he:xs=[]
 .subst he;obtain⟨m1,m2⟩:=m;cases m2 with
  |false =>
   simp[N9,hl,h0];exact λΨ hΨ=>hΨ _ _ (.inl ⟨rfl,false,Fw 4⟩) rfl [] (by simp)
  |true =>
   simp[N9,hl,h0,FX,A4];exact λΨ hΨ=>hΨ _ _ (.inl ⟨rfl,true,rfl⟩) rfl [] (by simp)
 .have he':xs.isEmpty=false:=by simpa using he
  simp[N9,hl,h0,he',FX,A4,he,hr,show TU G5=true from rfl];exact λΨ hΨ=>hΨ _ _ (.inr ⟨he,rfl,by simp⟩) rfl _ rfl
theorem Vv (m:I8) (xs:E6) (Yv:xs.length<=1048576) (h:AH):∃w h',rc Q M2 [sl m 7 xs] h=some (w,h')/\cH h.fams.length 7 xs w h'/\h'.boxes=h.boxes/\∃e,h'.fams=h.fams++e:=by
 have hr:xs.length*96<=G4/\xs.length<=maxLen:=by simp only[G4,maxLen];omega
 suffices hq:∃w h',rc Q M2 [sl m 7 xs] h=some (w,h')/\∀Ψ:AV->AH->Prop,(∀w h',cH h.fams.length 7 xs w h'/\h'.boxes=h.boxes/\(∃e,h'.fams=h.fams++e)->Ψ w h')->Ψ w h' by
  obtain⟨w,h',h1,h2⟩:=hq;exact⟨w,h',h1,h2 _ λ_ _ h=>h⟩
 refine YL x5 λfr hl h0=>?_;simp[x5]at hl h0;by_cases he:xs=[]
 .subst he;obtain⟨m1,m2⟩:=m;cases m2 with
  |false =>
   simp[x5,hl,h0];exact λΨ hΨ=>hΨ _ _ (.inl ⟨rfl,false,Fw 7⟩) rfl [] (by simp)
  |true =>
   simp[x5,hl,h0,FX,A4];exact λΨ hΨ=>hΨ _ _ (.inl ⟨rfl,true,rfl⟩) rfl [] (by simp)
 .have he':xs.isEmpty=false:=by simpa using he
  simp[x5,hl,h0,he',FX,A4,he,hr,show TU M2=true from rfl];exact λΨ hΨ=>hΨ _ _ (.inr ⟨he,rfl,by simp⟩) rfl _ rfl
theorem Vu (m:I8) (xs:E6) (Yv:xs.length<=1048576) (h:AH):∃w h',rc Q M1 [sl m 5 xs] h=some (w,h')/\cH h.fams.length 5 xs w h'/\h'.boxes=h.boxes/\∃e,h'.fams=h.fams++e:=by
 have hr:xs.length*72<=G4/\xs.length<=maxLen:=by simp only[G4,maxLen];omega
 suffices hq:∃w h',rc Q M1 [sl m 5 xs] h=some (w,h')/\∀Ψ:AV->AH->Prop,(∀w h',cH h.fams.length 5 xs w h'/\h'.boxes=h.boxes/\(∃e,h'.fams=h.fams++e)->Ψ w h')->Ψ w h' by
  obtain⟨w,h',h1,h2⟩:=hq;exact⟨w,h',h1,h2 _ λ_ _ h=>h⟩
 refine YL x4 λfr hl h0=>?_;simp[x4]at hl h0;by_cases he:xs=[]
 .subst he;obtain⟨m1,m2⟩:=m;cases m2 with
  |false =>
   simp[x4,hl,h0];exact λΨ hΨ=>hΨ _ _ (.inl ⟨rfl,false,Fw 5⟩) rfl [] (by simp)
  |true =>
   simp[x4,hl,h0,FX,A4];exact λΨ hΨ=>hΨ _ _ (.inl ⟨rfl,true,rfl⟩) rfl [] (by simp)
 .have he':xs.isEmpty=false:=by simpa using he
  simp[x4,hl,h0,he',FX,A4,he,hr,show TU M1=true from rfl];exact λΨ hΨ=>hΨ _ _ (.inr ⟨he,rfl,by simp⟩) rfl _ rfl
end Go.Abs.Q
namespace Go.Abs.Q
open Go.Proofs
attribute [local simp] D0 D1 fin I1 E7
@[simp] theorem wD (B:List (List AV)) (f f':List Fam) (v:AV):US true ⟨B,f⟩ (some (v,⟨B,f'⟩))=some (v,⟨B,f'⟩):=gQ ⟨B,f⟩ v f'
@[simp] theorem qH (s:Ste) (cs:E6):(Cl s).reform cs=some (.agg cs):=rfl
@[simp] theorem pW (s:Gol) (cs:E6):(DQ s).reform cs=some (.agg cs):=rfl
@[simp] theorem qM (s:Tm) (cs:E6):(B8 s).reform cs=some (.agg cs):=by cases s;rfl
theorem tY (a b:H7) (t:Tm) (c:Int):AV.agg [.str a,.str b,.int .i64 t.kind,.str t.name,.int .i64 t.sort,sl t.cm 4 (A3 t.kids),.int .i64 c]=Cl ⟨a,b,t,c⟩:=by cases t;rfl
def Lo (s:Ste):Ste:=⟨s.frm,s.to,D5 s.msg,s.line⟩
def Dd (f:ByteArray->Int) (s:Ste):Ste:=⟨s.frm,s.to,Y7 f s.msg,s.line⟩
def lg (g:Gol):Gol:=⟨g.kind,g.role,g.wth,(false,false),G8 g.data,g.line⟩
def Ya (f:ByteArray->Int) (g:Gol):Gol:=⟨g.kind,g.role,g.wth,(false,false),AS f g.data,g.line⟩
theorem NM {α β:Type} (g:α->β) (done l:List α) {i:Nat} (hi:i<l.length) (hd:done.length=i):∃h:i<((done++l.drop i).map g).length,((done++l.drop i).map g)[i]=g l[i]/\((done++l.drop i).map g).length=l.length:=by
 have e:(done++l.drop i).length=l.length:=by simp[hd];omega
 refine⟨by simp[hd];omega,?_,by simpa using e⟩;simp[hd,List.getElem_append_right]
theorem NN {α β:Type} (g:α->β) (done l:List α) {i:Nat} (hi:i<l.length) (hd:done.length=i) (x:α):((done++l.drop i).map g).set i (g x)=((done++[x])++l.drop (i+1)).map g:=by
 rw[xk hi,←List.map_set,xy _ _ (by omega),hd,Nat.sub_self,yA,List.append_assoc,List.singleton_append]
theorem Ck {α:Type} {l:List α} {k:Nat} {x:α} (h:l[k]?=some x):l.set k x=l:=by
 obtain⟨h1,h2⟩:=xt.1 h;subst h2;exact List.set_getElem_self h1
theorem dP (by':AV) (f:ByteArray->Int) (l:List Ste) (C2:l.length<=1048576) (hby:∀h am,frz h am by'=some by') (hby2:∀h,tame h by'=true) (IH:∀s∈l,∃t',pc Q I5 [B8 s.msg,by']=some (B8 t')/\D5 t'=Y7 f s.msg) (k:Nat) (b0 b1 b2 b3 b5:AV) (C:E6) (fr:Fr) (h:AH) (hh:h.boxes=[[b0,b1,b2,b3,.sl k l.length 0 l.length,b5],C]) (hfam:h.fams[k]?=some ⟨l.map Cl,7,true⟩) (hl:fr.length=85) (h1:A0 fr 1=by') (h2:A0 fr 2=.ptr 0 0) (h31:A0 fr 31=.int .i64 l.length) (h32:A0 fr 32=.int .i64 0) :
  C8 (lp (A1 (Q8 Q) (G7 y5) Ef) (fr,h)) λe D4 h'=>Kp Ef.wr fr D4/\e=.exit 0/\∃done:List Ste,h'=⟨h.boxes,h.fams.set k ⟨done.map Cl,7,true⟩⟩/\done.map Lo=l.map (Dd f)/\done.length=l.length:=by
 refine C3 rfl fr (λn fr h'=>∃(i:Nat),i+n=l.length/\A0 fr 32=.int .i64 (i:Nat)/\(∃done:List Ste,h'=⟨h.boxes,h.fams.set k ⟨(done++l.drop i).map Cl,7,true⟩⟩/\done.map Lo=(l.take i).map (Dd f)/\done.length=i)) ?_ l.length h ⟨0,by omega,h32,⟨[],by simp[Ck hfam],rfl,rfl⟩⟩;rintro J Φ hJ hΦ n G9 H1 K ⟨i,hi,k32,hr⟩;have B4:=K.1.trans hl;have k1:=A5 K 1 h1;have k2:=A5 K 2 h2;have k31:=A5 K 31 h31;clear K;by_cases A6:i<l.length
 .have V7:=E5 i (by omega);obtain⟨done,rfl,hd,EF⟩:=hr;obtain⟨t',hI,ht⟩:=IH l[i] (xm A6);obtain⟨q1,q2,q3⟩:=NM Cl done l A6 EF;have q4:=NN Cl done l A6 EF ⟨l[i].frm,l[i].to,t',l[i].line⟩;have e2:(done++[Ste.mk l[i].frm l[i].to t' l[i].line]).map Lo=(l.take (i+1)).map (Dd f):=by
   rw[xn A6,xo,hd,xo,xp,xq,xp,xq];simp only[Lo,ht,Dd]
  have CI:=J0 hfam;have e6:=tY l[i].frm l[i].to t' l[i].line;rw[hh]at hJ ⊢;clear hd ht;generalize (done++l.drop i).map Cl=X at *
  generalize hY:(done++[Ste.mk l[i].frm l[i].to t' l[i].line]++l.drop (i+1)).map Cl=Y at *
  generalize l[i]=s at *
  simp[Ef,B4,k1,k2,k31,k32,A6,V7,hI,hby,hby2,q2,q3,q4,e6,CI];exact O4 hJ ⟨i+1,by omega,by simp[B4],⟨_,by rw[hY],e2,by simp[EF]⟩⟩
 .obtain⟨done,rfl,hd,EF⟩:=hr;have e:i=l.length:=by omega
  subst e;rw[xw]at hd;rw[yB,yC];simp[Ef,B4,k31,k32];exact hΦ _ _ _ ⟨rfl,done,rfl,hd,EF⟩
theorem dN (by':AV) (f:ByteArray->Int) (l:I2) (C2:l.length<=1048576) (hby:∀h am,frz h am by'=some by') (hby2:∀h,tame h by'=true) (IH:∀s∈l,∃t',pc Q I5 [B8 s,by']=some (B8 t')/\D5 t'=Y7 f s) (k:Nat) (fr:Fr) (h:AH) (hfam:h.fams[k]?=some ⟨A3 l,4,true⟩) (hl:fr.length=85) (h1:A0 fr 1=by') (h7:A0 fr 7=.sl k l.length 0 l.length) (h63:A0 fr 63=.int .i64 l.length) (h64:A0 fr 64=.int .i64 0) :
  C8 (lp (A1 (Q8 Q) (G7 y5) y7) (fr,h)) λe D4 h'=>Kp y7.wr fr D4/\e=.exit 4/\∃done:List Tm,h'=⟨h.boxes,h.fams.set k ⟨A3 done,4,true⟩⟩/\G8 done=AS f l/\done.length=l.length:=by
 refine C3 rfl fr (λn fr h'=>∃(i:Nat),i+n=l.length/\A0 fr 64=.int .i64 (i:Nat)/\(∃done:List Tm,h'=⟨h.boxes,h.fams.set k ⟨(done++l.drop i).map B8,4,true⟩⟩/\G8 done=AS f (l.take i)/\done.length=i)) ?_ l.length h ⟨0,by omega,h64,⟨[],by simp[Ck hfam,←D7],by simp[G8,AS],rfl⟩⟩;rintro J Φ hJ hΦ n G9 H1 K ⟨i,hi,k64,hr⟩;have B4:=K.1.trans hl;have k1:=A5 K 1 h1;have k7:=A5 K 7 h7;have k63:=A5 K 63 h63;clear K;by_cases A6:i<l.length
 .have V7:=E5 i (by omega);obtain⟨done,rfl,hd,EF⟩:=hr;obtain⟨t',hI,ht⟩:=IH l[i] (xm A6);obtain⟨q1,q2,q3⟩:=NM B8 done l A6 EF;have q4:=NN B8 done l A6 EF t';have e2:G8 (done++[t'])=AS f (l.take (i+1)):=by
   rw[xn A6,D3,xo,←D3,hd,KX,KX,xo,xp,xq,xp,xq,ht]
  have CI:=J0 hfam;clear hd ht;generalize (done++l.drop i).map B8=X at *
  generalize hY:(done++[t']++l.drop (i+1)).map B8=Y at *
  generalize l[i]=s at *
  simp[y7,B4,k1,k7,k63,k64,A6,V7,hI,hby,hby2,q2,q3,q4,CI];exact O4 hJ ⟨i+1,by omega,by simp[B4],⟨_,by rw[hY],e2,by simp[EF]⟩⟩
 .obtain⟨done,rfl,hd,EF⟩:=hr;have e:i=l.length:=by omega
  subst e;rw[xw]at hd;rw[yB,yC,←D7];simp[y7,B4,k63,k64];exact hΦ _ _ _ ⟨rfl,done,rfl,hd,EF⟩
theorem fS (fr:Fr) (h:AH) (hl:fr.length=85) (h63:A0 fr 63=.int .i64 0) (h64:A0 fr 64=.int .i64 0) :
  C8 (lp (A1 (Q8 Q) (G7 y5) y7) (fr,h)) λe D4 h'=>Kp y7.wr fr D4/\e=.exit 4/\h'=h:=by
 refine C3 rfl fr (λn D4 h'=>D4=fr/\h'=h) ?_ 0 h ⟨rfl,rfl⟩;rintro J Φ hJ hΦ n G9 H1 K ⟨rfl,rfl⟩;simp[y7,hl,h63,h64];exact hΦ _ _ _ ⟨rfl,rfl⟩
end Go.Abs.Q
