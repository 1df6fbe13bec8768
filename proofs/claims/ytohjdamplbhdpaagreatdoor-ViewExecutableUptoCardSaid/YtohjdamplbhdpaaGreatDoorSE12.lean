/- A part of the proof. -/
import Derived.Test.YtohjdamplbhdpaaGreatDoorSE11
set_option linter.all false
open List renaming getElem_mem->A0Z,drop_eq_getElem_cons->A0a,take_succ_eq_append_getElem->A0c,getElem?_set_ne->A0d,map_append->A0e,drop_eq_nil_of_le->A0f,getElem?_set_self->A0g,map_cons->A0h,replicate->A0i,map_nil->A0j,getElem?_append_left->A0l,getElem?_eq_some_iff->A0m,take_of_length_le->A0n,take_length->A0o,map_eq_nil_iff->A0p,drop_length->A0q,getElem?_eq_getElem->A0r,length_take->A0s,append_nil->A0t,length_eq_one_iff->A0u,set_append_right->A0v,mem_of_mem_take->A0w,replicate_succ->A0x,set_cons_zero->A0y,drop_zero->A0z
open Option renaming bind_some->A0b
open Nat renaming le_refl->A0k
namespace Go.Abs.Q
open Go.Proofs
attribute [local simp] E6 E8 fin K1 H2
theorem jU (m:I6) (rs ns:List ByteArray) (vs:List Int) (m':I6) (l:G7) (B8:l.length<=1099511627776) (IH:∀t∈l,pc Q J7 [.agg [sl m 1 (rs.map .str),.vm (ns.map .str) (vs.map (.int .i64))],B9 t]=some (.int .i64 (y8 ns rs t))) (b1:G6) (fr:Fr) (h:AH) (hh:h.boxes=[[sl m 1 (rs.map .str),.vm (ns.map .str) (vs.map (.int .i64))],b1]) (hl:fr.length=46) (h2:A0 fr 2=.ptr 0 0) (h33:A0 fr 33=sl m' 4 (A4 l)) (h34:A0 fr 34=.int .i64 l.length) (h35:A0 fr 35=.int .i64 0) :
  B6 (lp (A2 (K8 Q) (D6 T7) U1) (fr,h)) λe C3 h'=>Kp U1.wr fr C3/\(e=.exit 0/\D3 (y8 ns rs) l=0\/e=.ret/\A0 C3 4=.int .i64 (D3 (y8 ns rs) l)):=by
 refine A9 rfl fr (λn fr h'=>∃(i:Nat),i+n=l.length/\A0 fr 35=.int .i64 (i:Nat)/\(∃B,h'.boxes=[sl m 1 (rs.map .str),.vm (ns.map .str) (vs.map (.int .i64))]::B)/\D3 (y8 ns rs) (l.drop i)=D3 (y8 ns rs) l) ?_ l.length h ⟨0,by omega,h35,⟨_,hh⟩,rfl⟩;rintro J Φ hJ hΦ n D4 H1 K ⟨i,hi,k35,hr⟩;have A6:=K.1.trans hl;have k2:=A8 K 2 h2;have k33:=A8 K 33 h33;have k34:=A8 K 34 h34;clear K;by_cases A7:i<l.length
 .have L3:=C6 i (by omega);obtain⟨⟨B,hB⟩,hr⟩:=hr;obtain⟨bx,fams⟩:=H1;simp only at hB;subst hB;have hx:=I0 A7;have hI:=IH l[i] (A0Z A7);rw[A0a A7]at hr;simp only[D3]at hr;generalize l[i]=t at *
  generalize y8 ns rs t=v at *
  by_cases hz:v=0
  .rw[if_neg (by simp[hz])]at hr;simp[U1,A6,k2,k33,k34,k35,A7,L3,hx,hI,hz];exact G0 hJ ⟨i+1,by omega,by simp[A6],⟨_,rfl⟩,hr⟩
  .rw[if_pos hz]at hr;simp[U1,A6,k2,k33,k34,k35,A7,hx,hI,hz];exact hΦ _ _ _ (.inr ⟨rfl,by simp[A6,hr]⟩)
 .obtain⟨_,hr⟩:=hr;rw[A0f (by omega)]at hr;simp[U1,A6,k34,k35,A7];exact hΦ _ _ _ (.inl ⟨rfl,hr.symm⟩)
theorem tG (m:I6) (rs ns:List ByteArray) (vs:List Int) (hr:rs.length<=1048576) (hkv:ns.length=vs.length) (g:Gol) (hg:Tm.sizes g.data<=1099511627776) :
  pc Q T7 [.agg [sl m 1 (rs.map .str),.vm (ns.map .str) (vs.map (.int .i64))],Ey g]=some (.int .i64 (JA ns rs g)):=by
 have B8:=Tm.length_le g.data;have Gl:=jU m rs ns vs g.dm g.data (by omega) (λt ht=>li m rs ns vs hr hkv _ t (A0k _) (by have:=Tm.size_le ht;omega));have hC:=Hg m rs g.role hr;have hT:=tJ m rs (ns.map .str) (vs.map (.int .i64)) hr g.role g.wth;have hE:JA ns rs g=if rs.any (U7 g.role)=false then 13 else if OC g=true/\Nb rs g.role g.wth≠0 then Nb rs g.role g.wth else D3 (y8 ns rs) g.data:=rfl
 have hA:OC g=(decide (g.kind=2)||decide (g.kind=3)):=rfl;generalize JA ns rs g=z at *
 generalize rs.any (U7 g.role)=b at *
 generalize Nb rs g.role g.wth=w at *
 generalize OC g=ab at *
 refine N3 U0 λfr hl h0 h1=>?_;simp[U0]at hl h0 h1;have key:∀(D4:Fr) (h:AH),z=D3 (y8 ns rs) g.data->D4.length=46->A0 D4 2=.ptr 0 0->A0 D4 33=sl g.dm 4 (A4 g.data)->A0 D4 34=.int .i64 g.data.length->A0 D4 35=.int .i64 0->(∃b1,h.boxes=[[sl m 1 (rs.map .str),.vm (ns.map .str) (vs.map (.int .i64))],b1]) ->
   B6 (lp (A2 (K8 Q) (D6 T7) U1) (D4,h)) (BL 0 (SQ (K8 Q) (D6 T7) (.seq (.region false [⟨some 4,.mov (.c (.int .i64 0)),none⟩]) .ret) (kU [.tmp 4] (.int .i64 z)))):=by
  rintro D4 h rfl hl q2 q33 q34 q35 ⟨b1,hb⟩;refine B6.mono (Gl b1 D4 h hb hl q2 q33 q34 q35) ?_;rintro e Q6 h2 ⟨K,⟨rfl,hz⟩|⟨rfl,k4⟩⟩
  .have Bb:=K.1.trans hl;simp[Bb,hz]
  .simp[k4]
 cases b with
 |false =>
  rw[if_pos rfl]at hE;simp[U0,hl,h0,h1,hC,hE]
 |true =>
  rw[if_neg (by simp)]at hE;have fin:ab=false\/w=0->z=D3 (y8 ns rs) g.data:=by
   intro h;rw[if_neg (by rintro⟨a,b⟩;rcases h with h|h;simp[h]at a;exact b h)]at hE
   exact hE
  by_cases k2:g.kind=2
  .have ea:ab=true:=by simp[hA,k2]
   by_cases hw:w=0
   .simp[U0,hl,h0,h1,hC,B7 k2,hT,hw];exact key _ _ (fin (.inr hw)) (by simp[hl]) (by simp[hl]) (by simp[hl]) (by simp[hl]) (by simp[hl]) ⟨_,rfl⟩
   .rw[if_pos ⟨ea,hw⟩]at hE;simp[U0,hl,h0,h1,hC,B7 k2,hT,hw,hE]
  .by_cases k3:g.kind=3
   .have ea:ab=true:=by simp[hA,k3]
    by_cases hw:w=0
    .simp[U0,hl,h0,h1,hC,A3 k2,B7 k3,hT,hw];exact key _ _ (fin (.inr hw)) (by simp[hl]) (by simp[hl]) (by simp[hl]) (by simp[hl]) (by simp[hl]) ⟨_,rfl⟩
    .rw[if_pos ⟨ea,hw⟩]at hE;simp[U0,hl,h0,h1,hC,A3 k2,B7 k3,hT,hw,hE]
   .have ea:ab=false:=by simp[hA,k2,k3]
    simp[U0,hl,h0,h1,hC,A3 k2,A3 k3];exact key _ _ (fin (.inl ea)) (by simp[hl]) (by simp[hl]) (by simp[hl]) (by simp[hl]) (by simp[hl]) ⟨_,rfl⟩
theorem ek (m:I6) (rs ns:List ByteArray) (vs:List Int) (hr:rs.length<=1048576) (m':I6) (l:List Ste) (B8:l.length<=1099511627776) (IH:∀s∈l,pc Q J7 [.agg [sl m 1 (rs.map .str),.vm (ns.map .str) (vs.map (.int .i64))],B9 s.msg]=some (.int .i64 (y8 ns rs s.msg))) (A:G6) (fr:Fr) (h:AH) (hh:h.boxes=[A,[sl m 1 (rs.map .str),.vm (ns.map .str) (vs.map (.int .i64))]]) (hl:fr.length=66) (h6:A0 fr 6=.ptr 1 0) (h26:A0 fr 26=sl m' 7 (l.map EP)) (h27:A0 fr 27=.int .i64 l.length) (h28:A0 fr 28=.int .i64 0) :
  B6 (lp (A2 (K8 Q) (D6 GD) BE) (fr,h)) λe C3 h'=>Kp BE.wr fr C3/\(e=.exit 0/\S9 (HD ns rs) Ste.line l=(0,0)/\(∃B,h'.boxes=A::[sl m 1 (rs.map .str),.vm (ns.map .str) (vs.map (.int .i64))]::B)\/e=.ret/\A0 C3 2=.int .i64 (S9 (HD ns rs) Ste.line l).1/\A0 C3 3=.int .i64 (S9 (HD ns rs) Ste.line l).2/\S9 (HD ns rs) Ste.line l≠(0,0)):=by
 refine A9 rfl fr (λn fr h'=>∃(i:Nat),i+n=l.length/\A0 fr 28=.int .i64 (i:Nat)/\(∃B,h'.boxes=A::[sl m 1 (rs.map .str),.vm (ns.map .str) (vs.map (.int .i64))]::B)/\S9 (HD ns rs) Ste.line (l.drop i)=S9 (HD ns rs) Ste.line l) ?_ l.length h ⟨0,by omega,h28,⟨_,hh⟩,rfl⟩;rintro J Φ hJ hΦ n D4 H1 K ⟨i,hi,k28,hr⟩;have A6:=K.1.trans hl;have k6:=A8 K 6 h6;have k26:=A8 K 26 h26;have k27:=A8 K 27 h27;clear K;by_cases A7:i<l.length
 .have L3:=C6 i (by omega);obtain⟨⟨B,hB⟩,hr⟩:=hr;obtain⟨bx,fams⟩:=H1;simp only at hB;subst hB;have hx:=G1 (f:=EP) (A0r A7);have hI:=IH l[i] (A0Z A7);have hT:=tJ m rs (ns.map .str) (vs.map (.int .i64)) (by omega) l[i].frm l[i].to;rw[A0a A7]at hr;simp only[S9]at hr;have hE:HD ns rs l[i]=if Nb rs l[i].frm l[i].to≠0 then Nb rs l[i].frm l[i].to else y8 ns rs l[i].msg:=rfl
  generalize l[i]=t at *
  generalize y8 ns rs t.msg=v at *
  generalize Nb rs t.frm t.to=w at *
  generalize HD ns rs t=z at *
  generalize hgl:S9 (HD ns rs) Ste.line l=L at *
  by_cases hw:w=0
  .rw[if_neg (by simp[hw])]at hE;subst hE;by_cases hz:z=0
   .rw[if_neg (by simp[hz])]at hr;simp[BE,A6,k6,k26,k27,k28,A7,L3,hx,hT,hw,hI,hz];exact G0 hJ ⟨i+1,by omega,by simp[A6],⟨_,rfl⟩,hr⟩
   .rw[if_pos hz]at hr;simp[BE,A6,k6,k26,k27,k28,A7,hx,hT,hw,hI,hz];exact hΦ _ _ _ (.inr ⟨rfl,by simp[A6,←hr],by simp[A6,←hr],by simp[←hr,hz]⟩)
  .rw[if_pos hw]at hE;rw[hE,if_pos hw]at hr;simp[BE,A6,k6,k26,k27,k28,A7,hx,hT,hw];exact hΦ _ _ _ (.inr ⟨rfl,by simp[A6,←hr],by simp[A6,←hr],by simp[←hr,hw]⟩)
 .obtain⟨hh',hr⟩:=hr;rw[A0f (by omega)]at hr;simp[BE,A6,k27,k28,A7];exact hΦ _ _ _ (.inl ⟨rfl,hr.symm,hh'⟩)
theorem eh (m:I6) (rs ns:List ByteArray) (vs:List Int) (m':I6) (l:List Gol) (B8:l.length<=1099511627776) (IH:∀s∈l,pc Q T7 [.agg [sl m 1 (rs.map .str),.vm (ns.map .str) (vs.map (.int .i64))],Ey s]=some (.int .i64 (JA ns rs s))) (A:G6) (fr:Fr) (h:AH) (hh:∃B,h.boxes=A::[sl m 1 (rs.map .str),.vm (ns.map .str) (vs.map (.int .i64))]::B) (hl:fr.length=66) (h6:A0 fr 6=.ptr 1 0) (h51:A0 fr 51=sl m' 5 (l.map Ey)) (h52:A0 fr 52=.int .i64 l.length) (h53:A0 fr 53=.int .i64 0) :
  B6 (lp (A2 (K8 Q) (D6 GD) Ct) (fr,h)) λe C3 h'=>Kp Ct.wr fr C3/\(e=.exit 2/\S9 (JA ns rs) Gol.line l=(0,0)\/e=.ret/\A0 C3 2=.int .i64 (S9 (JA ns rs) Gol.line l).1/\A0 C3 3=.int .i64 (S9 (JA ns rs) Gol.line l).2):=by
 refine A9 rfl fr (λn fr h'=>∃(i:Nat),i+n=l.length/\A0 fr 53=.int .i64 (i:Nat)/\(∃B,h'.boxes=A::[sl m 1 (rs.map .str),.vm (ns.map .str) (vs.map (.int .i64))]::B)/\S9 (JA ns rs) Gol.line (l.drop i)=S9 (JA ns rs) Gol.line l) ?_ l.length h ⟨0,by omega,h53,hh,rfl⟩;rintro J Φ hJ hΦ n D4 H1 K ⟨i,hi,k53,hr⟩;have A6:=K.1.trans hl;have k6:=A8 K 6 h6;have k51:=A8 K 51 h51;have k52:=A8 K 52 h52;clear K;by_cases A7:i<l.length
 .have L3:=C6 i (by omega);obtain⟨⟨B,hB⟩,hr⟩:=hr;obtain⟨bx,fams⟩:=H1;simp only at hB;subst hB;have hx:=G1 (f:=Ey) (A0r A7);have hI:=IH l[i] (A0Z A7);rw[A0a A7]at hr;simp only[S9]at hr;generalize l[i]=t at *
  generalize JA ns rs t=z at *
  generalize hgl:S9 (JA ns rs) Gol.line l=L at *
  by_cases hz:z=0
  .rw[if_neg (by simp[hz])]at hr;simp[Ct,A6,k6,k51,k52,k53,A7,L3,hx,hI,hz];exact G0 hJ ⟨i+1,by omega,by simp[A6],⟨_,rfl⟩,hr⟩
  .rw[if_pos hz]at hr;simp[Ct,A6,k6,k51,k52,k53,A7,hx,hI,hz];exact hΦ _ _ _ (.inr ⟨rfl,by simp[A6,←hr],by simp[A6,←hr]⟩)
 .obtain⟨hh',hr⟩:=hr;rw[A0f (by omega)]at hr;simp[Ct,A6,k52,k53,A7];exact hΦ _ _ _ (.inl ⟨rfl,hr.symm⟩)
theorem NO (n:Nar):(B5 n).length=(G2 n).length:=by simp[B5,G2]
theorem WJ (n:Nar) (F:Fine n) (hS:n.roles.length+n.fresh.length+n.tags.length<=1048576):pc Q GD [G4 n]=some (.tup [.int .i64 (Y0 n).1,.int .i64 (Y0 n).2]):=by
 have hV:=fp n F;have hD:=fj n hS;have l1:=F.stepsL;have l2:=F.goalsL;have fs:=F.steps;have fg:=F.goals;have hT:∀t:Tm,t.size<=1099511627776->pc Q J7 [kO n.rm n,B9 t]=some (.int .i64 (y8 (B5 n) n.roles t)):=λt ht=>li n.rm n.roles (B5 n) (G2 n) (by omega) (NO n) _ t (A0k _) ht;have hG:∀g:Gol,Tm.sizes g.data<=1099511627776->pc Q T7 [kO n.rm n,Ey g]=some (.int .i64 (JA (B5 n) n.roles g)):=λg hg=>tG n.rm n.roles (B5 n) (G2 n) (by omega) (NO n) g hg;have hE:Y0 n=if Pe n≠0 then (0,Pe n)else if IM n≠0 then (0,IM n)
  else if S9 (HD (B5 n) n.roles) Ste.line n.steps≠(0,0)then S9 (HD (B5 n) n.roles) Ste.line n.steps else S9 (JA (B5 n) n.roles) Gol.line n.goals:=rfl
 have hN:IM n=0->pc Q BZ [G4 n]=some (kO n.rm n):=TO n hS;unfold kO at hT hG hN;generalize Y0 n=z at *
 generalize Pe n=e1 at *
 generalize IM n=e2 at *
 generalize B5 n=ns at *
 generalize G2 n=vs at *
 clear F;obtain⟨name,rm,roles,fm,fresh,tm,tags,sm,steps,gm,goals⟩:=n;simp only at *
 have q1:=ek rm roles ns vs (by omega) sm steps l1 (λs hs=>hT _ (fs s hs).2.2) [.str name,sl rm 1 (roles.map .str),sl fm 3 (fresh.map Lz),sl tm 1 (tags.map .str),sl sm 7 (steps.map EP),sl gm 5 (goals.map Ey)];have q2:=eh rm roles ns vs gm goals l2 (λg hg=>hG g (fg g hg).2.2) [.str name,sl rm 1 (roles.map .str),sl fm 3 (fresh.map Lz),sl tm 1 (tags.map .str),sl sm 7 (steps.map EP),sl gm 5 (goals.map Ey)];clear hT hG;generalize S9 (HD ns roles) Ste.line steps=L1 at *
 generalize S9 (JA ns roles) Gol.line goals=L2 at *
 refine H6 Ij λfr hl h0=>?_;simp[Ij,G4]at hl h0;simp only[G4]at hV hD hN;by_cases z1:e1=0
 .rw[if_neg (by simp[z1])]at hE;by_cases z2:e2=0
  .rw[if_neg (by simp[z2])]at hE;have hN:=hN z2;generalize hU:ns.map AV.str=U at *
   generalize hW:vs.map (AV.int .i64)=W at *
   simp[Ij,hl,h0,hV,z1,hD,z2,hN];refine B6.mono (q1 _ _ ?_ ?_ ?_ ?_ ?_ ?_) ?_<;>first|(simp[hl];done)|skip
   rintro e D4 ⟨bx,fams⟩ ⟨K,⟨rfl,hz,B,hB⟩|⟨rfl,k2,k3,hz⟩⟩
   .simp only at hB;subst hB;have J3:D4.length=66:=K.1.trans (by simp[hl]);have Fe:A0 D4 1=.ptr 0 0:=A8 K 1 (by simp[hl]);have k6fr1:A0 D4 6=.ptr 1 0:=A8 K 6 (by simp[hl]);clear K;rw[if_neg (by simp[hz])]at hE;simp[J3,Fe];refine B6.mono (q2 _ _ ?_ ?_ ?_ ?_ ?_ ?_) ?_<;>first|(simp[J3,k6fr1];done)|skip
    rintro e Q6 h2 ⟨K,⟨rfl,hz⟩|⟨rfl,k2,k3⟩⟩
    .have T6:Q6.length=66:=K.1.trans (by simp[J3]);clear K;simp[T6,hE,hz]
    .simp[k2,k3,hE]
   .rw[if_pos hz]at hE;simp[k2,k3,hE]
  .rw[if_pos z2]at hE;simp[Ij,hl,h0,hV,z1,hD,z2,hE]
 .rw[if_pos z1]at hE;simp[Ij,hl,h0,hV,z1,hE]
def J9 (ns:List ByteArray) (vs:List Int) (a:ByteArray):Int:=if ns.any (U7 a)=true then vs.getD (idx (U7 a) ns).toNat 0 else 0
mutual
def CO (f:ByteArray->Int):Tm->Tm
 | .mk k nm s _ l=>.mk k nm (if k=2 then f nm else s) (false,false) (o7 f l)
def o7 (f:ByteArray->Int):List Tm->List Tm
 | []=>[]
 |t::l=>CO f t::o7 f l
end
mutual
def E3:Tm->Tm
 | .mk k nm s _ l=>.mk k nm s (false,false) (H5 l)
def H5:List Tm->List Tm
 | []=>[]
 |t::l=>E3 t::H5 l
end
theorem JR (f:ByteArray->Int) (l:G7):o7 f l=l.map (CO f):=by
 induction l with
 |nil=>rfl
 |cons t l ih=>simp[o7,ih]
theorem E4 (l:G7):H5 l=l.map E3:=by
 induction l with
 |nil=>rfl
 |cons t l ih=>simp[H5,ih]
theorem uG (ns:List ByteArray) (vs:List Int) (hkv:ns.length=vs.length) (h:AH) (a:J1) :
  Gq true false (.int .i64 0) h (.vm (ns.map .str) (vs.map (.int .i64))) (.str a)=some (.int .i64 (J9 ns vs a),h):=by
 cases hk:ns.any (U7 a)with
 |false=>simp[Gq,TG,GZ,QA a ns 0 hk,J9,hk]
 |true =>
  have hge:=(Dh (U7 a) ns 0).2 hk;have A7:=Ke (U7 a) ns 0;have hi:(Q2 (U7 a) 0 ns).toNat<vs.length:=by omega
  simp[Gq,TG,GZ,Te a ns 0 hk,hi,J9,hk,idx]
theorem kF (ns:List ByteArray) (vs:List Int) (hkv:ns.length=vs.length) (r x0 x2 x3:AV) (nm:J1) (h:AH) (hb:h.boxes[0]?=some [x0,.str nm,x2,x3]) :
  ∃w h',rc Q An [.ptr 0 0,.pv [r,.vm (ns.map .str) (vs.map (.int .i64))]] h=some (w,h')/\w=.tup []/\h'={h with boxes:=h.boxes.set 0 [x0,.str nm,.int .i64 (J9 ns vs nm),x3]}:=by
 have hM:=uG ns vs hkv h nm;have A7:=H4 hb;refine Dm KG λfr hl h0 h1=>?_;simp[KG]at hl h0 h1;simp[KG,hl,h0,h1,hb,hM]
def iB (r:AV) (ns:List ByteArray) (vs:List Int):AV:=.fn An [.pv [r,.vm (ns.map .str) (vs.map (.int .i64))]]
@[simp] theorem byF_frz (h:AH) (am:Bool) (r:AV) (ns:List ByteArray) (vs:List Int):KR h am (iB r ns vs)=some (iB r ns vs):=rfl
@[simp] theorem A0J (h:AH) (r:AV) (ns:List ByteArray) (vs:List Int):CS h (iB r ns vs)=true:=rfl
def zT:AV:=.agg [.int .i64 0,.str (bs []),.int .i64 0,.vs true 0 []]
theorem bu (by':AV) (f:ByteArray->Int) (m:I6) (l:G7) (B8:l.length<=1099511627776) (hby:∀h am,KR h am by'=some by') (hby2:∀h,CS h by'=true) (IH:∀t∈l,∃t',pc Q L4 [B9 t,by']=some (B9 t')/\E3 t'=CO f t) (A C:G6) (fr:Fr) (h:AH) (hh:h=⟨[A,C],[⟨A0i l.length zT,4,true⟩]⟩) (hl:fr.length=36) (h1:A0 fr 1=by') (h5:A0 fr 5=.sl 0 l.length 0 l.length) (h19:A0 fr 19=sl m 4 (A4 l)) (h20:A0 fr 20=.int .i64 l.length) (h21:A0 fr 21=.int .i64 0) :
  B6 (lp (A2 (K8 Q) (D6 L4) Dc) (fr,h)) λe C3 h'=>Kp Dc.wr fr C3/\e=.exit 0/\∃B done,h'=⟨A::C::B,[⟨A4 done,4,true⟩]⟩/\H5 done=o7 f l/\done.length=l.length:=by
 refine A9 rfl fr (λn fr h'=>∃(i:Nat),i+n=l.length/\A0 fr 21=.int .i64 (i:Nat)/\(∃B done,h'=⟨A::C::B,[⟨A4 done++A0i (l.length-i) zT,4,true⟩]⟩/\H5 done=o7 f (l.take i)/\done.length=i)) ?_ l.length h ⟨0,by omega,h21,⟨[],[],by simp[hh,A4],by simp[H5,o7],rfl⟩⟩;rintro J Φ hJ hΦ n D4 H1 K ⟨i,hi,k21,hr⟩;have A6:=K.1.trans hl;have k1:=A8 K 1 h1;have k5:=A8 K 5 h5;have k19:=A8 K 19 h19;have k20:=A8 K 20 h20;clear K;by_cases A7:i<l.length
 .have L3:=C6 i (by omega);obtain⟨B,done,rfl,hd,Ds⟩:=hr;have hx:=I0 A7;obtain⟨t',hI,ht⟩:=IH l[i] (A0Z A7);have e1:l.length-i=(l.length-(i+1))+1:=by omega
  have e2:H5 (done++[t'])=o7 f (l.take (i+1)):=by
   rw[A0c A7,E4,A0e,←E4,hd,JR,JR,A0e,A0h,A0j,A0h,A0j,ht]
  have e3:(A4 done++A0i (l.length-i) zT).set i (B9 t')=A4 (done++[t'])++A0i (l.length-(i+1)) zT:=by
   rw[e1,A0x,A0v _ _ (by simp[Ds]),Q0];simp[Ds]
  have e4:(A4 done++A0i (l.length-i) zT)[i]?=some zT:=by
   rw[e1,A0x,List.getElem?_append_right (by simp[Ds])];simp[Ds]
  have e5:(A4 done++A0i (l.length-i) zT).length=l.length:=by simp[Ds];omega
  clear ht hd;generalize l[i]=t at *
  generalize A4 done++A0i (l.length-i) zT=X at *
  have e6:(AV.agg [.int .i64 t'.kind,.str t'.name,.int .i64 t'.sort,sl t'.cm 4 (A4 t'.kids)])=B9 t':=Vk t';obtain⟨_,e7⟩:=A0m.1 e4;simp[Dc,A6,k1,k5,k19,k20,k21,A7,L3,hx,hI,hby,hby2,e7,e5,zT,AV.reform];exact G0 hJ ⟨i+1,by omega,by simp[A6],⟨_,done++[t'],by rw[e3],e2,by simp[Ds]⟩⟩
 .obtain⟨B,done,rfl,hd,Ds⟩:=hr;have e:i=l.length:=by omega
  subst e;rw[A0o]at hd;simp[Dc,A6,k20,k21];exact hΦ _ _ _ ⟨rfl,B,done,by simp,hd,Ds⟩
theorem YF (r:AV) (hr:r.flat=true) (ns:List ByteArray) (vs:List Int) (hkv:ns.length=vs.length):∀(n:Nat) (t:Tm),t.size<=n->t.size<=1099511627776->I9 t=0->∃t',pc Q L4 [B9 t,iB r ns vs]=some (B9 t')/\E3 t'=CO (J9 ns vs) t:=by
 intro n
 induction n with
 |zero=>intro t h;have:=t.size_pos;omega
 |succ n ih =>
  intro t hn hb P4;obtain⟨k,nm,s,m,kids⟩:=t;have J4:Tm.size (.mk k nm s m kids)=1+Tm.sizes kids:=rfl;have B8:=Tm.length_le kids;obtain⟨hne1,hne2⟩:=Q4 P4;have hnb:=(HB hne1).2.1;have Gl:=bu (iB r ns vs) (J9 ns vs) m kids (by omega) (λ_ _=>rfl) (λ_=>rfl) (λt ht=>ih t (by have:=Tm.size_le ht;omega) (by have:=Tm.size_le ht;omega) (K0 hne2 t ht))
  suffices h:∃v,pc Q L4 [B9 (.mk k nm s m kids),iB r ns vs]=some v/\∃t',v=B9 t'/\E3 t'=CO (J9 ns vs) (.mk k nm s m kids) by
   obtain⟨v,h1,t',rfl,h2⟩:=h;exact⟨t',h1,h2⟩
  refine Sz Iw λΨ hΨ fr hl h0 h1=>?_;simp[Iw,B9]at hl h0 h1;by_cases hk:k=2
  .have hkd:kids=[]:=List.eq_nil_of_length_eq_zero (hnb (.inr hk));have hS:=λ(h:AH) (hb:h.boxes[0]?=some [.int .i64 k,.str nm,.int .i64 s,sl m 4 (A4 kids)])=>kF ns vs hkv r _ _ _ nm h hb;obtain⟨w,h',q1,q2,q3⟩:=hS ⟨[[.int .i64 k,.str nm,.int .i64 s,sl m 4 (A4 kids)],[.int .i64 0,.str (bs []),.int .i64 0,.vs true 0 []]],[]⟩ rfl;simp only[A0y]at q3;subst q2 q3;simp[Iw,hl,h0,h1,iB,B7 hk,q1];exact hΨ _ ⟨.mk k nm (J9 ns vs nm) m kids,rfl,by subst hkd;simp[E3,H5,CO,o7,hk]⟩
  .have r1:(kids.length:Int)*56<=(H3:Int)/\kids.length<=maxLen:=by simp only[H3,maxLen];omega
   simp[Iw,hl,h0,A3 hk,r1];refine B6.mono (Gl [.int .i64 k,.str nm,.int .i64 s,sl m 4 (A4 kids)] [.int .i64 0,.str (bs []),.int .i64 0,.vs true 0 []] _ _ ?_ ?_ ?_ ?_ ?_ ?_ ?_) ?_<;>first|(simp[hl,h1];done)|rfl|skip
   rintro e D4 h1 ⟨K,rfl,B,done,rfl,hd,Ds⟩;have J3:D4.length=36:=K.1.trans (by simp[hl]);have GX:A0 D4 2=.ptr 0 0:=A8 K 2 (by simp[hl]);have ND:A0 D4 4=.ptr 1 0:=A8 K 4 (by simp[hl]);have k5fr1:A0 D4 5=.sl 0 kids.length 0 kids.length:=A8 K 5 (by simp[hl]);clear K;have e1:List.take kids.length (A4 done)=A4 done:=A0n (by simp[Ds]);simp[J3,GX,ND,k5fr1,e1,Ds];exact hΨ _ ⟨.mk k nm s (false,true) done,rfl,by simp[E3,CO,hk,hd]⟩
end Go.Abs.Q
namespace Go.Abs.Q
open Go.Proofs
attribute [local simp] E6 E8 fin K1 H2 To
def mI (k sz:Nat) (xs:List AV) (v:AV) (h:AH):Prop:=(xs=[]/\∃b,v=sl (true,b) sz [])\/(xs≠[]/\v=.sl k xs.length 0 xs.length/\h.fams[k]?=some ⟨xs,sz,true⟩)
@[simp] theorem Ln (h:AH) (k n off len:Nat):Dg h (.sl k n off len)=Ev h true (.sl k n off len):=rfl
@[simp] theorem wh (h:AH):Dg h (.vs true 0 [])=some (.vs true 0 []):=rfl
theorem VF {k sz:Nat} {xs:G6} {v:AV} {h:AH} (hg:mI k sz xs v h):v.isTup=false/\v.cells=[v]/\ED [v]=false:=by
 rcases hg with ⟨_,b,rfl⟩|⟨_,rfl,_⟩<;>exact⟨rfl,rfl,rfl⟩
theorem bJ {k sz:Nat} {xs:G6} {v:AV} {h:AH} (hg:mI k sz xs v h) (h':AH):ZC h' v=some (.int .i64 xs.length,h'):=by
 rcases hg with ⟨rfl,b,rfl⟩|⟨_,rfl,_⟩
 .simp
 .rfl
theorem Re (m:I6) (xs:G6) (dV:xs.length<=1048576):∃m',pc Q u6 [sl m 1 xs]=some (sl m' 1 xs):=by
 suffices h:∃r,pc Q u6 [sl m 1 xs]=some r/\∃m',r=sl m' 1 xs by
  obtain⟨r,h1,m',rfl⟩:=h;exact⟨m',h1⟩
 have hr:xs.length*16<=H3/\xs.length<=maxLen:=by simp only[H3,maxLen];omega
 refine Fj w8 λΨ hΨ fr hl h0=>?_;simp[w8]at hl h0;by_cases he:xs=[]
 .subst he;obtain⟨m1,m2⟩:=m;cases m2 with
  |false =>
   simp[w8,hl,h0];exact hΨ _ ⟨(true,false),GT 1⟩
  |true =>
   simp[w8,hl,h0,Gm,A5];exact hΨ _ ⟨_,rfl⟩
 .have he':xs.isEmpty=false:=by simpa using he
  simp[w8,hl,h0,he',Gm,A5,he,hr,Ln];exact hΨ _ ⟨_,rfl⟩
theorem ZK (m:I6) (xs:G6) (dV:xs.length<=1048576):∃m',pc Q DN [sl m 3 xs]=some (sl m' 3 xs):=by
 suffices h:∃r,pc Q DN [sl m 3 xs]=some r/\∃m',r=sl m' 3 xs by
  obtain⟨r,h1,m',rfl⟩:=h;exact⟨m',h1⟩
 have hr:xs.length*40<=H3/\xs.length<=maxLen:=by simp only[H3,maxLen];omega
 refine Fj Ai λΨ hΨ fr hl h0=>?_;simp[Ai]at hl h0;by_cases he:xs=[]
 .subst he;obtain⟨m1,m2⟩:=m;cases m2 with
  |false =>
   simp[Ai,hl,h0];exact hΨ _ ⟨(true,false),GT 3⟩
  |true =>
   simp[Ai,hl,h0,Gm,A5];exact hΨ _ ⟨_,rfl⟩
 .have he':xs.isEmpty=false:=by simpa using he
  simp[Ai,hl,h0,he',Gm,A5,he,hr,Ln];exact hΨ _ ⟨_,rfl⟩
theorem QQ (m:I6) (xs:G6) (dV:xs.length<=1048576) (h:AH):∃w h',rc Q I4 [sl m 4 xs] h=some (w,h')/\mI h.fams.length 4 xs w h'/\h'.boxes=h.boxes/\∃e,h'.fams=h.fams++e:=by
 have hr:xs.length*56<=H3/\xs.length<=maxLen:=by simp only[H3,maxLen];omega
 suffices hq:∃w h',rc Q I4 [sl m 4 xs] h=some (w,h')/\∀Ψ:AV->AH->Prop,(∀w h',mI h.fams.length 4 xs w h'/\h'.boxes=h.boxes/\(∃e,h'.fams=h.fams++e)->Ψ w h')->Ψ w h' by
  obtain⟨w,h',h1,h2⟩:=hq;exact⟨w,h',h1,h2 _ λ_ _ h=>h⟩
 refine gO R7 λfr hl h0=>?_;simp[R7]at hl h0;by_cases he:xs=[]
 .subst he;obtain⟨m1,m2⟩:=m;cases m2 with
  |false =>
   simp[R7,hl,h0];exact λΨ hΨ=>hΨ _ _ (.inl ⟨rfl,false,GT 4⟩) rfl [] (by simp)
  |true =>
   simp[R7,hl,h0,Gm,A5];exact λΨ hΨ=>hΨ _ _ (.inl ⟨rfl,true,rfl⟩) rfl [] (by simp)
 .have he':xs.isEmpty=false:=by simpa using he
  simp[R7,hl,h0,he',Gm,A5,he,hr,show ZI I4=true from rfl];exact λΨ hΨ=>hΨ _ _ (.inr ⟨he,rfl,by simp⟩) rfl _ rfl
theorem dC (m:I6) (xs:G6) (dV:xs.length<=1048576) (h:AH):∃w h',rc Q P1 [sl m 7 xs] h=some (w,h')/\mI h.fams.length 7 xs w h'/\h'.boxes=h.boxes/\∃e,h'.fams=h.fams++e:=by
 have hr:xs.length*96<=H3/\xs.length<=maxLen:=by simp only[H3,maxLen];omega
 suffices hq:∃w h',rc Q P1 [sl m 7 xs] h=some (w,h')/\∀Ψ:AV->AH->Prop,(∀w h',mI h.fams.length 7 xs w h'/\h'.boxes=h.boxes/\(∃e,h'.fams=h.fams++e)->Ψ w h')->Ψ w h' by
  obtain⟨w,h',h1,h2⟩:=hq;exact⟨w,h',h1,h2 _ λ_ _ h=>h⟩
 refine gO BP λfr hl h0=>?_;simp[BP]at hl h0;by_cases he:xs=[]
 .subst he;obtain⟨m1,m2⟩:=m;cases m2 with
  |false =>
   simp[BP,hl,h0];exact λΨ hΨ=>hΨ _ _ (.inl ⟨rfl,false,GT 7⟩) rfl [] (by simp)
  |true =>
   simp[BP,hl,h0,Gm,A5];exact λΨ hΨ=>hΨ _ _ (.inl ⟨rfl,true,rfl⟩) rfl [] (by simp)
 .have he':xs.isEmpty=false:=by simpa using he
  simp[BP,hl,h0,he',Gm,A5,he,hr,show ZI P1=true from rfl];exact λΨ hΨ=>hΨ _ _ (.inr ⟨he,rfl,by simp⟩) rfl _ rfl
theorem dB (m:I6) (xs:G6) (dV:xs.length<=1048576) (h:AH):∃w h',rc Q P0 [sl m 5 xs] h=some (w,h')/\mI h.fams.length 5 xs w h'/\h'.boxes=h.boxes/\∃e,h'.fams=h.fams++e:=by
 have hr:xs.length*72<=H3/\xs.length<=maxLen:=by simp only[H3,maxLen];omega
 suffices hq:∃w h',rc Q P0 [sl m 5 xs] h=some (w,h')/\∀Ψ:AV->AH->Prop,(∀w h',mI h.fams.length 5 xs w h'/\h'.boxes=h.boxes/\(∃e,h'.fams=h.fams++e)->Ψ w h')->Ψ w h' by
  obtain⟨w,h',h1,h2⟩:=hq;exact⟨w,h',h1,h2 _ λ_ _ h=>h⟩
 refine gO BO λfr hl h0=>?_;simp[BO]at hl h0;by_cases he:xs=[]
 .subst he;obtain⟨m1,m2⟩:=m;cases m2 with
  |false =>
   simp[BO,hl,h0];exact λΨ hΨ=>hΨ _ _ (.inl ⟨rfl,false,GT 5⟩) rfl [] (by simp)
  |true =>
   simp[BO,hl,h0,Gm,A5];exact λΨ hΨ=>hΨ _ _ (.inl ⟨rfl,true,rfl⟩) rfl [] (by simp)
 .have he':xs.isEmpty=false:=by simpa using he
  simp[BO,hl,h0,he',Gm,A5,he,hr,show ZI P0=true from rfl];exact λΨ hΨ=>hΨ _ _ (.inr ⟨he,rfl,by simp⟩) rfl _ rfl
end Go.Abs.Q
namespace Go.Abs.Q
open Go.Proofs
attribute [local simp] E6 E8 fin K1 H2
@[simp] theorem kpB_t' (B:List (List AV)) (f f':List Fam) (v:AV):WW true ⟨B,f⟩ (some (v,⟨B,f'⟩))=some (v,⟨B,f'⟩):=rU ⟨B,f⟩ v f'
@[simp] theorem zj (s:Ste) (cs:G6):(EP s).reform cs=some (.agg cs):=rfl
@[simp] theorem zG (s:Gol) (cs:G6):(Ey s).reform cs=some (.agg cs):=rfl
@[simp] theorem zo (s:Tm) (cs:G6):(B9 s).reform cs=some (.agg cs):=by cases s;rfl
theorem wx (a b:J1) (t:Tm) (c:Int):AV.agg [.str a,.str b,.int .i64 t.kind,.str t.name,.int .i64 t.sort,sl t.cm 4 (A4 t.kids),.int .i64 c]=EP ⟨a,b,t,c⟩:=by cases t;rfl
def Mz (s:Ste):Ste:=⟨s.frm,s.to,E3 s.msg,s.line⟩
def CB (f:ByteArray->Int) (s:Ste):Ste:=⟨s.frm,s.to,CO f s.msg,s.line⟩
def mt (g:Gol):Gol:=⟨g.kind,g.role,g.wth,(false,false),H5 g.data,g.line⟩
def Vg (f:ByteArray->Int) (g:Gol):Gol:=⟨g.kind,g.role,g.wth,(false,false),o7 f g.data,g.line⟩
theorem Sd {α β:Type} (g:α->β) (done l:List α) {i:Nat} (hi:i<l.length) (hd:done.length=i):∃h:i<((done++l.drop i).map g).length,((done++l.drop i).map g)[i]=g l[i]/\((done++l.drop i).map g).length=l.length:=by
 have e:(done++l.drop i).length=l.length:=by simp[hd];omega
 refine⟨by simp[hd];omega,?_,by simpa using e⟩;simp[hd,List.getElem_append_right]
theorem Se {α β:Type} (g:α->β) (done l:List α) {i:Nat} (hi:i<l.length) (hd:done.length=i) (x:α):((done++l.drop i).map g).set i (g x)=((done++[x])++l.drop (i+1)).map g:=by
 rw[A0a hi,←List.map_set,A0v _ _ (by omega),hd,Nat.sub_self,A0y,List.append_assoc,List.singleton_append]
theorem DR {α:Type} {l:List α} {k:Nat} {x:α} (h:l[k]?=some x):l.set k x=l:=by
 obtain⟨h1,h2⟩:=A0m.1 h;subst h2;exact List.set_getElem_self h1
theorem nL (by':AV) (f:ByteArray->Int) (l:List Ste) (B8:l.length<=1048576) (hby:∀h am,KR h am by'=some by') (hby2:∀h,CS h by'=true) (IH:∀s∈l,∃t',pc Q L4 [B9 s.msg,by']=some (B9 t')/\E3 t'=CO f s.msg) (k:Nat) (b0 b1 b2 b3 b5:AV) (C:G6) (fr:Fr) (h:AH) (hh:h.boxes=[[b0,b1,b2,b3,.sl k l.length 0 l.length,b5],C]) (hfam:h.fams[k]?=some ⟨l.map EP,7,true⟩) (hl:fr.length=85) (h1:A0 fr 1=by') (h2:A0 fr 2=.ptr 0 0) (h31:A0 fr 31=.int .i64 l.length) (h32:A0 fr 32=.int .i64 0) :
  B6 (lp (A2 (K8 Q) (D6 BY) Ik) (fr,h)) λe C3 h'=>Kp Ik.wr fr C3/\e=.exit 0/\∃done:List Ste,h'=⟨h.boxes,h.fams.set k ⟨done.map EP,7,true⟩⟩/\done.map Mz=l.map (CB f)/\done.length=l.length:=by
 refine A9 rfl fr (λn fr h'=>∃(i:Nat),i+n=l.length/\A0 fr 32=.int .i64 (i:Nat)/\(∃done:List Ste,h'=⟨h.boxes,h.fams.set k ⟨(done++l.drop i).map EP,7,true⟩⟩/\done.map Mz=(l.take i).map (CB f)/\done.length=i)) ?_ l.length h ⟨0,by omega,h32,⟨[],by simp[DR hfam],rfl,rfl⟩⟩;rintro J Φ hJ hΦ n D4 H1 K ⟨i,hi,k32,hr⟩;have A6:=K.1.trans hl;have k1:=A8 K 1 h1;have k2:=A8 K 2 h2;have k31:=A8 K 31 h31;clear K;by_cases A7:i<l.length
 .have L3:=C6 i (by omega);obtain⟨done,rfl,hd,Ds⟩:=hr;obtain⟨t',hI,ht⟩:=IH l[i] (A0Z A7);obtain⟨q1,q2,q3⟩:=Sd EP done l A7 Ds;have q4:=Se EP done l A7 Ds ⟨l[i].frm,l[i].to,t',l[i].line⟩;have e2:(done++[Ste.mk l[i].frm l[i].to t' l[i].line]).map Mz=(l.take (i+1)).map (CB f):=by
   rw[A0c A7,A0e,hd,A0e,A0h,A0j,A0h,A0j];simp only[Mz,ht,CB]
  have Bs:=H4 hfam;have e6:=wx l[i].frm l[i].to t' l[i].line;rw[hh]at hJ ⊢;clear hd ht;generalize (done++l.drop i).map EP=X at *
  generalize hY:(done++[Ste.mk l[i].frm l[i].to t' l[i].line]++l.drop (i+1)).map EP=Y at *
  generalize l[i]=s at *
  simp[Ik,A6,k1,k2,k31,k32,A7,L3,hI,hby,hby2,q2,q3,q4,e6,Bs];exact G0 hJ ⟨i+1,by omega,by simp[A6],⟨_,by rw[hY],e2,by simp[Ds]⟩⟩
 .obtain⟨done,rfl,hd,Ds⟩:=hr;have e:i=l.length:=by omega
  subst e;rw[A0o]at hd;rw[A0q,A0t];simp[Ik,A6,k31,k32];exact hΦ _ _ _ ⟨rfl,done,rfl,hd,Ds⟩
theorem nJ (by':AV) (f:ByteArray->Int) (l:G7) (B8:l.length<=1048576) (hby:∀h am,KR h am by'=some by') (hby2:∀h,CS h by'=true) (IH:∀s∈l,∃t',pc Q L4 [B9 s,by']=some (B9 t')/\E3 t'=CO f s) (k:Nat) (fr:Fr) (h:AH) (hfam:h.fams[k]?=some ⟨A4 l,4,true⟩) (hl:fr.length=85) (h1:A0 fr 1=by') (h7:A0 fr 7=.sl k l.length 0 l.length) (h63:A0 fr 63=.int .i64 l.length) (h64:A0 fr 64=.int .i64 0) :
  B6 (lp (A2 (K8 Q) (D6 BY) Ba) (fr,h)) λe C3 h'=>Kp Ba.wr fr C3/\e=.exit 4/\∃done:List Tm,h'=⟨h.boxes,h.fams.set k ⟨A4 done,4,true⟩⟩/\H5 done=o7 f l/\done.length=l.length:=by
 refine A9 rfl fr (λn fr h'=>∃(i:Nat),i+n=l.length/\A0 fr 64=.int .i64 (i:Nat)/\(∃done:List Tm,h'=⟨h.boxes,h.fams.set k ⟨(done++l.drop i).map B9,4,true⟩⟩/\H5 done=o7 f (l.take i)/\done.length=i)) ?_ l.length h ⟨0,by omega,h64,⟨[],by simp[DR hfam,←C9],by simp[H5,o7],rfl⟩⟩;rintro J Φ hJ hΦ n D4 H1 K ⟨i,hi,k64,hr⟩;have A6:=K.1.trans hl;have k1:=A8 K 1 h1;have k7:=A8 K 7 h7;have k63:=A8 K 63 h63;clear K;by_cases A7:i<l.length
 .have L3:=C6 i (by omega);obtain⟨done,rfl,hd,Ds⟩:=hr;obtain⟨t',hI,ht⟩:=IH l[i] (A0Z A7);obtain⟨q1,q2,q3⟩:=Sd B9 done l A7 Ds;have q4:=Se B9 done l A7 Ds t';have e2:H5 (done++[t'])=o7 f (l.take (i+1)):=by
   rw[A0c A7,E4,A0e,←E4,hd,JR,JR,A0e,A0h,A0j,A0h,A0j,ht]
  have Bs:=H4 hfam;clear hd ht;generalize (done++l.drop i).map B9=X at *
  generalize hY:(done++[t']++l.drop (i+1)).map B9=Y at *
  generalize l[i]=s at *
  simp[Ba,A6,k1,k7,k63,k64,A7,L3,hI,hby,hby2,q2,q3,q4,Bs];exact G0 hJ ⟨i+1,by omega,by simp[A6],⟨_,by rw[hY],e2,by simp[Ds]⟩⟩
 .obtain⟨done,rfl,hd,Ds⟩:=hr;have e:i=l.length:=by omega
  subst e;rw[A0o]at hd;rw[A0q,A0t,←C9];simp[Ba,A6,k63,k64];exact hΦ _ _ _ ⟨rfl,done,rfl,hd,Ds⟩
theorem qf (fr:Fr) (h:AH) (hl:fr.length=85) (h63:A0 fr 63=.int .i64 0) (h64:A0 fr 64=.int .i64 0) :
  B6 (lp (A2 (K8 Q) (D6 BY) Ba) (fr,h)) λe C3 h'=>Kp Ba.wr fr C3/\e=.exit 4/\h'=h:=by
 refine A9 rfl fr (λn C3 h'=>C3=fr/\h'=h) ?_ 0 h ⟨rfl,rfl⟩;rintro J Φ hJ hΦ n D4 H1 K ⟨rfl,rfl⟩;simp[Ba,hl,h63,h64];exact hΦ _ _ _ ⟨rfl,rfl⟩
theorem rI (a:Int) (b c:J1) (m:I6) (l:G7) (d:Int):AV.agg [.int .i64 a,.str b,.str c,sl m 4 (A4 l),.int .i64 d]=Ey ⟨a,b,c,m,l,d⟩:=rfl
theorem kN {h:AH} {kd kg i m:Nat} {dd:G7} {X:G6} {g:Gol} (h1:h.fams[kd]?=some ⟨A4 dd,4,true⟩) (h2:h.fams[kg]?=some ⟨X,5,true⟩) (P4:kd≠kg) (hm:X.length=m) (hx:X[i]?=some (Ey g)) :
  MG h 1 (.sl kd dd.length 0 dd.length) (.ep kg m i 3 5)=some ⟨h.boxes,(h.fams.set kd ⟨A4 dd,4,false⟩).set kg ⟨X.set i (Ey ⟨g.kind,g.role,g.wth,(false,true),dd,g.line⟩),5,true⟩⟩:=by
 have hk:=H4 h1;have hl:bq h (.sl kd dd.length 0 dd.length)=some ⟨h.boxes,h.fams.set kd ⟨A4 dd,4,false⟩⟩:=by
  simp[bq,PZ,CZ,h1,qC]
 have hf:KR ⟨h.boxes,h.fams.set kd ⟨A4 dd,4,false⟩⟩ false (.sl kd dd.length 0 dd.length)=some (sl (false,true) 4 (A4 dd)):=by
  rw[PZ,CZ];simp only;rw[A0g hk,A0b,if_pos ⟨by simp,by omega,rfl⟩,A0z,A0n (by simp)]
 rw[Sq,hl,A0b];simp only;rw[A0d P4,h2,A0b,if_pos ⟨hm,rfl,rfl⟩];simp only;rw[hx,A0b,hf,A0b];simp[rI]
theorem gp {h:AH} {kg i m:Nat} {b:Bool} {X:G6} {g:Gol} (h2:h.fams[kg]?=some ⟨X,5,true⟩) (hm:X.length=m) (hx:X[i]?=some (Ey g)) :
  MG h 1 (sl (true,b) 4 []) (.ep kg m i 3 5)=some ⟨h.boxes,h.fams.set kg ⟨X.set i (Ey ⟨g.kind,g.role,g.wth,(true,b),[],g.line⟩),5,true⟩⟩:=by
 rw[Sq];simp only[bq,tj,A0b];rw[h2,A0b,if_pos ⟨hm,rfl,rfl⟩];simp only;rw[hx,A0b];have e:=rI g.kind g.role g.wth (true,b) [] g.line;rw[show A4 []=[] from rfl]at e;simp[e]
theorem nK (by':AV) (f:ByteArray->Int) (l:List Gol) (B8:l.length<=1048576) (Ds:∀g∈l,g.data.length<=1048576) (hby:∀h am,KR h am by'=some by') (hby2:∀h,CS h by'=true) (IH:∀g∈l,∀t∈g.data,∃t',pc Q L4 [B9 t,by']=some (B9 t')/\E3 t'=CO f t) (kg:Nat) (b0 b1 b2 b3 b4:AV) (C:G6) (fr:Fr) (h:AH) (hh:h.boxes=[[b0,b1,b2,b3,b4,.sl kg l.length 0 l.length],C]) (hfam:h.fams[kg]?=some ⟨l.map Ey,5,true⟩) (hl:fr.length=85) (h1:A0 fr 1=by') (h2:A0 fr 2=.ptr 0 0) (h51:A0 fr 51=.int .i64 l.length) (h52:A0 fr 52=.int .i64 0) :
  B6 (lp (A2 (K8 Q) (D6 BY) AU) (fr,h)) λe C3 h'=>Kp AU.wr fr C3/\e=.exit 2/\∃(F:List Fam) (done:List Gol),h'=⟨h.boxes,F⟩/\F[kg]?=some ⟨done.map Ey,5,true⟩/\(∀j,j≠kg->j<h.fams.length->F[j]?=h.fams[j]?)/\done.map mt=l.map (Vg f)/\done.length=l.length:=by
 refine A9 rfl fr (λn fr h'=>∃(i:Nat),i+n=l.length/\A0 fr 52=.int .i64 (i:Nat)/\(∃(F:List Fam) (done:List Gol),h'=⟨h.boxes,F⟩/\F[kg]?=some ⟨(done++l.drop i).map Ey,5,true⟩/\(∀j,j≠kg->j<h.fams.length->F[j]?=h.fams[j]?)/\h.fams.length<=F.length/\done.map mt=(l.take i).map (Vg f)/\done.length=i)) ?_ l.length h ⟨0,by omega,h52,⟨_,[],rfl,by simpa using hfam,λ_ _ _=>rfl,A0k _,rfl,rfl⟩⟩;rintro J Φ hJ hΦ n D4 H1 K ⟨i,hi,k52,hr⟩;have A6:=K.1.trans hl;have k1:=A8 K 1 h1;have k2:=A8 K 2 h2;have k51:=A8 K 51 h51;clear K;by_cases A7:i<l.length
 .have L3:=C6 i (by omega);obtain⟨F,done,rfl,hF,hFo,hFl,hd,hdn⟩:=hr;obtain⟨q1,q2,q3⟩:=Sd Ey done l A7 hdn;have hq2:=A0m.2 ⟨q1,q2⟩;have hkg:=H4 hF;have hkg0:=H4 hfam;obtain⟨w,⟨bx,F1⟩,hC,hRow,Qw,e,hFe⟩:=QQ l[i].dm (A4 l[i].data) (by have:=Ds l[i] (A0Z A7);simpa using this) ⟨h.boxes,F⟩;simp only at Qw hFe;subst Qw;have hF1:F1[kg]?=some ⟨(done++l.drop i).map Ey,5,true⟩:=by rw[hFe,A0l hkg];exact hF
  have hF1o:∀j,j≠kg->j<h.fams.length->F1[j]?=h.fams[j]?:=λj h1 h2=>by rw[hFe,A0l (by omega)];exact hFo j h1 h2
  have hF1l:h.fams.length<=F1.length:=by rw[hFe];simp;omega
  have hlen7:∀h',ZC h' w=some (.int .i64 l[i].data.length,h'):=λh'=>by have:=bJ hRow h';simpa using this
  have hIH:=IH l[i] (A0Z A7);have hdl':=Ds l[i] (A0Z A7);have q4:=λg':Gol=>Se Ey done l A7 hdn g';have fin:∀g':Gol,mt g'=Vg f l[i]->(done++[g']).map mt=(l.take (i+1)).map (Vg f):=by
   intro g' he;rw[A0c A7,A0e,hd,A0e,A0h,A0j,A0h,A0j,he]
  rw[hh]at hC hJ ⊢;clear hd hFe hFo;generalize hX:(done++l.drop i).map Ey=X at *
  generalize l[i]=g at *
  by_cases hnil:g.data=[]
  .obtain⟨-,b,rfl⟩:A4 g.data=[]/\∃b,w=sl (true,b) 4 []:=by
    rcases hRow with h|⟨h,_⟩
    .exact h
    .rw[hnil]at h;exact absurd rfl h
   have hSt:=gp (h:=⟨[[b0,b1,b2,b3,b4,.sl kg l.length 0 l.length],C],F1⟩) (b:=b) hF1 q3 hq2;simp[AU,A6,k2,k51,k52,A7,hF,q2,q3,hC,hlen7];rw[hnil];refine B6.mono (qf _ _ ?_ ?_ ?_) ?_<;>first|(simp[A6];done)|skip
   rintro e Q6 h2 ⟨K,rfl,rfl⟩;have T6:Q6.length=85:=K.1.trans (by simp[A6]);have k2fr2:A0 Q6 2=.ptr 0 0:=A8 K 2 (by simp[k2]);have k6fr2:A0 Q6 6=.int .i64 (i:Nat):=A8 K 6 (by simp[A6]);have k7fr2:A0 Q6 7=sl (true,b) 4 []:=A8 K 7 (by simp[A6]);have k52fr2:A0 Q6 52=.int .i64 (i:Nat):=A8 K 52 (by simp[k52]);clear K;simp[T6,k2fr2,k6fr2,k7fr2,k52fr2,A7,hSt,L3,-Sq];exact G0 hJ ⟨i+1,by omega,by simp[T6],_,done++[⟨g.kind,g.role,g.wth,(true,b),[],g.line⟩],rfl,by rw[A0g (H4 hF1),q4],λj h1 h2=>by rw[A0d (Ne.symm h1)];exact hF1o j h1 h2,by simpa using hF1l,fin _ (by simp[mt,Vg,hnil,H5,o7]),by simp[hdn]⟩
  .obtain⟨rfl,hkd⟩:w=.sl F.length g.data.length 0 g.data.length/\F1[F.length]?=some ⟨A4 g.data,4,true⟩:=by
    rcases hRow with ⟨h,_⟩|⟨_,h,h'⟩
    .rw[C9,A0p]at h;exact absurd h hnil
    .exact⟨by simpa using h,h'⟩
   have P4:F.length≠kg:=by omega
   simp[AU,A6,k2,k51,k52,A7,hF,q2,q3,hC,hlen7];refine B6.mono (nJ by' f g.data hdl' hby hby2 hIH F.length _ _ ?_ ?_ ?_ ?_ ?_ ?_) ?_<;>first|(simp[A6,k1];done)|skip
   .exact hkd
   rintro e Q6 h2 ⟨K,rfl,dd,rfl,hdd,hddl⟩;have T6:Q6.length=85:=K.1.trans (by simp[A6]);have k2fr2:A0 Q6 2=.ptr 0 0:=A8 K 2 (by simp[k2]);have k6fr2:A0 Q6 6=.int .i64 (i:Nat):=A8 K 6 (by simp[A6]);have k7fr2:A0 Q6 7=.sl F.length g.data.length 0 g.data.length:=A8 K 7 (by simp[A6]);have k52fr2:A0 Q6 52=.int .i64 (i:Nat):=A8 K 52 (by simp[k52]);clear K;have hkdl:=H4 hkd;have hSt:=kN (h:=⟨[[b0,b1,b2,b3,b4,.sl kg l.length 0 l.length],C],F1.set F.length ⟨A4 dd,4,true⟩⟩) (kd:=F.length) (dd:=dd) (A0g hkdl) (by simp only;rw[A0d P4];exact hF1) P4 q3 hq2;rw[hddl]at hSt;simp only[List.set_set]at hSt;simp[T6,k2fr2,k6fr2,k7fr2,k52fr2,A7,hSt,L3,-Sq];exact G0 hJ ⟨i+1,by omega,by simp[T6],_,done++[⟨g.kind,g.role,g.wth,(false,true),dd,g.line⟩],rfl,by rw[A0g (by simpa using H4 hF1),q4],λj h1 h2=>by rw[A0d (Ne.symm h1),A0d (by omega)];exact hF1o j h1 h2,by simpa using hF1l,fin _ (by simp[mt,Vg,hdd]),by simp[hdn]⟩
 .obtain⟨F,done,rfl,hF,hFo,hFl,hd,hdn⟩:=hr;have e:i=l.length:=by omega
  subst e;rw[A0o]at hd;rw[A0q,A0t]at hF;simp[AU,A6,k51,k52];exact hΦ _ _ _ ⟨rfl,F,done,rfl,hF,hFo,hd,hdn⟩
def Py (n:Nar):Nar:=⟨n.name,(false,false),n.roles,(false,false),n.fresh,(false,false),n.tags,(false,false),n.steps.map Mz,(false,false),n.goals.map mt⟩
def CA (f:ByteArray->Int) (n:Nar):Nar:=⟨n.name,(false,false),n.roles,(false,false),n.fresh,(false,false),n.tags,(false,false),n.steps.map (CB f),(false,false),n.goals.map (Vg f)⟩
theorem qg (fr:Fr) (h:AH) (hl:fr.length=85) (h51:A0 fr 51=.int .i64 0) (h52:A0 fr 52=.int .i64 0) :
  B6 (lp (A2 (K8 Q) (D6 BY) AU) (fr,h)) λe C3 h'=>Kp AU.wr fr C3/\e=.exit 2/\h'=h:=by
 refine A9 rfl fr (λn C3 h'=>C3=fr/\h'=h) ?_ 0 h ⟨rfl,rfl⟩;rintro J Φ hJ hΦ n D4 H1 K ⟨rfl,rfl⟩;simp[AU,hl,h51,h52];exact hΦ _ _ _ ⟨rfl,rfl⟩
theorem Jb {h:AH} {k sz:Nat} {xs:G6} {b:Bool} (hk:h.fams[k]?=some ⟨xs,sz,b⟩) {n:Nat} (hn:xs.length=n):Ev h true (.sl k n 0 n)=some (sl (false,true) sz xs):=by
 rw[CZ,hk,A0b,if_pos ⟨hn,by omega,rfl⟩,A0z,A0n (by simp[hn])]
structure Lens (n:Nar):Prop where
 names:n.roles.length+n.fresh.length+n.tags.length<=1048576
 steps:n.steps.length<=1048576
 goals:n.goals.length<=1048576
 data:∀g∈n.goals,g.data.length<=1048576
theorem yO (n:Nar) (hS:Lens n) (P4:n.steps≠[]) (r:AV) (ns:List ByteArray) (vs:List Int) (f:ByteArray->Int)
  (IH1:∀s∈n.steps,∃t',pc Q L4 [B9 s.msg,iB r ns vs]=some (B9 t')/\E3 t'=CO f s.msg) (IH2:∀g∈n.goals,∀t∈g.data,∃t',pc Q L4 [B9 t,iB r ns vs]=some (B9 t')/\E3 t'=CO f t) :
  ∃n',pc Q BY [G4 n,iB r ns vs]=some (G4 n')/\Py n'=CA f n:=by
 suffices h:∃v,pc Q BY [G4 n,iB r ns vs]=some v/\∃n',v=G4 n'/\Py n'=CA f n by
  obtain⟨v,h1,n',rfl,h2⟩:=h;exact⟨n',h1,h2⟩
 obtain⟨s0,s1,s2,s3⟩:=hS;obtain⟨name,rm,roles,fm,fresh,tm,tags,sm,steps,gm,goals⟩:=n;simp only at *
 obtain⟨m1,c1⟩:=Re rm (roles.map .str) (by simp;omega);obtain⟨m2,c2⟩:=ZK fm (fresh.map Lz) (by simp;omega);obtain⟨m3,c3⟩:=Re tm (tags.map .str) (by simp;omega);obtain⟨w1,⟨B1,F1⟩,c4,r4,hb4,e4,f4⟩:=dC sm (steps.map EP) (by simpa using s1) ⟨[[.str name,sl m1 1 (roles.map .str),sl m2 3 (fresh.map Lz),sl m3 1 (tags.map .str),sl sm 7 (steps.map EP),sl gm 5 (goals.map Ey)],[.str (bs []),.vs true 0 [],.vs true 0 [],.vs true 0 [],.vs true 0 [],.vs true 0 []]],[]⟩;simp only at hb4 f4;subst hb4;obtain⟨w2,⟨B2,F2⟩,c5,r5,hb5,e5,f5⟩:=dB gm (goals.map Ey) (by simpa using s2) ⟨[[.str name,sl m1 1 (roles.map .str),sl m2 3 (fresh.map Lz),sl m3 1 (tags.map .str),sl sm 7 (steps.map EP),sl gm 5 (goals.map Ey)],[.str (bs []),.vs true 0 [],.vs true 0 [],.vs true 0 [],.vs true 0 [],.vs true 0 []]],F1⟩;simp only at hb5 f5;subst hb5;obtain⟨rfl,hF1⟩:w1=.sl 0 steps.length 0 steps.length/\F1[0]?=some ⟨steps.map EP,7,true⟩:=by
  rcases r4 with ⟨h,_⟩|⟨_,h,h'⟩
  .rw[A0p]at h;exact absurd h P4
  .exact⟨by simpa using h,by simpa using h'⟩
 have hF2:F2[0]?=some ⟨steps.map EP,7,true⟩:=by rw[f5,A0l (H4 hF1)];exact hF1
 have hw2:=VF r5;have hn2:∀h',ZC h' w2=some (.int .i64 goals.length,h'):=λh'=>by have:=bJ r5 h';simpa using this
 have g1:=nL (iB r ns vs) f steps s1 (λ_ _=>rfl) (λ_=>rfl) IH1 0 (.str name) (sl m1 1 (roles.map .str)) (sl m2 3 (fresh.map Lz)) (sl m3 1 (tags.map .str)) w2 [.str (bs []),.vs true 0 [],.vs true 0 [],.vs true 0 [],.vs true 0 [],.vs true 0 []];refine Sz SE λΨ hΨ fr hl h0 h1=>?_;simp[SE,G4]at hl h0 h1;simp[SE,hl,h0,c1,c2,c3,c4,c5,hw2];refine B6.mono (g1 _ _ ?_ ?_ ?_ ?_ ?_ ?_ ?_) ?_<;>first|(simp[hl,h1];done)|skip
 .exact hF2
 rintro e D4 DD ⟨K,rfl,S,rfl,hS1,hS2⟩;have J3:D4.length=85:=K.1.trans (by simp[hl]);have Fe:A0 D4 1=iB r ns vs:=A8 K 1 (by simp[h1]);have GX:A0 D4 2=.ptr 0 0:=A8 K 2 (by simp[hl]);have ND:A0 D4 4=.ptr 1 0:=A8 K 4 (by simp[hl]);clear K;simp[J3,GX,hn2];have hFz:(F2.set 0 ⟨S.map EP,7,true⟩)[0]?=some ⟨S.map EP,7,true⟩:=A0g (H4 hF2);by_cases hg:goals=[]
 .subst hg;obtain⟨-,b,rfl⟩:([]:List Gol).map Ey=[]/\∃b,w2=sl (true,b) 5 []:=by
   rcases r5 with h|⟨h,_⟩
   .exact h
   .exact absurd rfl h
  refine B6.mono (qg _ _ ?_ ?_ ?_) ?_<;>first|(simp[J3];done)|skip
  rintro e Q6 h2 ⟨K,rfl,rfl⟩;have T6:Q6.length=85:=K.1.trans (by simp[J3]);have k2fr2:A0 Q6 2=.ptr 0 0:=A8 K 2 (by simp[GX]);have k4fr2:A0 Q6 4=.ptr 1 0:=A8 K 4 (by simp[ND]);clear K;have hz:=λB:List (List AV)=>Jb (h:=⟨B,F2.set 0 ⟨S.map EP,7,true⟩⟩) hFz (n:=steps.length) (by simpa using hS2);simp[T6,k2fr2,k4fr2,hz];exact hΨ _ ⟨⟨name,m1,roles,m2,fresh,m3,tags,(false,true),S,(true,b),[]⟩,rfl,by simp[Py,CA,hS1]⟩
 .obtain⟨rfl,hF2g⟩:w2=.sl F1.length goals.length 0 goals.length/\F2[F1.length]?=some ⟨goals.map Ey,5,true⟩:=by
   rcases r5 with ⟨h,_⟩|⟨_,h,h'⟩
   .rw[A0p]at h;exact absurd h hg
   .exact⟨by simpa using h,h'⟩
  have h0F:0<F1.length:=H4 hF1;have hFg:(F2.set 0 ⟨S.map EP,7,true⟩)[F1.length]?=some ⟨goals.map Ey,5,true⟩:=by rw[A0d (by omega)];exact hF2g
  refine B6.mono (nK (iB r ns vs) f goals s2 s3 (λ_ _=>rfl) (λ_=>rfl) IH2 F1.length (.str name) (sl m1 1 (roles.map .str)) (sl m2 3 (fresh.map Lz)) (sl m3 1 (tags.map .str)) (.sl 0 steps.length 0 steps.length) [.str (bs []),.vs true 0 [],.vs true 0 [],.vs true 0 [],.vs true 0 [],.vs true 0 []] _ _ ?_ ?_ ?_ ?_ ?_ ?_ ?_) ?_<;>first|(simp[J3,Fe,GX];done)|skip
  .exact hFg
  rintro e Q6 h2 ⟨K,rfl,F,G,rfl,hG1,hG2,hG3,hG4⟩;have T6:Q6.length=85:=K.1.trans (by simp[J3]);have k2fr2:A0 Q6 2=.ptr 0 0:=A8 K 2 (by simp[GX]);have k4fr2:A0 Q6 4=.ptr 1 0:=A8 K 4 (by simp[ND]);clear K;have hFs:=hG2 0 (by omega) (by simpa using H4 hF2);rw[hFz]at hFs;have hz:=λB:List (List AV)=>Jb (h:=⟨B,F⟩) hFs (n:=steps.length) (by simpa using hS2);have hz2:=λB:List (List AV)=>Jb (h:=⟨B,F⟩) hG1 (n:=goals.length) (by simpa using hG4);simp[T6,k2fr2,k4fr2,hz,hz2];exact hΨ _ ⟨⟨name,m1,roles,m2,fresh,m3,tags,(false,true),S,(false,true),G⟩,rfl,by simp[Py,CA,hS1,hG3]⟩
theorem gz {t:Tm} (h:R9 t=0):I9 t=0:=by
 unfold R9 at h;apply Classical.byContradiction;intro hv;rw[if_pos hv]at h;exact hv h
theorem Kh {t:Tm} (h:Gh t=0):I9 t=0:=by
 refine gz ?_;unfold Gh Ls at h;apply Classical.byContradiction;intro hv;rw[if_pos hv,if_pos hv]at h;exact hv h
theorem GF {n:Nar} (h:Pe n=0):KV n=0/\(∀s∈n.steps,KS s=0)/\∀g∈n.goals,MZ g=0:=by
 unfold Pe at h;by_cases h1:KV n=0
 .rw[if_neg (by simp[h1])]at h;by_cases h2:D3 KS n.steps=0
  .rw[if_neg (by simp[h2])]at h;exact⟨h1,Ew h2,Ew h⟩
  .rw[if_pos h2]at h;exact absurd h h2
 .rw[if_pos h1]at h;exact absurd h h1
theorem Ti {n:Nar} (h:KV n=0):n.steps≠[]/\Rd n=0:=by
 have hn:Rd n=0:=by
  unfold KV at h;by_cases h1:P5 n.name=false
  .rw[if_pos h1]at h;omega
  .rw[if_neg h1]at h;apply Classical.byContradiction;intro h2;rw[if_pos h2]at h;exact h2 h
 refine⟨λe=>?_,hn⟩;unfold Rd at hn;rw[e]at hn;split at hn
 .omega
 .split at hn
  .omega
  .simp at hn
theorem QY {s:Ste} (h:KS s=0):Gh s.msg=0:=by
 unfold KS at h;split at h
 .omega
 .exact h
theorem XY {g:Gol} (h:MZ g=0):∀t∈g.data,Gh t=0:=by
 unfold MZ at h;split at h
 .omega
 .split at h
  .omega
  .split at h
   .omega
   .split at h
    .omega
    .exact Ew h
theorem QF {α:Type} {g ln:α->Int}:∀{l:List α},(S9 g ln l).2=0->S9 g ln l=(0,0)/\∀a∈l,g a=0
 | [],_=>⟨rfl,λa h=>by cases h⟩
 |a::l,h=>by
  simp only[S9]at h ⊢;by_cases hz:g a=0
  .rw[if_neg (by simp[hz])]at h ⊢;obtain⟨h1,h2⟩:=QF h;exact⟨h1,λb hb=>by rcases List.mem_cons.1 hb with rfl|hb;exact hz;exact h2 b hb⟩
  .rw[if_pos hz]at h;exact absurd h hz
structure Right (n:Nar):Prop where
 nar:Pe n=0
 dec:IM n=0
 steps:∀s∈n.steps,HD (B5 n) n.roles s=0
 goals:∀g∈n.goals,JA (B5 n) n.roles g=0
theorem GH {n:Nar} (h:(Y0 n).2=0):Y0 n=(0,0)/\Right n:=by
 unfold Y0 at h ⊢;by_cases h1:Pe n=0
 .rw[if_neg (by simp[h1])]at h ⊢;by_cases h2:IM n=0
  .rw[if_neg (by simp[h2])]at h ⊢;by_cases h3:S9 (HD (B5 n) n.roles) Ste.line n.steps=(0,0)
   .rw[if_neg (by simp[h3])]at h ⊢;obtain⟨q1,q2⟩:=QF h;exact⟨q1,h1,h2,(QF (by rw[h3])).2,q2⟩
   .rw[if_pos h3]at h;exact absurd (QF h).1 h3
  .rw[if_pos h2]at h;exact absurd h h2
 .rw[if_pos h1]at h;exact absurd h h1
@[simp] theorem frz_fnpv (h:AH) (am:Bool) (f:FuncId) (cs:G6):KR h am (.fn f [.pv cs])=some (.fn f [.pv cs]):=rfl
@[simp] theorem tame_fn (h:AH) (f:FuncId) (cs:G6):CS h (.fn f cs)=true:=rfl
def nw:Nar:=⟨bs [],(true,false),[],(true,false),[],(true,false),[],(true,false),[],(true,false),[]⟩
theorem Xv:AV.agg [.str (bs []),sl (true,false) 1 [],sl (true,false) 1 [],sl (true,false) 1 [],sl (true,false) 1 [],sl (true,false) 1 []]=G4 nw:=by
 unfold G4 nw;simp[sl]
theorem jh (n:Nar) (F:Fine n) (S:Lens n):∃r,pc Q Cb [G4 n]=some (.tup [G4 r,.int .i64 (Y0 n).1,.int .i64 (Y0 n).2])/\((Y0 n).2=0->Py r=CA (J9 (B5 n) (G2 n)) n):=by
 suffices h:∃v,pc Q Cb [G4 n]=some v/\∃r,v=.tup [G4 r,.int .i64 (Y0 n).1,.int .i64 (Y0 n).2]/\((Y0 n).2=0->Py r=CA (J9 (B5 n) (G2 n)) n) by
  obtain⟨v,h1,r,rfl,h2⟩:=h;exact⟨r,h1,h2⟩
 have hC:=WJ n F S.names;have nb:=E5 n;by_cases hz:(Y0 n).2=0
 .obtain⟨hz0,hR⟩:=GH hz;obtain⟨k1,k2,k3⟩:=GF hR.nar;have hN:=TO n S.names hR.dec;have hA:∃n',pc Q BY [G4 n,iB (sl n.rm 1 (n.roles.map .str)) (B5 n) (G2 n)]=some (G4 n')/\Py n'=CA (J9 (B5 n) (G2 n)) n:=by
   refine yO n S (Ti k1).1 _ _ _ _ (λs hs=>?_) λg hg t ht=>?_
   .exact YF _ rfl _ _ (NO n) _ _ (A0k _) (F.steps s hs).2.2 (Kh (QY (k2 s hs)))
   .exact YF _ rfl _ _ (NO n) _ _ (A0k _) (by have:=(F.goals g hg).2.2;have:=Tm.size_le ht;omega) (Kh (XY (k3 g hg) t ht))
  obtain⟨n',hA,hA2⟩:=hA;rw[hz0]at hC ⊢;unfold kO at hN;unfold iB at hA;generalize hU:(B5 n).map AV.str=U at *
  generalize hV:(G2 n).map (AV.int .i64)=V at *
  refine Fj Cv λΨ hΨ fr hl h0=>?_;simp[Cv]at hl h0;simp[Cv,hl,h0,E5,hC,hN,hA,CR,show (AV.vm U V).flat=true from rfl];exact hΨ _ ⟨n',rfl,λ_=>hA2⟩
 .refine Fj Cv λΨ hΨ fr hl h0=>?_;simp[Cv]at hl h0;simp[Cv,hl,h0,nb,hC,hz,D8,C8];exact hΨ _ ⟨nw,by rw[←Xv,o6 (true,false) rfl 1 1],λh=>absurd h hz⟩
end Go.Abs.Q
namespace Go.Abs.Q
open Go.Proofs
attribute [local simp] E6 E8 fin K1 H2 P7 M6 R4 R3 E5
theorem bh (x:J1) (l:List ByteArray):(0<=idx (U7 x) l)↔l.any (U7 x)=true:=Dh _ l 0
theorem SZ (x:J1) (l:List ByteArray):(idx (U7 x) l<0)↔l.any (U7 x)=false:=by
 have:=bh x l;cases h:l.any (U7 x)with
 |true=>rw[h]at this;simp at this;simp;omega
 |false=>rw[h]at this;simp at this;simp;omega
theorem YM (t:Tm) (nm:J1):pc Q N9 [B9 t,.str nm]=some (.bool (decide (t.kind=3)&&decide (t.name=nm))):=by
 refine N3 FS λfr hl h0 h1=>?_;simp[FS]at hl h0 h1;simp +contextual (maxSteps:=10000000) [FS,hl,h0,h1]
theorem Hh (m:I6) (l:List ByteArray) (x:J1) (h:l.length<=1048576):pc Q R5 [sl m 1 (l.map AV.str),.str x]=some (.int .i64 (idx (U7 x) l)):=sk m l x (by omega)
theorem YR (n:Nar) (hr:n.roles.length<=1048576) (t:Tm):pc Q Jp [G4 n,B9 t]=some (.bool (Bz n.roles t)):=by
 have hC:=Hh n.rm n.roles t.name hr;have hI:=bh t.name n.roles;refine N3 KE λfr hl h0 h1=>?_;simp[KE]at hl h0 h1;unfold Bz;generalize n.roles.any (U7 t.name)=b at *
 by_cases hk:t.kind=2
 .cases b with
  |true =>
   simp[KE,hl,h0,h1,hC,B7 (hI.2 rfl),B7 hk]
  |false =>
   simp[KE,hl,h0,h1,hC,A3 (show ¬0<=idx (U7 t.name) n.roles from λh=>nomatch (hI.1 h)),B7 hk]
 .simp[KE,hl,h0,h1,A3 hk]
theorem WI (n:Nar) (hr:n.roles.length<=1048576) (t:Tm):pc Q Ir [G4 n,B9 t]=some (.bool (CP n.roles t)):=by
 have hI:=YM t (bs [115,107]);refine N3 Cq λfr hl h0 h1=>?_;simp[Cq]at hl h0 h1;by_cases hk:t.kind=3
 .by_cases hn:t.name=bs [115,107]
  .by_cases A6:(t.kids.length:Int)=1
   .obtain⟨a,hka⟩:=A0u.1 (show t.kids.length=1 by omega);have hx:IZ (A4 t.kids) 0=some (B9 a):=by rw[hka];rfl
    have hf:Tg (Bz n.roles) t.kids=Bz n.roles a:=by rw[hka];rfl
    have hR:=YR n hr a;simp[Cq,hl,h0,h1,CP,t6,hI,B7 hk,B7 hn,B7 A6,hR,hx,hf]
   .simp[Cq,hl,h0,h1,CP,t6,hI,B7 hk,B7 hn,A3 A6]
  .simp[Cq,hl,h0,h1,CP,t6,hI,B7 hk,A3 hn]
 .simp[Cq,hl,h0,h1,CP,t6,hI,A3 hk]
theorem YQ (n:Nar) (hr:n.roles.length<=1048576) (t:Tm):pc Q Jo [G4 n,B9 t]=some (.bool (Hj n.roles t)):=by
 have hI:=YM t (bs [112,107]);refine N3 Eh λfr hl h0 h1=>?_;simp[Eh]at hl h0 h1;by_cases hk:t.kind=3
 .by_cases hn:t.name=bs [112,107]
  .by_cases A6:(t.kids.length:Int)=1
   .obtain⟨a,hka⟩:=A0u.1 (show t.kids.length=1 by omega);have hx:IZ (A4 t.kids) 0=some (B9 a):=by rw[hka];rfl
    have hf:Tg (CP n.roles) t.kids=CP n.roles a:=by rw[hka];rfl
    have hR:=WI n hr a;simp[Eh,hl,h0,h1,Hj,t6,hI,B7 hk,B7 hn,B7 A6,hR,hx,hf]
   .simp[Eh,hl,h0,h1,Hj,t6,hI,B7 hk,B7 hn,A3 A6]
  .simp[Eh,hl,h0,h1,Hj,t6,hI,B7 hk,A3 hn]
 .simp[Eh,hl,h0,h1,Hj,t6,hI,A3 hk]
end Go.Abs.Q
namespace Go.Abs.Q
open Go.Proofs
attribute [local simp] E6 E8 fin K1 H2 R4 R3 E5
set_option maxHeartbeats 1000000 in
theorem vt (n:Nar) (hr:n.roles.length<=1048576) (t:Tm) (hk:t.kind=3):pc Q Mf [G4 n,B9 t]=some (.int .i64 (JL n.roles t)):=by
 have p6:=YQ n hr t;have hv:JL n.roles t=if t6 t (bs [112,97,105,114]) 2=true\/t6 t (bs [101,110,99]) 2=true then 2
   else if t6 t (bs [104,97,115,104]) 1=true then 1
   else if (t6 t (bs [97,101,110,99]) 2=true/\QV (Hj n.roles) t.kids=true)\/(t6 t (bs [115,105,103,110]) 2=true/\QV (CP n.roles) t.kids=true)then 1
   else if Hj n.roles t=true\/Vf n.roles t=true then 0 else -1:=rfl
 have eA:∀(nm:ByteArray) (k:Int),t6 t nm k=true↔t.name=nm/\(t.kids.length:Int)=k:=λnm k=>by simp[t6,hk]
 generalize JL n.roles t=v at *
 refine N3 J5 λfr hl h0 h1=>?_;simp[J5]at hl h0 h1;by_cases h2:(t.kids.length:Int)=2
 .obtain⟨x,y,hxy⟩:=eY (show t.kids.length=2 by omega);have h1n:¬(t.kids.length:Int)=1:=by omega
  have n0:IZ (A4 t.kids) 0=some (B9 x):=by rw[hxy];rfl
  have n1:IZ (A4 t.kids) 1=some (B9 y):=by rw[hxy];rfl
  have c1:=YQ n hr y;have c2:=WI n hr y;have c3:=YR n hr x;have c4:=YR n hr y;have b6:Hj n.roles t=false:=by simp[Hj,JX (show (t.kids.length:Int)≠1 by omega)]
  have f1:QV (Hj n.roles) t.kids=Hj n.roles y:=by rw[hxy];rfl
  have f2:QV (CP n.roles) t.kids=CP n.roles y:=by rw[hxy];rfl
  have f3:Vf n.roles t=true↔t.name=bs [115,104,107]/\Bz n.roles x=true/\Bz n.roles y=true/\x.name≠y.name:=by
   simp only[Vf,Bool.and_eq_true,eA,hxy,Tg,QV,uu,decide_eq_true_eq];simp[and_assoc]
  rw[b6]at p6;simp only[eA,h2,and_true,b6,f1,f2,f3]at hv;clear f1 f2 f3 b6 eA;generalize Hj n.roles y=e1 at *
  generalize CP n.roles y=e2 at *
  generalize Bz n.roles x=e3 at *
  generalize Bz n.roles y=e4 at *
  by_cases m1:t.name=bs [112,97,105,114]
  .rw[if_pos (.inl m1)]at hv;simp[J5,hl,h0,h1,B7 m1,B7 h2,hv]
  by_cases m2:t.name=bs [101,110,99]
  .rw[if_pos (.inr m2)]at hv;simp[J5,hl,h0,h1,A3 m1,B7 m2,B7 h2,hv]
  rw[if_neg (by simp[m1,m2]),if_neg (by simp)]at hv;by_cases m3:t.name=bs [104,97,115,104]
  .have m4:¬t.name=bs [97,101,110,99]:=by rw[m3];decide
   have m5:¬t.name=bs [115,105,103,110]:=by rw[m3];decide
   have m6:¬t.name=bs [115,104,107]:=by rw[m3];decide
   rw[if_neg (by simp[m4,m5]),if_neg (by simp[m6])]at hv;simp[J5,hl,h0,h1,A3 m1,A3 m2,B7 m3,A3 m4,A3 m5,A3 m6,A3 h1n,p6,hv]
  by_cases m4:t.name=bs [97,101,110,99]
  .have m5:¬t.name=bs [115,105,103,110]:=by rw[m4];decide
   have m6:¬t.name=bs [115,104,107]:=by rw[m4];decide
   cases e1 with
   |true =>
    rw[if_pos (.inl ⟨m4,rfl⟩)]at hv;simp[J5,hl,h0,h1,A3 m1,A3 m2,A3 m3,B7 m4,B7 h2,n1,c1,hv]
   |false =>
    rw[if_neg (by simp[m5]),if_neg (by simp[m6])]at hv;simp[J5,hl,h0,h1,A3 m1,A3 m2,A3 m3,B7 m4,A3 m5,A3 m6,B7 h2,n1,c1,p6,hv]
  by_cases m5:t.name=bs [115,105,103,110]
  .have m6:¬t.name=bs [115,104,107]:=by rw[m5];decide
   cases e2 with
   |true =>
    rw[if_pos (.inr ⟨m5,rfl⟩)]at hv;simp[J5,hl,h0,h1,A3 m1,A3 m2,A3 m3,A3 m4,B7 m5,B7 h2,n1,c2,hv]
   |false =>
    rw[if_neg (by simp[m4]),if_neg (by simp[m6])]at hv;simp[J5,hl,h0,h1,A3 m1,A3 m2,A3 m3,A3 m4,B7 m5,A3 m6,B7 h2,n1,c2,p6,hv]
  rw[if_neg (by simp[m4,m5])]at hv;by_cases m6:t.name=bs [115,104,107]
  .cases e3 with
   |false =>
    simp at hv;simp[J5,hl,h0,h1,A3 m1,A3 m2,A3 m3,A3 m4,A3 m5,B7 m6,B7 h2,n0,c3,p6,hv]
   |true =>
    cases e4 with
    |false =>
     simp at hv;simp[J5,hl,h0,h1,A3 m1,A3 m2,A3 m3,A3 m4,A3 m5,B7 m6,B7 h2,n0,n1,c3,c4,p6,hv]
    |true =>
     by_cases m7:x.name=y.name
     .simp[m7]at hv;simp[J5,hl,h0,h1,A3 m1,A3 m2,A3 m3,A3 m4,A3 m5,B7 m6,B7 m7,B7 h2,n0,n1,c3,c4,p6,hv]
     .simp[m6,m7]at hv;simp[J5,hl,h0,h1,A3 m1,A3 m2,A3 m3,A3 m4,A3 m5,B7 m6,A3 m7,B7 h2,n0,n1,c3,c4,p6,hv]
  .simp[m6]at hv;simp[J5,hl,h0,h1,A3 m1,A3 m2,A3 m3,A3 m4,A3 m5,A3 m6,p6,hv]
 .have b7:Vf n.roles t=false:=by simp[Vf,JX h2]
  simp only[eA,h2,and_false,false_or,false_and,if_false,b7]at hv;generalize Hj n.roles t=b6 at *
  by_cases m3:t.name=bs [104,97,115,104]/\(t.kids.length:Int)=1
  .rw[if_pos m3]at hv;by_cases m1:t.name=bs [112,97,105,114]
   .exact absurd (m1.symm.trans m3.1) (by decide)
   by_cases m2:t.name=bs [101,110,99]
   .exact absurd (m2.symm.trans m3.1) (by decide)
   simp[J5,hl,h0,h1,A3 m1,A3 m2,B7 m3.1,B7 m3.2,hv]
  .have m3':=m3;clear m3;rw[if_neg m3']at hv;by_cases m1:t.name=bs [112,97,105,114]
   .have m2:¬t.name=bs [101,110,99]:=by rw[m1];decide
    have m3:¬t.name=bs [104,97,115,104]:=by rw[m1];decide
    have m4:¬t.name=bs [97,101,110,99]:=by rw[m1];decide
    have m5:¬t.name=bs [115,105,103,110]:=by rw[m1];decide
    have m6:¬t.name=bs [115,104,107]:=by rw[m1];decide
    cases b6<;>simp[J5,hl,h0,h1,B7 m1,A3 m2,A3 m3,A3 m4,A3 m5,A3 m6,A3 h2,p6,hv]
   by_cases m2:t.name=bs [101,110,99]
   .have m3:¬t.name=bs [104,97,115,104]:=by rw[m2];decide
    have m4:¬t.name=bs [97,101,110,99]:=by rw[m2];decide
    have m5:¬t.name=bs [115,105,103,110]:=by rw[m2];decide
    have m6:¬t.name=bs [115,104,107]:=by rw[m2];decide
    cases b6<;>simp[J5,hl,h0,h1,A3 m1,B7 m2,A3 m3,A3 m4,A3 m5,A3 m6,A3 h2,p6,hv]
   by_cases m3:t.name=bs [104,97,115,104]
   .have m4:¬t.name=bs [97,101,110,99]:=by rw[m3];decide
    have m5:¬t.name=bs [115,105,103,110]:=by rw[m3];decide
    have m6:¬t.name=bs [115,104,107]:=by rw[m3];decide
    have h1n:¬(t.kids.length:Int)=1:=λh=>m3' ⟨m3,h⟩;cases b6<;>simp[J5,hl,h0,h1,A3 m1,A3 m2,B7 m3,A3 m4,A3 m5,A3 m6,p6,hv,A3 h1n]
   by_cases m4:t.name=bs [97,101,110,99]
   .have m5:¬t.name=bs [115,105,103,110]:=by rw[m4];decide
    have m6:¬t.name=bs [115,104,107]:=by rw[m4];decide
    cases b6<;>simp[J5,hl,h0,h1,A3 m1,A3 m2,A3 m3,B7 m4,A3 m5,A3 m6,A3 h2,p6,hv]
   by_cases m5:t.name=bs [115,105,103,110]
   .have m6:¬t.name=bs [115,104,107]:=by rw[m5];decide
    cases b6<;>simp[J5,hl,h0,h1,A3 m1,A3 m2,A3 m3,A3 m4,B7 m5,A3 m6,A3 h2,p6,hv]
   by_cases m6:t.name=bs [115,104,107]
   .cases b6<;>simp[J5,hl,h0,h1,A3 m1,A3 m2,A3 m3,A3 m4,A3 m5,B7 m6,A3 h2,p6,hv]
   cases b6<;>simp[J5,hl,h0,h1,A3 m1,A3 m2,A3 m3,A3 m4,A3 m5,A3 m6,p6,hv]
end Go.Abs.Q
namespace Go.Abs.Q
open Go.Proofs
attribute [local simp] E6 E8 fin K1 H2 R4 R3 E5
theorem rQ (rs:List ByteArray) (t:Tm):JL rs t<=t.kids.length/\-1<=JL rs t:=by
 unfold JL;have e2:∀(nm:ByteArray) (k:Int),t6 t nm k=true->(t.kids.length:Int)=k:=λnm k h=>by simp[t6]at h;exact h.2
 split
 .rename_i h;rcases h with h|h<;>have:=e2 _ _ h<;>omega
 .split
  .rename_i h;have:=e2 _ _ h;omega
  .split
   .rename_i h;rcases h with h|h<;>have:=e2 _ _ h.1<;>omega
   .split<;>omega
theorem jQ (na:Nar) (ns rs:List ByteArray) (l' l:G7) (hl':l'.length<=1099511627776) (hll:∃c:Nat,l=l'.take c/\c<=l'.length) (IH:∀t∈l,pc Q DL [G4 na,B9 t]=some (.int .i64 (y8 ns rs t))) (t:Tm) (ht:t.kids=l') (fr:Fr) (h:AH) (hh:h=⟨[(G4 na).cells,(B9 t).cells],[]⟩) (hl:fr.length=43) (h2:A0 fr 2=.ptr 0 0) (h3:A0 fr 3=.ptr 1 0) (h7:A0 fr 7=.int .i64 l.length) (h8:A0 fr 8=.int .i64 0) :
  B6 (lp (A2 (K8 Q) (D6 DL) Eg) (fr,h)) λe C3 h'=>Kp Eg.wr fr C3/\(e=.exit 0/\D3 (y8 ns rs) l=0\/e=.ret/\A0 C3 4=.int .i64 (D3 (y8 ns rs) l)):=by
 refine A9 rfl fr (λn fr h'=>∃(i:Nat),i+n=l.length/\A0 fr 8=.int .i64 (i:Nat)/\h'=⟨[(G4 na).cells,(B9 t).cells],[]⟩/\D3 (y8 ns rs) (l.drop i)=D3 (y8 ns rs) l) ?_ l.length h ⟨0,by omega,h8,hh,rfl⟩;rintro J Φ hJ hΦ n D4 H1 K ⟨i,hi,k8,hr⟩;have A6:=K.1.trans hl;have k2:=A8 K 2 h2;have k3:=A8 K 3 h3;have k7:=A8 K 7 h7;clear K;by_cases A7:i<l.length
 .have B8:l.length<=1099511627776:=by obtain⟨c,rfl,hc⟩:=hll;rw[A0s];omega
  have L3:=C6 i (by omega);obtain⟨rfl,hr⟩:=hr;have u5:i<l'.length:=by obtain⟨c,rfl,hc⟩:=hll;rw[A0s]at A7;omega
  have he:l[i]=l'[i]:=by obtain⟨c,rfl,hc⟩:=hll;simp
  have hx:=I0 u5;rw[←he,←ht]at hx;have hI:=IH l[i] (A0Z A7);rw[A0a A7]at hr;simp only[D3]at hr;generalize l[i]=a at *
  generalize y8 ns rs a=v at *
  by_cases hz:v=0
  .rw[if_neg (by simp[hz])]at hr;simp[Eg,A6,k2,k3,k7,k8,A7,L3,hx,hI,hz];exact G0 hJ ⟨i+1,by omega,by simp[A6],by simp[E5],hr⟩
  .rw[if_pos hz]at hr;simp[Eg,A6,k2,k3,k7,k8,A7,hx,hI,hz];exact hΦ _ _ _ (.inr ⟨rfl,by simp[A6,hr]⟩)
 .obtain⟨_,hr⟩:=hr;rw[A0f (by omega)]at hr;simp[Eg,A6,k7,k8,A7];exact hΦ _ _ _ (.inl ⟨rfl,hr.symm⟩)
theorem fz (na:Nar) (S:Lens na):∀(n:Nat) (t:Tm),t.size<=n->t.size<=1099511627776->pc Q DL [G4 na,B9 t]=some (.int .i64 (y8 (B5 na) na.roles t)):=by
 have s0:=S.names;intro n
 induction n with
 |zero=>intro t h;have:=t.size_pos;omega
 |succ n ih =>
  intro t hn hb;have J4:=t.kids_size;have B8:=Tm.length_le t.kids;have hE:=Sn (B5 na) na.roles t;obtain⟨kl,kg⟩:=rQ na.roles t;obtain⟨r,hNm,m,m',rfl⟩:=YB na ⟨by omega,by omega,by omega⟩;have hI:=Hh m (B5 na) t.name (by simp[B5];omega);have hge:=SZ t.name (B5 na);have Gl:=jQ na (B5 na) na.roles t.kids (t.kids.take (JL na.roles t).toNat) (by omega) ⟨(JL na.roles t).toNat,rfl,by omega⟩ (λa ha=>ih a (by have:=Tm.size_le (A0w ha);omega) (by have:=Tm.size_le (A0w ha);omega)) t rfl;have hKl:(t.kids.take (JL na.roles t).toNat).length=(JL na.roles t).toNat:=by rw[A0s];omega
  clear ih;have hK:t.kind=3->pc Q Mf [G4 na,B9 t]=some (.int .i64 (JL na.roles t)):=vt na (by omega) t;generalize y8 (B5 na) na.roles t=v at *
  unfold DS at hNm;generalize hkt:JL na.roles t=kt at *
  refine N3 Ho λfr hl h0 h1=>?_;simp[Ho]at hl h0 h1;by_cases hk:t.kind=3
  .rw[if_neg (by simp[hk])]at hE;have hK:=hK hk;by_cases hz:kt<0
   .rw[if_pos hz]at hE;simp[Ho,hl,h0,h1,B7 hk,hK,B7 hz,hE]
   .rw[if_neg hz]at hE;simp[Ho,hl,h0,h1,B7 hk,hK,A3 hz];have e:(kt.toNat:Int)=kt:=by omega
    rw[hKl,e]at Gl;refine B6.mono (Gl _ _ ?_ ?_ ?_ ?_ ?_ ?_) ?_<;>first|(simp[hl];done)|skip
    rintro e D4 DD ⟨K,⟨rfl,hz⟩|⟨rfl,k4⟩⟩
    .have J3:D4.length=43:=K.1.trans (by simp[hl]);clear K;simp[J3,hE,hz]
    .simp[k4,hE]
  .rw[if_pos hk]at hE;cases hb':(B5 na).any (U7 t.name)with
   |true =>
    rw[hb']at hge hE;simp[Ho,hl,h0,h1,A3 hk,hNm,hI,A3 (show ¬idx (U7 t.name) (B5 na)<0 from λh=>nomatch (hge.1 h)),hE]
   |false =>
    rw[hb']at hge hE;simp[Ho,hl,h0,h1,A3 hk,hNm,hI,B7 (hge.2 rfl),hE]
theorem tE (na:Nar) (S:Lens na) (s:Ste) (hs:s.msg.size<=1099511627776):pc Q Mg [G4 na,EP s]=some (.int .i64 (HD (B5 na) na.roles s)):=by
 have s0:=S.names;have hT:=fz na S _ s.msg (A0k _) hs;have c1:=Hh na.rm na.roles s.frm (by omega);have c2:=Hh na.rm na.roles s.to (by omega);have g1:=SZ s.frm na.roles;have g2:=SZ s.to na.roles;have hE:HD (B5 na) na.roles s=if Nb na.roles s.frm s.to≠0 then Nb na.roles s.frm s.to else y8 (B5 na) na.roles s.msg:=rfl
 have hE2:Nb na.roles s.frm s.to=if na.roles.any (U7 s.frm)=true/\na.roles.any (U7 s.to)=true then (if s.frm=s.to then 1 else 0)else 13:=rfl
 generalize HD (B5 na) na.roles s=v at *
 generalize y8 (B5 na) na.roles s.msg=v2 at *
 generalize Nb na.roles s.frm s.to=v3 at *
 generalize na.roles.any (U7 s.frm)=b1 at *
 generalize na.roles.any (U7 s.to)=b2 at *
 generalize idx (U7 s.frm) na.roles=i1 at *
 generalize idx (U7 s.to) na.roles=i2 at *
 refine N3 Hp λfr hl h0 h1=>?_;simp[Hp]at hl h0 h1;have q1:b1=true->¬i1<0:=λh h'=>by rw[h]at g1;exact nomatch (g1.1 h')
 have q2:b2=true->¬i2<0:=λh h'=>by rw[h]at g2;exact nomatch (g2.1 h')
 cases b1 with
 |false =>
  simp at hE2;simp[hE2]at hE;simp[Hp,hl,h0,h1,c1,B7 (g1.2 rfl),hE]
 |true =>
  cases b2 with
  |false =>
   simp at hE2;simp[hE2]at hE;simp[Hp,hl,h0,h1,c1,A3 (q1 rfl),c2,B7 (g2.2 rfl),hE]
  |true =>
   by_cases he:s.frm=s.to
   .simp[he]at hE2;simp[hE2]at hE;simp[Hp,hl,h0,h1,c1,A3 (q1 rfl),c2,A3 (q2 rfl),B7 he,hE]
   .simp[he]at hE2;simp[hE2]at hE;simp[Hp,hl,h0,h1,c1,A3 (q1 rfl),c2,A3 (q2 rfl),A3 he,hT,hE]
theorem jT (na:Nar) (ns rs:List ByteArray) (g:Gol) (B8:g.data.length<=1099511627776) (IH:∀t∈g.data,pc Q DL [G4 na,B9 t]=some (.int .i64 (y8 ns rs t))) (fr:Fr) (h:AH) (hh:h=⟨[(G4 na).cells,(Ey g).cells],[]⟩) (hl:fr.length=49) (h2:A0 fr 2=.ptr 0 0) (h3:A0 fr 3=.ptr 1 0) (h5:A0 fr 5=.int .i64 0) :
  B6 (lp (A2 (K8 Q) (D6 FL) CH) (fr,h)) λe C3 h'=>Kp CH.wr fr C3/\(e=.exit 0/\D3 (y8 ns rs) g.data=0\/e=.ret/\A0 C3 4=.int .i64 (D3 (y8 ns rs) g.data)):=by
 refine A9 rfl fr (λn fr h'=>∃(i:Nat),i+n=g.data.length/\A0 fr 5=.int .i64 (i:Nat)/\h'=⟨[(G4 na).cells,(Ey g).cells],[]⟩/\D3 (y8 ns rs) (g.data.drop i)=D3 (y8 ns rs) g.data) ?_ g.data.length h ⟨0,by omega,h5,hh,rfl⟩;rintro J Φ hJ hΦ n D4 H1 K ⟨i,hi,k5,hr⟩;have A6:=K.1.trans hl;have k2:=A8 K 2 h2;have k3:=A8 K 3 h3;clear K;by_cases A7:i<g.data.length
 .have L3:=C6 i (by omega);obtain⟨rfl,hr⟩:=hr;have hx:=I0 A7;have hI:=IH g.data[i] (A0Z A7);rw[A0a A7]at hr;simp only[D3]at hr;generalize g.data[i]=a at *
  generalize y8 ns rs a=v at *
  by_cases hz:v=0
  .rw[if_neg (by simp[hz])]at hr;simp[CH,A6,k2,k3,k5,A7,L3,hx,hI,hz];exact G0 hJ ⟨i+1,by omega,by simp[A6],by simp[E5],hr⟩
  .rw[if_pos hz]at hr;simp[CH,A6,k2,k3,k5,A7,hx,hI,hz];exact hΦ _ _ _ (.inr ⟨rfl,by simp[A6,hr]⟩)
 .obtain⟨rfl,hr⟩:=hr;rw[A0f (by omega)]at hr;simp[CH,A6,k3,k5,A7];exact hΦ _ _ _ (.inl ⟨rfl,hr.symm⟩)
theorem tC (na:Nar) (S:Lens na) (g:Gol) (hd:Tm.sizes g.data<=1099511627776):pc Q FL [G4 na,Ey g]=some (.int .i64 (JA (B5 na) na.roles g)):=by
 have s0:=S.names;have B8:=Tm.length_le g.data;have c1:=Hh na.rm na.roles g.role (by omega);have c2:=Hh na.rm na.roles g.wth (by omega);have g1:=SZ g.role na.roles;have g2:=SZ g.wth na.roles;have Gl:=jT na (B5 na) na.roles g (by omega) (λt ht=>fz na S _ t (A0k _) (by have:=Tm.size_le ht;omega));have hE:JA (B5 na) na.roles g=if na.roles.any (U7 g.role)=false then 13 else if OC g=true/\Nb na.roles g.role g.wth≠0 then Nb na.roles g.role g.wth else D3 (y8 (B5 na) na.roles) g.data:=rfl
 have hE2:Nb na.roles g.role g.wth=if na.roles.any (U7 g.role)=true/\na.roles.any (U7 g.wth)=true then (if g.role=g.wth then 1 else 0)else 13:=rfl
 have hA:OC g=(decide (g.kind=2)||decide (g.kind=3)):=rfl;generalize JA (B5 na) na.roles g=v at *
 generalize D3 (y8 (B5 na) na.roles) g.data=v2 at *
 generalize Nb na.roles g.role g.wth=v3 at *
 generalize na.roles.any (U7 g.role)=b1 at *
 generalize na.roles.any (U7 g.wth)=b2 at *
 generalize idx (U7 g.role) na.roles=i1 at *
 generalize idx (U7 g.wth) na.roles=i2 at *
 generalize OC g=ab at *
 refine N3 AT λfr hl h0 h1=>?_;simp[AT]at hl h0 h1;have q1:b1=true->¬i1<0:=λh h'=>by rw[h]at g1;exact nomatch (g1.1 h')
 have q2:b2=true->¬i2<0:=λh h'=>by rw[h]at g2;exact nomatch (g2.1 h')
 cases b1 with
 |false =>
  simp at hE;simp[AT,hl,h0,h1,c1,B7 (g1.2 rfl),hE]
 |true =>
  have key:∀(D4:Fr),v=v2->D4.length=49->A0 D4 2=.ptr 0 0->A0 D4 3=.ptr 1 0->A0 D4 5=.int .i64 0 ->
    B6 (lp (A2 (K8 Q) (D6 FL) CH) (D4,⟨[[.str na.name,sl na.rm 1 (na.roles.map .str),sl na.fm 3 (na.fresh.map Lz),sl na.tm 1 (na.tags.map .str),sl na.sm 7 (na.steps.map EP),sl na.gm 5 (na.goals.map Ey)],[.int .i64 g.kind,.str g.role,.str g.wth,sl g.dm 4 (A4 g.data),.int .i64 g.line]],[]⟩)) (BL 0 (SQ (K8 Q) (D6 FL) (.seq (.region false [⟨some 4,.mov (.c (.int .i64 0)),none⟩]) .ret) (kU [.tmp 4] (.int .i64 v)))):=by
   rintro D4 rfl hl q2 q3 q5;refine B6.mono (Gl D4 _ rfl hl q2 q3 q5) ?_;rintro e Q6 h2 ⟨K,⟨rfl,hz⟩|⟨rfl,k4⟩⟩
   .have Bb:=K.1.trans hl;simp[Bb,hz]
   .simp[k4]
  have cases2:ab=true->((b2=false/\v=13)\/(b2=true/\g.wth=g.role/\v=1)\/(b2=true/\¬g.wth=g.role/\v=v2)):=by
   intro h;subst h;cases b2 with
   |false =>
    simp at hE2;simp[hE2]at hE;exact .inl ⟨rfl,hE⟩
   |true =>
    by_cases he:g.role=g.wth
    .simp[he]at hE2;simp[hE2]at hE;exact .inr (.inl ⟨rfl,he.symm,hE⟩)
    .simp[he]at hE2;simp[hE2]at hE;exact .inr (.inr ⟨rfl,λh=>he h.symm,hE⟩)
  by_cases k2:g.kind=2
  .rcases cases2 (by simp[hA,k2])with ⟨rfl,hv⟩|⟨rfl,he,hv⟩|⟨rfl,he,hv⟩
   .simp[AT,hl,h0,h1,c1,A3 (q1 rfl),B7 k2,c2,B7 (g2.2 rfl),hv]
   .simp[AT,hl,h0,h1,c1,A3 (q1 rfl),B7 k2,c2,A3 (q2 rfl),B7 he,hv]
   .simp[AT,hl,h0,h1,c1,A3 (q1 rfl),B7 k2,c2,A3 (q2 rfl),A3 he];exact key _ hv (by simp[hl]) (by simp[hl]) (by simp[hl]) (by simp[hl])
  .by_cases k3:g.kind=3
   .rcases cases2 (by simp[hA,k3])with ⟨rfl,hv⟩|⟨rfl,he,hv⟩|⟨rfl,he,hv⟩
    .simp[AT,hl,h0,h1,c1,A3 (q1 rfl),A3 k2,B7 k3,c2,B7 (g2.2 rfl),hv]
    .simp[AT,hl,h0,h1,c1,A3 (q1 rfl),A3 k2,B7 k3,c2,A3 (q2 rfl),B7 he,hv]
    .simp[AT,hl,h0,h1,c1,A3 (q1 rfl),A3 k2,B7 k3,c2,A3 (q2 rfl),A3 he];exact key _ hv (by simp[hl]) (by simp[hl]) (by simp[hl]) (by simp[hl])
   .have ea:ab=false:=by simp[hA,k2,k3]
    simp[ea]at hE;simp[AT,hl,h0,h1,c1,A3 (q1 rfl),A3 k2,A3 k3];exact key _ hE (by simp[hl]) (by simp[hl]) (by simp[hl]) (by simp[hl])
end Go.Abs.Q
