/- A part of the proof. -/
import Derived.Test.YtohjdamplbhdpaaGreatDoorSO11
set_option linter.all false
open List renaming getElem_mem->A0Q,drop_eq_getElem_cons->A0R,take_succ_eq_append_getElem->A0T,getElem?_set_ne->A0U,map_append->A0V,drop_eq_nil_of_le->A0W,getElem?_set_self->A0X,map_cons->A0Y,replicate->A0Z,map_nil->A0a,getElem?_append_left->A0c,getElem?_eq_some_iff->A0d,take_of_length_le->A0e,take_length->A0f,map_eq_nil_iff->A0g,drop_length->A0h,getElem?_eq_getElem->A0i,length_take->A0j,append_nil->A0k,length_eq_one_iff->A0l,set_append_right->A0m,mem_of_mem_take->A0n,replicate_succ->A0o,set_cons_zero->A0p,drop_zero->A0q
open Option renaming bind_some->A0S
open Nat renaming le_refl->A0b
namespace Go.Abs.Q
open Go.Proofs
attribute [local simp] E1 E5 fin J7 G4
theorem jL (m:I7) (rs ns:List ByteArray) (vs:List Int) (m':I7) (l:G7) (B8:l.length<=1099511627776) (IH:∀t∈l,pc Q J5 [.agg [sl m 1 (rs.map .str),.vm (ns.map .str) (vs.map (.int .i64))],B9 t]=some (.int .i64 (x6 ns rs t))) (b1:G3) (fr:Fr) (h:AH) (hh:h.boxes=[[sl m 1 (rs.map .str),.vm (ns.map .str) (vs.map (.int .i64))],b1]) (hl:fr.length=46) (h2:A0 fr 2=.ptr 0 0) (h33:A0 fr 33=sl m' 4 (A4 l)) (h34:A0 fr 34=.int .i64 l.length) (h35:A0 fr 35=.int .i64 0) :
  B7 (lp (A2 (K8 Q) (D6 S8) T5) (fr,h)) λe C4 h'=>Kp T5.wr fr C4/\(e=.exit 0/\D3 (x6 ns rs) l=0\/e=.ret/\A0 C4 4=.int .i64 (D3 (x6 ns rs) l)):=by
 refine B4 rfl fr (λn fr h'=>∃(i:Nat),i+n=l.length/\A0 fr 35=.int .i64 (i:Nat)/\(∃B,h'.boxes=[sl m 1 (rs.map .str),.vm (ns.map .str) (vs.map (.int .i64))]::B)/\D3 (x6 ns rs) (l.drop i)=D3 (x6 ns rs) l) ?_ l.length h ⟨0,by omega,h35,⟨_,hh⟩,rfl⟩;rintro J Φ hJ hΦ n D5 H1 K ⟨i,hi,k35,hr⟩;have A6:=K.1.trans hl;have k2:=A8 K 2 h2;have k33:=A8 K 33 h33;have k34:=A8 K 34 h34;clear K;by_cases A7:i<l.length
 .have L4:=C6 i (by omega);obtain⟨⟨B,hB⟩,hr⟩:=hr;obtain⟨bx,fams⟩:=H1;simp only at hB;subst hB;have hx:=H9 A7;have hI:=IH l[i] (A0Q A7);rw[A0R A7]at hr;simp only[D3]at hr;generalize l[i]=t at *
  generalize x6 ns rs t=v at *
  by_cases hz:v=0
  .rw[if_neg (by simp[hz])]at hr;simp[T5,A6,k2,k33,k34,k35,A7,L4,hx,hI,hz];exact E9 hJ ⟨i+1,by omega,by simp[A6],⟨_,rfl⟩,hr⟩
  .rw[if_pos hz]at hr;simp[T5,A6,k2,k33,k34,k35,A7,hx,hI,hz];exact hΦ _ _ _ (.inr ⟨rfl,by simp[A6,hr]⟩)
 .obtain⟨_,hr⟩:=hr;rw[A0W (by omega)]at hr;simp[T5,A6,k34,k35,A7];exact hΦ _ _ _ (.inl ⟨rfl,hr.symm⟩)
theorem sr (m:I7) (rs ns:List ByteArray) (vs:List Int) (hr:rs.length<=1048576) (hkv:ns.length=vs.length) (g:Gol) (hg:Tm.sizes g.data<=1099511627776) :
  pc Q S8 [.agg [sl m 1 (rs.map .str),.vm (ns.map .str) (vs.map (.int .i64))],En g]=some (.int .i64 (Ik ns rs g)):=by
 have B8:=Tm.length_le g.data;have GW:=jL m rs ns vs g.dm g.data (by omega) (λt ht=>lW m rs ns vs hr hkv _ t (A0b _) (by have:=Tm.size_le ht;omega));have hC:=HQ m rs g.role hr;have hT:=sw m rs (ns.map .str) (vs.map (.int .i64)) hr g.role g.wth;have hE:Ik ns rs g=if rs.any (V4 g.role)=false then 13 else if No g=true/\NN rs g.role g.wth≠0 then NN rs g.role g.wth else D3 (x6 ns rs) g.data:=rfl
 have hA:No g=(decide (g.kind=2)||decide (g.kind=3)):=rfl;generalize Ik ns rs g=z at *
 generalize rs.any (V4 g.role)=b at *
 generalize NN rs g.role g.wth=w at *
 generalize No g=ab at *
 refine O9 T4 λfr hl h0 h1=>?_;simp[T4]at hl h0 h1;have key:∀(D5:Fr) (h:AH),z=D3 (x6 ns rs) g.data->D5.length=46->A0 D5 2=.ptr 0 0->A0 D5 33=sl g.dm 4 (A4 g.data)->A0 D5 34=.int .i64 g.data.length->A0 D5 35=.int .i64 0->(∃b1,h.boxes=[[sl m 1 (rs.map .str),.vm (ns.map .str) (vs.map (.int .i64))],b1]) ->
   B7 (lp (A2 (K8 Q) (D6 S8) T5) (D5,h)) (BL 0 (SQ (K8 Q) (D6 S8) (.seq (.region false [⟨some 4,.mov (.c (.int .i64 0)),none⟩]) .ret) (kM [.tmp 4] (.int .i64 z)))):=by
  rintro D5 h rfl hl q2 q33 q34 q35 ⟨b1,hb⟩;refine B7.mono (GW b1 D5 h hb hl q2 q33 q34 q35) ?_;rintro e R1 h2 ⟨K,⟨rfl,hz⟩|⟨rfl,k4⟩⟩
  .have CK:=K.1.trans hl;simp[CK,hz]
  .simp[k4]
 cases b with
 |false =>
  rw[if_pos rfl]at hE;simp[T4,hl,h0,h1,hC,hE]
 |true =>
  rw[if_neg (by simp)]at hE;have fin:ab=false\/w=0->z=D3 (x6 ns rs) g.data:=by
   intro h;rw[if_neg (by rintro⟨a,b⟩;rcases h with h|h;simp[h]at a;exact b h)]at hE
   exact hE
  by_cases k2:g.kind=2
  .have ea:ab=true:=by simp[hA,k2]
   by_cases hw:w=0
   .simp[T4,hl,h0,h1,hC,B6 k2,hT,hw];exact key _ _ (fin (.inr hw)) (by simp[hl]) (by simp[hl]) (by simp[hl]) (by simp[hl]) (by simp[hl]) ⟨_,rfl⟩
   .rw[if_pos ⟨ea,hw⟩]at hE;simp[T4,hl,h0,h1,hC,B6 k2,hT,hw,hE]
  .by_cases k3:g.kind=3
   .have ea:ab=true:=by simp[hA,k3]
    by_cases hw:w=0
    .simp[T4,hl,h0,h1,hC,A3 k2,B6 k3,hT,hw];exact key _ _ (fin (.inr hw)) (by simp[hl]) (by simp[hl]) (by simp[hl]) (by simp[hl]) (by simp[hl]) ⟨_,rfl⟩
    .rw[if_pos ⟨ea,hw⟩]at hE;simp[T4,hl,h0,h1,hC,A3 k2,B6 k3,hT,hw,hE]
   .have ea:ab=false:=by simp[hA,k2,k3]
    simp[T4,hl,h0,h1,hC,A3 k2,A3 k3];exact key _ _ (fin (.inl ea)) (by simp[hl]) (by simp[hl]) (by simp[hl]) (by simp[hl]) (by simp[hl]) ⟨_,rfl⟩
theorem eQ (m:I7) (rs ns:List ByteArray) (vs:List Int) (hr:rs.length<=1048576) (m':I7) (l:List Ste) (B8:l.length<=1099511627776) (IH:∀s∈l,pc Q J5 [.agg [sl m 1 (rs.map .str),.vm (ns.map .str) (vs.map (.int .i64))],B9 s.msg]=some (.int .i64 (x6 ns rs s.msg))) (A:G3) (fr:Fr) (h:AH) (hh:h.boxes=[A,[sl m 1 (rs.map .str),.vm (ns.map .str) (vs.map (.int .i64))]]) (hl:fr.length=66) (h6:A0 fr 6=.ptr 1 0) (h26:A0 fr 26=sl m' 7 (l.map El)) (h27:A0 fr 27=.int .i64 l.length) (h28:A0 fr 28=.int .i64 0) :
  B7 (lp (A2 (K8 Q) (D6 Fu) BA) (fr,h)) λe C4 h'=>Kp BA.wr fr C4/\(e=.exit 0/\S1 (Gn ns rs) Ste.line l=(0,0)/\(∃B,h'.boxes=A::[sl m 1 (rs.map .str),.vm (ns.map .str) (vs.map (.int .i64))]::B)\/e=.ret/\A0 C4 2=.int .i64 (S1 (Gn ns rs) Ste.line l).1/\A0 C4 3=.int .i64 (S1 (Gn ns rs) Ste.line l).2/\S1 (Gn ns rs) Ste.line l≠(0,0)):=by
 refine B4 rfl fr (λn fr h'=>∃(i:Nat),i+n=l.length/\A0 fr 28=.int .i64 (i:Nat)/\(∃B,h'.boxes=A::[sl m 1 (rs.map .str),.vm (ns.map .str) (vs.map (.int .i64))]::B)/\S1 (Gn ns rs) Ste.line (l.drop i)=S1 (Gn ns rs) Ste.line l) ?_ l.length h ⟨0,by omega,h28,⟨_,hh⟩,rfl⟩;rintro J Φ hJ hΦ n D5 H1 K ⟨i,hi,k28,hr⟩;have A6:=K.1.trans hl;have k6:=A8 K 6 h6;have k26:=A8 K 26 h26;have k27:=A8 K 27 h27;clear K;by_cases A7:i<l.length
 .have L4:=C6 i (by omega);obtain⟨⟨B,hB⟩,hr⟩:=hr;obtain⟨bx,fams⟩:=H1;simp only at hB;subst hB;have hx:=G2 (f:=El) (A0i A7);have hI:=IH l[i] (A0Q A7);have hT:=sw m rs (ns.map .str) (vs.map (.int .i64)) (by omega) l[i].frm l[i].to;rw[A0R A7]at hr;simp only[S1]at hr;have hE:Gn ns rs l[i]=if NN rs l[i].frm l[i].to≠0 then NN rs l[i].frm l[i].to else x6 ns rs l[i].msg:=rfl
  generalize l[i]=t at *
  generalize x6 ns rs t.msg=v at *
  generalize NN rs t.frm t.to=w at *
  generalize Gn ns rs t=z at *
  generalize hgl:S1 (Gn ns rs) Ste.line l=L at *
  by_cases hw:w=0
  .rw[if_neg (by simp[hw])]at hE;subst hE;by_cases hz:z=0
   .rw[if_neg (by simp[hz])]at hr;simp[BA,A6,k6,k26,k27,k28,A7,L4,hx,hT,hw,hI,hz];exact E9 hJ ⟨i+1,by omega,by simp[A6],⟨_,rfl⟩,hr⟩
   .rw[if_pos hz]at hr;simp[BA,A6,k6,k26,k27,k28,A7,hx,hT,hw,hI,hz];exact hΦ _ _ _ (.inr ⟨rfl,by simp[A6,←hr],by simp[A6,←hr],by simp[←hr,hz]⟩)
  .rw[if_pos hw]at hE;rw[hE,if_pos hw]at hr;simp[BA,A6,k6,k26,k27,k28,A7,hx,hT,hw];exact hΦ _ _ _ (.inr ⟨rfl,by simp[A6,←hr],by simp[A6,←hr],by simp[←hr,hw]⟩)
 .obtain⟨hh',hr⟩:=hr;rw[A0W (by omega)]at hr;simp[BA,A6,k27,k28,A7];exact hΦ _ _ _ (.inl ⟨rfl,hr.symm,hh'⟩)
theorem eP (m:I7) (rs ns:List ByteArray) (vs:List Int) (m':I7) (l:List Gol) (B8:l.length<=1099511627776) (IH:∀s∈l,pc Q S8 [.agg [sl m 1 (rs.map .str),.vm (ns.map .str) (vs.map (.int .i64))],En s]=some (.int .i64 (Ik ns rs s))) (A:G3) (fr:Fr) (h:AH) (hh:∃B,h.boxes=A::[sl m 1 (rs.map .str),.vm (ns.map .str) (vs.map (.int .i64))]::B) (hl:fr.length=66) (h6:A0 fr 6=.ptr 1 0) (h51:A0 fr 51=sl m' 5 (l.map En)) (h52:A0 fr 52=.int .i64 l.length) (h53:A0 fr 53=.int .i64 0) :
  B7 (lp (A2 (K8 Q) (D6 Fu) Cm) (fr,h)) λe C4 h'=>Kp Cm.wr fr C4/\(e=.exit 2/\S1 (Ik ns rs) Gol.line l=(0,0)\/e=.ret/\A0 C4 2=.int .i64 (S1 (Ik ns rs) Gol.line l).1/\A0 C4 3=.int .i64 (S1 (Ik ns rs) Gol.line l).2):=by
 refine B4 rfl fr (λn fr h'=>∃(i:Nat),i+n=l.length/\A0 fr 53=.int .i64 (i:Nat)/\(∃B,h'.boxes=A::[sl m 1 (rs.map .str),.vm (ns.map .str) (vs.map (.int .i64))]::B)/\S1 (Ik ns rs) Gol.line (l.drop i)=S1 (Ik ns rs) Gol.line l) ?_ l.length h ⟨0,by omega,h53,hh,rfl⟩;rintro J Φ hJ hΦ n D5 H1 K ⟨i,hi,k53,hr⟩;have A6:=K.1.trans hl;have k6:=A8 K 6 h6;have k51:=A8 K 51 h51;have k52:=A8 K 52 h52;clear K;by_cases A7:i<l.length
 .have L4:=C6 i (by omega);obtain⟨⟨B,hB⟩,hr⟩:=hr;obtain⟨bx,fams⟩:=H1;simp only at hB;subst hB;have hx:=G2 (f:=En) (A0i A7);have hI:=IH l[i] (A0Q A7);rw[A0R A7]at hr;simp only[S1]at hr;generalize l[i]=t at *
  generalize Ik ns rs t=z at *
  generalize hgl:S1 (Ik ns rs) Gol.line l=L at *
  by_cases hz:z=0
  .rw[if_neg (by simp[hz])]at hr;simp[Cm,A6,k6,k51,k52,k53,A7,L4,hx,hI,hz];exact E9 hJ ⟨i+1,by omega,by simp[A6],⟨_,rfl⟩,hr⟩
  .rw[if_pos hz]at hr;simp[Cm,A6,k6,k51,k52,k53,A7,hx,hI,hz];exact hΦ _ _ _ (.inr ⟨rfl,by simp[A6,←hr],by simp[A6,←hr]⟩)
 .obtain⟨hh',hr⟩:=hr;rw[A0W (by omega)]at hr;simp[Cm,A6,k52,k53,A7];exact hΦ _ _ _ (.inl ⟨rfl,hr.symm⟩)
theorem NC (n:Nar):(B5 n).length=(G6 n).length:=by simp[B5,G6]
theorem Vv (n:Nar) (F:Fine n) (hS:n.roles.length+n.fresh.length+n.tags.length<=1048576):pc Q Fu [G8 n]=some (.tup [.int .i64 (l8 n).1,.int .i64 (l8 n).2]):=by
 have hV:=fY n F;have hD:=fS n hS;have l1:=F.stepsL;have l2:=F.goalsL;have fs:=F.steps;have fg:=F.goals;have hT:∀t:Tm,t.size<=1099511627776->pc Q J5 [kG n.rm n,B9 t]=some (.int .i64 (x6 (B5 n) n.roles t)):=λt ht=>lW n.rm n.roles (B5 n) (G6 n) (by omega) (NC n) _ t (A0b _) ht;have hG:∀g:Gol,Tm.sizes g.data<=1099511627776->pc Q S8 [kG n.rm n,En g]=some (.int .i64 (Ik (B5 n) n.roles g)):=λg hg=>sr n.rm n.roles (B5 n) (G6 n) (by omega) (NC n) g hg;have hE:l8 n=if PQ n≠0 then (0,PQ n)else if Hx n≠0 then (0,Hx n)
  else if S1 (Gn (B5 n) n.roles) Ste.line n.steps≠(0,0)then S1 (Gn (B5 n) n.roles) Ste.line n.steps else S1 (Ik (B5 n) n.roles) Gol.line n.goals:=rfl
 have hN:Hx n=0->pc Q BT [G8 n]=some (kG n.rm n):=TE n hS;unfold kG at hT hG hN;generalize l8 n=z at *
 generalize PQ n=e1 at *
 generalize Hx n=e2 at *
 generalize B5 n=ns at *
 generalize G6 n=vs at *
 clear F;obtain⟨name,rm,roles,fm,fresh,tm,tags,sm,steps,gm,goals⟩:=n;simp only at *
 have q1:=eQ rm roles ns vs (by omega) sm steps l1 (λs hs=>hT _ (fs s hs).2.2) [.str name,sl rm 1 (roles.map .str),sl fm 3 (fresh.map Lp),sl tm 1 (tags.map .str),sl sm 7 (steps.map El),sl gm 5 (goals.map En)];have q2:=eP rm roles ns vs gm goals l2 (λg hg=>hG g (fg g hg).2.2) [.str name,sl rm 1 (roles.map .str),sl fm 3 (fresh.map Lp),sl tm 1 (tags.map .str),sl sm 7 (steps.map El),sl gm 5 (goals.map En)];clear hT hG;generalize S1 (Gn ns roles) Ste.line steps=L1 at *
 generalize S1 (Ik ns roles) Gol.line goals=L2 at *
 refine H5 IS λfr hl h0=>?_;simp[IS,G8]at hl h0;simp only[G8]at hV hD hN;by_cases z1:e1=0
 .rw[if_neg (by simp[z1])]at hE;by_cases z2:e2=0
  .rw[if_neg (by simp[z2])]at hE;have hN:=hN z2;generalize hU:ns.map AV.str=U at *
   generalize hW:vs.map (AV.int .i64)=W at *
   simp[IS,hl,h0,hV,z1,hD,z2,hN];refine B7.mono (q1 _ _ ?_ ?_ ?_ ?_ ?_ ?_) ?_<;>first|(simp[hl];done)|skip
   rintro e D5 ⟨bx,fams⟩ ⟨K,⟨rfl,hz,B,hB⟩|⟨rfl,k2,k3,hz⟩⟩
   .simp only at hB;subst hB;have J0:D5.length=66:=K.1.trans (by simp[hl]);have FS:A0 D5 1=.ptr 0 0:=A8 K 1 (by simp[hl]);have k6fr1:A0 D5 6=.ptr 1 0:=A8 K 6 (by simp[hl]);clear K;rw[if_neg (by simp[hz])]at hE;simp[J0,FS];refine B7.mono (q2 _ _ ?_ ?_ ?_ ?_ ?_ ?_) ?_<;>first|(simp[J0,k6fr1];done)|skip
    rintro e R1 h2 ⟨K,⟨rfl,hz⟩|⟨rfl,k2,k3⟩⟩
    .have S7:R1.length=66:=K.1.trans (by simp[J0]);clear K;simp[S7,hE,hz]
    .simp[k2,k3,hE]
   .rw[if_pos hz]at hE;simp[k2,k3,hE]
  .rw[if_pos z2]at hE;simp[IS,hl,h0,hV,z1,hD,z2,hE]
 .rw[if_pos z1]at hE;simp[IS,hl,h0,hV,z1,hE]
def L0 (ns:List ByteArray) (vs:List Int) (a:ByteArray):Int:=if ns.any (V4 a)=true then vs.getD (idx (V4 a) ns).toNat 0 else 0
mutual
def CI (f:ByteArray->Int):Tm->Tm
 | .mk k nm s _ l=>.mk k nm (if k=2 then f nm else s) (false,false) (m8 f l)
def m8 (f:ByteArray->Int):List Tm->List Tm
 | []=>[]
 |t::l=>CI f t::m8 f l
end
mutual
def E3:Tm->Tm
 | .mk k nm s _ l=>.mk k nm s (false,false) (H4 l)
def H4:List Tm->List Tm
 | []=>[]
 |t::l=>E3 t::H4 l
end
theorem JF (f:ByteArray->Int) (l:G7):m8 f l=l.map (CI f):=by
 induction l with
 |nil=>rfl
 |cons t l ih=>simp[m8,ih]
theorem E4 (l:G7):H4 l=l.map E3:=by
 induction l with
 |nil=>rfl
 |cons t l ih=>simp[H4,ih]
theorem tu (ns:List ByteArray) (vs:List Int) (hkv:ns.length=vs.length) (h:AH) (a:J2) :
  Gb true false (.int .i64 0) h (.vm (ns.map .str) (vs.map (.int .i64))) (.str a)=some (.int .i64 (L0 ns vs a),h):=by
 cases hk:ns.any (V4 a)with
 |false=>simp[Gb,Sw,GL,Pq a ns 0 hk,L0,hk]
 |true =>
  have hge:=(DY (V4 a) ns 0).2 hk;have A7:=KX (V4 a) ns 0;have hi:(S6 (V4 a) 0 ns).toNat<vs.length:=by omega
  simp[Gb,Sw,GL,TU a ns 0 hk,hi,L0,hk,idx]
theorem jx (ns:List ByteArray) (vs:List Int) (hkv:ns.length=vs.length) (r x0 x2 x3:AV) (nm:J2) (h:AH) (hb:h.boxes[0]?=some [x0,.str nm,x2,x3]) :
  ∃w h',rc Q Aj [.ptr 0 0,.pv [r,.vm (ns.map .str) (vs.map (.int .i64))]] h=some (w,h')/\w=.tup []/\h'={h with boxes:=h.boxes.set 0 [x0,.str nm,.int .i64 (L0 ns vs nm),x3]}:=by
 have hM:=tu ns vs hkv h nm;have A7:=H3 hb;refine Hl Jz λfr hl h0 h1=>?_;simp[Jz]at hl h0 h1;simp[Jz,hl,h0,h1,hb,hM]
def gk (r:AV) (ns:List ByteArray) (vs:List Int):AV:=.fn Aj [.pv [r,.vm (ns.map .str) (vs.map (.int .i64))]]
@[simp] theorem byF_frz (h:AH) (am:Bool) (r:AV) (ns:List ByteArray) (vs:List Int):KH h am (gk r ns vs)=some (gk r ns vs):=rfl
@[simp] theorem A0A (h:AH) (r:AV) (ns:List ByteArray) (vs:List Int):CM h (gk r ns vs)=true:=rfl
def zT:AV:=.agg [.int .i64 0,.str (bs []),.int .i64 0,.vs true 0 []]
theorem bc (by':AV) (f:ByteArray->Int) (m:I7) (l:G7) (B8:l.length<=1099511627776) (hby:∀h am,KH h am by'=some by') (hby2:∀h,CM h by'=true) (IH:∀t∈l,∃t',pc Q K6 [B9 t,by']=some (B9 t')/\E3 t'=CI f t) (A C:G3) (fr:Fr) (h:AH) (hh:h=⟨[A,C],[⟨A0Z l.length zT,4,true⟩]⟩) (hl:fr.length=36) (h1:A0 fr 1=by') (h5:A0 fr 5=.sl 0 l.length 0 l.length) (h19:A0 fr 19=sl m 4 (A4 l)) (h20:A0 fr 20=.int .i64 l.length) (h21:A0 fr 21=.int .i64 0) :
  B7 (lp (A2 (K8 Q) (D6 K6) DT) (fr,h)) λe C4 h'=>Kp DT.wr fr C4/\e=.exit 0/\∃B done,h'=⟨A::C::B,[⟨A4 done,4,true⟩]⟩/\H4 done=m8 f l/\done.length=l.length:=by
 refine B4 rfl fr (λn fr h'=>∃(i:Nat),i+n=l.length/\A0 fr 21=.int .i64 (i:Nat)/\(∃B done,h'=⟨A::C::B,[⟨A4 done++A0Z (l.length-i) zT,4,true⟩]⟩/\H4 done=m8 f (l.take i)/\done.length=i)) ?_ l.length h ⟨0,by omega,h21,⟨[],[],by simp[hh,A4],by simp[H4,m8],rfl⟩⟩;rintro J Φ hJ hΦ n D5 H1 K ⟨i,hi,k21,hr⟩;have A6:=K.1.trans hl;have k1:=A8 K 1 h1;have k5:=A8 K 5 h5;have k19:=A8 K 19 h19;have k20:=A8 K 20 h20;clear K;by_cases A7:i<l.length
 .have L4:=C6 i (by omega);obtain⟨B,done,rfl,hd,Di⟩:=hr;have hx:=H9 A7;obtain⟨t',hI,ht⟩:=IH l[i] (A0Q A7);have e1:l.length-i=(l.length-(i+1))+1:=by omega
  have e2:H4 (done++[t'])=m8 f (l.take (i+1)):=by
   rw[A0T A7,E4,A0V,←E4,hd,JF,JF,A0V,A0Y,A0a,A0Y,A0a,ht]
  have e3:(A4 done++A0Z (l.length-i) zT).set i (B9 t')=A4 (done++[t'])++A0Z (l.length-(i+1)) zT:=by
   rw[e1,A0o,A0m _ _ (by simp[Di]),P8];simp[Di]
  have e4:(A4 done++A0Z (l.length-i) zT)[i]?=some zT:=by
   rw[e1,A0o,List.getElem?_append_right (by simp[Di])];simp[Di]
  have e5:(A4 done++A0Z (l.length-i) zT).length=l.length:=by simp[Di];omega
  clear ht hd;generalize l[i]=t at *
  generalize A4 done++A0Z (l.length-i) zT=X at *
  have e6:(AV.agg [.int .i64 t'.kind,.str t'.name,.int .i64 t'.sort,sl t'.cm 4 (A4 t'.kids)])=B9 t':=Yb t';obtain⟨_,e7⟩:=A0d.1 e4;simp[DT,A6,k1,k5,k19,k20,k21,A7,L4,hx,hI,hby,hby2,e7,e5,zT,AV.reform];exact E9 hJ ⟨i+1,by omega,by simp[A6],⟨_,done++[t'],by rw[e3],e2,by simp[Di]⟩⟩
 .obtain⟨B,done,rfl,hd,Di⟩:=hr;have e:i=l.length:=by omega
  subst e;rw[A0f]at hd;simp[DT,A6,k20,k21];exact hΦ _ _ _ ⟨rfl,B,done,by simp,hd,Di⟩
theorem Xq (r:AV) (hr:r.flat=true) (ns:List ByteArray) (vs:List Int) (hkv:ns.length=vs.length):∀(n:Nat) (t:Tm),t.size<=n->t.size<=1099511627776->I8 t=0->∃t',pc Q K6 [B9 t,gk r ns vs]=some (B9 t')/\E3 t'=CI (L0 ns vs) t:=by
 intro n
 induction n with
 |zero=>intro t h;have:=t.size_pos;omega
 |succ n ih =>
  intro t hn hb P0;obtain⟨k,nm,s,m,kids⟩:=t;have J4:Tm.size (.mk k nm s m kids)=1+Tm.sizes kids:=rfl;have B8:=Tm.length_le kids;obtain⟨hne1,hne2⟩:=Q1 P0;have hnb:=(Gm hne1).2.1;have GW:=bc (gk r ns vs) (L0 ns vs) m kids (by omega) (λ_ _=>rfl) (λ_=>rfl) (λt ht=>ih t (by have:=Tm.size_le ht;omega) (by have:=Tm.size_le ht;omega) (K0 hne2 t ht))
  suffices h:∃v,pc Q K6 [B9 (.mk k nm s m kids),gk r ns vs]=some v/\∃t',v=B9 t'/\E3 t'=CI (L0 ns vs) (.mk k nm s m kids) by
   obtain⟨v,h1,t',rfl,h2⟩:=h;exact⟨t',h1,h2⟩
  refine Sp Ig λΨ hΨ fr hl h0 h1=>?_;simp[Ig,B9]at hl h0 h1;by_cases hk:k=2
  .have hkd:kids=[]:=List.eq_nil_of_length_eq_zero (hnb (.inr hk));have hS:=λ(h:AH) (hb:h.boxes[0]?=some [.int .i64 k,.str nm,.int .i64 s,sl m 4 (A4 kids)])=>jx ns vs hkv r _ _ _ nm h hb;obtain⟨w,h',q1,q2,q3⟩:=hS ⟨[[.int .i64 k,.str nm,.int .i64 s,sl m 4 (A4 kids)],[.int .i64 0,.str (bs []),.int .i64 0,.vs true 0 []]],[]⟩ rfl;simp only[A0p]at q3;subst q2 q3;simp[Ig,hl,h0,h1,gk,B6 hk,q1];exact hΨ _ ⟨.mk k nm (L0 ns vs nm) m kids,rfl,by subst hkd;simp[E3,H4,CI,m8,hk]⟩
  .have r1:(kids.length:Int)*56<=(H2:Int)/\kids.length<=maxLen:=by simp only[H2,maxLen];omega
   simp[Ig,hl,h0,A3 hk,r1];refine B7.mono (GW [.int .i64 k,.str nm,.int .i64 s,sl m 4 (A4 kids)] [.int .i64 0,.str (bs []),.int .i64 0,.vs true 0 []] _ _ ?_ ?_ ?_ ?_ ?_ ?_ ?_) ?_<;>first|(simp[hl,h1];done)|rfl|skip
   rintro e D5 h1 ⟨K,rfl,B,done,rfl,hd,Di⟩;have J0:D5.length=36:=K.1.trans (by simp[hl]);have GK:A0 D5 2=.ptr 0 0:=A8 K 2 (by simp[hl]);have Mt:A0 D5 4=.ptr 1 0:=A8 K 4 (by simp[hl]);have k5fr1:A0 D5 5=.sl 0 kids.length 0 kids.length:=A8 K 5 (by simp[hl]);clear K;have e1:List.take kids.length (A4 done)=A4 done:=A0e (by simp[Di]);simp[J0,GK,Mt,k5fr1,e1,Di];exact hΨ _ ⟨.mk k nm s (false,true) done,rfl,by simp[E3,CI,hk,hd]⟩
end Go.Abs.Q
namespace Go.Abs.Q
open Go.Proofs
attribute [local simp] E1 E5 fin J7 G4 Td
def mC (k sz:Nat) (xs:List AV) (v:AV) (h:AH):Prop:=(xs=[]/\∃b,v=sl (true,b) sz [])\/(xs≠[]/\v=.sl k xs.length 0 xs.length/\h.fams[k]?=some ⟨xs,sz,true⟩)
@[simp] theorem Ld (h:AH) (k n off len:Nat):DX h (.sl k n off len)=Ej h true (.sl k n off len):=rfl
@[simp] theorem wV (h:AH):DX h (.vs true 0 [])=some (.vs true 0 []):=rfl
theorem Ur {k sz:Nat} {xs:G3} {v:AV} {h:AH} (hg:mC k sz xs v h):v.isTup=false/\v.cells=[v]/\Es [v]=false:=by
 rcases hg with ⟨_,b,rfl⟩|⟨_,rfl,_⟩<;>exact⟨rfl,rfl,rfl⟩
theorem au {k sz:Nat} {xs:G3} {v:AV} {h:AH} (hg:mC k sz xs v h) (h':AH):bZ h' v=some (.int .i64 xs.length,h'):=by
 rcases hg with ⟨rfl,b,rfl⟩|⟨_,rfl,_⟩
 .simp
 .rfl
theorem Ra (m:I7) (xs:G3) (Zm:xs.length<=1048576):∃m',pc Q t7 [sl m 1 xs]=some (sl m' 1 xs):=by
 suffices h:∃r,pc Q t7 [sl m 1 xs]=some r/\∃m',r=sl m' 1 xs by
  obtain⟨r,h1,m',rfl⟩:=h;exact⟨m',h1⟩
 have hr:xs.length*16<=H2/\xs.length<=maxLen:=by simp only[H2,maxLen];omega
 refine GU u9 λΨ hΨ fr hl h0=>?_;simp[u9]at hl h0;by_cases he:xs=[]
 .subst he;obtain⟨m1,m2⟩:=m;cases m2 with
  |false =>
   simp[u9,hl,h0];exact hΨ _ ⟨(true,false),Il 1⟩
  |true =>
   simp[u9,hl,h0,GY,A5];exact hΨ _ ⟨_,rfl⟩
 .have he':xs.isEmpty=false:=by simpa using he
  simp[u9,hl,h0,he',GY,A5,he,hr,Ld];exact hΨ _ ⟨_,rfl⟩
theorem Yw (m:I7) (xs:G3) (Zm:xs.length<=1048576):∃m',pc Q DE [sl m 3 xs]=some (sl m' 3 xs):=by
 suffices h:∃r,pc Q DE [sl m 3 xs]=some r/\∃m',r=sl m' 3 xs by
  obtain⟨r,h1,m',rfl⟩:=h;exact⟨m',h1⟩
 have hr:xs.length*40<=H2/\xs.length<=maxLen:=by simp only[H2,maxLen];omega
 refine GU Ac λΨ hΨ fr hl h0=>?_;simp[Ac]at hl h0;by_cases he:xs=[]
 .subst he;obtain⟨m1,m2⟩:=m;cases m2 with
  |false =>
   simp[Ac,hl,h0];exact hΨ _ ⟨(true,false),Il 3⟩
  |true =>
   simp[Ac,hl,h0,GY,A5];exact hΨ _ ⟨_,rfl⟩
 .have he':xs.isEmpty=false:=by simpa using he
  simp[Ac,hl,h0,he',GY,A5,he,hr,Ld];exact hΨ _ ⟨_,rfl⟩
theorem QH (m:I7) (xs:G3) (Zm:xs.length<=1048576) (h:AH):∃w h',rc Q I2 [sl m 4 xs] h=some (w,h')/\mC h.fams.length 4 xs w h'/\h'.boxes=h.boxes/\∃e,h'.fams=h.fams++e:=by
 have hr:xs.length*56<=H2/\xs.length<=maxLen:=by simp only[H2,maxLen];omega
 suffices hq:∃w h',rc Q I2 [sl m 4 xs] h=some (w,h')/\∀Ψ:AV->AH->Prop,(∀w h',mC h.fams.length 4 xs w h'/\h'.boxes=h.boxes/\(∃e,h'.fams=h.fams++e)->Ψ w h')->Ψ w h' by
  obtain⟨w,h',h1,h2⟩:=hq;exact⟨w,h',h1,h2 _ λ_ _ h=>h⟩
 refine gC R2 λfr hl h0=>?_;simp[R2]at hl h0;by_cases he:xs=[]
 .subst he;obtain⟨m1,m2⟩:=m;cases m2 with
  |false =>
   simp[R2,hl,h0];exact λΨ hΨ=>hΨ _ _ (.inl ⟨rfl,false,Il 4⟩) rfl [] (by simp)
  |true =>
   simp[R2,hl,h0,GY,A5];exact λΨ hΨ=>hΨ _ _ (.inl ⟨rfl,true,rfl⟩) rfl [] (by simp)
 .have he':xs.isEmpty=false:=by simpa using he
  simp[R2,hl,h0,he',GY,A5,he,hr,show Yu I2=true from rfl];exact λΨ hΨ=>hΨ _ _ (.inr ⟨he,rfl,by simp⟩) rfl _ rfl
theorem cj (m:I7) (xs:G3) (Zm:xs.length<=1048576) (h:AH):∃w h',rc Q O7 [sl m 7 xs] h=some (w,h')/\mC h.fams.length 7 xs w h'/\h'.boxes=h.boxes/\∃e,h'.fams=h.fams++e:=by
 have hr:xs.length*96<=H2/\xs.length<=maxLen:=by simp only[H2,maxLen];omega
 suffices hq:∃w h',rc Q O7 [sl m 7 xs] h=some (w,h')/\∀Ψ:AV->AH->Prop,(∀w h',mC h.fams.length 7 xs w h'/\h'.boxes=h.boxes/\(∃e,h'.fams=h.fams++e)->Ψ w h')->Ψ w h' by
  obtain⟨w,h',h1,h2⟩:=hq;exact⟨w,h',h1,h2 _ λ_ _ h=>h⟩
 refine gC BJ λfr hl h0=>?_;simp[BJ]at hl h0;by_cases he:xs=[]
 .subst he;obtain⟨m1,m2⟩:=m;cases m2 with
  |false =>
   simp[BJ,hl,h0];exact λΨ hΨ=>hΨ _ _ (.inl ⟨rfl,false,Il 7⟩) rfl [] (by simp)
  |true =>
   simp[BJ,hl,h0,GY,A5];exact λΨ hΨ=>hΨ _ _ (.inl ⟨rfl,true,rfl⟩) rfl [] (by simp)
 .have he':xs.isEmpty=false:=by simpa using he
  simp[BJ,hl,h0,he',GY,A5,he,hr,show Yu O7=true from rfl];exact λΨ hΨ=>hΨ _ _ (.inr ⟨he,rfl,by simp⟩) rfl _ rfl
theorem ci (m:I7) (xs:G3) (Zm:xs.length<=1048576) (h:AH):∃w h',rc Q O6 [sl m 5 xs] h=some (w,h')/\mC h.fams.length 5 xs w h'/\h'.boxes=h.boxes/\∃e,h'.fams=h.fams++e:=by
 have hr:xs.length*72<=H2/\xs.length<=maxLen:=by simp only[H2,maxLen];omega
 suffices hq:∃w h',rc Q O6 [sl m 5 xs] h=some (w,h')/\∀Ψ:AV->AH->Prop,(∀w h',mC h.fams.length 5 xs w h'/\h'.boxes=h.boxes/\(∃e,h'.fams=h.fams++e)->Ψ w h')->Ψ w h' by
  obtain⟨w,h',h1,h2⟩:=hq;exact⟨w,h',h1,h2 _ λ_ _ h=>h⟩
 refine gC BI λfr hl h0=>?_;simp[BI]at hl h0;by_cases he:xs=[]
 .subst he;obtain⟨m1,m2⟩:=m;cases m2 with
  |false =>
   simp[BI,hl,h0];exact λΨ hΨ=>hΨ _ _ (.inl ⟨rfl,false,Il 5⟩) rfl [] (by simp)
  |true =>
   simp[BI,hl,h0,GY,A5];exact λΨ hΨ=>hΨ _ _ (.inl ⟨rfl,true,rfl⟩) rfl [] (by simp)
 .have he':xs.isEmpty=false:=by simpa using he
  simp[BI,hl,h0,he',GY,A5,he,hr,show Yu O6=true from rfl];exact λΨ hΨ=>hΨ _ _ (.inr ⟨he,rfl,by simp⟩) rfl _ rfl
end Go.Abs.Q
namespace Go.Abs.Q
open Go.Proofs
attribute [local simp] E1 E5 fin J7 G4
@[simp] theorem kpB_t' (B:List (List AV)) (f f':List Fam) (v:AV):XQ true ⟨B,f⟩ (some (v,⟨B,f'⟩))=some (v,⟨B,f'⟩):=rK ⟨B,f⟩ v f'
@[simp] theorem za (s:Ste) (cs:G3):(El s).reform cs=some (.agg cs):=rfl
@[simp] theorem yw (s:Gol) (cs:G3):(En s).reform cs=some (.agg cs):=rfl
@[simp] theorem zf (s:Tm) (cs:G3):(B9 s).reform cs=some (.agg cs):=by cases s;rfl
theorem wj (a b:J2) (t:Tm) (c:Int):AV.agg [.str a,.str b,.int .i64 t.kind,.str t.name,.int .i64 t.sort,sl t.cm 4 (A4 t.kids),.int .i64 c]=El ⟨a,b,t,c⟩:=by cases t;rfl
def Oz (s:Ste):Ste:=⟨s.frm,s.to,E3 s.msg,s.line⟩
def Ek (f:ByteArray->Int) (s:Ste):Ste:=⟨s.frm,s.to,CI f s.msg,s.line⟩
def mh (g:Gol):Gol:=⟨g.kind,g.role,g.wth,(false,false),H4 g.data,g.line⟩
def VT (f:ByteArray->Int) (g:Gol):Gol:=⟨g.kind,g.role,g.wth,(false,false),m8 f g.data,g.line⟩
theorem SW {α β:Type} (g:α->β) (done l:List α) {i:Nat} (hi:i<l.length) (hd:done.length=i):∃h:i<((done++l.drop i).map g).length,((done++l.drop i).map g)[i]=g l[i]/\((done++l.drop i).map g).length=l.length:=by
 have e:(done++l.drop i).length=l.length:=by simp[hd];omega
 refine⟨by simp[hd];omega,?_,by simpa using e⟩;simp[hd,List.getElem_append_right]
theorem SX {α β:Type} (g:α->β) (done l:List α) {i:Nat} (hi:i<l.length) (hd:done.length=i) (x:α):((done++l.drop i).map g).set i (g x)=((done++[x])++l.drop (i+1)).map g:=by
 rw[A0R hi,←List.map_set,A0m _ _ (by omega),hd,Nat.sub_self,A0p,List.append_assoc,List.singleton_append]
theorem DH {α:Type} {l:List α} {k:Nat} {x:α} (h:l[k]?=some x):l.set k x=l:=by
 obtain⟨h1,h2⟩:=A0d.1 h;subst h2;exact List.set_getElem_self h1
theorem nG (by':AV) (f:ByteArray->Int) (l:List Ste) (B8:l.length<=1048576) (hby:∀h am,KH h am by'=some by') (hby2:∀h,CM h by'=true) (IH:∀s∈l,∃t',pc Q K6 [B9 s.msg,by']=some (B9 t')/\E3 t'=CI f s.msg) (k:Nat) (b0 b1 b2 b3 b5:AV) (C:G3) (fr:Fr) (h:AH) (hh:h.boxes=[[b0,b1,b2,b3,.sl k l.length 0 l.length,b5],C]) (hfam:h.fams[k]?=some ⟨l.map El,7,true⟩) (hl:fr.length=85) (h1:A0 fr 1=by') (h2:A0 fr 2=.ptr 0 0) (h31:A0 fr 31=.int .i64 l.length) (h32:A0 fr 32=.int .i64 0) :
  B7 (lp (A2 (K8 Q) (D6 BS) IT) (fr,h)) λe C4 h'=>Kp IT.wr fr C4/\e=.exit 0/\∃done:List Ste,h'=⟨h.boxes,h.fams.set k ⟨done.map El,7,true⟩⟩/\done.map Oz=l.map (Ek f)/\done.length=l.length:=by
 refine B4 rfl fr (λn fr h'=>∃(i:Nat),i+n=l.length/\A0 fr 32=.int .i64 (i:Nat)/\(∃done:List Ste,h'=⟨h.boxes,h.fams.set k ⟨(done++l.drop i).map El,7,true⟩⟩/\done.map Oz=(l.take i).map (Ek f)/\done.length=i)) ?_ l.length h ⟨0,by omega,h32,⟨[],by simp[DH hfam],rfl,rfl⟩⟩;rintro J Φ hJ hΦ n D5 H1 K ⟨i,hi,k32,hr⟩;have A6:=K.1.trans hl;have k1:=A8 K 1 h1;have k2:=A8 K 2 h2;have k31:=A8 K 31 h31;clear K;by_cases A7:i<l.length
 .have L4:=C6 i (by omega);obtain⟨done,rfl,hd,Di⟩:=hr;obtain⟨t',hI,ht⟩:=IH l[i] (A0Q A7);obtain⟨q1,q2,q3⟩:=SW El done l A7 Di;have q4:=SX El done l A7 Di ⟨l[i].frm,l[i].to,t',l[i].line⟩;have e2:(done++[Ste.mk l[i].frm l[i].to t' l[i].line]).map Oz=(l.take (i+1)).map (Ek f):=by
   rw[A0T A7,A0V,hd,A0V,A0Y,A0a,A0Y,A0a];simp only[Oz,ht,Ek]
  have Do:=H3 hfam;have e6:=wj l[i].frm l[i].to t' l[i].line;rw[hh]at hJ ⊢;clear hd ht;generalize (done++l.drop i).map El=X at *
  generalize hY:(done++[Ste.mk l[i].frm l[i].to t' l[i].line]++l.drop (i+1)).map El=Y at *
  generalize l[i]=s at *
  simp[IT,A6,k1,k2,k31,k32,A7,L4,hI,hby,hby2,q2,q3,q4,e6,Do];exact E9 hJ ⟨i+1,by omega,by simp[A6],⟨_,by rw[hY],e2,by simp[Di]⟩⟩
 .obtain⟨done,rfl,hd,Di⟩:=hr;have e:i=l.length:=by omega
  subst e;rw[A0f]at hd;rw[A0h,A0k];simp[IT,A6,k31,k32];exact hΦ _ _ _ ⟨rfl,done,rfl,hd,Di⟩
theorem nD (by':AV) (f:ByteArray->Int) (l:G7) (B8:l.length<=1048576) (hby:∀h am,KH h am by'=some by') (hby2:∀h,CM h by'=true) (IH:∀s∈l,∃t',pc Q K6 [B9 s,by']=some (B9 t')/\E3 t'=CI f s) (k:Nat) (fr:Fr) (h:AH) (hfam:h.fams[k]?=some ⟨A4 l,4,true⟩) (hl:fr.length=85) (h1:A0 fr 1=by') (h7:A0 fr 7=.sl k l.length 0 l.length) (h63:A0 fr 63=.int .i64 l.length) (h64:A0 fr 64=.int .i64 0) :
  B7 (lp (A2 (K8 Q) (D6 BS) BU) (fr,h)) λe C4 h'=>Kp BU.wr fr C4/\e=.exit 4/\∃done:List Tm,h'=⟨h.boxes,h.fams.set k ⟨A4 done,4,true⟩⟩/\H4 done=m8 f l/\done.length=l.length:=by
 refine B4 rfl fr (λn fr h'=>∃(i:Nat),i+n=l.length/\A0 fr 64=.int .i64 (i:Nat)/\(∃done:List Tm,h'=⟨h.boxes,h.fams.set k ⟨(done++l.drop i).map B9,4,true⟩⟩/\H4 done=m8 f (l.take i)/\done.length=i)) ?_ l.length h ⟨0,by omega,h64,⟨[],by simp[DH hfam,←D0],by simp[H4,m8],rfl⟩⟩;rintro J Φ hJ hΦ n D5 H1 K ⟨i,hi,k64,hr⟩;have A6:=K.1.trans hl;have k1:=A8 K 1 h1;have k7:=A8 K 7 h7;have k63:=A8 K 63 h63;clear K;by_cases A7:i<l.length
 .have L4:=C6 i (by omega);obtain⟨done,rfl,hd,Di⟩:=hr;obtain⟨t',hI,ht⟩:=IH l[i] (A0Q A7);obtain⟨q1,q2,q3⟩:=SW B9 done l A7 Di;have q4:=SX B9 done l A7 Di t';have e2:H4 (done++[t'])=m8 f (l.take (i+1)):=by
   rw[A0T A7,E4,A0V,←E4,hd,JF,JF,A0V,A0Y,A0a,A0Y,A0a,ht]
  have Do:=H3 hfam;clear hd ht;generalize (done++l.drop i).map B9=X at *
  generalize hY:(done++[t']++l.drop (i+1)).map B9=Y at *
  generalize l[i]=s at *
  simp[BU,A6,k1,k7,k63,k64,A7,L4,hI,hby,hby2,q2,q3,q4,Do];exact E9 hJ ⟨i+1,by omega,by simp[A6],⟨_,by rw[hY],e2,by simp[Di]⟩⟩
 .obtain⟨done,rfl,hd,Di⟩:=hr;have e:i=l.length:=by omega
  subst e;rw[A0f]at hd;rw[A0h,A0k,←D0];simp[BU,A6,k63,k64];exact hΦ _ _ _ ⟨rfl,done,rfl,hd,Di⟩
theorem qT (fr:Fr) (h:AH) (hl:fr.length=85) (h63:A0 fr 63=.int .i64 0) (h64:A0 fr 64=.int .i64 0) :
  B7 (lp (A2 (K8 Q) (D6 BS) BU) (fr,h)) λe C4 h'=>Kp BU.wr fr C4/\e=.exit 4/\h'=h:=by
 refine B4 rfl fr (λn C4 h'=>C4=fr/\h'=h) ?_ 0 h ⟨rfl,rfl⟩;rintro J Φ hJ hΦ n D5 H1 K ⟨rfl,rfl⟩;simp[BU,hl,h63,h64];exact hΦ _ _ _ ⟨rfl,rfl⟩
theorem qv (a:Int) (b c:J2) (m:I7) (l:G7) (d:Int):AV.agg [.int .i64 a,.str b,.str c,sl m 4 (A4 l),.int .i64 d]=En ⟨a,b,c,m,l,d⟩:=rfl
theorem kF {h:AH} {kd kg i m:Nat} {dd:G7} {X:G3} {g:Gol} (h1:h.fams[kd]?=some ⟨A4 dd,4,true⟩) (h2:h.fams[kg]?=some ⟨X,5,true⟩) (P0:kd≠kg) (hm:X.length=m) (hx:X[i]?=some (En g)) :
  Ly h 1 (.sl kd dd.length 0 dd.length) (.ep kg m i 3 5)=some ⟨h.boxes,(h.fams.set kd ⟨A4 dd,4,false⟩).set kg ⟨X.set i (En ⟨g.kind,g.role,g.wth,(false,true),dd,g.line⟩),5,true⟩⟩:=by
 have hk:=H3 h1;have hl:bY h (.sl kd dd.length 0 dd.length)=some ⟨h.boxes,h.fams.set kd ⟨A4 dd,4,false⟩⟩:=by
  simp[bY,PK,CS,h1,pm]
 have hf:KH ⟨h.boxes,h.fams.set kd ⟨A4 dd,4,false⟩⟩ false (.sl kd dd.length 0 dd.length)=some (sl (false,true) 4 (A4 dd)):=by
  rw[PK,CS];simp only;rw[A0X hk,A0S,if_pos ⟨by simp,by omega,rfl⟩,A0q,A0e (by simp)]
 rw[Sj,hl,A0S];simp only;rw[A0U P0,h2,A0S,if_pos ⟨hm,rfl,rfl⟩];simp only;rw[hx,A0S,hf,A0S];simp[qv]
theorem gZ {h:AH} {kg i m:Nat} {b:Bool} {X:G3} {g:Gol} (h2:h.fams[kg]?=some ⟨X,5,true⟩) (hm:X.length=m) (hx:X[i]?=some (En g)) :
  Ly h 1 (sl (true,b) 4 []) (.ep kg m i 3 5)=some ⟨h.boxes,h.fams.set kg ⟨X.set i (En ⟨g.kind,g.role,g.wth,(true,b),[],g.line⟩),5,true⟩⟩:=by
 rw[Sj];simp only[bY,tW,A0S];rw[h2,A0S,if_pos ⟨hm,rfl,rfl⟩];simp only;rw[hx,A0S];have e:=qv g.kind g.role g.wth (true,b) [] g.line;rw[show A4 []=[] from rfl]at e;simp[e]
theorem nE (by':AV) (f:ByteArray->Int) (l:List Gol) (B8:l.length<=1048576) (Di:∀g∈l,g.data.length<=1048576) (hby:∀h am,KH h am by'=some by') (hby2:∀h,CM h by'=true) (IH:∀g∈l,∀t∈g.data,∃t',pc Q K6 [B9 t,by']=some (B9 t')/\E3 t'=CI f t) (kg:Nat) (b0 b1 b2 b3 b4:AV) (C:G3) (fr:Fr) (h:AH) (hh:h.boxes=[[b0,b1,b2,b3,b4,.sl kg l.length 0 l.length],C]) (hfam:h.fams[kg]?=some ⟨l.map En,5,true⟩) (hl:fr.length=85) (h1:A0 fr 1=by') (h2:A0 fr 2=.ptr 0 0) (h51:A0 fr 51=.int .i64 l.length) (h52:A0 fr 52=.int .i64 0) :
  B7 (lp (A2 (K8 Q) (D6 BS) AN) (fr,h)) λe C4 h'=>Kp AN.wr fr C4/\e=.exit 2/\∃(F:List Fam) (done:List Gol),h'=⟨h.boxes,F⟩/\F[kg]?=some ⟨done.map En,5,true⟩/\(∀j,j≠kg->j<h.fams.length->F[j]?=h.fams[j]?)/\done.map mh=l.map (VT f)/\done.length=l.length:=by
 refine B4 rfl fr (λn fr h'=>∃(i:Nat),i+n=l.length/\A0 fr 52=.int .i64 (i:Nat)/\(∃(F:List Fam) (done:List Gol),h'=⟨h.boxes,F⟩/\F[kg]?=some ⟨(done++l.drop i).map En,5,true⟩/\(∀j,j≠kg->j<h.fams.length->F[j]?=h.fams[j]?)/\h.fams.length<=F.length/\done.map mh=(l.take i).map (VT f)/\done.length=i)) ?_ l.length h ⟨0,by omega,h52,⟨_,[],rfl,by simpa using hfam,λ_ _ _=>rfl,A0b _,rfl,rfl⟩⟩;rintro J Φ hJ hΦ n D5 H1 K ⟨i,hi,k52,hr⟩;have A6:=K.1.trans hl;have k1:=A8 K 1 h1;have k2:=A8 K 2 h2;have k51:=A8 K 51 h51;clear K;by_cases A7:i<l.length
 .have L4:=C6 i (by omega);obtain⟨F,done,rfl,hF,hFo,hFl,hd,hdn⟩:=hr;obtain⟨q1,q2,q3⟩:=SW En done l A7 hdn;have hq2:=A0d.2 ⟨q1,q2⟩;have hkg:=H3 hF;have hkg0:=H3 hfam;obtain⟨w,⟨bx,F1⟩,hC,hRow,Qo,e,hFe⟩:=QH l[i].dm (A4 l[i].data) (by have:=Di l[i] (A0Q A7);simpa using this) ⟨h.boxes,F⟩;simp only at Qo hFe;subst Qo;have hF1:F1[kg]?=some ⟨(done++l.drop i).map En,5,true⟩:=by rw[hFe,A0c hkg];exact hF
  have hF1o:∀j,j≠kg->j<h.fams.length->F1[j]?=h.fams[j]?:=λj h1 h2=>by rw[hFe,A0c (by omega)];exact hFo j h1 h2
  have hF1l:h.fams.length<=F1.length:=by rw[hFe];simp;omega
  have hlen7:∀h',bZ h' w=some (.int .i64 l[i].data.length,h'):=λh'=>by have:=au hRow h';simpa using this
  have hIH:=IH l[i] (A0Q A7);have hdl':=Di l[i] (A0Q A7);have q4:=λg':Gol=>SX En done l A7 hdn g';have fin:∀g':Gol,mh g'=VT f l[i]->(done++[g']).map mh=(l.take (i+1)).map (VT f):=by
   intro g' he;rw[A0T A7,A0V,hd,A0V,A0Y,A0a,A0Y,A0a,he]
  rw[hh]at hC hJ ⊢;clear hd hFe hFo;generalize hX:(done++l.drop i).map En=X at *
  generalize l[i]=g at *
  by_cases hnil:g.data=[]
  .obtain⟨-,b,rfl⟩:A4 g.data=[]/\∃b,w=sl (true,b) 4 []:=by
    rcases hRow with h|⟨h,_⟩
    .exact h
    .rw[hnil]at h;exact absurd rfl h
   have hSt:=gZ (h:=⟨[[b0,b1,b2,b3,b4,.sl kg l.length 0 l.length],C],F1⟩) (b:=b) hF1 q3 hq2;simp[AN,A6,k2,k51,k52,A7,hF,q2,q3,hC,hlen7];rw[hnil];refine B7.mono (qT _ _ ?_ ?_ ?_) ?_<;>first|(simp[A6];done)|skip
   rintro e R1 h2 ⟨K,rfl,rfl⟩;have S7:R1.length=85:=K.1.trans (by simp[A6]);have k2fr2:A0 R1 2=.ptr 0 0:=A8 K 2 (by simp[k2]);have k6fr2:A0 R1 6=.int .i64 (i:Nat):=A8 K 6 (by simp[A6]);have k7fr2:A0 R1 7=sl (true,b) 4 []:=A8 K 7 (by simp[A6]);have k52fr2:A0 R1 52=.int .i64 (i:Nat):=A8 K 52 (by simp[k52]);clear K;simp[S7,k2fr2,k6fr2,k7fr2,k52fr2,A7,hSt,L4,-Sj];exact E9 hJ ⟨i+1,by omega,by simp[S7],_,done++[⟨g.kind,g.role,g.wth,(true,b),[],g.line⟩],rfl,by rw[A0X (H3 hF1),q4],λj h1 h2=>by rw[A0U (Ne.symm h1)];exact hF1o j h1 h2,by simpa using hF1l,fin _ (by simp[mh,VT,hnil,H4,m8]),by simp[hdn]⟩
  .obtain⟨rfl,hkd⟩:w=.sl F.length g.data.length 0 g.data.length/\F1[F.length]?=some ⟨A4 g.data,4,true⟩:=by
    rcases hRow with ⟨h,_⟩|⟨_,h,h'⟩
    .rw[D0,A0g]at h;exact absurd h hnil
    .exact⟨by simpa using h,h'⟩
   have P0:F.length≠kg:=by omega
   simp[AN,A6,k2,k51,k52,A7,hF,q2,q3,hC,hlen7];refine B7.mono (nD by' f g.data hdl' hby hby2 hIH F.length _ _ ?_ ?_ ?_ ?_ ?_ ?_) ?_<;>first|(simp[A6,k1];done)|skip
   .exact hkd
   rintro e R1 h2 ⟨K,rfl,dd,rfl,hdd,hddl⟩;have S7:R1.length=85:=K.1.trans (by simp[A6]);have k2fr2:A0 R1 2=.ptr 0 0:=A8 K 2 (by simp[k2]);have k6fr2:A0 R1 6=.int .i64 (i:Nat):=A8 K 6 (by simp[A6]);have k7fr2:A0 R1 7=.sl F.length g.data.length 0 g.data.length:=A8 K 7 (by simp[A6]);have k52fr2:A0 R1 52=.int .i64 (i:Nat):=A8 K 52 (by simp[k52]);clear K;have hkdl:=H3 hkd;have hSt:=kF (h:=⟨[[b0,b1,b2,b3,b4,.sl kg l.length 0 l.length],C],F1.set F.length ⟨A4 dd,4,true⟩⟩) (kd:=F.length) (dd:=dd) (A0X hkdl) (by simp only;rw[A0U P0];exact hF1) P0 q3 hq2;rw[hddl]at hSt;simp only[List.set_set]at hSt;simp[S7,k2fr2,k6fr2,k7fr2,k52fr2,A7,hSt,L4,-Sj];exact E9 hJ ⟨i+1,by omega,by simp[S7],_,done++[⟨g.kind,g.role,g.wth,(false,true),dd,g.line⟩],rfl,by rw[A0X (by simpa using H3 hF1),q4],λj h1 h2=>by rw[A0U (Ne.symm h1),A0U (by omega)];exact hF1o j h1 h2,by simpa using hF1l,fin _ (by simp[mh,VT,hdd]),by simp[hdn]⟩
 .obtain⟨F,done,rfl,hF,hFo,hFl,hd,hdn⟩:=hr;have e:i=l.length:=by omega
  subst e;rw[A0f]at hd;rw[A0h,A0k]at hF;simp[AN,A6,k51,k52];exact hΦ _ _ _ ⟨rfl,F,done,rfl,hF,hFo,hd,hdn⟩
def Qn (n:Nar):Nar:=⟨n.name,(false,false),n.roles,(false,false),n.fresh,(false,false),n.tags,(false,false),n.steps.map Oz,(false,false),n.goals.map mh⟩
def DI (f:ByteArray->Int) (n:Nar):Nar:=⟨n.name,(false,false),n.roles,(false,false),n.fresh,(false,false),n.tags,(false,false),n.steps.map (Ek f),(false,false),n.goals.map (VT f)⟩
theorem qU (fr:Fr) (h:AH) (hl:fr.length=85) (h51:A0 fr 51=.int .i64 0) (h52:A0 fr 52=.int .i64 0) :
  B7 (lp (A2 (K8 Q) (D6 BS) AN) (fr,h)) λe C4 h'=>Kp AN.wr fr C4/\e=.exit 2/\h'=h:=by
 refine B4 rfl fr (λn C4 h'=>C4=fr/\h'=h) ?_ 0 h ⟨rfl,rfl⟩;rintro J Φ hJ hΦ n D5 H1 K ⟨rfl,rfl⟩;simp[AN,hl,h51,h52];exact hΦ _ _ _ ⟨rfl,rfl⟩
theorem JQ {h:AH} {k sz:Nat} {xs:G3} {b:Bool} (hk:h.fams[k]?=some ⟨xs,sz,b⟩) {n:Nat} (hn:xs.length=n):Ej h true (.sl k n 0 n)=some (sl (false,true) sz xs):=by
 rw[CS,hk,A0S,if_pos ⟨hn,by omega,rfl⟩,A0q,A0e (by simp[hn])]
structure Lens (n:Nar):Prop where
 names:n.roles.length+n.fresh.length+n.tags.length<=1048576
 steps:n.steps.length<=1048576
 goals:n.goals.length<=1048576
 data:∀g∈n.goals,g.data.length<=1048576
theorem yF (n:Nar) (hS:Lens n) (P0:n.steps≠[]) (r:AV) (ns:List ByteArray) (vs:List Int) (f:ByteArray->Int)
  (IH1:∀s∈n.steps,∃t',pc Q K6 [B9 s.msg,gk r ns vs]=some (B9 t')/\E3 t'=CI f s.msg) (IH2:∀g∈n.goals,∀t∈g.data,∃t',pc Q K6 [B9 t,gk r ns vs]=some (B9 t')/\E3 t'=CI f t) :
  ∃n',pc Q BS [G8 n,gk r ns vs]=some (G8 n')/\Qn n'=DI f n:=by
 suffices h:∃v,pc Q BS [G8 n,gk r ns vs]=some v/\∃n',v=G8 n'/\Qn n'=DI f n by
  obtain⟨v,h1,n',rfl,h2⟩:=h;exact⟨n',h1,h2⟩
 obtain⟨s0,s1,s2,s3⟩:=hS;obtain⟨name,rm,roles,fm,fresh,tm,tags,sm,steps,gm,goals⟩:=n;simp only at *
 obtain⟨m1,c1⟩:=Ra rm (roles.map .str) (by simp;omega);obtain⟨m2,c2⟩:=Yw fm (fresh.map Lp) (by simp;omega);obtain⟨m3,c3⟩:=Ra tm (tags.map .str) (by simp;omega);obtain⟨w1,⟨B1,F1⟩,c4,r4,hb4,e4,f4⟩:=cj sm (steps.map El) (by simpa using s1) ⟨[[.str name,sl m1 1 (roles.map .str),sl m2 3 (fresh.map Lp),sl m3 1 (tags.map .str),sl sm 7 (steps.map El),sl gm 5 (goals.map En)],[.str (bs []),.vs true 0 [],.vs true 0 [],.vs true 0 [],.vs true 0 [],.vs true 0 []]],[]⟩;simp only at hb4 f4;subst hb4;obtain⟨w2,⟨B2,F2⟩,c5,r5,hb5,e5,f5⟩:=ci gm (goals.map En) (by simpa using s2) ⟨[[.str name,sl m1 1 (roles.map .str),sl m2 3 (fresh.map Lp),sl m3 1 (tags.map .str),sl sm 7 (steps.map El),sl gm 5 (goals.map En)],[.str (bs []),.vs true 0 [],.vs true 0 [],.vs true 0 [],.vs true 0 [],.vs true 0 []]],F1⟩;simp only at hb5 f5;subst hb5;obtain⟨rfl,hF1⟩:w1=.sl 0 steps.length 0 steps.length/\F1[0]?=some ⟨steps.map El,7,true⟩:=by
  rcases r4 with ⟨h,_⟩|⟨_,h,h'⟩
  .rw[A0g]at h;exact absurd h P0
  .exact⟨by simpa using h,by simpa using h'⟩
 have hF2:F2[0]?=some ⟨steps.map El,7,true⟩:=by rw[f5,A0c (H3 hF1)];exact hF1
 have hw2:=Ur r5;have hn2:∀h',bZ h' w2=some (.int .i64 goals.length,h'):=λh'=>by have:=au r5 h';simpa using this
 have g1:=nG (gk r ns vs) f steps s1 (λ_ _=>rfl) (λ_=>rfl) IH1 0 (.str name) (sl m1 1 (roles.map .str)) (sl m2 3 (fresh.map Lp)) (sl m3 1 (tags.map .str)) w2 [.str (bs []),.vs true 0 [],.vs true 0 [],.vs true 0 [],.vs true 0 [],.vs true 0 []];refine Sp Ru λΨ hΨ fr hl h0 h1=>?_;simp[Ru,G8]at hl h0 h1;simp[Ru,hl,h0,c1,c2,c3,c4,c5,hw2];refine B7.mono (g1 _ _ ?_ ?_ ?_ ?_ ?_ ?_ ?_) ?_<;>first|(simp[hl,h1];done)|skip
 .exact hF2
 rintro e D5 Cv ⟨K,rfl,S,rfl,hS1,hS2⟩;have J0:D5.length=85:=K.1.trans (by simp[hl]);have FS:A0 D5 1=gk r ns vs:=A8 K 1 (by simp[h1]);have GK:A0 D5 2=.ptr 0 0:=A8 K 2 (by simp[hl]);have Mt:A0 D5 4=.ptr 1 0:=A8 K 4 (by simp[hl]);clear K;simp[J0,GK,hn2];have hFz:(F2.set 0 ⟨S.map El,7,true⟩)[0]?=some ⟨S.map El,7,true⟩:=A0X (H3 hF2);by_cases hg:goals=[]
 .subst hg;obtain⟨-,b,rfl⟩:([]:List Gol).map En=[]/\∃b,w2=sl (true,b) 5 []:=by
   rcases r5 with h|⟨h,_⟩
   .exact h
   .exact absurd rfl h
  refine B7.mono (qU _ _ ?_ ?_ ?_) ?_<;>first|(simp[J0];done)|skip
  rintro e R1 h2 ⟨K,rfl,rfl⟩;have S7:R1.length=85:=K.1.trans (by simp[J0]);have k2fr2:A0 R1 2=.ptr 0 0:=A8 K 2 (by simp[GK]);have k4fr2:A0 R1 4=.ptr 1 0:=A8 K 4 (by simp[Mt]);clear K;have hz:=λB:List (List AV)=>JQ (h:=⟨B,F2.set 0 ⟨S.map El,7,true⟩⟩) hFz (n:=steps.length) (by simpa using hS2);simp[S7,k2fr2,k4fr2,hz];exact hΨ _ ⟨⟨name,m1,roles,m2,fresh,m3,tags,(false,true),S,(true,b),[]⟩,rfl,by simp[Qn,DI,hS1]⟩
 .obtain⟨rfl,hF2g⟩:w2=.sl F1.length goals.length 0 goals.length/\F2[F1.length]?=some ⟨goals.map En,5,true⟩:=by
   rcases r5 with ⟨h,_⟩|⟨_,h,h'⟩
   .rw[A0g]at h;exact absurd h hg
   .exact⟨by simpa using h,h'⟩
  have h0F:0<F1.length:=H3 hF1;have hFg:(F2.set 0 ⟨S.map El,7,true⟩)[F1.length]?=some ⟨goals.map En,5,true⟩:=by rw[A0U (by omega)];exact hF2g
  refine B7.mono (nE (gk r ns vs) f goals s2 s3 (λ_ _=>rfl) (λ_=>rfl) IH2 F1.length (.str name) (sl m1 1 (roles.map .str)) (sl m2 3 (fresh.map Lp)) (sl m3 1 (tags.map .str)) (.sl 0 steps.length 0 steps.length) [.str (bs []),.vs true 0 [],.vs true 0 [],.vs true 0 [],.vs true 0 [],.vs true 0 []] _ _ ?_ ?_ ?_ ?_ ?_ ?_ ?_) ?_<;>first|(simp[J0,FS,GK];done)|skip
  .exact hFg
  rintro e R1 h2 ⟨K,rfl,F,G,rfl,hG1,hG2,hG3,hG4⟩;have S7:R1.length=85:=K.1.trans (by simp[J0]);have k2fr2:A0 R1 2=.ptr 0 0:=A8 K 2 (by simp[GK]);have k4fr2:A0 R1 4=.ptr 1 0:=A8 K 4 (by simp[Mt]);clear K;have hFs:=hG2 0 (by omega) (by simpa using H3 hF2);rw[hFz]at hFs;have hz:=λB:List (List AV)=>JQ (h:=⟨B,F⟩) hFs (n:=steps.length) (by simpa using hS2);have hz2:=λB:List (List AV)=>JQ (h:=⟨B,F⟩) hG1 (n:=goals.length) (by simpa using hG4);simp[S7,k2fr2,k4fr2,hz,hz2];exact hΨ _ ⟨⟨name,m1,roles,m2,fresh,m3,tags,(false,true),S,(false,true),G⟩,rfl,by simp[Qn,DI,hS1,hG3]⟩
theorem gi {t:Tm} (h:R4 t=0):I8 t=0:=by
 unfold R4 at h;apply Classical.byContradiction;intro hv;rw[if_pos hv]at h;exact hv h
theorem Ka {t:Tm} (h:GT t=0):I8 t=0:=by
 refine gi ?_;unfold GT Li at h;apply Classical.byContradiction;intro hv;rw[if_pos hv,if_pos hv]at h;exact hv h
theorem JB {n:Nar} (h:PQ n=0):KM n=0/\(∀s∈n.steps,KJ s=0)/\∀g∈n.goals,MS g=0:=by
 unfold PQ at h;by_cases h1:KM n=0
 .rw[if_neg (by simp[h1])]at h;by_cases h2:D3 KJ n.steps=0
  .rw[if_neg (by simp[h2])]at h;exact⟨h1,Em h2,Em h⟩
  .rw[if_pos h2]at h;exact absurd h h2
 .rw[if_pos h1]at h;exact absurd h h1
theorem XI {n:Nar} (h:KM n=0):n.steps≠[]/\RZ n=0:=by
 have hn:RZ n=0:=by
  unfold KM at h;by_cases h1:P4 n.name=false
  .rw[if_pos h1]at h;omega
  .rw[if_neg h1]at h;apply Classical.byContradiction;intro h2;rw[if_pos h2]at h;exact h2 h
 refine⟨λe=>?_,hn⟩;unfold RZ at hn;rw[e]at hn;split at hn
 .omega
 .split at hn
  .omega
  .simp at hn
theorem Si {s:Ste} (h:KJ s=0):GT s.msg=0:=by
 unfold KJ at h;split at h
 .omega
 .exact h
theorem XH {g:Gol} (h:MS g=0):∀t∈g.data,GT t=0:=by
 unfold MS at h;split at h
 .omega
 .split at h
  .omega
  .split at h
   .omega
   .split at h
    .omega
    .exact Em h
theorem Pw {α:Type} {g ln:α->Int}:∀{l:List α},(S1 g ln l).2=0->S1 g ln l=(0,0)/\∀a∈l,g a=0
 | [],_=>⟨rfl,λa h=>by cases h⟩
 |a::l,h=>by
  simp only[S1]at h ⊢;by_cases hz:g a=0
  .rw[if_neg (by simp[hz])]at h ⊢;obtain⟨h1,h2⟩:=Pw h;exact⟨h1,λb hb=>by rcases List.mem_cons.1 hb with rfl|hb;exact hz;exact h2 b hb⟩
  .rw[if_pos hz]at h;exact absurd h hz
structure Right (n:Nar):Prop where
 nar:PQ n=0
 dec:Hx n=0
 steps:∀s∈n.steps,Gn (B5 n) n.roles s=0
 goals:∀g∈n.goals,Ik (B5 n) n.roles g=0
theorem JE {n:Nar} (h:(l8 n).2=0):l8 n=(0,0)/\Right n:=by
 unfold l8 at h ⊢;by_cases h1:PQ n=0
 .rw[if_neg (by simp[h1])]at h ⊢;by_cases h2:Hx n=0
  .rw[if_neg (by simp[h2])]at h ⊢;by_cases h3:S1 (Gn (B5 n) n.roles) Ste.line n.steps=(0,0)
   .rw[if_neg (by simp[h3])]at h ⊢;obtain⟨q1,q2⟩:=Pw h;exact⟨q1,h1,h2,(Pw (by rw[h3])).2,q2⟩
   .rw[if_pos h3]at h;exact absurd (Pw h).1 h3
  .rw[if_pos h2]at h;exact absurd h h2
 .rw[if_pos h1]at h;exact absurd h h1
@[simp] theorem frz_fnpv (h:AH) (am:Bool) (f:FuncId) (cs:G3):KH h am (.fn f [.pv cs])=some (.fn f [.pv cs]):=rfl
@[simp] theorem tame_fn (h:AH) (f:FuncId) (cs:G3):CM h (.fn f cs)=true:=rfl
def ni:Nar:=⟨bs [],(true,false),[],(true,false),[],(true,false),[],(true,false),[],(true,false),[]⟩
theorem Xh:AV.agg [.str (bs []),sl (true,false) 1 [],sl (true,false) 1 [],sl (true,false) 1 [],sl (true,false) 1 [],sl (true,false) 1 []]=G8 ni:=by
 unfold G8 ni;simp[sl]
theorem jZ (n:Nar) (F:Fine n) (S:Lens n):∃r,pc Q CU [G8 n]=some (.tup [G8 r,.int .i64 (l8 n).1,.int .i64 (l8 n).2])/\((l8 n).2=0->Qn r=DI (L0 (B5 n) (G6 n)) n):=by
 suffices h:∃v,pc Q CU [G8 n]=some v/\∃r,v=.tup [G8 r,.int .i64 (l8 n).1,.int .i64 (l8 n).2]/\((l8 n).2=0->Qn r=DI (L0 (B5 n) (G6 n)) n) by
  obtain⟨v,h1,r,rfl,h2⟩:=h;exact⟨r,h1,h2⟩
 have hC:=Vv n F S.names;have nb:=E7 n;by_cases hz:(l8 n).2=0
 .obtain⟨hz0,hR⟩:=JE hz;obtain⟨k1,k2,k3⟩:=JB hR.nar;have hN:=TE n S.names hR.dec;have hA:∃n',pc Q BS [G8 n,gk (sl n.rm 1 (n.roles.map .str)) (B5 n) (G6 n)]=some (G8 n')/\Qn n'=DI (L0 (B5 n) (G6 n)) n:=by
   refine yF n S (XI k1).1 _ _ _ _ (λs hs=>?_) λg hg t ht=>?_
   .exact Xq _ rfl _ _ (NC n) _ _ (A0b _) (F.steps s hs).2.2 (Ka (Si (k2 s hs)))
   .exact Xq _ rfl _ _ (NC n) _ _ (A0b _) (by have:=(F.goals g hg).2.2;have:=Tm.size_le ht;omega) (Ka (XH (k3 g hg) t ht))
  obtain⟨n',hA,hA2⟩:=hA;rw[hz0]at hC ⊢;unfold kG at hN;unfold gk at hA;generalize hU:(B5 n).map AV.str=U at *
  generalize hV:(G6 n).map (AV.int .i64)=V at *
  refine GU Co λΨ hΨ fr hl h0=>?_;simp[Co]at hl h0;simp[Co,hl,h0,E7,hC,hN,hA,Bs,show (AV.vm U V).flat=true from rfl];exact hΨ _ ⟨n',rfl,λ_=>hA2⟩
 .refine GU Co λΨ hΨ fr hl h0=>?_;simp[Co]at hl h0;simp[Co,hl,h0,nb,hC,hz,E6,D2];exact hΨ _ ⟨ni,by rw[←Xh,l9 (true,false) rfl 1 1],λh=>absurd h hz⟩
end Go.Abs.Q
namespace Go.Abs.Q
open Go.Proofs
attribute [local simp] E1 E5 fin J7 G4 O2 L3 P2 P1 E7
theorem bU (x:J2) (l:List ByteArray):(0<=idx (V4 x) l)↔l.any (V4 x)=true:=DY _ l 0
theorem SS (x:J2) (l:List ByteArray):(idx (V4 x) l<0)↔l.any (V4 x)=false:=by
 have:=bU x l;cases h:l.any (V4 x)with
 |true=>rw[h]at this;simp at this;simp;omega
 |false=>rw[h]at this;simp at this;simp;omega
theorem Xx (t:Tm) (nm:J2):pc Q V5 [B9 t,.str nm]=some (.bool (decide (t.kind=3)&&decide (t.name=nm))):=by
 refine O9 FI λfr hl h0 h1=>?_;simp[FI]at hl h0 h1;simp +contextual (maxSteps:=10000000) [FI,hl,h0,h1]
theorem HR (m:I7) (l:List ByteArray) (x:J2) (h:l.length<=1048576):pc Q Q9 [sl m 1 (l.map AV.str),.str x]=some (.int .i64 (idx (V4 x) l)):=sX m l x (by omega)
theorem YC (n:Nar) (hr:n.roles.length<=1048576) (t:Tm):pc Q Jf [G8 n,B9 t]=some (.bool (Bt n.roles t)):=by
 have hC:=HR n.rm n.roles t.name hr;have hI:=bU t.name n.roles;refine O9 Jx λfr hl h0 h1=>?_;simp[Jx]at hl h0 h1;unfold Bt;generalize n.roles.any (V4 t.name)=b at *
 by_cases hk:t.kind=2
 .cases b with
  |true =>
   simp[Jx,hl,h0,h1,hC,B6 (hI.2 rfl),B6 hk]
  |false =>
   simp[Jx,hl,h0,h1,hC,A3 (show ¬0<=idx (V4 t.name) n.roles from λh=>nomatch (hI.1 h)),B6 hk]
 .simp[Jx,hl,h0,h1,A3 hk]
theorem Vu (n:Nar) (hr:n.roles.length<=1048576) (t:Tm):pc Q Ia [G8 n,B9 t]=some (.bool (CJ n.roles t)):=by
 have hI:=Xx t (bs [115,107]);refine O9 Cl λfr hl h0 h1=>?_;simp[Cl]at hl h0 h1;by_cases hk:t.kind=3
 .by_cases hn:t.name=bs [115,107]
  .by_cases A6:(t.kids.length:Int)=1
   .obtain⟨a,hka⟩:=A0l.1 (show t.kids.length=1 by omega);have hx:KN (A4 t.kids) 0=some (B9 a):=by rw[hka];rfl
    have hf:TW (Bt n.roles) t.kids=Bt n.roles a:=by rw[hka];rfl
    have hR:=YC n hr a;simp[Cl,hl,h0,h1,CJ,s8,hI,B6 hk,B6 hn,B6 A6,hR,hx,hf]
   .simp[Cl,hl,h0,h1,CJ,s8,hI,B6 hk,B6 hn,A3 A6]
  .simp[Cl,hl,h0,h1,CJ,s8,hI,B6 hk,A3 hn]
 .simp[Cl,hl,h0,h1,CJ,s8,hI,A3 hk]
theorem YB (n:Nar) (hr:n.roles.length<=1048576) (t:Tm):pc Q Je [G8 n,B9 t]=some (.bool (HT n.roles t)):=by
 have hI:=Xx t (bs [112,107]);refine O9 EW λfr hl h0 h1=>?_;simp[EW]at hl h0 h1;by_cases hk:t.kind=3
 .by_cases hn:t.name=bs [112,107]
  .by_cases A6:(t.kids.length:Int)=1
   .obtain⟨a,hka⟩:=A0l.1 (show t.kids.length=1 by omega);have hx:KN (A4 t.kids) 0=some (B9 a):=by rw[hka];rfl
    have hf:TW (CJ n.roles) t.kids=CJ n.roles a:=by rw[hka];rfl
    have hR:=Vu n hr a;simp[EW,hl,h0,h1,HT,s8,hI,B6 hk,B6 hn,B6 A6,hR,hx,hf]
   .simp[EW,hl,h0,h1,HT,s8,hI,B6 hk,B6 hn,A3 A6]
  .simp[EW,hl,h0,h1,HT,s8,hI,B6 hk,A3 hn]
 .simp[EW,hl,h0,h1,HT,s8,hI,A3 hk]
end Go.Abs.Q
namespace Go.Abs.Q
open Go.Proofs
attribute [local simp] E1 E5 fin J7 G4 P2 P1 E7
set_option maxHeartbeats 1000000 in
theorem vh (n:Nar) (hr:n.roles.length<=1048576) (t:Tm) (hk:t.kind=3):pc Q MY [G8 n,B9 t]=some (.int .i64 (Ix n.roles t)):=by
 have p6:=YB n hr t;have hv:Ix n.roles t=if s8 t (bs [112,97,105,114]) 2=true\/s8 t (bs [101,110,99]) 2=true then 2
   else if s8 t (bs [104,97,115,104]) 1=true then 1
   else if (s8 t (bs [97,101,110,99]) 2=true/\QL (HT n.roles) t.kids=true)\/(s8 t (bs [115,105,103,110]) 2=true/\QL (CJ n.roles) t.kids=true)then 1
   else if HT n.roles t=true\/VS n.roles t=true then 0 else -1:=rfl
 have eA:∀(nm:ByteArray) (k:Int),s8 t nm k=true↔t.name=nm/\(t.kids.length:Int)=k:=λnm k=>by simp[s8,hk]
 generalize Ix n.roles t=v at *
 refine O9 J1 λfr hl h0 h1=>?_;simp[J1]at hl h0 h1;by_cases h2:(t.kids.length:Int)=2
 .obtain⟨x,y,hxy⟩:=eK (show t.kids.length=2 by omega);have h1n:¬(t.kids.length:Int)=1:=by omega
  have n0:KN (A4 t.kids) 0=some (B9 x):=by rw[hxy];rfl
  have n1:KN (A4 t.kids) 1=some (B9 y):=by rw[hxy];rfl
  have c1:=YB n hr y;have c2:=Vu n hr y;have c3:=YC n hr x;have c4:=YC n hr y;have b6:HT n.roles t=false:=by simp[HT,JM (show (t.kids.length:Int)≠1 by omega)]
  have f1:QL (HT n.roles) t.kids=HT n.roles y:=by rw[hxy];rfl
  have f2:QL (CJ n.roles) t.kids=CJ n.roles y:=by rw[hxy];rfl
  have f3:VS n.roles t=true↔t.name=bs [115,104,107]/\Bt n.roles x=true/\Bt n.roles y=true/\x.name≠y.name:=by
   simp only[VS,Bool.and_eq_true,eA,hxy,TW,QL,uh,decide_eq_true_eq];simp[and_assoc]
  rw[b6]at p6;simp only[eA,h2,and_true,b6,f1,f2,f3]at hv;clear f1 f2 f3 b6 eA;generalize HT n.roles y=e1 at *
  generalize CJ n.roles y=e2 at *
  generalize Bt n.roles x=e3 at *
  generalize Bt n.roles y=e4 at *
  by_cases m1:t.name=bs [112,97,105,114]
  .rw[if_pos (.inl m1)]at hv;simp[J1,hl,h0,h1,B6 m1,B6 h2,hv]
  by_cases m2:t.name=bs [101,110,99]
  .rw[if_pos (.inr m2)]at hv;simp[J1,hl,h0,h1,A3 m1,B6 m2,B6 h2,hv]
  rw[if_neg (by simp[m1,m2]),if_neg (by simp)]at hv;by_cases m3:t.name=bs [104,97,115,104]
  .have m4:¬t.name=bs [97,101,110,99]:=by rw[m3];decide
   have m5:¬t.name=bs [115,105,103,110]:=by rw[m3];decide
   have m6:¬t.name=bs [115,104,107]:=by rw[m3];decide
   rw[if_neg (by simp[m4,m5]),if_neg (by simp[m6])]at hv;simp[J1,hl,h0,h1,A3 m1,A3 m2,B6 m3,A3 m4,A3 m5,A3 m6,A3 h1n,p6,hv]
  by_cases m4:t.name=bs [97,101,110,99]
  .have m5:¬t.name=bs [115,105,103,110]:=by rw[m4];decide
   have m6:¬t.name=bs [115,104,107]:=by rw[m4];decide
   cases e1 with
   |true =>
    rw[if_pos (.inl ⟨m4,rfl⟩)]at hv;simp[J1,hl,h0,h1,A3 m1,A3 m2,A3 m3,B6 m4,B6 h2,n1,c1,hv]
   |false =>
    rw[if_neg (by simp[m5]),if_neg (by simp[m6])]at hv;simp[J1,hl,h0,h1,A3 m1,A3 m2,A3 m3,B6 m4,A3 m5,A3 m6,B6 h2,n1,c1,p6,hv]
  by_cases m5:t.name=bs [115,105,103,110]
  .have m6:¬t.name=bs [115,104,107]:=by rw[m5];decide
   cases e2 with
   |true =>
    rw[if_pos (.inr ⟨m5,rfl⟩)]at hv;simp[J1,hl,h0,h1,A3 m1,A3 m2,A3 m3,A3 m4,B6 m5,B6 h2,n1,c2,hv]
   |false =>
    rw[if_neg (by simp[m4]),if_neg (by simp[m6])]at hv;simp[J1,hl,h0,h1,A3 m1,A3 m2,A3 m3,A3 m4,B6 m5,A3 m6,B6 h2,n1,c2,p6,hv]
  rw[if_neg (by simp[m4,m5])]at hv;by_cases m6:t.name=bs [115,104,107]
  .cases e3 with
   |false =>
    simp at hv;simp[J1,hl,h0,h1,A3 m1,A3 m2,A3 m3,A3 m4,A3 m5,B6 m6,B6 h2,n0,c3,p6,hv]
   |true =>
    cases e4 with
    |false =>
     simp at hv;simp[J1,hl,h0,h1,A3 m1,A3 m2,A3 m3,A3 m4,A3 m5,B6 m6,B6 h2,n0,n1,c3,c4,p6,hv]
    |true =>
     by_cases m7:x.name=y.name
     .simp[m7]at hv;simp[J1,hl,h0,h1,A3 m1,A3 m2,A3 m3,A3 m4,A3 m5,B6 m6,B6 m7,B6 h2,n0,n1,c3,c4,p6,hv]
     .simp[m6,m7]at hv;simp[J1,hl,h0,h1,A3 m1,A3 m2,A3 m3,A3 m4,A3 m5,B6 m6,A3 m7,B6 h2,n0,n1,c3,c4,p6,hv]
  .simp[m6]at hv;simp[J1,hl,h0,h1,A3 m1,A3 m2,A3 m3,A3 m4,A3 m5,A3 m6,p6,hv]
 .have b7:VS n.roles t=false:=by simp[VS,JM h2]
  simp only[eA,h2,and_false,false_or,false_and,if_false,b7]at hv;generalize HT n.roles t=b6 at *
  by_cases m3:t.name=bs [104,97,115,104]/\(t.kids.length:Int)=1
  .rw[if_pos m3]at hv;by_cases m1:t.name=bs [112,97,105,114]
   .exact absurd (m1.symm.trans m3.1) (by decide)
   by_cases m2:t.name=bs [101,110,99]
   .exact absurd (m2.symm.trans m3.1) (by decide)
   simp[J1,hl,h0,h1,A3 m1,A3 m2,B6 m3.1,B6 m3.2,hv]
  .have m3':=m3;clear m3;rw[if_neg m3']at hv;by_cases m1:t.name=bs [112,97,105,114]
   .have m2:¬t.name=bs [101,110,99]:=by rw[m1];decide
    have m3:¬t.name=bs [104,97,115,104]:=by rw[m1];decide
    have m4:¬t.name=bs [97,101,110,99]:=by rw[m1];decide
    have m5:¬t.name=bs [115,105,103,110]:=by rw[m1];decide
    have m6:¬t.name=bs [115,104,107]:=by rw[m1];decide
    cases b6<;>simp[J1,hl,h0,h1,B6 m1,A3 m2,A3 m3,A3 m4,A3 m5,A3 m6,A3 h2,p6,hv]
   by_cases m2:t.name=bs [101,110,99]
   .have m3:¬t.name=bs [104,97,115,104]:=by rw[m2];decide
    have m4:¬t.name=bs [97,101,110,99]:=by rw[m2];decide
    have m5:¬t.name=bs [115,105,103,110]:=by rw[m2];decide
    have m6:¬t.name=bs [115,104,107]:=by rw[m2];decide
    cases b6<;>simp[J1,hl,h0,h1,A3 m1,B6 m2,A3 m3,A3 m4,A3 m5,A3 m6,A3 h2,p6,hv]
   by_cases m3:t.name=bs [104,97,115,104]
   .have m4:¬t.name=bs [97,101,110,99]:=by rw[m3];decide
    have m5:¬t.name=bs [115,105,103,110]:=by rw[m3];decide
    have m6:¬t.name=bs [115,104,107]:=by rw[m3];decide
    have h1n:¬(t.kids.length:Int)=1:=λh=>m3' ⟨m3,h⟩;cases b6<;>simp[J1,hl,h0,h1,A3 m1,A3 m2,B6 m3,A3 m4,A3 m5,A3 m6,p6,hv,A3 h1n]
   by_cases m4:t.name=bs [97,101,110,99]
   .have m5:¬t.name=bs [115,105,103,110]:=by rw[m4];decide
    have m6:¬t.name=bs [115,104,107]:=by rw[m4];decide
    cases b6<;>simp[J1,hl,h0,h1,A3 m1,A3 m2,A3 m3,B6 m4,A3 m5,A3 m6,A3 h2,p6,hv]
   by_cases m5:t.name=bs [115,105,103,110]
   .have m6:¬t.name=bs [115,104,107]:=by rw[m5];decide
    cases b6<;>simp[J1,hl,h0,h1,A3 m1,A3 m2,A3 m3,A3 m4,B6 m5,A3 m6,A3 h2,p6,hv]
   by_cases m6:t.name=bs [115,104,107]
   .cases b6<;>simp[J1,hl,h0,h1,A3 m1,A3 m2,A3 m3,A3 m4,A3 m5,B6 m6,A3 h2,p6,hv]
   cases b6<;>simp[J1,hl,h0,h1,A3 m1,A3 m2,A3 m3,A3 m4,A3 m5,A3 m6,p6,hv]
end Go.Abs.Q
namespace Go.Abs.Q
open Go.Proofs
attribute [local simp] E1 E5 fin J7 G4 P2 P1 E7
theorem rE (rs:List ByteArray) (t:Tm):Ix rs t<=t.kids.length/\-1<=Ix rs t:=by
 unfold Ix;have e2:∀(nm:ByteArray) (k:Int),s8 t nm k=true->(t.kids.length:Int)=k:=λnm k h=>by simp[s8]at h;exact h.2
 split
 .rename_i h;rcases h with h|h<;>have:=e2 _ _ h<;>omega
 .split
  .rename_i h;have:=e2 _ _ h;omega
  .split
   .rename_i h;rcases h with h|h<;>have:=e2 _ _ h.1<;>omega
   .split<;>omega
theorem jH (na:Nar) (ns rs:List ByteArray) (l' l:G7) (hl':l'.length<=1099511627776) (hll:∃c:Nat,l=l'.take c/\c<=l'.length) (IH:∀t∈l,pc Q DC [G8 na,B9 t]=some (.int .i64 (x6 ns rs t))) (t:Tm) (ht:t.kids=l') (fr:Fr) (h:AH) (hh:h=⟨[(G8 na).cells,(B9 t).cells],[]⟩) (hl:fr.length=43) (h2:A0 fr 2=.ptr 0 0) (h3:A0 fr 3=.ptr 1 0) (h7:A0 fr 7=.int .i64 l.length) (h8:A0 fr 8=.int .i64 0) :
  B7 (lp (A2 (K8 Q) (D6 DC) EV) (fr,h)) λe C4 h'=>Kp EV.wr fr C4/\(e=.exit 0/\D3 (x6 ns rs) l=0\/e=.ret/\A0 C4 4=.int .i64 (D3 (x6 ns rs) l)):=by
 refine B4 rfl fr (λn fr h'=>∃(i:Nat),i+n=l.length/\A0 fr 8=.int .i64 (i:Nat)/\h'=⟨[(G8 na).cells,(B9 t).cells],[]⟩/\D3 (x6 ns rs) (l.drop i)=D3 (x6 ns rs) l) ?_ l.length h ⟨0,by omega,h8,hh,rfl⟩;rintro J Φ hJ hΦ n D5 H1 K ⟨i,hi,k8,hr⟩;have A6:=K.1.trans hl;have k2:=A8 K 2 h2;have k3:=A8 K 3 h3;have k7:=A8 K 7 h7;clear K;by_cases A7:i<l.length
 .have B8:l.length<=1099511627776:=by obtain⟨c,rfl,hc⟩:=hll;rw[A0j];omega
  have L4:=C6 i (by omega);obtain⟨rfl,hr⟩:=hr;have t6:i<l'.length:=by obtain⟨c,rfl,hc⟩:=hll;rw[A0j]at A7;omega
  have he:l[i]=l'[i]:=by obtain⟨c,rfl,hc⟩:=hll;simp
  have hx:=H9 t6;rw[←he,←ht]at hx;have hI:=IH l[i] (A0Q A7);rw[A0R A7]at hr;simp only[D3]at hr;generalize l[i]=a at *
  generalize x6 ns rs a=v at *
  by_cases hz:v=0
  .rw[if_neg (by simp[hz])]at hr;simp[EV,A6,k2,k3,k7,k8,A7,L4,hx,hI,hz];exact E9 hJ ⟨i+1,by omega,by simp[A6],by simp[E7],hr⟩
  .rw[if_pos hz]at hr;simp[EV,A6,k2,k3,k7,k8,A7,hx,hI,hz];exact hΦ _ _ _ (.inr ⟨rfl,by simp[A6,hr]⟩)
 .obtain⟨_,hr⟩:=hr;rw[A0W (by omega)]at hr;simp[EV,A6,k7,k8,A7];exact hΦ _ _ _ (.inl ⟨rfl,hr.symm⟩)
theorem fh (na:Nar) (S:Lens na):∀(n:Nat) (t:Tm),t.size<=n->t.size<=1099511627776->pc Q DC [G8 na,B9 t]=some (.int .i64 (x6 (B5 na) na.roles t)):=by
 have s0:=S.names;intro n
 induction n with
 |zero=>intro t h;have:=t.size_pos;omega
 |succ n ih =>
  intro t hn hb;have J4:=t.kids_size;have B8:=Tm.length_le t.kids;have hE:=Sf (B5 na) na.roles t;obtain⟨kl,kg⟩:=rE na.roles t;obtain⟨r,hNm,m,m',rfl⟩:=Xn na ⟨by omega,by omega,by omega⟩;have hI:=HR m (B5 na) t.name (by simp[B5];omega);have hge:=SS t.name (B5 na);have GW:=jH na (B5 na) na.roles t.kids (t.kids.take (Ix na.roles t).toNat) (by omega) ⟨(Ix na.roles t).toNat,rfl,by omega⟩ (λa ha=>ih a (by have:=Tm.size_le (A0n ha);omega) (by have:=Tm.size_le (A0n ha);omega)) t rfl;have hKl:(t.kids.take (Ix na.roles t).toNat).length=(Ix na.roles t).toNat:=by rw[A0j];omega
  clear ih;have hK:t.kind=3->pc Q MY [G8 na,B9 t]=some (.int .i64 (Ix na.roles t)):=vh na (by omega) t;generalize x6 (B5 na) na.roles t=v at *
  unfold DJ at hNm;generalize hkt:Ix na.roles t=kt at *
  refine O9 HY λfr hl h0 h1=>?_;simp[HY]at hl h0 h1;by_cases hk:t.kind=3
  .rw[if_neg (by simp[hk])]at hE;have hK:=hK hk;by_cases hz:kt<0
   .rw[if_pos hz]at hE;simp[HY,hl,h0,h1,B6 hk,hK,B6 hz,hE]
   .rw[if_neg hz]at hE;simp[HY,hl,h0,h1,B6 hk,hK,A3 hz];have e:(kt.toNat:Int)=kt:=by omega
    rw[hKl,e]at GW;refine B7.mono (GW _ _ ?_ ?_ ?_ ?_ ?_ ?_) ?_<;>first|(simp[hl];done)|skip
    rintro e D5 Cv ⟨K,⟨rfl,hz⟩|⟨rfl,k4⟩⟩
    .have J0:D5.length=43:=K.1.trans (by simp[hl]);clear K;simp[J0,hE,hz]
    .simp[k4,hE]
  .rw[if_pos hk]at hE;cases hb':(B5 na).any (V4 t.name)with
   |true =>
    rw[hb']at hge hE;simp[HY,hl,h0,h1,A3 hk,hNm,hI,A3 (show ¬idx (V4 t.name) (B5 na)<0 from λh=>nomatch (hge.1 h)),hE]
   |false =>
    rw[hb']at hge hE;simp[HY,hl,h0,h1,A3 hk,hNm,hI,B6 (hge.2 rfl),hE]
theorem sj (na:Nar) (S:Lens na) (s:Ste) (hs:s.msg.size<=1099511627776):pc Q MZ [G8 na,El s]=some (.int .i64 (Gn (B5 na) na.roles s)):=by
 have s0:=S.names;have hT:=fh na S _ s.msg (A0b _) hs;have c1:=HR na.rm na.roles s.frm (by omega);have c2:=HR na.rm na.roles s.to (by omega);have g1:=SS s.frm na.roles;have g2:=SS s.to na.roles;have hE:Gn (B5 na) na.roles s=if NN na.roles s.frm s.to≠0 then NN na.roles s.frm s.to else x6 (B5 na) na.roles s.msg:=rfl
 have hE2:NN na.roles s.frm s.to=if na.roles.any (V4 s.frm)=true/\na.roles.any (V4 s.to)=true then (if s.frm=s.to then 1 else 0)else 13:=rfl
 generalize Gn (B5 na) na.roles s=v at *
 generalize x6 (B5 na) na.roles s.msg=v2 at *
 generalize NN na.roles s.frm s.to=v3 at *
 generalize na.roles.any (V4 s.frm)=b1 at *
 generalize na.roles.any (V4 s.to)=b2 at *
 generalize idx (V4 s.frm) na.roles=i1 at *
 generalize idx (V4 s.to) na.roles=i2 at *
 refine O9 HZ λfr hl h0 h1=>?_;simp[HZ]at hl h0 h1;have q1:b1=true->¬i1<0:=λh h'=>by rw[h]at g1;exact nomatch (g1.1 h')
 have q2:b2=true->¬i2<0:=λh h'=>by rw[h]at g2;exact nomatch (g2.1 h')
 cases b1 with
 |false =>
  simp at hE2;simp[hE2]at hE;simp[HZ,hl,h0,h1,c1,B6 (g1.2 rfl),hE]
 |true =>
  cases b2 with
  |false =>
   simp at hE2;simp[hE2]at hE;simp[HZ,hl,h0,h1,c1,A3 (q1 rfl),c2,B6 (g2.2 rfl),hE]
  |true =>
   by_cases he:s.frm=s.to
   .simp[he]at hE2;simp[hE2]at hE;simp[HZ,hl,h0,h1,c1,A3 (q1 rfl),c2,A3 (q2 rfl),B6 he,hE]
   .simp[he]at hE2;simp[hE2]at hE;simp[HZ,hl,h0,h1,c1,A3 (q1 rfl),c2,A3 (q2 rfl),A3 he,hT,hE]
theorem jK (na:Nar) (ns rs:List ByteArray) (g:Gol) (B8:g.data.length<=1099511627776) (IH:∀t∈g.data,pc Q DC [G8 na,B9 t]=some (.int .i64 (x6 ns rs t))) (fr:Fr) (h:AH) (hh:h=⟨[(G8 na).cells,(En g).cells],[]⟩) (hl:fr.length=49) (h2:A0 fr 2=.ptr 0 0) (h3:A0 fr 3=.ptr 1 0) (h5:A0 fr 5=.int .i64 0) :
  B7 (lp (A2 (K8 Q) (D6 Ez) CA) (fr,h)) λe C4 h'=>Kp CA.wr fr C4/\(e=.exit 0/\D3 (x6 ns rs) g.data=0\/e=.ret/\A0 C4 4=.int .i64 (D3 (x6 ns rs) g.data)):=by
 refine B4 rfl fr (λn fr h'=>∃(i:Nat),i+n=g.data.length/\A0 fr 5=.int .i64 (i:Nat)/\h'=⟨[(G8 na).cells,(En g).cells],[]⟩/\D3 (x6 ns rs) (g.data.drop i)=D3 (x6 ns rs) g.data) ?_ g.data.length h ⟨0,by omega,h5,hh,rfl⟩;rintro J Φ hJ hΦ n D5 H1 K ⟨i,hi,k5,hr⟩;have A6:=K.1.trans hl;have k2:=A8 K 2 h2;have k3:=A8 K 3 h3;clear K;by_cases A7:i<g.data.length
 .have L4:=C6 i (by omega);obtain⟨rfl,hr⟩:=hr;have hx:=H9 A7;have hI:=IH g.data[i] (A0Q A7);rw[A0R A7]at hr;simp only[D3]at hr;generalize g.data[i]=a at *
  generalize x6 ns rs a=v at *
  by_cases hz:v=0
  .rw[if_neg (by simp[hz])]at hr;simp[CA,A6,k2,k3,k5,A7,L4,hx,hI,hz];exact E9 hJ ⟨i+1,by omega,by simp[A6],by simp[E7],hr⟩
  .rw[if_pos hz]at hr;simp[CA,A6,k2,k3,k5,A7,hx,hI,hz];exact hΦ _ _ _ (.inr ⟨rfl,by simp[A6,hr]⟩)
 .obtain⟨rfl,hr⟩:=hr;rw[A0W (by omega)]at hr;simp[CA,A6,k3,k5,A7];exact hΦ _ _ _ (.inl ⟨rfl,hr.symm⟩)
theorem sh (na:Nar) (S:Lens na) (g:Gol) (hd:Tm.sizes g.data<=1099511627776):pc Q Ez [G8 na,En g]=some (.int .i64 (Ik (B5 na) na.roles g)):=by
 have s0:=S.names;have B8:=Tm.length_le g.data;have c1:=HR na.rm na.roles g.role (by omega);have c2:=HR na.rm na.roles g.wth (by omega);have g1:=SS g.role na.roles;have g2:=SS g.wth na.roles;have GW:=jK na (B5 na) na.roles g (by omega) (λt ht=>fh na S _ t (A0b _) (by have:=Tm.size_le ht;omega));have hE:Ik (B5 na) na.roles g=if na.roles.any (V4 g.role)=false then 13 else if No g=true/\NN na.roles g.role g.wth≠0 then NN na.roles g.role g.wth else D3 (x6 (B5 na) na.roles) g.data:=rfl
 have hE2:NN na.roles g.role g.wth=if na.roles.any (V4 g.role)=true/\na.roles.any (V4 g.wth)=true then (if g.role=g.wth then 1 else 0)else 13:=rfl
 have hA:No g=(decide (g.kind=2)||decide (g.kind=3)):=rfl;generalize Ik (B5 na) na.roles g=v at *
 generalize D3 (x6 (B5 na) na.roles) g.data=v2 at *
 generalize NN na.roles g.role g.wth=v3 at *
 generalize na.roles.any (V4 g.role)=b1 at *
 generalize na.roles.any (V4 g.wth)=b2 at *
 generalize idx (V4 g.role) na.roles=i1 at *
 generalize idx (V4 g.wth) na.roles=i2 at *
 generalize No g=ab at *
 refine O9 AM λfr hl h0 h1=>?_;simp[AM]at hl h0 h1;have q1:b1=true->¬i1<0:=λh h'=>by rw[h]at g1;exact nomatch (g1.1 h')
 have q2:b2=true->¬i2<0:=λh h'=>by rw[h]at g2;exact nomatch (g2.1 h')
 cases b1 with
 |false =>
  simp at hE;simp[AM,hl,h0,h1,c1,B6 (g1.2 rfl),hE]
 |true =>
  have key:∀(D5:Fr),v=v2->D5.length=49->A0 D5 2=.ptr 0 0->A0 D5 3=.ptr 1 0->A0 D5 5=.int .i64 0 ->
    B7 (lp (A2 (K8 Q) (D6 Ez) CA) (D5,⟨[[.str na.name,sl na.rm 1 (na.roles.map .str),sl na.fm 3 (na.fresh.map Lp),sl na.tm 1 (na.tags.map .str),sl na.sm 7 (na.steps.map El),sl na.gm 5 (na.goals.map En)],[.int .i64 g.kind,.str g.role,.str g.wth,sl g.dm 4 (A4 g.data),.int .i64 g.line]],[]⟩)) (BL 0 (SQ (K8 Q) (D6 Ez) (.seq (.region false [⟨some 4,.mov (.c (.int .i64 0)),none⟩]) .ret) (kM [.tmp 4] (.int .i64 v)))):=by
   rintro D5 rfl hl q2 q3 q5;refine B7.mono (GW D5 _ rfl hl q2 q3 q5) ?_;rintro e R1 h2 ⟨K,⟨rfl,hz⟩|⟨rfl,k4⟩⟩
   .have CK:=K.1.trans hl;simp[CK,hz]
   .simp[k4]
  have cases2:ab=true->((b2=false/\v=13)\/(b2=true/\g.wth=g.role/\v=1)\/(b2=true/\¬g.wth=g.role/\v=v2)):=by
   intro h;subst h;cases b2 with
   |false =>
    simp at hE2;simp[hE2]at hE;exact .inl ⟨rfl,hE⟩
   |true =>
    by_cases he:g.role=g.wth
    .simp[he]at hE2;simp[hE2]at hE;exact .inr (.inl ⟨rfl,he.symm,hE⟩)
    .simp[he]at hE2;simp[hE2]at hE;exact .inr (.inr ⟨rfl,λh=>he h.symm,hE⟩)
  by_cases k2:g.kind=2
  .rcases cases2 (by simp[hA,k2])with ⟨rfl,hv⟩|⟨rfl,he,hv⟩|⟨rfl,he,hv⟩
   .simp[AM,hl,h0,h1,c1,A3 (q1 rfl),B6 k2,c2,B6 (g2.2 rfl),hv]
   .simp[AM,hl,h0,h1,c1,A3 (q1 rfl),B6 k2,c2,A3 (q2 rfl),B6 he,hv]
   .simp[AM,hl,h0,h1,c1,A3 (q1 rfl),B6 k2,c2,A3 (q2 rfl),A3 he];exact key _ hv (by simp[hl]) (by simp[hl]) (by simp[hl]) (by simp[hl])
  .by_cases k3:g.kind=3
   .rcases cases2 (by simp[hA,k3])with ⟨rfl,hv⟩|⟨rfl,he,hv⟩|⟨rfl,he,hv⟩
    .simp[AM,hl,h0,h1,c1,A3 (q1 rfl),A3 k2,B6 k3,c2,B6 (g2.2 rfl),hv]
    .simp[AM,hl,h0,h1,c1,A3 (q1 rfl),A3 k2,B6 k3,c2,A3 (q2 rfl),B6 he,hv]
    .simp[AM,hl,h0,h1,c1,A3 (q1 rfl),A3 k2,B6 k3,c2,A3 (q2 rfl),A3 he];exact key _ hv (by simp[hl]) (by simp[hl]) (by simp[hl]) (by simp[hl])
   .have ea:ab=false:=by simp[hA,k2,k3]
    simp[ea]at hE;simp[AM,hl,h0,h1,c1,A3 (q1 rfl),A3 k2,A3 k3];exact key _ hE (by simp[hl]) (by simp[hl]) (by simp[hl]) (by simp[hl])
end Go.Abs.Q
