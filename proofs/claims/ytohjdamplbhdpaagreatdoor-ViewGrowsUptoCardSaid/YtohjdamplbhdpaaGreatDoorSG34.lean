/- A part of the proof. -/
import Derived.Test.YtohjdamplbhdpaaGreatDoorSG33
set_option linter.all false
open List renaming getElem?_eq_getElem->xk,getElem?_set_self->xl,getElem?_set_ne->xm,length_take->xn,length_append->xo,length_map->xp,length_singleton->xq,getElem?_eq_some_iff->xr,getElem_mem->xt,mem_singleton->xu,getElem?_set->xw,getElem?_zipWith->xy,mem_of_getElem?->xz,length_nil->yA,replicate->yB,getElem?_replicate->yC,length_cons->yD,getElem?_of_mem->yE,mem_append->yF,getElem?_cons_succ->yH,append_eq_nil_iff->yI,mem_append_left->yJ,mem_cons->yK,length_pos_iff->yL
open Int renaming eq_ofNat_of_zero_le->yG
open Bool renaming eq_false_iff->yM
open Nat renaming mod_lt->yN
namespace Go.Abs
def lV (v w:AV):Prop:=∀j n o l n' o' l',v=.sl j n o l->w=.sl j n' o' l'->False
theorem lV.symm {v w:AV} (h:lV v w):lV w v:=λj n o l n' o' l' e e'=>h j n' o' l' n o l e' e
theorem ja {c:Ctx} {sz bytes:Nat} {xs ys:E6} {v x:AV} {h:AH} (hg:Iw c.mutApp sz xs v h) (hx:elems h sz x=some ys) (hb:(xs.length+ys.length)*bytes<=G4/\xs.length+ys.length<=maxLen) :
  ∃v' F',(∀BB,L5 c ⟨BB,h.fams⟩ sz bytes v x=some (v',⟨BB,F'⟩))/\(∀BB,Iw c.mutApp sz (xs++ys) v' ⟨BB,F'⟩)/\∀(wr:Bool) (s:Nat) (ws:List AV) (w:AV),Iw wr s ws w h->lV v w->(∀BB,Iw wr s ws w ⟨BB,F'⟩)/\lV v' w:=by
 have hx':∀BB,elems ⟨BB,h.fams⟩ sz x=some ys:=λBB=>(Ki rfl sz x).trans hx;rcases hg with ⟨b,rfl⟩|⟨M5,k,rfl,hk⟩
 .by_cases hy:ys.length=0
  .have:ys=[]:=List.eq_nil_of_length_eq_zero hy;subst this;refine⟨sl (true,b) sz xs,h.fams,λBB=>?_,λBB=>.inl ⟨b,by simp⟩,λwr s ws w hw _=>⟨λBB=>P5 hw rfl,λj n o l n' o' l' e=>nomatch e⟩⟩;simp only[sl,L5,hx' BB];rw[if_pos hy]
  .have hc:((if (xs.isEmpty&&!b)=true then 0 else sz)=sz\/xs.length=0)/\(xs.length+ys.length)*bytes<=G4/\xs.length+ys.length<=maxLen:=by
    refine⟨?_,hb⟩;cases xs with
    |nil=>exact .inr rfl
    |cons a l=>exact .inl rfl
   refine⟨.sl h.fams.length (xs.length+ys.length) 0 (xs.length+ys.length),h.fams++[⟨xs++ys,sz,c.mutApp⟩],λBB=>?_,λBB=>.inr ⟨by intro e;rw[yI]at e;rw[e.2]at hy;exact hy rfl,h.fams.length,by rw[xo],by simp⟩,λwr s ws w hw _=>?_⟩
   .simp only[sl,L5,hx' BB];rw[if_neg hy,if_pos hc]
   rcases hw with ⟨b',rfl⟩|⟨hne',k',rfl,CH⟩
   .exact⟨λBB=>.inl ⟨b',rfl⟩,λj n o l n' o' l' _ e=>nomatch e⟩
   .have A6:=(xr.1 CH).1;refine⟨λBB=>.inr ⟨hne',k',rfl,by simp only;rw[List.getElem?_append_left A6];exact CH⟩,λj n o l n' o' l' e e'=>?_⟩;cases e;cases e';omega
 .have CI:=(xr.1 hk).1;refine⟨.sl k (xs.length+ys.length) 0 (xs.length+ys.length),h.fams.set k ⟨xs++ys,sz,c.mutApp⟩,λBB=>?_,λBB=>.inr ⟨by intro e;rw[yI]at e;exact M5 e.1,k,by rw[xo],by simp[CI]⟩,λwr s ws w hw hap=>?_⟩
  .simp only[L5,hx' BB,hk];rw[if_pos ⟨trivial,trivial,by omega,hb.1,hb.2⟩]
  rcases hw with ⟨b',rfl⟩|⟨hne',k',rfl,CH⟩
  .exact⟨λBB=>.inl ⟨b',rfl⟩,λj n o l n' o' l' _ e=>nomatch e⟩
  .have MR:k≠k':=λe=>hap k _ _ _ _ _ _ rfl (by rw[e]);refine⟨λBB=>.inr ⟨hne',k',rfl,by simp only;rw[xm MR];exact CH⟩,λj n o l n' o' l' e e'=>?_⟩;cases e;cases e';exact MR rfl
structure GE where
 gr:Bool
 sz:Nat
 xs:List AV
 v:AV
def GE.Ok (h:AH) (e:GE):Prop:=Iw false e.sz e.xs e.v h\/(e.gr=false/\∃m,e.v=sl m e.sz e.xs)
theorem GE.Ok.lsa {h:AH} {e:GE} (k:e.Ok h) (hg:e.gr=true):Iw false e.sz e.xs e.v h:=by
 rcases k with k|⟨k,_⟩
 .exact k
 .rw[hg]at k;cases k
structure GLs (h:AH) (l:List GE):Prop where
 ok:∀e∈l,e.Ok h
 ap:∀(i j:Nat) (a b:GE),i≠j->l[i]?=some a->l[j]?=some b->lV a.v b.v
theorem GE.Ok.fams {h h':AH} {e:GE} (k:e.Ok h) (he:h'.fams=h.fams):e.Ok h':=by
 rcases k with k|k
 .exact .inl (P5 k he)
 .exact .inr k
theorem GLs.fams {h h':AH} {l:List GE} (hg:GLs h l) (e:h'.fams=h.fams):GLs h' l:=⟨λx hx=>(hg.ok x hx).fams e,hg.ap⟩
theorem GLs.get {h:AH} {l:List GE} (hg:GLs h l) {i:Nat} {e:GE} (hi:l[i]?=some e):e.Ok h:=hg.ok _ (xz hi)
theorem GLs.app {c:Ctx} (hc:c.mutApp=false) {h:AH} {l:List GE} (hg:GLs h l) {i sz bytes:Nat} {xs ys:E6} {v x:AV} (hi:l[i]?=some ⟨true,sz,xs,v⟩) (hx:elems h sz x=some ys) (hb:(xs.length+ys.length)*bytes<=G4/\xs.length+ys.length<=maxLen) :
  ∃v' F',(∀BB,L5 c ⟨BB,h.fams⟩ sz bytes v x=some (v',⟨BB,F'⟩))/\∀BB,GLs ⟨BB,F'⟩ (l.set i ⟨true,sz,xs++ys,v'⟩):=by
 have h1:Iw c.mutApp sz xs v h:=by rw[hc];exact(hg.get hi).lsa rfl
 obtain⟨v',F',a1,a2,a3⟩:=ja h1 hx hb;rw[hc]at a2;have hil:=(xr.1 hi).1;have other:∀(j:Nat) (b:GE),j≠i->l[j]?=some b->(∀BB,b.Ok ⟨BB,F'⟩)/\lV v' b.v:=λj b hj hb'=>by
  have hap:=hg.ap i j _ b (Ne.symm hj) hi hb';rcases hg.get hb' with k|⟨k1,m,k2⟩
  .obtain⟨q1,q2⟩:=a3 _ _ _ _ k hap;exact⟨λBB=>.inl (q1 BB),q2⟩
  .exact⟨λBB=>.inr ⟨k1,m,k2⟩,λ_ _ _ _ _ _ _ _ e=>by rw[k2]at e;cases e⟩
 refine⟨v',F',a1,λBB=>⟨λe he=>?_,λp q a b hpq hp hq=>?_⟩⟩
 .obtain⟨j,hj⟩:=yE he;by_cases hij:i=j
  .subst hij;rw[xl hil]at hj;cases hj;exact .inl (a2 BB)
  .rw[xm hij]at hj;exact(other j e (Ne.symm hij) hj).1 BB
 .by_cases hip:i=p
  .subst hip;rw[xl hil]at hp;cases hp;rw[xm hpq]at hq;exact(other q b (Ne.symm hpq) hq).2
  .rw[xm hip]at hp;by_cases hiq:i=q
   .subst hiq;rw[xl hil]at hq;cases hq;exact(other p a (Ne.symm hip) hp).2.symm
   .rw[xm hiq]at hq;exact hg.ap p q a b hpq hp hq
theorem RT (v:AV) (m:I8) (sz:Nat) (xs:E6):lV v (sl m sz xs):=λ_ _ _ _ _ _ _ _ e=>nomatch e
theorem GLs.lit {h:AH} {l:List GE} (hg:GLs h l) (i sz:Nat) (m:I8) (xs:E6):GLs h (l.set i ⟨false,sz,xs,sl m sz xs⟩):=by
 refine⟨λe he=>?_,λp q a b hpq hp hq=>?_⟩
 .obtain⟨j,hj⟩:=yE he;rw[xw]at hj;split at hj
  .split at hj
   .cases hj;exact .inr ⟨rfl,m,rfl⟩
   .cases hj
  .exact hg.get hj
 .rw[xw]at hp hq;split at hp
  .split at hp
   .cases hp;exact(RT _ _ _ _).symm
   .cases hp
  .split at hq
   .split at hq
    .cases hq;exact RT _ _ _ _
    .cases hq
   .exact hg.ap p q a b hpq hp hq
theorem GLs.cons {h:AH} {l:List GE} (hg:GLs h l) (sz:Nat) (b:Bool) (xs:E6):GLs h (⟨true,sz,xs,sl (true,b) sz xs⟩::l):=by
 refine⟨λe he=>?_,λp q a b hpq hp hq=>?_⟩
 .rcases yK.1 he with rfl|he
  .exact .inl (.inl ⟨b,rfl⟩)
  .exact hg.ok e he
 .cases p with
  |zero=>cases hp;exact(RT _ _ _ _).symm
  |succ p =>
   cases q with
   |zero=>cases hq;exact RT _ _ _ _
   |succ q=>exact hg.ap p q a b (by omega) hp hq
theorem GLs.nil (h:AH):GLs h []:=⟨(λ_ he=>nomatch he),λi j a b _ hi=>by simp at hi⟩
def GE.still (e:GE):GE:={e with gr:=false}
theorem GLs.still {h:AH} {l:List GE} (hg:GLs h l):GLs h (l.map GE.still):=by
 refine⟨λe he=>?_,λp q a b hpq hp hq=>?_⟩
 .obtain⟨x,hx,rfl⟩:=List.mem_map.1 he;rcases hg.ok x hx with k|⟨_,k⟩
  .exact .inl k
  .exact .inr ⟨rfl,k⟩
 .rw[List.getElem?_map,Option.map_eq_some_iff]at hp hq;obtain⟨x,hx,rfl⟩:=hp;obtain⟨y,hy,rfl⟩:=hq;exact hg.ap p q x y hpq hx hy
theorem GE.Ok.frz {h:AH} {e:GE} (k:e.Ok h):∃m:Bool×Bool,∀(B:List (List AV)) (am:Bool),Go.Abs.frz ⟨B,h.fams⟩ am e.v=some (sl m e.sz e.xs)/\y8 ⟨B,h.fams⟩ am e.v=some (sl m e.sz e.xs):=by
 rcases k with k|⟨_,m,k⟩
 .obtain⟨m,hm⟩:=Qw k;exact⟨m,λB am=>hm B am (by cases am<;>rfl)⟩
 .exact⟨m,λB am=>by rw[k];exact⟨rfl,rfl⟩⟩
theorem GE.Ok.tame {h:AH} {e:GE} (k:e.Ok h) (B:List (List AV)):Go.Abs.tame ⟨B,h.fams⟩ e.v=true:=by
 rcases k with k|⟨_,m,k⟩
 .exact RU k B
 .rw[k];rfl
theorem GE.Ok.cells {h:AH} {e:GE} (k:e.Ok h):e.v.isTup=false/\e.v.cells=[e.v]:=by
 rcases k with k|⟨_,m,k⟩
 .exact⟨(KA k).1,(KA k).2.1⟩
 .rw[k];exact⟨rfl,rfl⟩
theorem GE.Ok.len {h:AH} {e:GE} (k:e.Ok h) (h':AH):Pn h' e.v=some (.int .i64 e.xs.length,h'):=by
 rcases k with k|⟨_,m,k⟩
 .exact jZ k h'
 .rw[k];rfl
theorem GE.Ok.elems {h:AH} {e:GE} (k:e.Ok h) (B:List (List AV)):Go.Abs.elems ⟨B,h.fams⟩ e.sz e.v=some e.xs:=by
 rcases k with k|⟨_,m,k⟩
 .exact Th k B
 .rw[k];exact O5 _ _ _ _
end Go.Abs
namespace Go.Abs.Q
open Go.Proofs
attribute [local simp] D0 D1 fin I1 E7 K8 I3 N6 P4
theorem KQ (a:H7):pc Q S9 [.str a]=some (B8 (C7 a)):=by
 have hA:=Vg a 0;refine N4 LX λfr hl h0=>?_;simp[LX]at hl h0;simp[LX,hl,h0,hA,I9];rfl
theorem PC (nm:H7) (x y:Tm):pc Q K1 [.str nm,sl (true,true) 4 [B8 x,B8 y]]=some (B8 (Y4 nm (false,true) [x,y])) :=
 RI nm (true,true) [x,y] (by simp) (by simp)
theorem bR (nm:H7) (x:Tm):pc Q K1 [.str nm,sl (true,true) 4 [B8 x]]=some (B8 (Y4 nm (false,true) [x])) :=
 RI nm (true,true) [x] (by simp) (by simp)
theorem YB:∀(l:I2) (m:I8),l≠[]->l.length<=1000->pc Q HA [sl m 4 (A3 l)]=some (B8 (Jp l))
 | [],_,h,_=>absurd rfl h
 | [t],m,_,_=>by
  have hx:IU (A3 [t]) 0=some (B8 t):=rfl;have hl':(A3 [t]).length=1:=rfl;rw[Jp];generalize A3 [t]=xs at *
  refine N4 Cz λfr hl h0=>?_;simp[Cz]at hl h0;simp[Cz,hl,h0,hx,hl',I9]
 |t::u::l,m,_,C2=>by
  have hx:IU (A3 (t::u::l)) 0=some (B8 t):=rfl;have hl':(A3 (t::u::l)).length=l.length+2:=by rw[D7,xp];rfl
  have M5:¬((l.length:Int)+2=1):=by omega
  have hs:∀h:AH,Te h 4 (sl m 4 (A3 (t::u::l))) (some (some 1)) (some none) (some none)=some (sl (m.1,m.2||!(A3 (t::u::l)).isEmpty) 4 (A3 (u::l)),h):=λh=>iq h m 4 (by decide) (A3 (t::u::l)) 1 (by rw[hl'];omega);have ih:=YB (u::l) (m.1,m.2||!(A3 (t::u::l)).isEmpty) (by simp) (by simp at C2 ⊢;omega);have hA:=PC (bs [112,97,105,114]) t (Jp (u::l));rw[Jp];generalize A3 (t::u::l)=xs at *
  generalize A3 (u::l)=ys at *
  generalize Jp (u::l)=w at *
  refine N4 Cz λfr hl h0=>?_;simp[Cz]at hl h0;simp[Cz,hl,h0,hx,hl',M5,hs,ih,hA,A4,I9]
theorem dg (m:I8) (l:List ByteArray) (s:H7) (C2:l.length<=1000000) (fr:Fr) (h:AH) (hl:fr.length=18) (h0:A0 fr 0=sl m 1 (l.map .str)) (h1:A0 fr 1=.str s) (h5:A0 fr 5=.int .i64 0) :
  C8 (lp (A1 (Q8 Q) (G7 JP) Cx) (fr,h)) λe D4 h'=>Kp Cx.wr fr D4/\(e=.exit 0/\s∉l\/e=.ret/\A0 D4 4=.bool true/\s∈l):=by
 refine C3 rfl fr (λn fr h'=>∃(i:Nat),i+n=l.length/\A0 fr 5=.int .i64 (i:Nat)/\(s∈l.drop i↔s∈l)) ?_ l.length h ⟨0,by omega,h5,Iff.rfl⟩;rintro J Φ hJ hΦ n G9 H1 K ⟨i,hi,k5,hr⟩;have B4:=K.1.trans hl;have k0:=A5 K 0 h0;have k1:=A5 K 1 h1;clear K;by_cases A6:i<l.length
 .have V7:=E5 i (by omega);have hx:=H8 (f:=AV.str) (xk A6);rw[List.drop_eq_getElem_cons A6]at hr;generalize l[i]=x at *
  by_cases hc:x=s
  .subst hc;simp[Cx,B4,k0,k1,k5,A6,V7,hx];exact hΦ _ _ _ (.inr ⟨rfl,by simp[B4],hr.1 List.mem_cons_self⟩)
  .simp[Cx,B4,k0,k1,k5,A6,V7,hx,hc];exact⟨n-1,by omega,hJ _ _ _ ⟨i+1,by omega,by simp[B4],by
    rw[←hr,yK];exact⟨.inr,λh=>h.resolve_left λe=>hc e.symm⟩⟩⟩
 .rw[List.drop_eq_nil_of_le (by omega)]at hr;simp[Cx,B4,k0,k1,k5,A6];exact hΦ _ _ _ (.inl ⟨rfl,λh=>by simpa using hr.2 h⟩)
theorem kw (m:I8) (l:List ByteArray) (s:H7) (C2:l.length<=1000000):pc Q JP [sl m 1 (l.map .str),.str s]=some (.bool (l.any (BS s))):=by
 refine Q6 Mq λfr hl h0 h1=>?_;simp[Mq]at hl h0 h1;simp[Mq,hl,h0,h1];refine C8.mono (dg m l s C2 _ _ ?_ ?_ ?_ ?_) ?_<;>first|(simp[hl,h0,h1];done)|skip
 rintro e G9 Jb ⟨K,⟨rfl,hh⟩|⟨rfl,h4,hh⟩⟩
 .have B4:G9.length=18:=K.1.trans (by simp[hl]);have he:l.any (BS s)=false:=by rw[yM];exact λh=>hh (DF.1 h)
  simp[B4,he]
 .have he:=DF.2 hh;simp[h4,he]
theorem ZZ (m2:I8) (l us:List ByteArray) (C2:l.length<=100) (hlu:us.length<=100) (v0:AV) (fr:Fr) (h:AH) (h5:A0 fr 5=v0) (hg0:Iw false 1 (l.map .str) v0 h) (hl:fr.length=31) (h1:A0 fr 1=sl m2 1 (us.map .str)) (h6:A0 fr 6=.int .i64 0) :
  C8 (lp (A1 (Q8 Q) (G7 BY) Au) (fr,h)) λe D4 h'=>Kp Au.wr fr D4/\e=.exit 0/\∃(r:List ByteArray),Iw false 1 (r.map .str) (A0 D4 5) h'/\(∀x∈r,x∈l\/x∈us)/\r.length<=l.length+us.length:=by
 refine C3 rfl fr (λn fr h'=>∃(i:Nat),i+n=us.length/\A0 fr 6=.int .i64 (i:Nat)/\(∃(v:AV) (r:List ByteArray),A0 fr 5=v/\Iw false 1 (r.map .str) v h'/\(∀x∈r,x∈l\/x∈us)/\r.length<=l.length+i)) ?_ us.length h ⟨0,by omega,h6,v0,l,h5,hg0,λx hx=>.inl hx,by omega⟩;rintro J Φ hJ hΦ n G9 H1 K ⟨i,hi,k6,hr⟩;have B4:=K.1.trans hl;have k1:=A5 K 1 h1;clear K;by_cases A6:i<us.length
 .have V7:=E5 i (by omega);obtain⟨v,r,k5,hg,hm,hrl⟩:=hr;have hx:=H8 (f:=AV.str) (xk A6);have Jd:=xt A6;generalize us[i]=x at *
  obtain⟨mf,hf⟩:=Qw hg;have htm:=RU hg;obtain⟨bx,F⟩:=H1;have hF:=λB=>(hf B true rfl).1;simp only at hF htm;have hH:=kw mf r x (by omega);by_cases hc:x∈r
  .rw[DF.2 hc]at hH;simp[Au,B4,k1,k6,A6,V7,k5,hx,hF,htm,hH];exact O4 hJ ⟨i+1,by omega,by simp[B4],v,r,by simp[B4,k5],P5 hg rfl,hm,by omega⟩
  .rw[show r.any (BS x)=false from by rw[yM];exact λh=>hc (DF.1 h)]at hH;obtain⟨va,Fa,ha,hLa,-⟩:=OW (c:=G7 BY) (bytes:=16) (x:=sl (true,true) 1 [.str x]) (ys:=[.str x]) hg (O5 _ _ _ _) (by simp only[G4,maxLen,xp,xq];omega);rw[show r.map AV.str++[.str x]=(r++[x]).map .str from by simp]at hLa;simp[Au,B4,k1,k6,A6,V7,k5,hx,hF,htm,hH,A4,ha];exact⟨n-1,by omega,hJ _ _ _ ⟨i+1,by omega,by simp[B4],va,r++[x],by simp[B4],hLa,λy hy=>by
    rcases yF.1 hy with hy|hy
    .exact hm y hy
    .rw[xu.1 hy];exact .inr Jd,by rw[xo,xq];omega⟩⟩
 .obtain⟨v,r,k5,hg,hm,hrl⟩:=hr;simp[Au,B4,k1,k6,A6];exact hΦ _ _ _ ⟨rfl,r,by simp[k5];exact hg,hm,by omega⟩
theorem Xu (m1 m2:I8) (l us:List ByteArray) (C2:l.length<=100) (hlu:us.length<=100):∃(m:I8) (r:List ByteArray),pc Q BY [sl m1 1 (l.map .str),sl m2 1 (us.map .str)]=some (sl m 1 (r.map .str))/\(∀x∈r,x∈l\/x∈us)/\r.length<=l.length+us.length:=by
 suffices hq:∃v,pc Q BY [sl m1 1 (l.map .str),sl m2 1 (us.map .str)]=some v/\∃(m:Bool×Bool) (r:List ByteArray),v=sl m 1 (r.map .str)/\(∀x∈r,x∈l\/x∈us)/\r.length<=l.length+us.length by
  obtain⟨v,h1,m,r,rfl,h2⟩:=hq;exact⟨m,r,h1,h2⟩
 obtain⟨va,Fa,ha,hLa,-⟩:=OW (c:=G7 BY) (bytes:=16) (x:=sl m1 1 (l.map .str)) (ys:=l.map .str) (h:=⟨[],[]⟩) (fL false 1 [] true _) (O5 _ _ _ _) (by simp only[G4,maxLen,xp,yA];omega);rw[List.nil_append]at hLa;refine Ta Jt λΨ hΨ fr hl h0 h1=>?_;simp[Jt]at hl h0 h1;simp[Jt,hl,h0,h1,A4,ha];refine C8.mono (ZZ m2 l us C2 hlu va _ _ ?_ hLa ?_ ?_ ?_) ?_<;>first|(simp[hl,h0,h1];done)|skip
 rintro e G9 ⟨bx,F1⟩ ⟨K,rfl,r,hg,hm,hrl⟩;have B4:G9.length=31:=K.1.trans (by simp[hl]);obtain⟨m,hf⟩:=OX hg;have hF:=hf bx;simp only at hF;simp[B4,hF];exact hΨ _ ⟨m,r,rfl,hm,hrl⟩
theorem Bj {k:IntKind} (a b:Nat) (hb:0<b):D6 .rem (.int k (a:Int)) (.int k (b:Int))=some (.int k ((a % b:Nat):Int)):=by
 simp only[D6];rw[if_pos ⟨trivial,by omega⟩,Int.ofNat_tmod]
theorem dQ (mk mp:I8) (known:List ByteArray) (parts L:List Int) (hL:L=if known=[]then []else parts.take 3) (hL3:L.length<=3) (hp:∀x∈parts,0<=x/\x<=255) (hpl:parts.length<=1099511627776) (CI:known.length<=1000) (tag:H7) (v8 v9:AV) (BX:List (List AV)) (fr:Fr) (h:AH) (hBX:h.boxes=BX) (h8:A0 fr 8=v8) (h9:A0 fr 9=v9) (hg:GLs h [⟨true,4,A3 [C7 tag],v8⟩,⟨true,1,[],v9⟩]) (hl:fr.length=53) (h1:A0 fr 1=sl mk 1 (known.map .str)) (h2:A0 fr 2=sl mp 1 (parts.map (.int .u8))) (h10:A0 fr 10=.int .i64 0) :
  C8 (lp (A1 (Q8 Q) (G7 CQ) AY) (fr,h)) λe D4 h'=>Kp AY.wr fr D4/\e=.exit 0/\h'.boxes=BX/\∃(v8 v9:AV) (us:List ByteArray),A0 D4 8=v8/\A0 D4 9=v9/\GLs h' [⟨true,4,A3 (C7 tag::us.map C7),v8⟩,⟨true,1,us.map .str,v9⟩]/\us.length<=3/\∀u∈us,u∈known:=by
 refine C3 rfl fr (λn fr h'=>∃(i:Nat),i+n=L.length/\A0 fr 10=.int .i64 (i:Nat)/\h'.boxes=BX/\(∃(v8 v9:AV) (us:List ByteArray),A0 fr 8=v8/\A0 fr 9=v9/\GLs h' [⟨true,4,A3 (C7 tag::us.map C7),v8⟩,⟨true,1,us.map .str,v9⟩]/\us.length=i/\∀u∈us,u∈known)) ?_ L.length h ⟨0,by omega,h10,hBX,v8,v9,[],h8,h9,hg,rfl,λu hu=>nomatch hu⟩;rintro J Φ hJ hΦ n G9 H1 K ⟨i,hi,k10,hr⟩;have B4:=K.1.trans hl;have k1:=A5 K 1 h1;have k2:=A5 K 2 h2;clear K;by_cases A6:i<L.length
 .have V7:=E5 i (by omega);obtain⟨hBx,v8,v9,us,k8,k9,hg,hul,hu⟩:=hr;have hkn:known≠[]:=by rintro rfl;rw[hL]at A6;simp at A6
  rw[if_neg hkn]at hL;subst hL;rw[xn]at A6 hi;have hil:i<parts.length:=by omega
  have hi3:(i:Int)<3:=by omega
  have hil':(i:Int)<(parts.length:Int):=by omega
  have hx:=H8 (f:=AV.int .u8) (xk hil);obtain⟨p1,p2⟩:=hp _ (xt hil);generalize parts[i]=p at *
  have hkp0:=yL.2 hkn;have hwq:IntKind.i64.wrap p=p:=M3 (by omega) (by omega);obtain⟨q,rfl⟩:=yG p1;have hq:q % known.length<known.length:=yN _ (by omega);have htm:D6 .rem (.int .i64 (q:Int)) (.int .i64 (known.length:Int))=some (.int .i64 ((q % known.length:Nat):Int)):=Bj q known.length (by omega);have hy:=H8 (f:=AV.str) (xk hq);have Jd:=xt hq;generalize known[q % known.length]=x at *
  generalize q % known.length=r at *
  have hA:=KQ x;have Qp:(i:Nat)<min 3 parts.length:=A6;obtain⟨bx,F⟩:=H1;obtain⟨va,Fa,a1,a2⟩:=hg.app (c:=G7 CQ) rfl (i:=0) (bytes:=56) (x:=sl (true,true) 4 [B8 (C7 x)]) (ys:=[B8 (C7 x)]) rfl (O5 _ _ _ _) (by simp only[G4,maxLen,D7,xp,yD,yA];omega);simp only[←Dz]at a1 a2;obtain⟨vb,Fb,b1,b2⟩:=(a2 bx).app (c:=G7 CQ) rfl (i:=1) (bytes:=16) (x:=sl (true,true) 1 [.str x]) (ys:=[.str x]) rfl (O5 _ _ _ _) (by simp only[G4,maxLen,xp,yD,yA];omega);have b3:=b2 bx;rw[show us.map AV.str++[.str x]=(us++[x]).map .str from by simp,show C7 tag::us.map C7++[C7 x]=C7 tag::(us++[x]).map C7 from by simp]at b3;simp only at b1;simp[AY,B4,k1,k2,k10,A6,V7,k8,k9,hx,hi3,hil',hkp0,hkn,hwq,htm,hy,hA,A4,a1,b1];exact⟨n-1,by omega,hJ _ _ _ ⟨i+1,by rw[xn];omega,by simp[B4],hBx,va,vb,us++[x],by simp[B4],by simp[B4],b3,by simp[hul],λu hu'=>by
   rcases yF.1 hu' with h|h
   .exact hu u h
   .rw[xu.1 h];exact Jd⟩⟩
 .obtain⟨hBx,v8,v9,us,k8,k9,hg,hul,hu⟩:=hr;have hu3:us.length<=3:=by omega
  have hfin:∀D4 h',A0 D4 8=v8->A0 D4 9=v9->h'.boxes=BX->GLs h' [⟨true,4,A3 (C7 tag::us.map C7),v8⟩,⟨true,1,us.map .str,v9⟩]->_:=λD4 h' e8 e9 eB DG=>hΦ (.exit 0) D4 h' ⟨rfl,eB,v8,v9,us,e8,e9,DG,hu3,hu⟩;by_cases hil:i<parts.length
  .have hil':(i:Int)<(parts.length:Int):=by omega
   by_cases hi3:i<3
   .have hi3':(i:Int)<3:=by omega
    have hkn:known=[]:=by
     apply Classical.byContradiction;intro hc;rw[hL,if_neg hc,xn]at A6;omega
    simp[AY,B4,k1,k2,k10,A6,hil',hi3',hkn];exact hfin _ _ (by simp[B4,k8]) (by simp[B4,k9]) hBx hg
   .have hi3':¬(i:Int)<3:=by omega
    simp[AY,B4,k1,k2,k10,A6,hil',hi3'];exact hfin _ _ (by simp[B4,k8]) (by simp[B4,k9]) hBx hg
  .have hil':¬(i:Int)<(parts.length:Int):=by omega
   simp[AY,B4,k1,k2,k10,A6,hil'];exact hfin _ _ (by simp[B4,k8]) (by simp[B4,k9]) hBx hg
theorem bX (mk mp:I8) (known:List ByteArray) (parts:List Int) (hp:∀x∈parts,0<=x/\x<=255) (hpl:parts.length<=1099511627776) (CI:known.length<=1000) (tag:H7) :
  ∃(m:Bool×Bool) (us:List ByteArray),pc Q CQ [.str tag,sl mk 1 (known.map .str),sl mp 1 (parts.map (.int .u8))]=some (.tup [B8 (Jp (C7 tag::us.map C7)),sl m 1 (us.map .str)])/\us.length<=3/\∀u∈us,u∈known:=by
 suffices hq:∃v,pc Q CQ [.str tag,sl mk 1 (known.map .str),sl mp 1 (parts.map (.int .u8))]=some v/\∃(m:Bool×Bool) (us:List ByteArray),v=.tup [B8 (Jp (C7 tag::us.map C7)),sl m 1 (us.map .str)]/\us.length<=3/\∀u∈us,u∈known by
  obtain⟨v,h1,m,us,rfl,h2⟩:=hq;exact⟨m,us,h1,h2⟩
 have hA:=KQ tag;refine YF LY λΨ hΨ fr hl h0 h1 h2=>?_;simp[LY]at hl h0 h1 h2;simp[LY,hl,h0,h1,h2,hA,A4];refine C8.mono (dQ mk mp known parts _ rfl (by split;simp;rw[xn];omega) hp hpl CI tag (sl (true,true) 4 (A3 [C7 tag])) (.vs true 0 []) _ _ _ rfl ?_ ?_ (((GLs.nil _).cons 1 false []).cons 4 true (A3 [C7 tag])) ?_ ?_ ?_ ?_) ?_<;>first|(simp[hl,h0,h1,h2,D7];done)|skip
 rintro e G9 ⟨bx,F1⟩ ⟨K,rfl,hB,v8,v9,us,k8,k9,hg,hul,hu⟩;simp only at hB;subst hB;have B4:G9.length=53:=K.1.trans (by simp[hl]);have k6:A0 G9 6=.ptr 0 0:=A5 K 6 (by simp[hl]);obtain⟨m8,hf8⟩:=(hg.get (i:=0) rfl).frz;obtain⟨m9,hf9⟩:=(hg.get (i:=1) rfl).frz;have htm8:=(hg.get (i:=0) rfl).tame;have hF8:=λB=>(hf8 B true).1;have hF9:=λB=>(hf9 B true).1;simp only at hF8 hF9 htm8;have hT:=YB (C7 tag::us.map C7) m8 (by simp) (by simp;omega);generalize hw:Jp (C7 tag::us.map C7)=w at *
 simp[B4,k6,k8,k9,hF8,hF9,htm8,hT,I9];exact hΨ _ ⟨m9,us,by rw[hw],hul,hu⟩
theorem bZ (fm:Int) (hf:0<=fm/\fm<=255) (a b:H7) (t:Tm) (m:I8) (us:List ByteArray) (hul:us.length<=1000):pc Q DL [.int .u8 fm,.str a,.str b,B8 t,sl m 1 (us.map .str)]=some (B8 (IY (fm.tmod 6) a b t us)):=by
 have hA:=KQ a;have hB:=KQ b;have h1a:=PC (bs [115,104,107]) (C7 a) (C7 b);have h2a:=PC (bs [115,104,107]) (C7 b) (C7 a);unfold IY;have hmod:D6 .rem (.int .u8 fm) (.int .u8 6)=some (.int .u8 (fm.tmod 6)):=by
  simp only[D6];rw[if_pos ⟨trivial,by decide⟩]
 generalize fm.tmod 6=r at *
 by_cases c1:r=1
 .subst c1;rw[if_pos rfl];have hC:=PC (bs [101,110,99]) t (Y4 (bs [115,104,107]) (false,true) [C7 a,C7 b]);generalize Y4 (bs [115,104,107]) (false,true) [C7 a,C7 b]=p at *
  generalize Y4 (bs [115,104,107]) (false,true) [C7 b,C7 a]=q at *
  generalize C7 a=ra at *
  generalize C7 b=rb at *
  refine WM R3 rfl (by simp[D8]) λfr hl ha=>?_;have h0:=ha 0;have h1:=ha 1;have h2:=ha 2;have h3:=ha 3;have h4:=ha 4;clear ha;simp[D8]at hl h0 h1 h2 h3 h4;simp[D8,hl,h0,h1,h2,h3,h4,hA,hB,h1a,h2a,hmod,hC,A4,I9]
 rw[if_neg c1];by_cases c2:r=2
 .subst c2;rw[if_pos rfl];have hD:=bR (bs [115,107]) (C7 b);have hE:=bR (bs [112,107]) (Y4 (bs [115,107]) (false,true) [C7 b]);have hC:=PC (bs [97,101,110,99]) t (Y4 (bs [112,107]) (false,true) [Y4 (bs [115,107]) (false,true) [C7 b]]);generalize Y4 (bs [112,107]) (false,true) [Y4 (bs [115,107]) (false,true) [C7 b]]=z at *
  generalize Y4 (bs [115,107]) (false,true) [C7 b]=y at *
  generalize Y4 (bs [115,104,107]) (false,true) [C7 a,C7 b]=p at *
  generalize Y4 (bs [115,104,107]) (false,true) [C7 b,C7 a]=q at *
  generalize C7 a=ra at *
  generalize C7 b=rb at *
  refine WM R3 rfl (by simp[D8]) λfr hl ha=>?_;have h0:=ha 0;have h1:=ha 1;have h2:=ha 2;have h3:=ha 3;have h4:=ha 4;clear ha;simp[D8]at hl h0 h1 h2 h3 h4;simp[D8,hl,h0,h1,h2,h3,h4,hA,hB,h1a,h2a,hmod,hC,hD,hE,A4,I9]
 rw[if_neg c2];by_cases c3:r=3
 .subst c3;rw[if_pos rfl];have hD:=bR (bs [115,107]) (C7 a);have hC:=PC (bs [115,105,103,110]) t (Y4 (bs [115,107]) (false,true) [C7 a]);generalize Y4 (bs [115,107]) (false,true) [C7 a]=y at *
  generalize Y4 (bs [115,104,107]) (false,true) [C7 a,C7 b]=p at *
  generalize Y4 (bs [115,104,107]) (false,true) [C7 b,C7 a]=q at *
  generalize C7 a=ra at *
  generalize C7 b=rb at *
  refine WM R3 rfl (by simp[D8]) λfr hl ha=>?_;have h0:=ha 0;have h1:=ha 1;have h2:=ha 2;have h3:=ha 3;have h4:=ha 4;clear ha;simp[D8]at hl h0 h1 h2 h3 h4;simp[D8,hl,h0,h1,h2,h3,h4,hA,hB,h1a,h2a,hmod,hC,hD,A4,I9]
 rw[if_neg c3];by_cases c4:r=4
 .subst c4;rw[if_pos rfl];have hC:=PC (bs [101,110,99]) t (Y4 (bs [115,104,107]) (false,true) [C7 b,C7 a]);generalize Y4 (bs [115,104,107]) (false,true) [C7 a,C7 b]=p at *
  generalize Y4 (bs [115,104,107]) (false,true) [C7 b,C7 a]=q at *
  generalize C7 a=ra at *
  generalize C7 b=rb at *
  refine WM R3 rfl (by simp[D8]) λfr hl ha=>?_;have h0:=ha 0;have h1:=ha 1;have h2:=ha 2;have h3:=ha 3;have h4:=ha 4;clear ha;simp[D8]at hl h0 h1 h2 h3 h4;simp[D8,hl,h0,h1,h2,h3,h4,hA,hB,h1a,h2a,hmod,hC,A4,I9]
 rw[if_neg c4];by_cases c5:r=5
 .subst c5;rw[if_pos rfl];cases hlast:us.getLast? with
  |none =>
   have hz:us=[]:=List.getLast?_eq_none_iff.1 hlast;subst hz;generalize Y4 (bs [115,104,107]) (false,true) [C7 a,C7 b]=p at *
   generalize Y4 (bs [115,104,107]) (false,true) [C7 b,C7 a]=q at *
   generalize C7 a=ra at *
   generalize C7 b=rb at *
   refine WM R3 rfl (by simp[D8]) λfr hl ha=>?_;have h0:=ha 0;have h1:=ha 1;have h2:=ha 2;have h3:=ha 3;have h4:=ha 4;clear ha;simp[D8]at hl h0 h1 h2 h3 h4;simp[D8,hl,h0,h1,h2,h3,h4,hA,hB,h1a,h2a,hmod,A4,I9]
  |some u =>
   have M5:us≠[]:=by rintro rfl;simp at hlast
   have N7:=yL.2 M5;have hp:(0:Int)<(us.length:Int):=by omega
   have hw:IntKind.i64.wrap ((us.length:Int)-1)=((us.length-1:Nat):Int):=by
    rw[show ((us.length-1:Nat):Int)=(us.length:Int)-1 from by omega];exact M3 (by omega) (by omega)
   have hx:IU (us.map AV.str) (us.length-1)=some (.str u):=H8 (f:=AV.str) (by rw[←List.getLast?_eq_getElem?];exact hlast);have hU:=KQ u;have h3a:=PC (bs [112,97,105,114]) (C7 u) (Y4 (bs [115,104,107]) (false,true) [C7 b,C7 a]);have h4a:=bR (bs [104,97,115,104]) (Y4 (bs [112,97,105,114]) (false,true) [C7 u,Y4 (bs [115,104,107]) (false,true) [C7 b,C7 a]]);have hC:=PC (bs [112,97,105,114]) t (Y4 (bs [104,97,115,104]) (false,true) [Y4 (bs [112,97,105,114]) (false,true) [C7 u,Y4 (bs [115,104,107]) (false,true) [C7 b,C7 a]]]);simp only;generalize Y4 (bs [104,97,115,104]) (false,true) [Y4 (bs [112,97,105,114]) (false,true) [C7 u,Y4 (bs [115,104,107]) (false,true) [C7 b,C7 a]]]=z at *
   generalize Y4 (bs [112,97,105,114]) (false,true) [C7 u,Y4 (bs [115,104,107]) (false,true) [C7 b,C7 a]]=y at *
   generalize Y4 (bs [115,104,107]) (false,true) [C7 a,C7 b]=p at *
   generalize Y4 (bs [115,104,107]) (false,true) [C7 b,C7 a]=q at *
   generalize C7 a=ra at *
   generalize C7 b=rb at *
   generalize C7 u=ru at *
   refine WM R3 rfl (by simp[D8]) λfr hl ha=>?_;have h0:=ha 0;have h1:=ha 1;have h2:=ha 2;have h3:=ha 3;have h4:=ha 4;clear ha;simp[D8]at hl h0 h1 h2 h3 h4;simp[D8,hl,h0,h1,h2,h3,h4,hA,hB,h1a,h2a,hmod,M5,hw,hx,hU,h3a,h4a,hC,A4,I9]
 rw[if_neg c5];generalize Y4 (bs [115,104,107]) (false,true) [C7 a,C7 b]=p at *
 generalize Y4 (bs [115,104,107]) (false,true) [C7 b,C7 a]=q at *
 generalize C7 a=ra at *
 generalize C7 b=rb at *
 refine WM R3 rfl (by simp[D8]) λfr hl ha=>?_;have h0:=ha 0;have h1:=ha 1;have h2:=ha 2;have h3:=ha 3;have h4:=ha 4;clear ha;simp[D8]at hl h0 h1 h2 h3 h4;simp[D8,hl,h0,h1,h2,h3,h4,hA,hB,h1a,h2a,hmod,c1,c2,c3,c4,c5,A4,I9]
end Go.Abs.Q
namespace Go.Abs.Q
open Go.Proofs
attribute [local simp] D0 D1 fin I1 E7 K8 I3 N6 P4
structure Msg where
 frm:Int
 to:Int
 form:Int
 pm:Bool×Bool
 parts:List Int
structure Clm where
 kind:Int
 role:Int
 wth:Int
 data:Int
structure Drf where
 three:Bool
 fm:Bool×Bool
 fresh:List Int
 sm:Bool×Bool
 steps:List Msg
 gm:Bool×Bool
 goals:List Clm
def TT (m:Msg):AV:=.agg [.int .u8 m.frm,.int .u8 m.to,.int .u8 m.form,sl m.pm 1 (m.parts.map (.int .u8))]
def fA (c:Clm):AV:=.agg [.int .u8 c.kind,.int .u8 c.role,.int .u8 c.wth,.int .u8 c.data]
def Ol (d:Drf):List AV:=[.bool d.three,sl d.fm 1 (d.fresh.map (.int .u8)),sl d.sm 4 (d.steps.map TT),sl d.gm 4 (d.goals.map fA)]
def ct (d:Drf):AV:=.agg (Ol d)
def U8 (x:Int):Prop:=0<=x/\x<=255
structure DrOk (d:Drf):Prop where
 fresh:∀x∈d.fresh,U8 x
 freshL:d.fresh.length<=1099511627776
 steps:∀m∈d.steps,U8 m.frm/\U8 m.to/\U8 m.form/\(∀p∈m.parts,U8 p)/\m.parts.length<=1099511627776
 stepsL:d.steps.length<=1099511627776
 goals:∀c∈d.goals,U8 c.kind/\U8 c.role/\U8 c.wth/\U8 c.data
 goalsL:d.goals.length<=1099511627776
theorem Vt (b:Bool):(Ui b).length=2\/(Ui b).length=3:=by cases b<;>simp[Ui]
def fB (Ks:List (List ByteArray)) (Kc:List AV):List GE:=List.zipWith (λl v=>⟨true,1,l.map AV.str,v⟩) Ks Kc
theorem ax {Ks:List (List ByteArray)} {Kc:E6} {r:Nat} {l:List ByteArray} {v:AV} (h1:Ks[r]?=some l) (h2:Kc[r]?=some v):(fB Ks Kc)[r]?=some ⟨true,1,l.map AV.str,v⟩:=by
 unfold fB;rw[xy,h1,h2]
theorem kF (Ks:List (List ByteArray)) (Kc:E6) (r:Nat) (l:List ByteArray) (v:AV):(fB Ks Kc).set r ⟨true,1,l.map AV.str,v⟩=fB (Ks.set r l) (Kc.set r v):=by
 unfold fB;apply List.ext_getElem?;intro j;rw[xw,xy,xy,xw,xw,List.length_zipWith];by_cases h:r=j
 .subst h;by_cases h1:r<Ks.length<;>by_cases h2:r<Kc.length
  .rw[if_pos rfl,if_pos (by omega),if_pos rfl,if_pos h1,if_pos rfl,if_pos h2]
  .rw[if_pos rfl,if_neg (by omega),if_pos rfl,if_pos h1,if_pos rfl,if_neg h2]
  .rw[if_pos rfl,if_neg (by omega),if_pos rfl,if_neg h1]
  .rw[if_pos rfl,if_neg (by omega),if_pos rfl,if_neg h1]
 .rw[if_neg h,if_neg h,if_neg h]
theorem cu (l:E6) (i:Nat):(l.drop i).head?=l[i]?:=by rw[List.head?_drop]
theorem bM {l:E6} (h:2<=l.length):CJ l=false:=by
 match l,h with
 |x::y::l,_=>exact gM x y l
theorem rO:∀i:Nat,i<4->(bs [102]++(bs [48,49,50,51]).extract i (i+1))=Ys.getD i (bs []):=by
 intro i hi
 match i,hi with
 |0,_=>decide
 |1,_=>decide
 |2,_=>decide
 |3,_=>decide
theorem ZM (i:Nat) (hi:i<4):((bs [48,49,50,51]).extract i (i+1)).size<=4:=by
 match i,hi with
 |0,_=>decide
 |1,_=>decide
 |2,_=>decide
 |3,_=>decide
structure FrOk (rs:List ByteArray) (fs:List Fre) (Ks:List (List ByteArray)):Prop where
 names:fs.map Fre.name=Ys.take fs.length
 fre:∀f∈fs,f.role∈rs/\2<=f.sort/\f.sort<=4
 ks:∀(r:Nat) (l:List ByteArray) (u:ByteArray),Ks[r]?=some l->u∈l->∃f∈fs,rs[r]?=some f.role/\f.name=u
 len:∀l∈Ks,l.length<=fs.length
theorem fJ {h:AH} {l:List GE} (k:∀e∈l,∃b,e.v=sl (true,b) e.sz e.xs):GLs h l:=by
 refine⟨λe he=>?_,λi j a b _ hi hj=>?_⟩
 .obtain⟨b,hb⟩:=k e he;exact .inl (.inl ⟨b,hb⟩)
 .obtain⟨c,hc⟩:=k b (xz hj);rw[hc];exact RT _ _ _ _
theorem cC (h:AH) (n:Nat):GLs h (⟨true,3,([]:List Fre).map Gy,.vs true 0 []⟩::fB (yB n []) (yB n (.vs true 0 []))):=by
 refine fJ λe he=>?_;rcases yK.1 he with rfl|he
 .exact⟨false,rfl⟩
 .obtain⟨j,hj⟩:=yE he;unfold fB at hj;rw[xy,yC,yC]at hj;by_cases hjn:j<n
  .rw[if_pos hjn,if_pos hjn]at hj;cases hj;exact⟨false,rfl⟩
  .rw[if_neg hjn,if_neg hjn]at hj;cases hj
theorem jj (a b:Nat) (hb:0<b) (ha:a<=1000):D6 .quo (.int .i64 (a:Int)) (.int .i64 (b:Int))=some (.int .i64 ((a / b:Nat):Int)):=by
 simp only[D6];have h1:a / b<=a:=Nat.div_le_self _ _;rw[if_pos ⟨trivial,by omega⟩,←Int.ofNat_tdiv];generalize a / b=c at *
 rw[M3 (by omega) (by omega)]
theorem FrOk.next {rs:List ByteArray} {fs:List Fre} {Ks:List (List ByteArray)} (h:FrOk rs fs Ks) {r so:Nat} {ro nm:H7} {kq:List ByteArray} (hr:rs[r]?=some ro) (hk:Ks[r]?=some kq) (C2:fs.length<4) (hnm:Ys.getD fs.length (bs [])=nm) (hso:so<3) :
  FrOk rs (fs++[⟨ro,nm,2+(so:Int)⟩]) (Ks.set r (kq++[nm])):=by
 have hrl:=(xr.1 hk).1;refine⟨?_,λf hf=>?_,λr' l u h1 h2=>?_,λl hl=>?_⟩
 .have hl4:fs.length<Ys.length:=C2;rw[List.map_append,h.names,xo,xq,List.take_succ_eq_append_getElem hl4];congr 1;rw[←hnm,List.getD_eq_getElem?_getD,xk hl4];rfl
 .rcases yF.1 hf with hf|hf
  .exact h.fre f hf
  .rw[xu.1 hf];exact⟨xz hr,by simp only;omega,by simp only;omega⟩
 .by_cases hrr:r=r'
  .subst hrr;rw[xl hrl]at h1;cases h1;rcases yF.1 h2 with h2|h2
   .obtain⟨f,hf,e1,e2⟩:=h.ks r kq u hk h2;exact⟨f,yJ _ hf,e1,e2⟩
   .rw[xu.1 h2];exact⟨_,List.mem_append_right _ (xu.2 rfl),hr,rfl⟩
  .rw[xm hrr]at h1;obtain⟨f,hf,e1,e2⟩:=h.ks r' l u h1 h2;exact⟨f,yJ _ hf,e1,e2⟩
 .rw[xo,xq];rcases List.mem_or_eq_of_mem_set hl with hl|rfl
  .have:=h.len l hl;omega
  .have:=h.len kq (xz hk);rw[xo,xq];omega
theorem kV (d:Drf) (D:DrOk d) (L:List Int) (hL:L=d.fresh.take 4) (hL4:L.length<=4) (rs:List ByteArray) (hrs:rs=Ui d.three) (Z:E6) (mr:I8) (fr:Fr) (h:AH) (hBX:h.boxes=Ol d::Z::[.str (bs [80]),sl mr 1 (rs.map .str),.vs true 0 [],.vs true 0 [],.vs true 0 [],.vs true 0 []]::yB rs.length (.vs true 0 [])::[]) (hl:fr.length=265) (h1:A0 fr 1=.ptr 0 0) (h3:A0 fr 3=.ptr 2 0) (h4:A0 fr 4=.int .i64 rs.length) (h5:A0 fr 5=.bsl 3 1 0 rs.length) (h6:A0 fr 6=.int .i64 0) :
  C8 (lp (A1 (Q8 Q) (G7 J7) Bv) (fr,h)) λe D4 h'=>Kp Bv.wr fr D4/\e=.exit 0/\∃(vf:AV) (fs:List Fre) (Ks:List (List ByteArray)) (Kc:List AV) (B:List (List AV)),h'.boxes=Ol d::Z::[.str (bs [80]),sl mr 1 (rs.map .str),vf,.vs true 0 [],.vs true 0 [],.vs true 0 []]::Kc::B/\GLs h' (⟨true,3,fs.map Gy,vf⟩::fB Ks Kc)/\FrOk rs fs Ks/\fs.length<=4/\Ks.length=rs.length/\Kc.length=rs.length:=by
 refine C3 rfl fr (λn fr h'=>∃(i:Nat),i+n=L.length/\A0 fr 6=.int .i64 (i:Nat)/\(∃(vf:AV) (fs:List Fre) (Ks:List (List ByteArray)) (Kc:List AV) (B:List (List AV)),h'.boxes=Ol d::Z::[.str (bs [80]),sl mr 1 (rs.map .str),vf,.vs true 0 [],.vs true 0 [],.vs true 0 []]::Kc::B/\GLs h' (⟨true,3,fs.map Gy,vf⟩::fB Ks Kc)/\FrOk rs fs Ks/\fs.length=i/\Ks.length=rs.length/\Kc.length=rs.length)) ?_ L.length h ⟨0,by omega,h6,.vs true 0 [],[],yB rs.length [],yB rs.length (.vs true 0 []),[],hBX,cC _ _,⟨rfl,λf hf=>(nomatch hf),λr l u h1 h2=>(by rw[yC]at h1;split at h1<;>cases h1;cases h2),λl hl=>(by rw[(List.mem_replicate.1 hl).2];exact Nat.le_refl _)⟩,rfl,by simp,by simp⟩;rintro J Φ hJ hΦ n G9 H1 K ⟨i,hi,k6,hr⟩;have B4:=K.1.trans hl;have k1:=A5 K 1 h1;have k3:=A5 K 3 h3;have k4:=A5 K 4 h4;have k5:=A5 K 5 h5;clear K;by_cases A6:i<L.length
 .have V7:=E5 i (by omega);obtain⟨vf,fs,Ks,Kc,B,hB,hg,hF,hfl,CI,Cc⟩:=hr;obtain⟨bx,F⟩:=H1;simp only at hB;subst hB;subst hL;rw[xn]at A6 hi;have hil:i<d.fresh.length:=by omega
  have hi4:i<4:=by omega
  have hi4':(i:Int)<4:=by omega
  have hil':(i:Int)<(d.fresh.length:Int):=by omega
  have hi5:(i:Int)+1<=4:=by omega
  have db:Ol d=[.bool d.three,sl d.fm 1 (d.fresh.map (.int .u8)),sl d.sm 4 (d.steps.map TT),sl d.gm 4 (d.goals.map fA)]:=rfl;have hx:=H8 (f:=AV.int .u8) (xk hil);obtain⟨p1,p2⟩:=D.fresh _ (xt hil);generalize d.fresh[i]=p at *
  obtain⟨q,rfl⟩:=yG p1;have hr23:rs.length=2\/rs.length=3:=by rw[hrs];exact Vt _
  have hrl0:0<rs.length:=by omega
  have hq255:q<=255:=by omega
  have hwq:IntKind.i64.wrap (q:Int)=(q:Int):=M3 (by omega) (by omega);have hq:q % rs.length<rs.length:=yN _ hrl0;have htm:D6 .rem (.int .i64 (q:Int)) (.int .i64 (rs.length:Int))=some (.int .i64 ((q % rs.length:Nat):Int)):=Bj q rs.length hrl0;have htd:D6 .quo (.int .i64 (q:Int)) (.int .i64 (rs.length:Int))=some (.int .i64 ((q / rs.length:Nat):Int)):=jj q rs.length hrl0 (by omega);have htr:D6 .rem (.int .i64 ((q / rs.length:Nat):Int)) (.int .i64 3)=some (.int .i64 ((q / rs.length % 3:Nat):Int)):=Bj (q / rs.length) 3 (by omega);have hlt3:q / rs.length % 3<3:=yN _ (by omega);generalize q / rs.length % 3=so at *
  have hw3:IntKind.i64.wrap (2+(so:Int))=2+(so:Int):=M3 (by omega) (by omega);generalize q / rs.length=qd at *
  have hy:=H8 (f:=AV.str) (xk hq);have hrq:=xk hq;have hrm:=xt hq;have K4:=ZM i hi4;have hbin:D6 .add (.str (bs [102])) (.str ((bs [48,49,50,51]).extract i (i+1)))=some (.str (Ys.getD i (bs []))):=by
   rw[Wh (by have:(bs [102]).size=1:=rfl;omega),rO i hi4]
  have hs4:(bs [48,49,50,51]).size=4:=rfl;generalize hnm:Ys.getD i (bs [])=nm at *
  generalize rs[q % rs.length]=ro at *
  generalize q % rs.length=r at *
  have hKq:Ks[r]?=some (Ks[r]'(by omega)):=xk (by omega);have hCq:Kc[r]?=some (Kc[r]'(by omega)):=xk (by omega);have hKl:=hF.len _ (xt (l:=Ks) (n:=r) (by omega));generalize Ks[r]=kq at *
  generalize Kc[r]=vq at *
  obtain⟨vf',Fa,a1,a2⟩:=hg.app (c:=G7 J7) rfl (i:=0) (bytes:=40) (x:=sl (true,true) 3 [Gy ⟨ro,nm,2+(so:Int)⟩]) (ys:=[Gy ⟨ro,nm,2+(so:Int)⟩]) rfl (O5 _ _ _ _) (by simp only[G4,maxLen,xp,yD,yA];omega);have a3:=a2 [];rw[List.set_cons_zero]at a3;obtain⟨vq',Fb,b1,b2⟩:=a3.app (c:=G7 J7) rfl (i:=r+1) (bytes:=16) (x:=sl (true,true) 1 [.str nm]) (ys:=[.str nm]) (by rw[yH];exact ax hKq hCq) (O5 _ _ _ _) (by simp only[G4,maxLen,xp,yD,yA];omega);simp only[Gy]at a1 b1;have hMB:=bM (l:=Kc) (by omega);have hMB2:=bM (l:=Kc.set r vq') (by simp;omega);have hKd:(Kc.drop r).head?=some vq:=by rw[cu];exact hCq
  obtain⟨f1,f2⟩:=(a3.get (i:=0) rfl).cells;have b3:∀BB,GLs ⟨BB,Fb⟩ (⟨true,3,(fs++[(⟨ro,nm,2+(so:Int)⟩:Fre)]).map Gy,vf'⟩::fB (Ks.set r (kq++[nm])) (Kc.set r vq')):=λBB=>by
   have:=b2 BB;rw[List.set_cons_succ,show kq.map AV.str++[.str nm]=(kq++[nm]).map .str from by simp,kF,show fs.map Gy++[Gy ⟨ro,nm,2+(so:Int)⟩]=(fs++[(⟨ro,nm,2+(so:Int)⟩:Fre)]).map Gy from by simp]at this;exact this
  obtain⟨f3,f4⟩:=((b3 []).get (i:=r+1) (by rw[yH];exact ax (xl (by omega)) (xl (by omega)))).cells;simp only at f1 f2 f3 f4;have hsp:Kc.take r++vq'::Kc.drop (r+1)=Kc.set r vq':=by rw[List.set_eq_take_append_cons_drop,if_pos (by omega)]
  have hr1:r+1<=Kc.length:=by omega
  have hrlt:(r:Int)<(rs.length:Int):=by omega
  have hii:(i:Int)<=(i:Int)+1:=by omega
  simp[Bv,B4,k1,k3,k4,k5,k6,A6,V7,db,hii,hx,hi4',hil',hi5,hwq,hrlt,htm,htd,htr,hw3,hy,hbin,hs4,A4,D2,E8,a1,b1,hMB,hCq,hq,f1,f2,f3,f4,hsp,hr1];exact O4 hJ ⟨i+1,by rw[xn];omega,by simp[B4],vf',_,_,_,_,rfl,b3 _,hF.next hrq hKq (by omega) (by rw[hfl];exact hnm) hlt3,by simp[hfl],by simp[CI],by simp[Cc]⟩
 .obtain⟨vf,fs,Ks,Kc,B,hB,hg,hF,hfl,CI,Cc⟩:=hr;obtain⟨bx,F⟩:=H1;simp only at hB;subst hB;have db:Ol d=[.bool d.three,sl d.fm 1 (d.fresh.map (.int .u8)),sl d.sm 4 (d.steps.map TT),sl d.gm 4 (d.goals.map fA)]:=rfl;have hfr:=D.freshL;have hend:∀D4,Φ (.exit 0) D4 ⟨Ol d::Z::[.str (bs [80]),sl mr 1 (rs.map .str),vf,.vs true 0 [],.vs true 0 [],.vs true 0 []]::Kc::B,F⟩:=λD4=>hΦ _ _ _ ⟨rfl,vf,fs,Ks,Kc,B,rfl,hg,hF,by omega,CI,Cc⟩;by_cases hil:i<d.fresh.length
  .have hil':(i:Int)<(d.fresh.length:Int):=by omega
   have hi4':¬(i:Int)<4:=by
    rw[hL,xn]at A6;omega
   simp[Bv,B4,k1,k3,k4,k5,k6,A6,db,hil',hi4'];exact hend _
  .have hil':¬(i:Int)<(d.fresh.length:Int):=by omega
   simp[Bv,B4,k1,k3,k4,k5,k6,A6,db,hil'];exact hend _
end Go.Abs.Q
