/- A part of the proof. -/
import Derived.Test.YtjhgilockkmniaaGreatDoorSJ28
set_option linter.all false
open List renaming getElem?_set_ne->zf0z,getElem?_eq_getElem->zf1z,getElem?_set_self->zf2z,getElem?_eq_some_iff->zf3z,all_eq_true->zf5z,eq_nil_of_length_eq_zero->zf6z,getElem?_append_right->zf8z,drop_eq_getElem_cons->zf9z,append_eq_nil_iff->zg0z,length->zg1z,contains_eq_mem->zg2z,getElem?_of_mem->zg3z,length_append->zg4z,mem_map->zg5z,getElem?_map->zg6z,getElem?_set->zg7z,mem_filter->zg9z
open Option renaming map_some->zf4z
open Nat renaming le_refl->zf7z
open Bool renaming and_eq_true->zg8z
namespace Go.Abs.Q
open Go.Proofs
attribute [local simp] C8 D5 fin H6 G0 Cb BG Af Ae
theorem TZ {r n:Nar} {f:ByteArray->Int} (h:aM r=NX f n):r.name=n.name/\r.roles=n.roles/\r.fresh=n.fresh/\r.tags=n.tags/\r.steps.map Re=n.steps.map (LC f)/\r.goals.map Yq=n.goals.map (Md f):=by
 unfold aM NX at h;injection h with h1 h2 h3 h4 h5 h6 h7 h8 h9 h10 h11
 exact⟨h1,h3,h5,h7,h9,h11⟩
theorem Qm {n:Nar} (h:JV n=0):2<=n.roles.length/\n.roles.length<=4/\n.fresh.length<=12/\n.tags.length<=8/\1<=n.steps.length/\n.steps.length<=8/\n.goals.length<=8:=by
 unfold JV at h
 repeat' split at h
 all_goals omega
theorem ZL (m:U8) (l:List Ste) (na:Nar) (r:R7) (ro:Nat) (hro:JY (na.roles.map AV.str) ro=some (.str r)) (hrl:ro<na.roles.length) (C4:l.length<=1048576) (B1:C6) (fr:Fr) (h:AH) (hh:h.boxes=[(D2 na).cells,B1]) (h9:A2 fr 9=.vs true 0 []) (hl:fr.length=50) (h1:A2 fr 1=.int .i64 ro) (h2:A2 fr 2=.ptr 0 0) (h31:A2 fr 31=sl m 7 (l.map Q2)) (h32:A2 fr 32=.int .i64 l.length) (h33:A2 fr 33=.int .i64 0) :
  C3 (lp (A4 (N5 Q) (B9 P2) V8) (fr,h)) λe fr' h'=>Kp V8.wr fr fr'/\e=.exit 0/\EY 7 ((l.filter (VL r)).map Q2) (A2 fr' 9) h':=by
 refine C1 rfl fr (λn fr h'=>∃(i:Nat),i+n=l.length/\A2 fr 33=.int .i64 (i:Nat)/\(∃(B:List (List AV)) (v:AV) (A:List Ste),h'.boxes=(D2 na).cells::B1::B/\A2 fr 9=v/\EY 7 (A.map Q2) v h'/\A=(l.take i).filter (VL r))) ?_ l.length h ⟨0,by omega,h33,[],_,[],hh,h9,Fk _ _,by simp⟩;rintro J Φ hJ hΦ n E4 H1 K ⟨i,hi,k33,hr⟩;have A6:=K.1.trans hl;have k1:=B8 K 1 h1;have k2:=B8 K 2 h2;have k31:=B8 K 31 h31;have k32:=B8 K 32 h32;clear K;by_cases A9:i<l.length
 .have j0:=C9 i (by omega);obtain⟨B,v,A,hB,k9,hg,hA⟩:=hr;obtain⟨bx,fams⟩:=H1;simp only at hB;subst hB;have hx:=E5 (f:=Q2) (zf1z A9);have hft:=Tc (VL r) l A9;have hfl:=NN (VL r) l i;rw[←hA]at hft hfl;obtain⟨fl,hfl'⟩:∃fl,fl=(l.take (i+1)).filter (VL r):=⟨_,rfl⟩;rw[←hfl']at hft;generalize l[i]=s at *
  have hT:=PE s r;obtain⟨v',h',ha,Ch,JU⟩:=Eb (c:=B9 P2) (bytes:=96) (x:=Q2 s) (h:=⟨(D2 na).cells::B1::(B++[(Q2 s).cells]),fams⟩) (Cd hg rfl) rfl (true,true) (by simp;omega) (by simp;omega);have e6:A.map Q2++[Q2 s]=(A++[s]).map Q2:=by simp
  rw[e6]at Ch;obtain⟨bx',fams'⟩:=h';simp only at JU;subst JU;clear hA hfl e6;have e7:=Lr s;have e8:=D4 na;rw[e7,e8]at ha;cases hb:VL r s with
  |true =>
   have hft2:fl=A++[s]:=by rw[hft];simp[hb]
   clear hft;rw[hb]at hT;simp[V8,A6,k1,k2,k31,k32,k33,A9,j0,k9,hx,hro,hT,B5,ha,e8];exact H0 hJ ⟨i+1,by omega,by simp[A6],_,_,fl,rfl,rfl,by simp[A6];rw[hft2];exact Cd Ch rfl,hfl'⟩
  |false =>
   have hft2:fl=A:=by rw[hft];simp[hb]
   clear hft;rw[hb]at hT;simp[V8,A6,k1,k2,k31,k32,k33,A9,j0,k9,hx,hro,hT,e8];exact H0 hJ ⟨i+1,by omega,by simp[A6],_,_,fl,rfl,rfl,by simp[A6,k9];rw[hft2];exact Cd hg rfl,hfl'⟩
 .obtain⟨B,v,A,hB,k9,hg,hA⟩:=hr;rw[List.take_of_length_le (by omega)]at hA;simp[V8,A6,k1,k2,k31,k32,k33,A9];exact hΦ _ _ _ ⟨rfl,by simp[k9];rw[←hA];exact hg⟩
def Jw (n:Nar) (role:Int):Int:=if (Bv n).2≠0 then (Bv n).2 else if role<0\/(n.roles.length:Int)<=role then 7 else 0
noncomputable def Gk (n:Nar) (role:Int):List Ste:=if Jw n role=0 then ((n.steps.map (LC (W6 (B4 n) (J7 n)))).filter (VL (n.roles.getD role.toNat (bs []))))else []
theorem Yr {l l':List Ste} (r:R7) (h:l.map Re=l'):(l.filter (VL r)).map Re=l'.filter (VL r):=by
 subst h;rw[List.filter_map];congr 1
theorem NB (n:Nar) (F:Fine n) (S:Lens n) (role:Int):∃(m:U8) (l:List Ste),pc Q P2 [D2 n,.int .i64 role]=some (.tup [sl m 7 (l.map Q2),.int .i64 (Jw n role)])/\l.map Re=Gk n role:=by
 suffices h:∃v,pc Q P2 [D2 n,.int .i64 role]=some v/\∃(m:Bool×Bool) (l:List Ste),v=.tup [sl m 7 (l.map Q2),.int .i64 (Jw n role)]/\l.map Re=Gk n role by
  obtain⟨v,h1,m,l,rfl,h2⟩:=h;exact⟨m,l,h1,h2⟩
 obtain⟨r,hR,hE⟩:=Wk n F S;have nb:=D4 n;have rb:=D4 r;by_cases hz:(Bv n).2=0
 .have he:=(TZ (hE hz)).2.2.2.2.1;have h0:=(Ih hz).1;rw[h0]at hR;by_cases hneg:role<0
  .have hP:Jw n role=7:=by unfold Jw;simp[hz,hneg]
   have hL:Gk n role=[]:=by unfold Gk;simp[hP]
   rw[hP,hL];refine Ud H7 λΨ hΨ fr hl h0 h1=>?_;simp[H7]at hl h0 h1;simp[H7,hl,h0,h1,nb,rb,hR,hneg];exact hΨ _ ⟨(true,false),[],by simp[sl],rfl⟩
  .obtain⟨k,rfl⟩:∃k:Nat,role=k:=⟨role.toNat,by omega⟩;by_cases hk:k<n.roles.length
   .have hP:Jw n k=0:=by unfold Jw;rw[if_neg (by simp[hz]),if_neg (by omega)]
    have hro:JY (n.roles.map AV.str) k=some (.str n.roles[k]):=E5 (zf1z hk);have hL:Gk n k=(n.steps.map (LC (W6 (B4 n) (J7 n)))).filter (VL n.roles[k]):=by
     unfold Gk;rw[if_pos hP,Int.toNat_natCast,List.getD_eq_getElem?_getD,zf1z hk];rfl
    have hf:=Yr n.roles[k] he;rw[←hL]at hf;rw[hP];have C4:r.steps.length<=1048576:=by have:=congrArg zg1z he;have:=S.steps;simp at *;omega
    clear hL;have hk2:¬n.roles.length<=k:=by omega
    generalize n.roles[k]=me at *
    refine Ud H7 λΨ hΨ fr hl h0 h1=>?_;simp[H7]at hl h0 h1;simp[H7,hl,h0,h1,nb,rb,hR,hk2,hneg];refine C3.mono (ZL r.sm r.steps n me k hro hk C4 (D2 r).cells _ _ ?_ ?_ ?_ ?_ ?_ ?_ ?_ ?_) ?_<;>first|(simp[hl,h1,nb,rb];done)|skip
    rintro e E4 ⟨bx,F1⟩ ⟨K,rfl,hg⟩;have M9:E4.length=50:=K.1.trans (by simp[hl]);clear K;obtain⟨m',hm'⟩:=Nc hg;simp[M9,hm'];exact hΨ _ ⟨m',_,rfl,hf⟩
   .have hP:Jw n k=7:=by unfold Jw;rw[if_neg (by simp[hz]),if_pos (by omega)]
    have hL:Gk n k=[]:=by unfold Gk;simp[hP]
    rw[hP,hL];refine Ud H7 λΨ hΨ fr hl h0 h1=>?_;simp[H7]at hl h0 h1;have hk2:n.roles.length<=k:=by omega
    simp[H7,hl,h0,h1,nb,rb,hR,hk2,hneg];exact hΨ _ ⟨(true,false),[],by simp[sl],rfl⟩
 .have hP:Jw n role=(Bv n).2:=by unfold Jw;rw[if_pos hz]
  have hL:Gk n role=[]:=by unfold Gk;rw[if_neg (by rw[hP];exact hz)]
  rw[hP,hL];refine Ud H7 λΨ hΨ fr hl h0 h1=>?_;simp[H7]at hl h0 h1;simp[H7,hl,h0,h1,nb,rb,hR,hz];exact hΨ _ ⟨(true,false),[],by simp[sl],rfl⟩
end Go.Abs.Q
namespace Go.Abs
def Nd (wr:Bool) (sz:Nat) (xs:List AV) (v:AV) (h:AH):Prop:=(∃b,v=sl (true,b) sz xs)\/(xs≠[]/\∃k,v=.sl k xs.length 0 xs.length/\h.fams[k]?=some ⟨xs,sz,wr⟩)
theorem fD (wr:Bool) (sz:Nat) (h:AH):Nd wr sz [] (.vs true 0 []) h:=.inl ⟨false,by simp[sl]⟩
theorem LJ {wr:Bool} {sz:Nat} {xs:C6} {v:AV} {h h':AH} (hg:Nd wr sz xs v h) (e:h'.fams=h.fams):Nd wr sz xs v h':=by
 rcases hg with hg|⟨h1,k,h2,h3⟩
 .exact .inl hg
 .exact .inr ⟨h1,k,h2,by rw[e];exact h3⟩
theorem XO {wr:Bool} {sz:Nat} {xs:C6} {v:AV} {h:AH} (hg:Nd wr sz xs v h):∃m:Bool×Bool,∀(B:List (List AV)) (am:Bool),(am||!wr)=true->frz ⟨B,h.fams⟩ am v=some (sl m sz xs)/\AS ⟨B,h.fams⟩ am v=some (sl m sz xs):=by
 rcases hg with ⟨b,rfl⟩|⟨T6,k,rfl,hk⟩
 .exact⟨(true,b),λB am _=>⟨rfl,rfl⟩⟩
 .have he:xs.isEmpty=false:=by cases xs with
   |nil=>exact absurd rfl T6
   |cons a l=>rfl
  refine⟨(false,true),λB am ha=>?_⟩;have:AS ⟨B,h.fams⟩ am (.sl k xs.length 0 xs.length)=some (sl (false,true) sz xs):=by
   simp only[AS,hk];rw[if_pos ⟨trivial,by omega,ha⟩];simp[sl,he]
  exact⟨this,this⟩
theorem fF {wr:Bool} {sz:Nat} {xs:C6} {v:AV} {h:AH} (hg:Nd wr sz xs v h):∃m:Bool×Bool,∀B:List (List AV),Cg ⟨B,h.fams⟩ v=some (sl m sz xs):=by
 obtain⟨m,hm⟩:=XO hg;refine⟨m,λB=>?_⟩;have:=(hm B true rfl).1;rcases hg with ⟨b,rfl⟩|⟨_,k,rfl,_⟩<;>exact this
theorem az {sz:Nat} {xs:C6} {v:AV} {h:AH} (hg:Nd false sz xs v h) (B:List (List AV)):tame ⟨B,h.fams⟩ v=true:=by
 rcases hg with ⟨b,rfl⟩|⟨T6,k,rfl,hk⟩
 .rfl
 .show (match h.fams[k]? with|some f=>!f.wr|none=>false)=true
  rw[hk];rfl
theorem QG {wr:Bool} {sz:Nat} {xs:C6} {v:AV} {h:AH} (hg:Nd wr sz xs v h):v.isTup=false/\v.cells=[v]/\BA [v]=false/\Jt v=true:=by
 rcases hg with ⟨b,rfl⟩|⟨_,k,rfl,_⟩<;>exact⟨rfl,rfl,rfl,rfl⟩
theorem fC {wr:Bool} {sz:Nat} {xs:C6} {v:AV} {h:AH} (hg:Nd wr sz xs v h) (h':AH):Ps h' v=some (.int .i64 xs.length,h'):=by
 rcases hg with ⟨b,rfl⟩|⟨_,k,rfl,_⟩<;>rfl
theorem YQ {wr:Bool} {sz:Nat} {xs:C6} {v:AV} {h:AH} (hg:Nd wr sz xs v h) (B:List (List AV)):elems ⟨B,h.fams⟩ sz v=some xs:=by
 rcases hg with ⟨b,rfl⟩|⟨T6,k,rfl,hk⟩
 .exact Ad _ _ _ _
 .simp[elems,hk]
def Sx (v w:AV):Prop:=∀j n o l n' o' l',v=.sl j n o l->w=.sl j n' o' l'->False
theorem Sx.symm {v w:AV} (h:Sx v w):Sx w v:=λj n o l n' o' l' e e'=>h j n' o' l' n o l e' e
theorem fE {c:Ctx} {sz bytes:Nat} {xs ys:C6} {v x:AV} {h:AH} (hg:Nd c.mutApp sz xs v h) (hx:elems h sz x=some ys) (hb:(xs.length+ys.length)*bytes<=I0/\xs.length+ys.length<=maxLen) :
  ∃v' F',(∀BB,N7 c ⟨BB,h.fams⟩ sz bytes v x=some (v',⟨BB,F'⟩))/\(∀BB,Nd c.mutApp sz (xs++ys) v' ⟨BB,F'⟩)/\∀(wr:Bool) (s:Nat) (ws:List AV) (w:AV),Nd wr s ws w h->Sx v w->(∀BB,Nd wr s ws w ⟨BB,F'⟩)/\Sx v' w:=by
 have hx':∀BB,elems ⟨BB,h.fams⟩ sz x=some ys:=λBB=>(Io rfl sz x).trans hx;rcases hg with ⟨b,rfl⟩|⟨T6,k,rfl,hk⟩
 .by_cases hy:ys.length=0
  .have:ys=[]:=zf6z hy;subst this;refine⟨sl (true,b) sz xs,h.fams,λBB=>?_,λBB=>.inl ⟨b,by simp⟩,λwr s ws w hw _=>⟨λBB=>LJ hw rfl,λj n o l n' o' l' e=>nomatch e⟩⟩;simp only[sl,N7,U4,hx' BB];rw[if_pos hy]
  .have hc:((if (xs.isEmpty&&!b)=true then 0 else sz)=sz\/xs.length=0)/\(xs.length+ys.length)*bytes<=I0/\xs.length+ys.length<=maxLen:=by
    refine⟨?_,hb⟩;cases xs with
    |nil=>exact .inr rfl
    |cons a l=>exact .inl rfl
   refine⟨.sl h.fams.length (xs.length+ys.length) 0 (xs.length+ys.length),h.fams++[⟨xs++ys,sz,c.mutApp⟩],λBB=>?_,λBB=>.inr ⟨by intro e;rw[zg0z]at e;rw[e.2]at hy;exact hy rfl,h.fams.length,by rw[zg4z],by simp⟩,λwr s ws w hw _=>?_⟩
   .simp only[sl,N7,U4,hx' BB];rw[if_neg hy,if_pos hc]
   rcases hw with ⟨b',rfl⟩|⟨hne',k',rfl,Bz⟩
   .exact⟨λBB=>.inl ⟨b',rfl⟩,λj n o l n' o' l' _ e=>nomatch e⟩
   .have A9:=(zf3z.1 Bz).1;refine⟨λBB=>.inr ⟨hne',k',rfl,by simp only;rw[List.getElem?_append_left A9];exact Bz⟩,λj n o l n' o' l' e e'=>?_⟩;cases e;cases e';omega
 .have nw:=(zf3z.1 hk).1;refine⟨.sl k (xs.length+ys.length) 0 (xs.length+ys.length),h.fams.set k ⟨xs++ys,sz,c.mutApp⟩,λBB=>?_,λBB=>.inr ⟨by intro e;rw[zg0z]at e;exact T6 e.1,k,by rw[zg4z],by simp[nw]⟩,λwr s ws w hw hap=>?_⟩
  .simp only[N7,U4,hx' BB,hk];rw[if_pos ⟨trivial,trivial,by omega,hb.1,hb.2⟩]
  rcases hw with ⟨b',rfl⟩|⟨hne',k',rfl,Bz⟩
  .exact⟨λBB=>.inl ⟨b',rfl⟩,λj n o l n' o' l' _ e=>nomatch e⟩
  .have JX:k≠k':=λe=>hap k _ _ _ _ _ _ rfl (by rw[e]);refine⟨λBB=>.inr ⟨hne',k',rfl,by simp only;rw[zf0z JX];exact Bz⟩,λj n o l n' o' l' e e'=>?_⟩;cases e;cases e';exact JX rfl
structure GE where
 gr:Bool
 sz:Nat
 xs:List AV
 v:AV
def GE.Ok (h:AH) (e:GE):Prop:=Nd false e.sz e.xs e.v h\/(e.gr=false/\∃m,e.v=sl m e.sz e.xs)
theorem GE.Ok.lsa {h:AH} {e:GE} (k:e.Ok h) (hg:e.gr=true):Nd false e.sz e.xs e.v h:=by
 rcases k with k|⟨k,_⟩
 .exact k
 .rw[hg]at k;cases k
structure GLs (h:AH) (l:List GE):Prop where
 ok:∀e∈l,e.Ok h
 ap:∀(i j:Nat) (a b:GE),i≠j->l[i]?=some a->l[j]?=some b->Sx a.v b.v
theorem GE.Ok.fams {h h':AH} {e:GE} (k:e.Ok h) (he:h'.fams=h.fams):e.Ok h':=by
 rcases k with k|k
 .exact .inl (LJ k he)
 .exact .inr k
theorem GLs.fams {h h':AH} {l:List GE} (hg:GLs h l) (e:h'.fams=h.fams):GLs h' l:=⟨λx hx=>(hg.ok x hx).fams e,hg.ap⟩
theorem GLs.get {h:AH} {l:List GE} (hg:GLs h l) {i:Nat} {e:GE} (hi:l[i]?=some e):e.Ok h:=hg.ok _ (List.mem_of_getElem? hi)
theorem GLs.app {c:Ctx} (hc:c.mutApp=false) {h:AH} {l:List GE} (hg:GLs h l) {i sz bytes:Nat} {xs ys:C6} {v x:AV} (hi:l[i]?=some ⟨true,sz,xs,v⟩) (hx:elems h sz x=some ys) (hb:(xs.length+ys.length)*bytes<=I0/\xs.length+ys.length<=maxLen) :
  ∃v' F',(∀BB,N7 c ⟨BB,h.fams⟩ sz bytes v x=some (v',⟨BB,F'⟩))/\∀BB,GLs ⟨BB,F'⟩ (l.set i ⟨true,sz,xs++ys,v'⟩):=by
 have h1:Nd c.mutApp sz xs v h:=by rw[hc];exact(hg.get hi).lsa rfl
 obtain⟨v',F',a1,a2,a3⟩:=fE h1 hx hb;rw[hc]at a2;have hil:=(zf3z.1 hi).1;have other:∀(j:Nat) (b:GE),j≠i->l[j]?=some b->(∀BB,b.Ok ⟨BB,F'⟩)/\Sx v' b.v:=λj b hj hb'=>by
  have hap:=hg.ap i j _ b (Ne.symm hj) hi hb';rcases hg.get hb' with k|⟨k1,m,k2⟩
  .obtain⟨q1,q2⟩:=a3 _ _ _ _ k hap;exact⟨λBB=>.inl (q1 BB),q2⟩
  .exact⟨λBB=>.inr ⟨k1,m,k2⟩,λ_ _ _ _ _ _ _ _ e=>by rw[k2]at e;cases e⟩
 refine⟨v',F',a1,λBB=>⟨λe he=>?_,λp q a b hpq hp hq=>?_⟩⟩
 .obtain⟨j,hj⟩:=zg3z he;by_cases hij:i=j
  .subst hij;rw[zf2z hil]at hj;cases hj;exact .inl (a2 BB)
  .rw[zf0z hij]at hj;exact(other j e (Ne.symm hij) hj).1 BB
 .by_cases hip:i=p
  .subst hip;rw[zf2z hil]at hp;cases hp;rw[zf0z hpq]at hq;exact(other q b (Ne.symm hpq) hq).2
  .rw[zf0z hip]at hp;by_cases hiq:i=q
   .subst hiq;rw[zf2z hil]at hq;cases hq;exact(other p a (Ne.symm hip) hp).2.symm
   .rw[zf0z hiq]at hq;exact hg.ap p q a b hpq hp hq
theorem RK (v:AV) (m:U8) (sz:Nat) (xs:C6):Sx v (sl m sz xs):=λ_ _ _ _ _ _ _ _ e=>nomatch e
theorem GLs.lit {h:AH} {l:List GE} (hg:GLs h l) (i sz:Nat) (m:U8) (xs:C6):GLs h (l.set i ⟨false,sz,xs,sl m sz xs⟩):=by
 refine⟨λe he=>?_,λp q a b hpq hp hq=>?_⟩
 .obtain⟨j,hj⟩:=zg3z he;rw[zg7z]at hj;split at hj
  .split at hj
   .cases hj;exact .inr ⟨rfl,m,rfl⟩
   .cases hj
  .exact hg.get hj
 .rw[zg7z]at hp hq;split at hp
  .split at hp
   .cases hp;exact(RK _ _ _ _).symm
   .cases hp
  .split at hq
   .split at hq
    .cases hq;exact RK _ _ _ _
    .cases hq
   .exact hg.ap p q a b hpq hp hq
theorem GLs.cons {h:AH} {l:List GE} (hg:GLs h l) (sz:Nat) (b:Bool) (xs:C6):GLs h (⟨true,sz,xs,sl (true,b) sz xs⟩::l):=by
 refine⟨λe he=>?_,λp q a b hpq hp hq=>?_⟩
 .rcases List.mem_cons.1 he with rfl|he
  .exact .inl (.inl ⟨b,rfl⟩)
  .exact hg.ok e he
 .cases p with
  |zero=>cases hp;exact(RK _ _ _ _).symm
  |succ p =>
   cases q with
   |zero=>cases hq;exact RK _ _ _ _
   |succ q=>exact hg.ap p q a b (by omega) hp hq
theorem GLs.tail {h:AH} {e:GE} {l:List GE} (hg:GLs h (e::l)):GLs h l:=⟨λx hx=>hg.ok x (List.mem_cons_of_mem _ hx),λi j a b hij hi hj=>hg.ap (i+1) (j+1) a b (by omega) hi hj⟩
theorem GLs.nil (h:AH):GLs h []:=⟨(λ_ he=>nomatch he),λi j a b _ hi=>by simp at hi⟩
theorem GE.Ok.frz {h:AH} {e:GE} (k:e.Ok h):∃m:Bool×Bool,∀(B:List (List AV)) (am:Bool),Go.Abs.frz ⟨B,h.fams⟩ am e.v=some (sl m e.sz e.xs)/\AS ⟨B,h.fams⟩ am e.v=some (sl m e.sz e.xs):=by
 rcases k with k|⟨_,m,k⟩
 .obtain⟨m,hm⟩:=XO k;exact⟨m,λB am=>hm B am (by cases am<;>rfl)⟩
 .exact⟨m,λB am=>by rw[k];exact⟨rfl,rfl⟩⟩
theorem GE.Ok.tame {h:AH} {e:GE} (k:e.Ok h) (B:List (List AV)):Go.Abs.tame ⟨B,h.fams⟩ e.v=true:=by
 rcases k with k|⟨_,m,k⟩
 .exact az k B
 .rw[k];rfl
theorem GE.Ok.cells {h:AH} {e:GE} (k:e.Ok h):e.v.isTup=false/\e.v.cells=[e.v]:=by
 rcases k with k|⟨_,m,k⟩
 .exact⟨(QG k).1,(QG k).2.1⟩
 .rw[k];exact⟨rfl,rfl⟩
theorem GE.Ok.len {h:AH} {e:GE} (k:e.Ok h) (h':AH):Ps h' e.v=some (.int .i64 e.xs.length,h'):=by
 rcases k with k|⟨_,m,k⟩
 .exact fC k h'
 .rw[k];rfl
theorem GE.Ok.elems {h:AH} {e:GE} (k:e.Ok h) (B:List (List AV)):Go.Abs.elems ⟨B,h.fams⟩ e.sz e.v=some e.xs:=by
 rcases k with k|⟨_,m,k⟩
 .exact YQ k B
 .rw[k];exact Ad _ _ _ _
theorem GLs.one {h:AH} {sz:Nat} {xs:C6} {v:AV} (hg:Nd false sz xs v h):GLs h [⟨true,sz,xs,v⟩]:=by
 refine⟨λe he=>?_,λi j a b hij hi hj=>?_⟩
 .rw[List.mem_singleton]at he;subst he;exact .inl hg
 .exfalso
  have h1:=(zf3z.1 hi).1;have h2:=(zf3z.1 hj).1;simp at h1 h2;omega
end Go.Abs
namespace Go.Abs.Q
open Go.Proofs
attribute [local simp] C8 D5 fin H6 G0 Cb BG Af Ae
def S7 (l:List Int):List AV:=l.map (AV.int .i64)
def EH (L:List (List Int)) (xs:List AV):Prop:=∃ms:List (Bool×Bool),ms.length=L.length/\xs=List.zipWith (λm l=>sl m 1 (S7 l)) ms L
theorem EH.nil:EH [] []:=⟨[],rfl,rfl⟩
theorem EH.snoc {L:List (List Int)} {xs:C6} (h:EH L xs) (m:U8) (l:List Int):EH (L++[l]) (xs++[sl m 1 (S7 l)]):=by
 obtain⟨ms,h1,rfl⟩:=h;exact⟨ms++[m],by simp[h1],by rw[List.zipWith_append h1];rfl⟩
theorem EH.get {L:List (List Int)} {xs:C6} (h:EH L xs) {i:Nat} (hi:i<L.length):∃m,xs[i]?=some (sl m 1 (S7 L[i])):=by
 obtain⟨ms,h1,rfl⟩:=h;exact⟨ms[i],by rw[List.getElem?_zipWith,zf1z (by omega),zf1z hi]⟩
theorem EH.len {L:List (List Int)} {xs:C6} (h:EH L xs):xs.length=L.length:=by
 obtain⟨ms,h1,rfl⟩:=h;simp[h1]
end Go.Abs.Q
namespace Go.Abs
theorem YN {O:Orc} {c:Ctx} {bs:List Nat} {ops:List RO} {fr fr':Fr} {h h':AH} {fs:List Foot} {Ψ:Ex->Fr->AH->Prop} (he:J1 O c ops fr (h.holes (VY ops))=some (fs,fr',h')) (hp:Z1 bs ops fs=true) (hΨ:Ψ .normal fr' h') :
  C3 (A4 O c (.regd bs ops) (fr,h)) Ψ:=by
 have e:A4 O c (.regd bs ops) (fr,h)=some (.normal,(fr',h')):=by
  simp only[A4,he,hp,if_true]
 rw[e];simpa using hΨ
structure FLe (f g:Foot):Prop where
 rb:f.rb=g.rb
 wb:∀x∈f.wb,x∈g.wb
 rf:f.rf=g.rf
 wf:∀x∈f.wf,x∈g.wf
theorem Gp {r:Option (List (Option Nat))} {w w':List (Option Nat)} (h:x8 r w'=true) (k:∀x∈w,x∈w'):x8 r w=true:=by
 cases r with
 |none =>
  cases w with
  |nil=>rfl
  |cons x w =>
   have:=k x List.mem_cons_self;cases w' with
   |nil=>cases this
   |cons _ _=>exact absurd h (by simp[x8])
 |some r =>
  simp only[x8,zf5z]at h ⊢;exact λx hx=>h x (k x hx)
theorem Nx {a b w:List (Option Nat)} (h:x8 (some b) w=true) (k:∀x∈a,x∈b):x8 (some a) w=true:=by
 simp only[x8,zf5z,Bool.not_eq_true',zg2z,decide_eq_false_iff_not]at h ⊢;exact λx hx hm=>h x hx (k x hm)
theorem Po {f g f' g':Foot} (h:FLe f g) (h':FLe f' g') (k:i3 g g'=true):i3 f f'=true:=by
 simp only[i3,zg8z]at k ⊢;obtain⟨⟨⟨⟨⟨k1,k2⟩,k3⟩,k4⟩,k5⟩,k6⟩:=k;refine⟨⟨⟨⟨⟨?_,?_⟩,?_⟩,?_⟩,?_⟩,?_⟩
 .rw[h.rb];exact Gp k1 h'.wb
 .rw[h'.rb];exact Gp k2 h.wb
 .exact Nx (Gp k3 h'.wb) h.wb
 .rw[h.rf];exact Gp k4 h'.wf
 .rw[h'.rf];exact Gp k5 h.wf
 .exact Nx (Gp k6 h'.wf) h.wf
def YO:List Foot->List Foot->Prop
 | [],[]=>True
 |f::fs,g::gs=>FLe f g/\YO fs gs
 |_,_=>False
theorem YO.get:∀{fs gs:List Foot},YO fs gs->∀{i:Nat} {g:Foot},gs[i]?=some g->∃f,fs[i]?=some f/\FLe f g
 | [],[],_,i,g,h=>by simp at h
 |f::fs,g'::gs,hl,0,g,h=>by
  simp only[List.getElem?_cons_zero,Option.some.injEq]at h;subst h;exact⟨f,rfl,hl.1⟩
 |f::fs,g'::gs,hl,i+1,g,h=>by
  simpa using YO.get hl.2 (i:=i) (by simpa using h)
theorem UT {bs:List Nat} {C5:List RO} {fs gs:List Foot} (hl:YO fs gs) (h:Z1 bs C5 gs=true):Z1 bs C5 fs=true:=by
 simp only[Z1,zf5z]at h ⊢;intro j hj i hi;have:=h j hj i hi;split at this
 .rename_i oi oj gi gj e1 e2 e3 e4;obtain⟨fi,h3,li⟩:=hl.get e3;obtain⟨fj,h4,lj⟩:=hl.get e4;rw[e1,e2,h3,h4];simp only[KR,zg8z,Bool.or_eq_true]at this ⊢;refine⟨?_,this.2⟩;rcases this.1 with h5|⟨h5,h6⟩
  .exact .inl h5
  .exact .inr ⟨h5,Po li lj h6⟩
 .cases this
theorem Yi (a:List (List AV)):Kr a a=[]:=by
 have:∀i:Nat,QT a[i]? a[i]?=true:=λi=>by
  cases a[i]? with
  |none=>rfl
  |some x=>exact M6 x
 simp[Kr,this]
theorem Vt (x:Option Fam):Ml x x=true:=by
 cases x with
 |none=>rfl
 |some x=>simp[Ml,M6]
theorem QR (a:List Fam):Pn a a=[]:=by
 simp[Pn,Vt]
theorem bi (a:List (List AV)) (k:Nat) (c:C6):∀x∈Kr a (a.set k c),x∈[some k]:=by
 intro x hx;simp only[Kr,List.length_set,if_true,List.nil_append,zg5z,zg9z]at hx;obtain⟨i,⟨_,h2⟩,rfl⟩:=hx;by_cases hik:k=i
 .subst hik;simp
 .rw[zf0z hik]at h2;have:QT a[i]? a[i]?=true:=by
   cases a[i]? with
   |none=>rfl
   |some x=>exact M6 x
  rw[this]at h2;cases h2
def Db (O:Orc) (c:Ctx) (ops:List RO) (fr:Fr) (h:AH) (gs:List Foot) (fr':Fr) (h':AH):Prop:=∃fs,J1 O c ops fr h=some (fs,fr',h')/\YO fs gs
section
variable {O:Orc} {c:Ctx} {fr fr':Fr} {h h':AH} {gs:List Foot}
theorem Db.nil:Db O c [] fr h [] fr h:=⟨[],rfl,trivial⟩
theorem Db.r {d:Option Nat} {op:ROp} {rest:List RO} {v:AV} {rb rf:List (Option Nat)} (he:A3 O c op fr h=some (v,h)) (h1:FL c h.boxes.length (get fr) op=some rb) (h2:DY c (get fr) op=some rf) (hr:Db O c rest (put fr d v) h gs fr' h') :
  Db O c (⟨d,op,none⟩::rest) fr h (⟨some rb,[],some rf,[]⟩::gs) fr' h':=by
 obtain⟨fs,e,l⟩:=hr;refine⟨Am c ⟨d,op,none⟩ fr h h::fs,?_,?_,l⟩
 .simp only[J1,N3,he,e,zf4z]
 .refine⟨h1,?_,h2,?_⟩
  .show ∀x∈Kr h.boxes h.boxes,x∈[];rw[Yi];exact λ_ h=>h
  .show ∀x∈Pn h.fams h.fams,x∈[];rw[QR];exact λ_ h=>h
theorem Db.w {d:Option Nat} {op:ROp} {rest:List RO} {v:AV} {k:Nat} {cs:C6} {rb rf:List (Option Nat)} (he:A3 O c op fr h=some (v,⟨h.boxes.set k cs,h.fams⟩)) (h1:FL c h.boxes.length (get fr) op=some rb) (h2:DY c (get fr) op=some rf) (hr:Db O c rest (put fr d v) ⟨h.boxes.set k cs,h.fams⟩ gs fr' h') :
  Db O c (⟨d,op,none⟩::rest) fr h (⟨some rb,[some k],some rf,[]⟩::gs) fr' h':=by
 obtain⟨fs,e,l⟩:=hr;refine⟨Am c ⟨d,op,none⟩ fr h ⟨h.boxes.set k cs,h.fams⟩::fs,?_,?_,l⟩
 .simp only[J1,N3,he,e,zf4z]
 .refine⟨h1,?_,h2,?_⟩
  .exact bi _ _ _
  .show ∀x∈Pn h.fams h.fams,x∈[];rw[QR];exact λ_ h=>h
theorem QE {bs:List Nat} {ops:List RO} {Ψ:Ex->Fr->AH->Prop} (hr:Db O c ops fr (h.holes (VY ops)) gs fr' h') (hp:Z1 bs ops gs=true) (hΨ:Ψ .normal fr' h'):C3 (A4 O c (.regd bs ops) (fr,h)) Ψ:=by
 obtain⟨fs,e,l⟩:=hr;exact YN e (UT l hp) hΨ
end
def Foot.map (f:Nat->Nat) (x:Foot):Foot:=⟨x.rb.map (·.map (·.map f)),x.wb.map (·.map f),x.rf.map (·.map (·.map f)),x.wf.map (·.map f)⟩
theorem RX {f:Nat->Nat} (hf:∀a b,f a=f b->a=b) (l:List (Option Nat)) (x:Option Nat):(l.map (·.map f)).contains (x.map f)=l.contains x:=by
 rw[Bool.eq_iff_iff];simp only[zg2z,decide_eq_true_eq,zg5z];constructor
 .rintro⟨y,hy,e⟩;have:y=x:=by
   cases x<;>cases y<;>simp at e ⊢;exact hf _ _ e
  exact this ▸ hy
 .intro h;exact⟨x,h,rfl⟩
theorem Ny {f:Nat->Nat} (hf:∀a b,f a=f b->a=b) (r:Option (List (Option Nat))) (w:List (Option Nat)):x8 (r.map (·.map (·.map f))) (w.map (·.map f))=x8 r w:=by
 cases r with
 |none=>cases w<;>rfl
 |some r =>
  simp only[zf4z,x8,List.all_map];congr 1;funext x;simp only[Function.comp,RX hf]
theorem OQ {f:Nat->Nat} (hf:∀a b,f a=f b->a=b) (a b:Foot):i3 (a.map f) (b.map f)=i3 a b:=by
 have h1:=λ(r:List (Option Nat)) w=>Ny hf (some r) w;simp only[zf4z]at h1;simp only[i3,Foot.map,Ny hf,h1]
theorem SJ {f:Nat->Nat} (hf:∀a b,f a=f b->a=b) (bs:List Nat) (C5:List RO) (gs:List Foot) (h:Z1 bs C5 gs=true):Z1 bs C5 (gs.map (Foot.map f))=true:=by
 simp only[Z1,zf5z]at h ⊢;intro j hj i hi;have:=h j hj i hi;rw[zg6z,zg6z];split at this
 .rename_i oi oj gi gj e1 e2 e3 e4;rw[e1,e2,e3,e4];simp only[zf4z,KR,OQ hf]at this ⊢;exact this
 .cases this
end Go.Abs
namespace Go.Abs.Q
open Go.Proofs
attribute [local simp] C8 D5 fin H6 G0 Cb BG Af Ae
def uC (a b:Ste):Bool:=VL a.frm b||VL a.to b
def Pg:List Ste->Bool
 |a::b::l=>uC a b&&Pg (b::l)
 |_=>true
theorem jS (l:List Ste) (q:Nat) (h:q+1<l.length):Pg (l.drop q)=(uC l[q] l[q+1]&&Pg (l.drop (q+1))):=by
 rw[zf9z (by omega:q<l.length),zf9z h];rfl
theorem fO (l:List Ste) (q:Nat) (h:l.length<=q+1):Pg (l.drop q)=true:=by
 have:(l.drop q).length<=1:=by rw[List.length_drop];omega
 match hl:l.drop q,this with
 | [],_=>rfl
 | [_],_=>rfl
 |_::_::_,h=>simp at h
def Pk:AV:=.agg [(.str (bs [])),(.str (bs [])),(pI 0),(.str (bs [])),(pI 0),(.vs true 0 []),(pI 0)]
def iX:List Nat:=[0,1,0,4,15,31,0,64,0,448,960,0,0,6207,16383]
def XK:List RO:=[F 24 4 1,L 25 24,V 26 6,O 27 (.bin .sub (.t 26) (.c (pI 1))),oI 28 7 25 27,A 29 7 28,F 30 4 1,L 31 30,V 32 6,oI 33 7 31 32,A 34 7 33,O 7 (.allocAt 2 Pk),O 8 (.allocAt 1 Pk),W 7 7 29,W 7 8 34]
def qg:List Foot:=[⟨some [],[],some [],[]⟩,⟨some [some 0],[],some [],[]⟩,⟨some [],[],some [],[]⟩,⟨some [],[],some [],[]⟩,⟨some [],[],some [],[]⟩,⟨some [],[],some [],[]⟩,⟨some [],[],some [],[]⟩,⟨some [some 0],[],some [],[]⟩,⟨some [],[],some [],[]⟩,⟨some [],[],some [],[]⟩,⟨some [],[],some [],[]⟩,
 ⟨some [none,some 1],[some 1],some [],[]⟩,⟨some [none,some 2],[some 2],some [],[]⟩,⟨some [some 1],[some 1],some [],[]⟩,⟨some [some 2],[some 2],some [],[]⟩]
theorem iI:Z1 iX XK qg=true:=by decide
def Hi (p n:Nat):Nat:=match n with|0=>0|1=>p|2=>p+1|n+3=>p+2+n
theorem dw {p:Nat} (h:0<p):∀a b,Hi p a=Hi p b->a=b
 |0,0,_=>rfl
 |1,1,_=>rfl
 |2,2,_=>rfl
 |a+3,b+3,e=>by simp only[Hi]at e;omega
 |0,1,e=>by simp only[Hi]at e;omega
 |0,2,e=>by simp only[Hi]at e;omega
 |0,b+3,e=>by simp only[Hi]at e;omega
 |1,0,e=>by simp only[Hi]at e;omega
 |1,2,e=>by simp only[Hi]at e;omega
 |1,b+3,e=>by simp only[Hi]at e;omega
 |2,0,e=>by simp only[Hi]at e;omega
 |2,1,e=>by simp only[Hi]at e;omega
 |2,b+3,e=>by simp only[Hi]at e;omega
 |a+3,0,e=>by simp only[Hi]at e;omega
 |a+3,1,e=>by simp only[Hi]at e;omega
 |a+3,2,e=>by simp only[Hi]at e;omega
theorem Kz {O:Orc} {c:Ctx} (fr:Fr) (h:AH) (r:Nat) (z:AV):A3 O c (.allocAt r z) fr h=BH h r z:=rfl
theorem uK {h:AH} {r p:Nat} (z:AV) (hp:h.boxes.length-r=p) (hb:h.boxes[p]?=some DP):BH h r z=some (.ptr p 0,⟨h.boxes.set p z.cells,h.fams⟩):=by
 subst hp;simp only[BH,hb];rfl
theorem dA {O:Orc} {c:Ctx} {fr:Fr} {h h':AH} {n:Nat} {a x:Opd} {v p:AV} (e1:get fr a=p) (e2:get fr x=v) (e:x9 h n v p=some h'):A3 O c (.st n a x) fr h=some (B3,h'):=by
 subst e1 e2;simp only[A3,e]
theorem qX {h:AH} {p:Nat} (s:Ste) (hb:h.boxes[p]?=some Pk.cells):x9 h 7 (Q2 s) (.ptr p 0)=some ⟨h.boxes.set p (Q2 s).cells,h.fams⟩:=by
 simp only[x9,hb];simp[Pk,BA,S5]
set_option maxHeartbeats 1000000 in
theorem eN {O:Orc} {c:Ctx} (fr:Fr) (hl:46<=fr.length) (na:Nar) (B:List (List AV)) (F:List Fam) (q i:Nat) (hq:q+1=i) (hi:i<na.steps.length) (hs:na.steps.length<=1048576) (k1:A2 fr 1=.ptr 0 0) (k6:A2 fr 6=.int .i64 (i:Nat)) (s s':Ste) (h1:na.steps[q]?=some s) (h2:na.steps[i]?=some s')
  (Ψ:Ex->Fr->AH->Prop) (hΨ:∀fr' p bx B',fr'.length=fr.length->(∀j,j<24->j≠7->j≠8->A2 fr' j=A2 fr j)->A2 fr' 7=.ptr p 0->A2 fr' 8=.ptr (p+1) 0->bx=(D2 na).cells::B'->bx[p]?=some (Q2 s).cells->bx[p+1]?=some (Q2 s').cells->Ψ .normal fr' ⟨bx,F⟩) :
  C3 (A4 O c (.regd iX XK) (fr,⟨(D2 na).cells::B,F⟩)) Ψ:=by
 have hH:AH.holes ⟨(D2 na).cells::B,F⟩ (VY XK)=⟨(D2 na).cells::B++[DP,DP],F⟩:=rfl;obtain⟨p,hp⟩:∃p,p=B.length+1:=⟨_,rfl⟩;have hN:((D2 na).cells::B++[DP,DP]).length=p+2:=by simp[hp]
 have b0:((D2 na).cells::B++[DP,DP])[0]?=some (D2 na).cells:=rfl;have b1:((D2 na).cells::B++[DP,DP])[p]?=some DP:=by rw[zf8z (by simp[hp])];simp[hp]
 have b2:((D2 na).cells::B++[DP,DP])[p+1]?=some DP:=by rw[zf8z (by simp[hp])];simp[hp]
 have bd:∃B',(((((D2 na).cells::B++[DP,DP]).set p Pk.cells).set (p+1) Pk.cells).set p (Q2 s).cells).set (p+1) (Q2 s').cells=(D2 na).cells::B':=by
  subst hp;exact⟨_,rfl⟩
 have hp0:0<p:=by omega
 clear hp;generalize (D2 na).cells::B++[DP,DP]=X at *
 have hw:IntKind.i64.wrap ((i:Int)-1)=(q:Int):=by rw[R0 (by omega) (by omega)];omega
 have hx:JY (na.steps.map Q2) q=some (Q2 s):=E5 h1;have hx':JY (na.steps.map Q2) i=some (Q2 s'):=E5 h2;have nb:=D4 na;have L:∀k,k<46->k<zg1z fr:=λk hk=>by omega
 refine QE (fr':=?fr') (h':=?h') (gs:=qg.map (Foot.map (Hi p))) ?hr (SJ (dw hp0) _ _ _ iI) ?hψ
 case hr =>
  rw[hH];refine Db.r (v:=.ptr 0 4) (by simp[k1]) rfl rfl ?_;refine Db.r (v:=sl na.sm 7 (na.steps.map Q2)) (by simp[b0,nb,L]) (by simp[FL,L,Hi]) (by simp[DY,L]) ?_;refine Db.r (v:=.int .i64 (i:Nat)) (by simp[k6,L]) rfl rfl ?_;refine Db.r (v:=.int .i64 (q:Nat)) (by simp[k6,L,hw]) rfl rfl ?_;refine Db.r (v:=.pv (Q2 s).cells) (by simp[hx,L]) rfl rfl ?_;refine Db.r (v:=Q2 s) (by simp[L]) (by simp[FL,L]) (by simp[DY,L]) ?_;refine Db.r (v:=.ptr 0 4) (by simp[k1,L]) rfl rfl ?_;refine Db.r (v:=sl na.sm 7 (na.steps.map Q2)) (by simp[b0,nb,L]) (by simp[FL,L,Hi]) (by simp[DY,L]) ?_;refine Db.r (v:=.int .i64 (i:Nat)) (by simp[k6,L]) rfl rfl ?_;refine Db.r (v:=.pv (Q2 s').cells) (by simp[hx',L]) rfl rfl ?_;refine Db.r (v:=Q2 s') (by simp[L]) (by simp[FL,L]) (by simp[DY,L]) ?_;refine Db.w (v:=.ptr p 0) (k:=p) (cs:=Pk.cells) ((Kz _ _ _ _).trans (uK Pk (by simp[hN]) b1)) (by simp[FL,hN,Hi]) rfl ?_;refine Db.w (v:=.ptr (p+1) 0) (k:=p+1) (cs:=Pk.cells) ((Kz _ _ _ _).trans (uK Pk (by simp[hN]) (by simpa using b2))) (by simp[FL,hN,Hi]) rfl ?_;have s1:x9 ⟨(X.set p Pk.cells).set (p+1) Pk.cells,F⟩ 7 (Q2 s) (.ptr p 0)=some ⟨((X.set p Pk.cells).set (p+1) Pk.cells).set p (Q2 s).cells,F⟩:=qX s (by
   show ((X.set p Pk.cells).set (p+1) Pk.cells)[p]?=_;rw[zf0z (by omega),zf2z (by omega)])
  have s2:x9 ⟨((X.set p Pk.cells).set (p+1) Pk.cells).set p (Q2 s).cells,F⟩ 7 (Q2 s') (.ptr (p+1) 0)=some ⟨(((X.set p Pk.cells).set (p+1) Pk.cells).set p (Q2 s).cells).set (p+1) (Q2 s').cells,F⟩:=qX s' (by
   show (((X.set p Pk.cells).set (p+1) Pk.cells).set p (Q2 s).cells)[p+1]?=_;rw[zf0z (by omega),zf2z (by simp;omega)])
  refine Db.w (v:=B3) (k:=p) (cs:=(Q2 s).cells) (dA (v:=Q2 s) (p:=.ptr p 0) (by simp[L]) (by simp[L]) s1) (by simp[FL,L,Hi]) (by simp[DY,L]) ?_;refine Db.w (v:=B3) (k:=p+1) (cs:=(Q2 s').cells) (dA (v:=Q2 s') (p:=.ptr (p+1) 0) (by simp[L]) (by simp[L]) s2) (by simp[FL,L,Hi]) (by simp[DY,L]) ?_;exact Db.nil
 case hψ =>
  obtain⟨B',hB'⟩:=bd;refine hΨ _ p _ B' (by simp) (λj h1 h2 h3=>?_) (by simp[L]) (by simp[L]) hB' ?_ ?_
  .simp only[Uj,Ui]
   repeat rw[C8 _ _ (by omega)]
  .rw[zf0z (by omega),zf2z (by simp;omega)]
  .rw[zf2z (by simp;omega)]
theorem ZJ (na:Nar) (C4:na.steps.length<=1048576) (h0:0<na.steps.length) (fr:Fr) (h:AH) (hh:h.boxes=[(D2 na).cells]) (hl:fr.length=47) (h1:A2 fr 1=.ptr 0 0) (h6:A2 fr 6=.int .i64 1) :
  C3 (lp (A4 (N5 Q) (B9 T7) V2) (fr,h)) λe fr' h'=>Kp V2.wr fr fr'/\(e=.exit 0/\Pg na.steps=true\/e=.ret/\A2 fr' 2=.bool false/\A2 fr' 3=.int .i64 0/\Pg na.steps=false):=by
 refine C1 rfl fr (λn fr h'=>∃(q:Nat) (B:List (List AV)),q+1+n=na.steps.length/\A2 fr 6=.int .i64 ((q+1:Nat):Int)/\h'.boxes=(D2 na).cells::B/\Pg na.steps=Pg (na.steps.drop q)) ?_ (na.steps.length-1) h ⟨0,[],by omega,h6,hh,rfl⟩;rintro J Φ hJ hΦ n E4 H1 K ⟨q,B,hq,k6,hB,hr⟩;have A6:=K.1.trans hl;have k1:=B8 K 1 h1;clear K;obtain⟨bx,fams⟩:=H1;simp only at hB;subst hB;have e8:=D4 na;obtain⟨i,hi⟩:∃i,i=q+1:=⟨_,rfl⟩;rw[←hi]at k6;by_cases A9:i<na.steps.length
 .have j0:=C9 i (by omega);rw[jS na.steps q (by omega)]at hr;have g1:na.steps[q]?=some (na.steps[q]'(by omega)):=zf1z (by omega);have g2:na.steps[i]?=some (na.steps[q+1]'(by omega)):=(congrArg (na.steps[·]?) hi).trans (zf1z (by omega));generalize na.steps[q]=s at *
  generalize na.steps[q+1]=s' at *
  have t1:=PE s' s.frm;have t2:=PE s' s.to;unfold uC at hr;simp[V2,A6,k1,k6,A9,e8];refine eN (c:=B9 T7) _ (by simp[A6]) na B fams q i hi.symm A9 C4 (by simp[A6,k1]) (by simp[A6,k6]) s s' g1 g2 _ λT9 p bx B' FN hk q7 q8 JU b1 b2=>?_;have hl2':T9.length=47:=FN.trans (by simp[A6]);have q1:A2 T9 1=.ptr 0 0:=(hk 1 (by omega) (by omega) (by omega)).trans (by simp[A6,k1]);have q6:A2 T9 6=.int .i64 (i:Nat):=(hk 6 (by omega) (by omega) (by omega)).trans (by simp[A6,k6]);rw[Lr]at b1 b2;cases c1:VL s.frm s' with
  |true =>
   rw[c1]at t1 hr;simp[hl2',q1,q6,q7,q8,b1,b2,t1,j0];exact H0 hJ ⟨i,B',by omega,by simp[hl2'],JU,by rw[hr,hi];simp⟩
  |false =>
   rw[c1]at t1 hr;cases c2:VL s.to s' with
   |true =>
    rw[c2]at t2 hr;simp[hl2',q1,q6,q7,q8,b1,b2,t1,t2,j0];exact H0 hJ ⟨i,B',by omega,by simp[hl2'],JU,by rw[hr,hi];simp⟩
   |false =>
    rw[c2]at t2 hr;simp[hl2',q1,q6,q7,q8,b1,b2,t1,t2];exact hΦ _ _ _ (.inr ⟨rfl,by simp[hl2'],by simp[hl2'],by rw[hr];simp⟩)
 .rw[fO na.steps q (by omega)]at hr;simp[V2,A6,k1,k6,A9,e8];exact hΦ _ _ _ (.inl ⟨rfl,hr⟩)
def bS (n:Nar):Bool:=if (Bv n).2=0 then Pg n.steps else false
theorem Ow (n:Nar) (F:Fine n) (S:Lens n):pc Q T7 [D2 n]=some (.tup [.bool (bS n),.int .i64 (Bv n).2]):=by
 have hC:=NE n F S.names;have nb:=D4 n;by_cases hz:(Bv n).2=0
 .obtain⟨h0,hR⟩:=Ih hz;have hn:=(Qm (Kx (Gu hR.nar).1).2).2.2.2.2.1;have hB:bS n=Pg n.steps:=if_pos hz;rw[h0]at hC;rw[hB,hz];refine Bu T8 λfr hl h0=>?_;simp[T8]at hl h0;simp[T8,hl,h0,nb,hC];refine C3.mono (ZJ n S.steps hn _ _ ?_ ?_ ?_ ?_) ?_<;>first|(simp[hl,nb];done)|skip
  rintro e E4 X7 ⟨K,⟨rfl,hb⟩|⟨rfl,k2,k3,hb⟩⟩
  .have A6:E4.length=47:=K.1.trans (by simp[hl]);simp[A6,hb]
  .simp[k2,k3,hb]
 .have hB:bS n=false:=if_neg hz;rw[hB];generalize (Bv n).2=e at *
  generalize (Bv n).1=e1 at *
  refine Bu T8 λfr hl h0=>?_;simp[T8]at hl h0;simp[T8,hl,h0,nb,hC,hz]
end Go.Abs.Q
namespace Go.Abs.Q
open Go.Proofs
attribute [local simp] C8 D5 fin H6 G0 Af Ae
theorem Rf:∀(n:Nat) (t:Tm),t.size<=n->(Hw t).size=t.size:=by
 intro n
 induction n with
 |zero=>intro t h;have:=t.size_pos;omega
 |succ n ih =>
  intro t hn;obtain⟨k,nm,s,m,l⟩:=t;have L4:Tm.size (.mk k nm s m l)=1+Tm.sizes l:=rfl;have:∀l:List Tm,Tm.sizes l<=n->Tm.sizes (AR l)=Tm.sizes l:=by
   intro l
   induction l with
   |nil=>intro _;rfl
   |cons a l ihl =>
    intro h;simp only[Tm.sizes]at h;simp only[AR,Tm.sizes,ih a (by omega),ihl (by omega)]
  rw[Hw,Tm.size,this l (by omega),L4]
theorem OL:∀(l:Hg),Tm.sizes (AR l)=Tm.sizes l
 | []=>rfl
 |t::l=>by simp only[AR,Tm.sizes,Rf _ t (zf7z _),OL l]
theorem Tx (l:List UInt8):Op.bytesLess l l=false:=by
 induction l with
 |nil=>rfl
 |cons a l ih=>simp[Op.bytesLess,ih]
theorem YZ (a:Int):FK a a=0:=by simp[FK]
theorem YX (a:R7):R8 a a=0:=by simp[R8,Tx]
theorem fQ:∀(n:Nat) (a b:Tm),a.size<=n->Hw a=Hw b->GN a b=0:=by
 intro n
 induction n with
 |zero=>intro t _ h;have:=t.size_pos;omega
 |succ n ih =>
  intro a b hn he;obtain⟨k,nm,s,m,l⟩:=a;obtain⟨k',nm',s',m',l'⟩:=b;have L4:Tm.size (.mk k nm s m l)=1+Tm.sizes l:=rfl;simp only[Hw,Tm.mk.injEq]at he;obtain⟨rfl,rfl,rfl,_,hl⟩:=he;have h1:Tm.sizes l=Tm.sizes l':=by rw[←OL l,hl,OL]
  have h2:l.length=l'.length:=by
   have:=congrArg zg1z hl;simpa[Ef]using this
  have:∀l l':List Tm,Tm.sizes l<=n->AR l=AR l'->GW l l'=0:=by
   intro l
   induction l with
   |nil=>intro l' _ h;exact MG l'
   |cons a l ihl =>
    intro l' hs h;cases l' with
    |nil=>simp[AR]at h
    |cons b l' =>
     simp only[AR,List.cons.injEq]at h;simp only[Tm.sizes]at hs;simp[GW,nz,ih a b (by omega) h.1,ihl l' (by omega) h.2]
  simp[GN,nz,YZ,YX,h1,h2,this l l' (by omega) hl]
theorem Xl {a b:Int}:nz a b=0↔a=0/\b=0:=by
 unfold nz;split<;>simp_all
theorem Ya {a b:Int}:FK a b=0↔a=b:=by
 unfold FK;split
 .constructor<;>intro h<;>omega
 .split<;>constructor<;>intro h<;>omega
theorem YY {a b:R7}:R8 a b=0↔a=b:=by
 unfold R8;split
 .rename_i h;constructor
  .intro e;omega
  .intro e;subst e;rw[Tx]at h;cases h
 .split
  .rename_i h;simp[(Af a b).1 h]
  .rename_i h;constructor
   .intro e;omega
   .intro e;exact absurd (by rw[e]) h
theorem fk:∀(n:Nat) (a b:Tm),a.size<=n->GN a b=0->Hw a=Hw b:=by
 intro n
 induction n with
 |zero=>intro a _ h;have:=a.size_pos;omega
 |succ n ih =>
  intro a b hn h;obtain⟨k,nm,s,m,l⟩:=a;obtain⟨k',nm',s',m',l'⟩:=b;have L4:Tm.size (.mk k nm s m l)=1+Tm.sizes l:=rfl;simp only[GN,Xl,Ya,YY]at h;obtain⟨_,rfl,rfl,rfl,h1,h2⟩:=h;have e1:l.length=l'.length:=by omega
  have:∀l l':List Tm,Tm.sizes l<=n->l.length=l'.length->GW l l'=0->AR l=AR l':=by
   intro l
   induction l with
   |nil=>intro l' _ h1 _;rw[zf6z h1.symm]
   |cons a l ihl =>
    intro l' hs h1 h2;cases l' with
    |nil=>simp at h1
    |cons b l' =>
     simp only[Tm.sizes]at hs;simp only[GW,Xl]at h2;simp only[AR,ih a b (by omega) h2.1,ihl l' (by omega) (by simpa using h1) h2.2]
  simp only[Hw,this l l' (by omega) e1 h2]
theorem bU {a b:Tm}:GN a b=0↔Hw a=Hw b:=⟨fk _ a b (zf7z _),fQ _ a b (zf7z _)⟩
theorem VC (f:ByteArray->Int):∀(N:Nat) (t:Tm),t.size<=N->(ED f t).size=t.size:=by
 intro N
 induction N with
 |zero=>intro t h;have:=t.size_pos;omega
 |succ N ih =>
  intro t h;obtain⟨k,nm,s,m,l⟩:=t;have e:Tm.size (.mk k nm s m l)=1+Tm.sizes l:=rfl;have key:∀l:List Tm,Tm.sizes l<=N->Tm.sizes (a7 f l)=Tm.sizes l:=by
   intro l
   induction l with
   |nil=>intro _;rfl
   |cons a l ihl =>
    intro hl;simp only[Tm.sizes]at hl;simp only[a7,Tm.sizes];rw[ih a (by omega),ihl (by omega)]
  show Tm.size (.mk k nm _ (false,false) (a7 f l))=_;rw[Tm.size,key l (by omega),e]
theorem Qw {n:Nar} (F:Fine n) {role:Int} {l:List Ste} (h:l.map Re=Gk n role):(∀s∈l,s.msg.size<=1099511627776)/\l.length<=n.steps.length:=by
 have hL:∀x∈Gk n role,x.msg.size<=1099511627776:=λx hx=>by
  unfold Gk at hx;split at hx
  .obtain⟨s,hs,rfl⟩:=zg5z.1 (zg9z.1 hx).1;have:=(F.steps s hs).2.2;show (ED _ s.msg).size<=_;rw[VC _ _ _ (zf7z _)];exact this
  .cases hx
 constructor
 .intro s hs;have:=hL (Re s) (by rw[←h];exact List.mem_map_of_mem hs);rw[←Rf _ s.msg (zf7z _)];exact this
 .have h1:=congrArg zg1z h;rw[List.length_map]at h1;rw[h1];unfold Gk;split
  .exact Nat.le_trans (List.length_filter_le _ _) (by simp)
  .simp
end Go.Abs.Q
