/- A part of the proof. -/
import Derived.Test.YtjhgilockkmniaaGreatDoorSH28
set_option linter.all false
open List renaming getElem?_eq_getElem->zf0z,getElem?_eq_some_iff->zf1z,getElem?_set_ne->zf2z,length_append->zf3z,append_eq_nil_iff->zf4z,getElem?_set_self->zf5z,take_of_length_le->zf6z,length_cons->zf7z,take_succ_eq_append_getElem->zf8z,eq_nil_of_length_eq_zero->zf9z,getD_eq_getElem?_getD->zg0z,getElem?_append_left->zg1z,length_take->zg2z,getElem?_of_mem->zg3z,getElem?_set->zg5z,length_map->zg6z,length_nil->zg7z,length->zg8z
open Int renaming toNat_natCast->zg4z
namespace Go.Abs.Q
open Go.Proofs
attribute [local simp] D3 D6 fin H4 G2 EP Co Bd Bc
theorem TD {r n:Nar} {f:ByteArray->Int} (h:Zo r=NN f n):r.name=n.name/\r.roles=n.roles/\r.fresh=n.fresh/\r.tags=n.tags/\r.steps.map OB=n.steps.map (MW f)/\r.goals.map YO=n.goals.map (MV f):=by
 unfold Zo NN at h;injection h with h1 h2 h3 h4 h5 h6 h7 h8 h9 h10 h11
 exact⟨h1,h3,h5,h7,h9,h11⟩
theorem KK {n:Nar} (h:Jk n=0):2<=n.roles.length/\n.roles.length<=4/\n.fresh.length<=12/\n.tags.length<=8/\1<=n.steps.length/\n.steps.length<=8/\n.goals.length<=8:=by
 unfold Jk at h
 repeat' split at h
 all_goals omega
theorem Yl (m:W8) (l:List Ste) (na:Nar) (r:Q1) (ro:Nat) (hro:Jj (na.roles.map AV.str) ro=some (.str r)) (hrl:ro<na.roles.length) (C4:l.length<=1048576) (B1:C6) (fr:Fr) (h:AH) (hh:h.boxes=[(D1 na).cells,B1]) (h9:A2 fr 9=.vs true 0 []) (hl:fr.length=50) (h1:A2 fr 1=.int .i64 ro) (h2:A2 fr 2=.ptr 0 0) (h31:A2 fr 31=sl m 7 (l.map P3)) (h32:A2 fr 32=.int .i64 l.length) (h33:A2 fr 33=.int .i64 0) :
  C3 (lp (A4 (M3 Q) (B8 U5) U9) (fr,h)) λe fr' h'=>Kp U9.wr fr fr'/\e=.exit 0/\EQ 7 ((l.filter (KS r)).map P3) (A2 fr' 9) h':=by
 refine C1 rfl fr (λn fr h'=>∃(i:Nat),i+n=l.length/\A2 fr 33=.int .i64 (i:Nat)/\(∃(B:List (List AV)) (v:AV) (A:List Ste),h'.boxes=(D1 na).cells::B1::B/\A2 fr 9=v/\EQ 7 (A.map P3) v h'/\A=(l.take i).filter (KS r))) ?_ l.length h ⟨0,by omega,h33,[],_,[],hh,h9,FZ _ _,by simp⟩;rintro J Φ hJ hΦ n E3 H1 K ⟨i,hi,k33,hr⟩;have A6:=K.1.trans hl;have k1:=C0 K 1 h1;have k2:=C0 K 2 h2;have k31:=C0 K 31 h31;have k32:=C0 K 32 h32;clear K;by_cases A9:i<l.length
 .have Z0:=C8 i (by omega);obtain⟨B,v,A,hB,k9,hg,hA⟩:=hr;obtain⟨bx,fams⟩:=H1;simp only at hB;subst hB;have hx:=D5 (f:=P3) (zf0z A9);have hft:=Mg (KS r) l A9;have hfl:=JI (KS r) l i;rw[←hA]at hft hfl;obtain⟨fl,hfl'⟩:∃fl,fl=(l.take (i+1)).filter (KS r):=⟨_,rfl⟩;rw[←hfl']at hft;generalize l[i]=s at *
  have hT:=Lf s r;obtain⟨v',h',ha,CN,Ie⟩:=ER (c:=B8 U5) (bytes:=96) (x:=P3 s) (h:=⟨(D1 na).cells::B1::(B++[(P3 s).cells]),fams⟩) (Fo hg rfl) rfl (true,true) (by simp;omega) (by simp;omega);have e6:A.map P3++[P3 s]=(A++[s]).map P3:=by simp
  rw[e6]at CN;obtain⟨bx',fams'⟩:=h';simp only at Ie;subst Ie;clear hA hfl e6;have e7:=Jw s;have e8:=C7 na;rw[e7,e8]at ha;cases hb:KS r s with
  |true =>
   have hft2:fl=A++[s]:=by rw[hft];simp[hb]
   clear hft;rw[hb]at hT;simp[U9,A6,k1,k2,k31,k32,k33,A9,Z0,k9,hx,hro,hT,B4,ha,e8];exact F7 hJ ⟨i+1,by omega,by simp[A6],_,_,fl,rfl,rfl,by simp[A6];rw[hft2];exact Fo CN rfl,hfl'⟩
  |false =>
   have hft2:fl=A:=by rw[hft];simp[hb]
   clear hft;rw[hb]at hT;simp[U9,A6,k1,k2,k31,k32,k33,A9,Z0,k9,hx,hro,hT,e8];exact F7 hJ ⟨i+1,by omega,by simp[A6],_,_,fl,rfl,rfl,by simp[A6,k9];rw[hft2];exact Fo hg rfl,hfl'⟩
 .obtain⟨B,v,A,hB,k9,hg,hA⟩:=hr;rw[zf6z (by omega)]at hA;simp[U9,A6,k1,k2,k31,k32,k33,A9];exact hΦ _ _ _ ⟨rfl,by simp[k9];rw[←hA];exact hg⟩
def HY (n:Nar) (role:Int):Int:=if (AQ n).2≠0 then (AQ n).2 else if role<0\/(n.roles.length:Int)<=role then 7 else 0
noncomputable def Gd (n:Nar) (role:Int):List Ste:=if HY n role=0 then ((n.steps.map (MW (Bj (B7 n) (R6 n)))).filter (KS (n.roles.getD role.toNat (bs []))))else []
theorem QH {l l':List Ste} (r:Q1) (h:l.map OB=l'):(l.filter (KS r)).map OB=l'.filter (KS r):=by
 subst h;rw[List.filter_map];congr 1
theorem UB (n:Nar) (F:Fine n) (S:Lens n) (role:Int):∃(m:W8) (l:List Ste),pc Q U5 [D1 n,.int .i64 role]=some (.tup [sl m 7 (l.map P3),.int .i64 (HY n role)])/\l.map OB=Gd n role:=by
 suffices h:∃v,pc Q U5 [D1 n,.int .i64 role]=some v/\∃(m:Bool×Bool) (l:List Ste),v=.tup [sl m 7 (l.map P3),.int .i64 (HY n role)]/\l.map OB=Gd n role by
  obtain⟨v,h1,m,l,rfl,h2⟩:=h;exact⟨m,l,h1,h2⟩
 obtain⟨r,hR,hE⟩:=WI n F S;have nb:=C7 n;have rb:=C7 r;by_cases hz:(AQ n).2=0
 .have he:=(TD (hE hz)).2.2.2.2.1;have h0:=(EJ hz).1;rw[h0]at hR;by_cases hneg:role<0
  .have hP:HY n role=7:=by unfold HY;simp[hz,hneg]
   have hL:Gd n role=[]:=by unfold Gd;simp[hP]
   rw[hP,hL];refine MN G8 λΨ hΨ fr hl h0 h1=>?_;simp[G8]at hl h0 h1;simp[G8,hl,h0,h1,nb,rb,hR,hneg];exact hΨ _ ⟨(true,false),[],by simp[sl],rfl⟩
  .obtain⟨k,rfl⟩:∃k:Nat,role=k:=⟨role.toNat,by omega⟩;by_cases hk:k<n.roles.length
   .have hP:HY n k=0:=by unfold HY;rw[if_neg (by simp[hz]),if_neg (by omega)]
    have hro:Jj (n.roles.map AV.str) k=some (.str n.roles[k]):=D5 (zf0z hk);have hL:Gd n k=(n.steps.map (MW (Bj (B7 n) (R6 n)))).filter (KS n.roles[k]):=by
     unfold Gd;rw[if_pos hP,zg4z,zg0z,zf0z hk];rfl
    have hf:=QH n.roles[k] he;rw[←hL]at hf;rw[hP];have C4:r.steps.length<=1048576:=by have:=congrArg zg8z he;have:=S.steps;simp at *;omega
    clear hL;have hk2:¬n.roles.length<=k:=by omega
    generalize n.roles[k]=me at *
    refine MN G8 λΨ hΨ fr hl h0 h1=>?_;simp[G8]at hl h0 h1;simp[G8,hl,h0,h1,nb,rb,hR,hk2,hneg];refine C3.mono (Yl r.sm r.steps n me k hro hk C4 (D1 r).cells _ _ ?_ ?_ ?_ ?_ ?_ ?_ ?_ ?_) ?_<;>first|(simp[hl,h1,nb,rb];done)|skip
    rintro e E3 ⟨bx,F1⟩ ⟨K,rfl,hg⟩;have K1:E3.length=50:=K.1.trans (by simp[hl]);clear K;obtain⟨m',hm'⟩:=NT hg;simp[K1,hm'];exact hΨ _ ⟨m',_,rfl,hf⟩
   .have hP:HY n k=7:=by unfold HY;rw[if_neg (by simp[hz]),if_pos (by omega)]
    have hL:Gd n k=[]:=by unfold Gd;simp[hP]
    rw[hP,hL];refine MN G8 λΨ hΨ fr hl h0 h1=>?_;simp[G8]at hl h0 h1;have hk2:n.roles.length<=k:=by omega
    simp[G8,hl,h0,h1,nb,rb,hR,hk2,hneg];exact hΨ _ ⟨(true,false),[],by simp[sl],rfl⟩
 .have hP:HY n role=(AQ n).2:=by unfold HY;rw[if_pos hz]
  have hL:Gd n role=[]:=by unfold Gd;rw[if_neg (by rw[hP];exact hz)]
  rw[hP,hL];refine MN G8 λΨ hΨ fr hl h0 h1=>?_;simp[G8]at hl h0 h1;simp[G8,hl,h0,h1,nb,rb,hR,hz];exact hΨ _ ⟨(true,false),[],by simp[sl],rfl⟩
theorem UE (n:Nar) (F:Fine n) (S:Lens n) (role:Int):∃(m:W8) (l:List Ste),pc Q Bm [D1 n,.int .i64 role]=some (.tup [sl m 7 (l.map P3),.int .i64 (HY n role)])/\l.map OB=Gd n role:=by
 suffices h:∃v,pc Q Bm [D1 n,.int .i64 role]=some v/\∃(m:Bool×Bool) (l:List Ste),v=.tup [sl m 7 (l.map P3),.int .i64 (HY n role)]/\l.map OB=Gd n role by
  obtain⟨v,h1,m,l,rfl,h2⟩:=h;exact⟨m,l,h1,h2⟩
 obtain⟨r,hR,hE⟩:=UF n F S;have nb:=C7 n;have rb:=C7 r;by_cases hz:(AQ n).2=0
 .have he:=(TD (hE hz)).2.2.2.2.1;have h0:=(EJ hz).1;rw[h0]at hR;by_cases hneg:role<0
  .have hP:HY n role=7:=by unfold HY;simp[hz,hneg]
   have hL:Gd n role=[]:=by unfold Gd;simp[hP]
   rw[hP,hL];refine MN I3 λΨ hΨ fr hl h0 h1=>?_;simp[I3]at hl h0 h1;simp[I3,hl,h0,h1,nb,rb,hR,hneg];exact hΨ _ ⟨(true,false),[],by simp[sl],rfl⟩
  .obtain⟨k,rfl⟩:∃k:Nat,role=k:=⟨role.toNat,by omega⟩;by_cases hk:k<n.roles.length
   .have hP:HY n k=0:=by unfold HY;rw[if_neg (by simp[hz]),if_neg (by omega)]
    have hro:Jj (n.roles.map AV.str) k=some (.str n.roles[k]):=D5 (zf0z hk);have hL:Gd n k=(n.steps.map (MW (Bj (B7 n) (R6 n)))).filter (KS n.roles[k]):=by
     unfold Gd;rw[if_pos hP,zg4z,zg0z,zf0z hk];rfl
    have hf:=QH n.roles[k] he;rw[←hL]at hf;rw[hP];have C4:r.steps.length<=1048576:=by have:=congrArg zg8z he;have:=S.steps;simp at *;omega
    clear hL;have hk2:¬n.roles.length<=k:=by omega
    generalize n.roles[k]=me at *
    obtain⟨m',hm'⟩:=Pl r.sm r.steps me C4;refine MN I3 λΨ hΨ fr hl h0 h1=>?_;simp[I3]at hl h0 h1;simp[I3,hl,h0,h1,nb,rb,hR,hk2,hneg,hro,hm'];exact hΨ _ ⟨m',_,rfl,hf⟩
   .have hP:HY n k=7:=by unfold HY;rw[if_neg (by simp[hz]),if_pos (by omega)]
    have hL:Gd n k=[]:=by unfold Gd;simp[hP]
    rw[hP,hL];refine MN I3 λΨ hΨ fr hl h0 h1=>?_;simp[I3]at hl h0 h1;have hk2:n.roles.length<=k:=by omega
    simp[I3,hl,h0,h1,nb,rb,hR,hk2,hneg];exact hΨ _ ⟨(true,false),[],by simp[sl],rfl⟩
 .have hP:HY n role=(AQ n).2:=by unfold HY;rw[if_pos hz]
  have hL:Gd n role=[]:=by unfold Gd;rw[if_neg (by rw[hP];exact hz)]
  rw[hP,hL];refine MN I3 λΨ hΨ fr hl h0 h1=>?_;simp[I3]at hl h0 h1;simp[I3,hl,h0,h1,nb,rb,hR,hz];exact hΨ _ ⟨(true,false),[],by simp[sl],rfl⟩
end Go.Abs.Q
namespace Go.Abs
def NU (wr:Bool) (sz:Nat) (xs:List AV) (v:AV) (h:AH):Prop:=(∃b,v=sl (true,b) sz xs)\/(xs≠[]/\∃k,v=.sl k xs.length 0 xs.length/\h.fams[k]?=some ⟨xs,sz,wr⟩)
theorem eJ (wr:Bool) (sz:Nat) (h:AH):NU wr sz [] (.vs true 0 []) h:=.inl ⟨false,by simp[sl]⟩
theorem LB {wr:Bool} {sz:Nat} {xs:C6} {v:AV} {h h':AH} (hg:NU wr sz xs v h) (e:h'.fams=h.fams):NU wr sz xs v h':=by
 rcases hg with hg|⟨h1,k,h2,h3⟩
 .exact .inl hg
 .exact .inr ⟨h1,k,h2,by rw[e];exact h3⟩
theorem eH {c:Ctx} {sz bytes:Nat} {xs ys:C6} {v x:AV} {h:AH} (hg:NU c.mutApp sz xs v h) (hx:elems h sz x=some ys) (hb:(xs.length+ys.length)*bytes<=G3/\xs.length+ys.length<=maxLen) :
  ∃v' F',J7 c h sz bytes v x=some (v',⟨h.boxes,F'⟩)/\NU c.mutApp sz (xs++ys) v' ⟨h.boxes,F'⟩/\∀j,j<h.fams.length->(∀n o l,v≠.sl j n o l)->F'[j]?=h.fams[j]?:=by
 rcases hg with ⟨b,rfl⟩|⟨S6,k,rfl,hk⟩
 .simp only[sl,J7,R4,hx];by_cases hy:ys.length=0
  .rw[if_pos hy];have:ys=[]:=zf9z hy;subst this;exact⟨_,h.fams,rfl,.inl ⟨b,by simp[sl]⟩,λ_ _ _=>rfl⟩
  .rw[if_neg hy];have hc:((if (xs.isEmpty&&!b)=true then 0 else sz)=sz\/xs.length=0)/\(xs.length+ys.length)*bytes<=G3/\xs.length+ys.length<=maxLen:=by
    refine⟨?_,hb⟩;cases xs with
    |nil=>exact .inr rfl
    |cons a l=>exact .inl rfl
   rw[if_pos hc];refine⟨_,_,rfl,.inr ⟨by intro e;rw[zf4z]at e;rw[e.2]at hy;exact hy rfl,h.fams.length,by rw[zf3z],by simp⟩,λj hj _=>zg1z hj⟩
 .simp only[J7,R4,hx,hk];rw[if_pos ⟨trivial,trivial,by omega,hb.1,hb.2⟩];have jH:=(zf1z.1 hk).1;refine⟨_,_,rfl,.inr ⟨by intro e;rw[zf4z]at e;exact S6 e.1,k,by rw[zf3z],by simp[jH]⟩,λj hj hv=>?_⟩;have:k≠j:=λe=>hv _ _ _ (by rw[e]);exact zf2z this
theorem Wj {wr:Bool} {sz:Nat} {xs:C6} {v:AV} {h:AH} (hg:NU wr sz xs v h):∃m:Bool×Bool,∀(B:List (List AV)) (am:Bool),(am||!wr)=true->frz ⟨B,h.fams⟩ am v=some (sl m sz xs)/\uE ⟨B,h.fams⟩ am v=some (sl m sz xs):=by
 rcases hg with ⟨b,rfl⟩|⟨S6,k,rfl,hk⟩
 .exact⟨(true,b),λB am _=>⟨rfl,rfl⟩⟩
 .have he:xs.isEmpty=false:=by cases xs with
   |nil=>exact absurd rfl S6
   |cons a l=>rfl
  refine⟨(false,true),λB am ha=>?_⟩;have:uE ⟨B,h.fams⟩ am (.sl k xs.length 0 xs.length)=some (sl (false,true) sz xs):=by
   simp only[uE,hk];rw[if_pos ⟨trivial,by omega,ha⟩];simp[sl,he]
  exact⟨this,this⟩
theorem eL {wr:Bool} {sz:Nat} {xs:C6} {v:AV} {h:AH} (hg:NU wr sz xs v h):∃m:Bool×Bool,∀B:List (List AV),BW ⟨B,h.fams⟩ v=some (sl m sz xs):=by
 obtain⟨m,hm⟩:=Wj hg;refine⟨m,λB=>?_⟩;have:=(hm B true rfl).1;rcases hg with ⟨b,rfl⟩|⟨_,k,rfl,_⟩<;>exact this
theorem aQ {sz:Nat} {xs:C6} {v:AV} {h:AH} (hg:NU false sz xs v h) (B:List (List AV)):tame ⟨B,h.fams⟩ v=true:=by
 rcases hg with ⟨b,rfl⟩|⟨S6,k,rfl,hk⟩
 .rfl
 .show (match h.fams[k]? with|some f=>!f.wr|none=>false)=true
  rw[hk];rfl
theorem Pt {wr:Bool} {sz:Nat} {xs:C6} {v:AV} {h:AH} (hg:NU wr sz xs v h):v.isTup=false/\v.cells=[v]/\AZ [v]=false/\Ji v=true:=by
 rcases hg with ⟨b,rfl⟩|⟨_,k,rfl,_⟩<;>exact⟨rfl,rfl,rfl,rfl⟩
theorem eI {wr:Bool} {sz:Nat} {xs:C6} {v:AV} {h:AH} (hg:NU wr sz xs v h) (h':AH):Pe h' v=some (.int .i64 xs.length,h'):=by
 rcases hg with ⟨b,rfl⟩|⟨_,k,rfl,_⟩<;>rfl
theorem Xo {wr:Bool} {sz:Nat} {xs:C6} {v:AV} {h:AH} (hg:NU wr sz xs v h) (B:List (List AV)):elems ⟨B,h.fams⟩ sz v=some xs:=by
 rcases hg with ⟨b,rfl⟩|⟨S6,k,rfl,hk⟩
 .exact Ax _ _ _ _
 .simp[elems,hk]
def Sc (v w:AV):Prop:=∀j n o l n' o' l',v=.sl j n o l->w=.sl j n' o' l'->False
theorem Sc.symm {v w:AV} (h:Sc v w):Sc w v:=λj n o l n' o' l' e e'=>h j n' o' l' n o l e' e
theorem eK {c:Ctx} {sz bytes:Nat} {xs ys:C6} {v x:AV} {h:AH} (hg:NU c.mutApp sz xs v h) (hx:elems h sz x=some ys) (hb:(xs.length+ys.length)*bytes<=G3/\xs.length+ys.length<=maxLen) :
  ∃v' F',(∀BB,J7 c ⟨BB,h.fams⟩ sz bytes v x=some (v',⟨BB,F'⟩))/\(∀BB,NU c.mutApp sz (xs++ys) v' ⟨BB,F'⟩)/\∀(wr:Bool) (s:Nat) (ws:List AV) (w:AV),NU wr s ws w h->Sc v w->(∀BB,NU wr s ws w ⟨BB,F'⟩)/\Sc v' w:=by
 have hx':∀BB,elems ⟨BB,h.fams⟩ sz x=some ys:=λBB=>(Ii rfl sz x).trans hx;rcases hg with ⟨b,rfl⟩|⟨S6,k,rfl,hk⟩
 .by_cases hy:ys.length=0
  .have:ys=[]:=zf9z hy;subst this;refine⟨sl (true,b) sz xs,h.fams,λBB=>?_,λBB=>.inl ⟨b,by simp⟩,λwr s ws w hw _=>⟨λBB=>LB hw rfl,λj n o l n' o' l' e=>nomatch e⟩⟩;simp only[sl,J7,R4,hx' BB];rw[if_pos hy]
  .have hc:((if (xs.isEmpty&&!b)=true then 0 else sz)=sz\/xs.length=0)/\(xs.length+ys.length)*bytes<=G3/\xs.length+ys.length<=maxLen:=by
    refine⟨?_,hb⟩;cases xs with
    |nil=>exact .inr rfl
    |cons a l=>exact .inl rfl
   refine⟨.sl h.fams.length (xs.length+ys.length) 0 (xs.length+ys.length),h.fams++[⟨xs++ys,sz,c.mutApp⟩],λBB=>?_,λBB=>.inr ⟨by intro e;rw[zf4z]at e;rw[e.2]at hy;exact hy rfl,h.fams.length,by rw[zf3z],by simp⟩,λwr s ws w hw _=>?_⟩
   .simp only[sl,J7,R4,hx' BB];rw[if_neg hy,if_pos hc]
   rcases hw with ⟨b',rfl⟩|⟨hne',k',rfl,Bi⟩
   .exact⟨λBB=>.inl ⟨b',rfl⟩,λj n o l n' o' l' _ e=>nomatch e⟩
   .have A9:=(zf1z.1 Bi).1;refine⟨λBB=>.inr ⟨hne',k',rfl,by simp only;rw[zg1z A9];exact Bi⟩,λj n o l n' o' l' e e'=>?_⟩;cases e;cases e';omega
 .have jH:=(zf1z.1 hk).1;refine⟨.sl k (xs.length+ys.length) 0 (xs.length+ys.length),h.fams.set k ⟨xs++ys,sz,c.mutApp⟩,λBB=>?_,λBB=>.inr ⟨by intro e;rw[zf4z]at e;exact S6 e.1,k,by rw[zf3z],by simp[jH]⟩,λwr s ws w hw hap=>?_⟩
  .simp only[J7,R4,hx' BB,hk];rw[if_pos ⟨trivial,trivial,by omega,hb.1,hb.2⟩]
  rcases hw with ⟨b',rfl⟩|⟨hne',k',rfl,Bi⟩
  .exact⟨λBB=>.inl ⟨b',rfl⟩,λj n o l n' o' l' _ e=>nomatch e⟩
  .have JO:k≠k':=λe=>hap k _ _ _ _ _ _ rfl (by rw[e]);refine⟨λBB=>.inr ⟨hne',k',rfl,by simp only;rw[zf2z JO];exact Bi⟩,λj n o l n' o' l' e e'=>?_⟩;cases e;cases e';exact JO rfl
structure GE where
 gr:Bool
 sz:Nat
 xs:List AV
 v:AV
def GE.Ok (h:AH) (e:GE):Prop:=NU false e.sz e.xs e.v h\/(e.gr=false/\∃m,e.v=sl m e.sz e.xs)
theorem GE.Ok.lsa {h:AH} {e:GE} (k:e.Ok h) (hg:e.gr=true):NU false e.sz e.xs e.v h:=by
 rcases k with k|⟨k,_⟩
 .exact k
 .rw[hg]at k;cases k
structure GLs (h:AH) (l:List GE):Prop where
 ok:∀e∈l,e.Ok h
 ap:∀(i j:Nat) (a b:GE),i≠j->l[i]?=some a->l[j]?=some b->Sc a.v b.v
theorem GE.Ok.fams {h h':AH} {e:GE} (k:e.Ok h) (he:h'.fams=h.fams):e.Ok h':=by
 rcases k with k|k
 .exact .inl (LB k he)
 .exact .inr k
theorem GLs.fams {h h':AH} {l:List GE} (hg:GLs h l) (e:h'.fams=h.fams):GLs h' l:=⟨λx hx=>(hg.ok x hx).fams e,hg.ap⟩
theorem GLs.get {h:AH} {l:List GE} (hg:GLs h l) {i:Nat} {e:GE} (hi:l[i]?=some e):e.Ok h:=hg.ok _ (List.mem_of_getElem? hi)
theorem GLs.app {c:Ctx} (hc:c.mutApp=false) {h:AH} {l:List GE} (hg:GLs h l) {i sz bytes:Nat} {xs ys:C6} {v x:AV} (hi:l[i]?=some ⟨true,sz,xs,v⟩) (hx:elems h sz x=some ys) (hb:(xs.length+ys.length)*bytes<=G3/\xs.length+ys.length<=maxLen) :
  ∃v' F',(∀BB,J7 c ⟨BB,h.fams⟩ sz bytes v x=some (v',⟨BB,F'⟩))/\∀BB,GLs ⟨BB,F'⟩ (l.set i ⟨true,sz,xs++ys,v'⟩):=by
 have h1:NU c.mutApp sz xs v h:=by rw[hc];exact(hg.get hi).lsa rfl
 obtain⟨v',F',a1,a2,a3⟩:=eK h1 hx hb;rw[hc]at a2;have hil:=(zf1z.1 hi).1;have other:∀(j:Nat) (b:GE),j≠i->l[j]?=some b->(∀BB,b.Ok ⟨BB,F'⟩)/\Sc v' b.v:=λj b hj hb'=>by
  have hap:=hg.ap i j _ b (Ne.symm hj) hi hb';rcases hg.get hb' with k|⟨k1,m,k2⟩
  .obtain⟨q1,q2⟩:=a3 _ _ _ _ k hap;exact⟨λBB=>.inl (q1 BB),q2⟩
  .exact⟨λBB=>.inr ⟨k1,m,k2⟩,λ_ _ _ _ _ _ _ _ e=>by rw[k2]at e;cases e⟩
 refine⟨v',F',a1,λBB=>⟨λe he=>?_,λp q a b hpq hp hq=>?_⟩⟩
 .obtain⟨j,hj⟩:=zg3z he;by_cases hij:i=j
  .subst hij;rw[zf5z hil]at hj;cases hj;exact .inl (a2 BB)
  .rw[zf2z hij]at hj;exact(other j e (Ne.symm hij) hj).1 BB
 .by_cases hip:i=p
  .subst hip;rw[zf5z hil]at hp;cases hp;rw[zf2z hpq]at hq;exact(other q b (Ne.symm hpq) hq).2
  .rw[zf2z hip]at hp;by_cases hiq:i=q
   .subst hiq;rw[zf5z hil]at hq;cases hq;exact(other p a (Ne.symm hip) hp).2.symm
   .rw[zf2z hiq]at hq;exact hg.ap p q a b hpq hp hq
theorem Qr (v:AV) (m:W8) (sz:Nat) (xs:C6):Sc v (sl m sz xs):=λ_ _ _ _ _ _ _ _ e=>nomatch e
theorem GLs.lit {h:AH} {l:List GE} (hg:GLs h l) (i sz:Nat) (m:W8) (xs:C6):GLs h (l.set i ⟨false,sz,xs,sl m sz xs⟩):=by
 refine⟨λe he=>?_,λp q a b hpq hp hq=>?_⟩
 .obtain⟨j,hj⟩:=zg3z he;rw[zg5z]at hj;split at hj
  .split at hj
   .cases hj;exact .inr ⟨rfl,m,rfl⟩
   .cases hj
  .exact hg.get hj
 .rw[zg5z]at hp hq;split at hp
  .split at hp
   .cases hp;exact(Qr _ _ _ _).symm
   .cases hp
  .split at hq
   .split at hq
    .cases hq;exact Qr _ _ _ _
    .cases hq
   .exact hg.ap p q a b hpq hp hq
theorem GLs.cons {h:AH} {l:List GE} (hg:GLs h l) (sz:Nat) (b:Bool) (xs:C6):GLs h (⟨true,sz,xs,sl (true,b) sz xs⟩::l):=by
 refine⟨λe he=>?_,λp q a b hpq hp hq=>?_⟩
 .rcases List.mem_cons.1 he with rfl|he
  .exact .inl (.inl ⟨b,rfl⟩)
  .exact hg.ok e he
 .cases p with
  |zero=>cases hp;exact(Qr _ _ _ _).symm
  |succ p =>
   cases q with
   |zero=>cases hq;exact Qr _ _ _ _
   |succ q=>exact hg.ap p q a b (by omega) hp hq
theorem GLs.tail {h:AH} {e:GE} {l:List GE} (hg:GLs h (e::l)):GLs h l:=⟨λx hx=>hg.ok x (List.mem_cons_of_mem _ hx),λi j a b hij hi hj=>hg.ap (i+1) (j+1) a b (by omega) hi hj⟩
theorem GLs.nil (h:AH):GLs h []:=⟨(λ_ he=>nomatch he),λi j a b _ hi=>by simp at hi⟩
theorem GE.Ok.frz {h:AH} {e:GE} (k:e.Ok h):∃m:Bool×Bool,∀(B:List (List AV)) (am:Bool),Go.Abs.frz ⟨B,h.fams⟩ am e.v=some (sl m e.sz e.xs)/\uE ⟨B,h.fams⟩ am e.v=some (sl m e.sz e.xs):=by
 rcases k with k|⟨_,m,k⟩
 .obtain⟨m,hm⟩:=Wj k;exact⟨m,λB am=>hm B am (by cases am<;>rfl)⟩
 .exact⟨m,λB am=>by rw[k];exact⟨rfl,rfl⟩⟩
theorem GE.Ok.tame {h:AH} {e:GE} (k:e.Ok h) (B:List (List AV)):Go.Abs.tame ⟨B,h.fams⟩ e.v=true:=by
 rcases k with k|⟨_,m,k⟩
 .exact aQ k B
 .rw[k];rfl
theorem GE.Ok.cells {h:AH} {e:GE} (k:e.Ok h):e.v.isTup=false/\e.v.cells=[e.v]:=by
 rcases k with k|⟨_,m,k⟩
 .exact⟨(Pt k).1,(Pt k).2.1⟩
 .rw[k];exact⟨rfl,rfl⟩
theorem GE.Ok.len {h:AH} {e:GE} (k:e.Ok h) (h':AH):Pe h' e.v=some (.int .i64 e.xs.length,h'):=by
 rcases k with k|⟨_,m,k⟩
 .exact eI k h'
 .rw[k];rfl
theorem GE.Ok.elems {h:AH} {e:GE} (k:e.Ok h) (B:List (List AV)):Go.Abs.elems ⟨B,h.fams⟩ e.sz e.v=some e.xs:=by
 rcases k with k|⟨_,m,k⟩
 .exact Xo k B
 .rw[k];exact Ax _ _ _ _
theorem GLs.one {h:AH} {sz:Nat} {xs:C6} {v:AV} (hg:NU false sz xs v h):GLs h [⟨true,sz,xs,v⟩]:=by
 refine⟨λe he=>?_,λi j a b hij hi hj=>?_⟩
 .rw[List.mem_singleton]at he;subst he;exact .inl hg
 .exfalso
  have h1:=(zf1z.1 hi).1;have h2:=(zf1z.1 hj).1;simp at h1 h2;omega
end Go.Abs
namespace Go.Abs.Q
open Go.Proofs
attribute [local simp] D3 D6 fin H4 G2 EP Co Bd Bc
def KF (r:ByteArray):List Ste->Nat->List Int
 | [],_=>[]
 |s::l,k=>(if KS r s then [(k:Int)]else [])++KF r l (k+1)
theorem XD (r:Q1):∀(l l':List Ste) (k:Nat),KF r (l++l') k=KF r l k++KF r l' (k+l.length)
 | [],l',k=>by simp[KF]
 |s::l,l',k=>by
  simp only[List.cons_append,KF,XD r l l' (k+1),List.append_assoc,zf7z];rw[show k+1+l.length=k+(l.length+1) from by omega]
theorem TT (r:Q1) (l:List Ste) {i:Nat} (hi:i<l.length):KF r (l.take (i+1)) 0=KF r (l.take i) 0++(if KS r l[i]then [(i:Int)]else []):=by
 rw[zf8z hi,XD];congr 1;simp only[KF,List.append_nil,Nat.zero_add,zg2z];rw[Nat.min_eq_left (by omega)]
theorem Na (r:Q1):∀(l:List Ste) (k:Nat),(KF r l k).length<=l.length
 | [],_=>by simp[KF]
 |s::l,k=>by
  have:=Na r l (k+1);simp only[KF,zf3z,zf7z];split<;>simp<;>omega
def X3 (l:List Int):List AV:=l.map (AV.int .i64)
theorem Yn (na:Nar) (C4:na.steps.length<=1048576) (r:Q1) (ro:Nat) (hro:Jj (na.roles.map AV.str) ro=some (.str r)) (vo:AV) (O1:C6) (fr:Fr) (h:AH) (hh:h.boxes=[(D1 na).cells]) (h5:A2 fr 5=vo) (h7:A2 fr 7=.vs true 0 []) (hgo:NU false 1 O1 vo h) (hl:fr.length=65) (h1:A2 fr 1=.ptr 0 0) (h6:A2 fr 6=.int .i64 (ro:Nat)) (h8:A2 fr 8=.int .i64 0) :
  C3 (lp (A4 (M3 Q) (B8 W0) a8) (fr,h)) λe fr' h'=>Kp a8.wr fr fr'/\e=.exit 2/\∃v,h'.boxes=[(D1 na).cells]/\A2 fr' 5=vo/\A2 fr' 7=v/\GLs h' [⟨true,1,X3 (KF r na.steps 0),v⟩,⟨true,1,O1,vo⟩]:=by
 refine C1 rfl fr (λn fr h'=>∃(i:Nat),i+n=na.steps.length/\A2 fr 8=.int .i64 (i:Nat)/\(∃(v:AV) (A:List Int),h'.boxes=[(D1 na).cells]/\A2 fr 5=vo/\A2 fr 7=v/\GLs h' [⟨true,1,X3 A,v⟩,⟨true,1,O1,vo⟩]/\A=KF r (na.steps.take i) 0)) ?_ na.steps.length h ⟨0,by omega,h8,_,[],hh,h5,h7,(GLs.one hgo).cons 1 false [],by simp[KF]⟩;rintro J Φ hJ hΦ n E3 H1 K ⟨i,hi,k8,hr⟩;have A6:=K.1.trans hl;have k1:=C0 K 1 h1;have k6:=C0 K 6 h6;clear K;by_cases A9:i<na.steps.length
 .have Z0:=C8 i (by omega);obtain⟨v,A,hB,k5,k7,hg,hA⟩:=hr;obtain⟨bx,fams⟩:=H1;simp only at hB;subst hB;have hx:=D5 (f:=P3) (zf0z A9);have hft:=TT r na.steps A9;have hfl:=Na r (na.steps.take i) 0;rw[←hA]at hft hfl;obtain⟨fl,hfl'⟩:∃fl,fl=KF r (na.steps.take (i+1)) 0:=⟨_,rfl⟩;rw[←hfl']at hft;generalize na.steps[i]=s at *
  have e8:=C7 na;obtain⟨v',F',a1,a2⟩:=hg.app (c:=B8 W0) rfl (i:=0) (bytes:=8) (x:=sl (true,true) 1 [.int .i64 (i:Nat)]) (ys:=[.int .i64 (i:Nat)]) rfl (Ax _ _ _ _) (by simp only[X3,G3,maxLen,zg6z,zf7z,zg7z,zg2z]at *;omega);have a3:=a2 [(D1 na).cells];rw[List.set_cons_zero,show X3 A++[AV.int .i64 (i:Nat)]=X3 (A++[(i:Int)]) from by simp[X3]]at a3;have a4:=a1 [(D1 na).cells];simp only[e8]at a4;clear hA hfl a1 a2;unfold KS at hft;by_cases e1:s.frm=r
  .have hft2:fl=A++[(i:Int)]:=by rw[hft];simp[e1]
   clear hft;simp[a8,A6,k1,k6,k8,A9,Z0,k5,k7,hx,hro,B4,a4,e1,e8];exact F7 hJ ⟨i+1,by omega,by simp[A6],v',fl,rfl,by simp[A6,k5],by simp[A6],by rw[hft2];exact a3,hfl'⟩
  .by_cases e2:s.to=r
   .have hft2:fl=A++[(i:Int)]:=by rw[hft];simp[e2]
    clear hft;simp[a8,A6,k1,k6,k8,A9,Z0,k5,k7,hx,hro,B4,a4,e1,e2,e8];exact F7 hJ ⟨i+1,by omega,by simp[A6],v',fl,rfl,by simp[A6,k5],by simp[A6],by rw[hft2];exact a3,hfl'⟩
   .have hft2:fl=A:=by rw[hft];simp[e1,e2]
    clear hft;simp[a8,A6,k1,k6,k8,A9,Z0,k5,k7,hx,hro,e1,e2,e8];exact F7 hJ ⟨i+1,by omega,by simp[A6],v,fl,rfl,by simp[A6,k5],by simp[A6,k7],by rw[hft2];exact hg.fams rfl,hfl'⟩
 .obtain⟨v,A,hB,k5,k7,hg,hA⟩:=hr;obtain⟨bx,fams⟩:=H1;simp only at hB;subst hB;rw[zf6z (by omega)]at hA;have e8:=C7 na;simp[a8,A6,k1,k6,k8,A9,e8];exact hΦ _ _ _ ⟨rfl,v,rfl,by simp[k5],by simp[k7],by rw[←hA];exact hg⟩
def CL (L:List (List Int)) (xs:List AV):Prop:=∃ms:List (Bool×Bool),ms.length=L.length/\xs=List.zipWith (λm l=>sl m 1 (X3 l)) ms L
theorem CL.nil:CL [] []:=⟨[],rfl,rfl⟩
theorem CL.snoc {L:List (List Int)} {xs:C6} (h:CL L xs) (m:W8) (l:List Int):CL (L++[l]) (xs++[sl m 1 (X3 l)]):=by
 obtain⟨ms,h1,rfl⟩:=h;exact⟨ms++[m],by simp[h1],by rw[List.zipWith_append h1];rfl⟩
theorem CL.get {L:List (List Int)} {xs:C6} (h:CL L xs) {i:Nat} (hi:i<L.length):∃m,xs[i]?=some (sl m 1 (X3 L[i])):=by
 obtain⟨ms,h1,rfl⟩:=h;exact⟨ms[i],by rw[List.getElem?_zipWith,zf0z (by omega),zf0z hi]⟩
theorem CL.len {L:List (List Int)} {xs:C6} (h:CL L xs):xs.length=L.length:=by
 obtain⟨ms,h1,rfl⟩:=h;simp[h1]
theorem Yo (na:Nar) (C4:na.steps.length<=1048576) (hrl:na.roles.length<=1048576) (fr:Fr) (h:AH) (hh:h.boxes=[(D1 na).cells]) (h5:A2 fr 5=.vs true 0 []) (hl:fr.length=65) (h1:A2 fr 1=.ptr 0 0) (h6:A2 fr 6=.int .i64 0) :
  C3 (lp (A4 (M3 Q) (B8 W0) Bu) (fr,h)) λe fr' h'=>Kp Bu.wr fr fr'/\e=.exit 0/\∃xs:List AV,NU false 1 xs (A2 fr' 5) h'/\CL (na.roles.map λr=>KF r na.steps 0) xs:=by
 refine C1 rfl fr (λn fr h'=>∃(i:Nat),i+n=na.roles.length/\A2 fr 6=.int .i64 (i:Nat)/\(∃(v:AV) (xs:List AV),h'.boxes=[(D1 na).cells]/\A2 fr 5=v/\NU false 1 xs v h'/\CL ((na.roles.take i).map λr=>KF r na.steps 0) xs)) ?_ na.roles.length h ⟨0,by omega,h6,_,[],hh,h5,eJ _ _ _,by simpa using CL.nil⟩;rintro J Φ hJ hΦ n E3 H1 K ⟨i,hi,k6,hr⟩;have A6:=K.1.trans hl;have k1:=C0 K 1 h1;clear K;by_cases A9:i<na.roles.length
 .have Z0:=C8 i (by omega);obtain⟨v,xs,hB,k5,hg,hR⟩:=hr;obtain⟨bx,fams⟩:=H1;simp only at hB;subst hB;have hx:=D5 (f:=AV.str) (zf0z A9);have e8:=C7 na;have NE:=hR.len;rw[zg6z,zg2z]at NE;have hT:(na.roles.take (i+1)).map (λr=>KF r na.steps 0)=(na.roles.take i).map (λr=>KF r na.steps 0)++[KF na.roles[i] na.steps 0]:=by
   rw[zf8z A9,List.map_append];rfl
  generalize na.roles[i]=r at *
  simp[Bu,A6,k1,k6,A9,Z0,k5,e8];refine C3.mono (Yn na C4 r i hx v xs _ _ ?_ ?_ ?_ ?_ ?_ ?_ ?_ ?_) ?_<;>first|(simp[A6,k1,k5,k6,e8];done)|exact LB hg rfl|skip
  rintro e X2 ⟨bx2,F2⟩ ⟨K,rfl,w,hB2,q5,q7,hg2⟩;simp only at hB2;subst hB2;have If:X2.length=65:=K.1.trans (by simp[A6]);have q1:A2 X2 1=.ptr 0 0:=C0 K 1 (by simp[A6,k1]);have q6:A2 X2 6=.int .i64 (i:Nat):=C0 K 6 (by simp[A6,k6]);clear K;have hgw:=hg2.get (i:=0) rfl;have hgo:NU false 1 xs v ⟨[(D1 na).cells],F2⟩:=(hg2.get (i:=1) rfl).lsa rfl;obtain⟨mw,hfw⟩:=hgw.frz;have hfw':=λB am=>(hfw B am).1;simp only at hfw';obtain⟨v',F',a1,a2,-⟩:=eH (c:=B8 W0) (bytes:=24) (x:=sl (true,true) 1 [sl mw 1 (X3 (KF r na.steps 0))]) (ys:=[sl mw 1 (X3 (KF r na.steps 0))]) hgo (Ax _ _ _ _) (by simp only[G3,maxLen,zf7z,zg7z];omega);have hR':=hR.snoc mw (KF r na.steps 0);rw[←hT]at hR';simp[If,q1,q5,q6,q7,Z0,B4,hfw',a1];exact F7 hJ ⟨i+1,by omega,by simp[If],v',_,rfl,by simp[If],a2,hR'⟩
 .obtain⟨v,xs,hB,k5,hg,hR⟩:=hr;obtain⟨bx,fams⟩:=H1;simp only at hB;subst hB;rw[zf6z (by omega)]at hR;have e8:=C7 na;simp[Bu,A6,k1,k6,A9,e8];exact hΦ _ _ _ ⟨rfl,xs,by simp[k5];exact LB hg rfl,hR⟩
def NP (n:Nar):List (List Int):=if (AQ n).2=0 then n.roles.map λr=>KF r n.steps 0 else []
theorem ZI (n:Nar) (F:Fine n) (S:Lens n):∃(m:W8) (xs:C6),pc Q W0 [D1 n]=some (sl m 1 xs)/\CL (NP n) xs:=by
 suffices h:∃v,pc Q W0 [D1 n]=some v/\∃(m:Bool×Bool) (xs:List AV),v=sl m 1 xs/\CL (NP n) xs by
  obtain⟨v,h1,m,xs,rfl,h2⟩:=h;exact⟨m,xs,h1,h2⟩
 have hC:=MM n F S;have nb:=C7 n;by_cases hz:(AQ n).2=0
 .have hL:NP n=n.roles.map λr=>KF r n.steps 0:=if_pos hz;rw[(EJ hz).1]at hC;rw[hL];refine JA CF λΨ hΨ fr hl h0=>?_;simp[CF]at hl h0;simp[CF,hl,h0,nb,hC];refine C3.mono (Yo n S.steps (by have:=S.names;omega) _ _ ?_ ?_ ?_ ?_ ?_) ?_<;>first|(simp[hl,nb];done)|skip
  rintro e E3 ⟨bx,F1⟩ ⟨K,rfl,xs,hg,hR⟩;have A6:E3.length=65:=K.1.trans (by simp[hl]);obtain⟨mm,hf⟩:=eL hg;simp only at hf;simp[A6,hf];exact hΨ _ ⟨mm,_,rfl,hR⟩
 .have hL:NP n=[]:=if_neg hz;rw[hL];refine JA CF λΨ hΨ fr hl h0=>?_;simp[CF]at hl h0;simp[CF,hl,h0,nb,hC,hz];exact hΨ _ ⟨(true,false),[],by simp[sl],CL.nil⟩
end Go.Abs.Q
