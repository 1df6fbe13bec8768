/- A part of the proof. -/
import Derived.Test.YtjhgilockkmniaaGreatDoorSH29
set_option linter.all false
open List renaming getElem?_eq_getElem->zf0z,getElem?_set_self->zf1z,getElem?_zipWith->zf3z,getElem?_set_ne->zf4z,length_take->zf5z,getElem?_append_right->zf6z,drop_eq_getElem_cons->zf7z,getElem?_map->zf8z,take_of_length_le->zf9z,all_eq_true->zg0z,replicate->zg1z,getElem?_set->zg2z,getElem?_cons_zero->zg3z,contains_eq_mem->zg4z,mem_map->zg5z,ext_getElem?->zg6z,getElem_mem->zg8z,append_nil->zg9z,length_map->zt0z,zipWith->zt2z
open Option renaming map_some->zf2z
open Bool renaming and_eq_true->zg7z
open Nat renaming min_eq_left->zt1z,sub_self->zt3z
namespace Go.Abs.Q
open Go.Proofs
attribute [local simp] D3 D6 fin H4 G2 EP Co Bd Bc
def XA (Ls:List (List Int)) (Kc:List AV):List GE:=zt2z (λl v=>⟨true,1,X3 l,v⟩) Ls Kc
theorem fE {Ls:List (List Int)} {Kc:C6} {r:Nat} {l:List Int} {v:AV} (h1:Ls[r]?=some l) (h2:Kc[r]?=some v):(XA Ls Kc)[r]?=some ⟨true,1,X3 l,v⟩:=by
 unfold XA;rw[zf3z,h1,h2]
theorem fF (Ls:List (List Int)) (Kc:C6) (r:Nat) (l:List Int) (v:AV):(XA Ls Kc).set r ⟨true,1,X3 l,v⟩=XA (Ls.set r l) (Kc.set r v):=by
 unfold XA;apply zg6z;intro j;rw[zg2z,zf3z,zf3z,zg2z,zg2z,List.length_zipWith];by_cases h:r=j
 .subst h;by_cases h1:r<Ls.length<;>by_cases h2:r<Kc.length
  .rw[if_pos rfl,if_pos (by omega),if_pos rfl,if_pos h1,if_pos rfl,if_pos h2]
  .rw[if_pos rfl,if_neg (by omega),if_pos rfl,if_pos h1,if_pos rfl,if_neg h2]
  .rw[if_pos rfl,if_neg (by omega),if_pos rfl,if_neg h1]
  .rw[if_pos rfl,if_neg (by omega),if_pos rfl,if_neg h1]
 .rw[if_neg h,if_neg h,if_neg h]
def Ma (s:Ste) (i:Nat) (rs:List ByteArray) (Ls:List (List Int)):List (List Int):=zt2z (λr l=>l++(if KS r s then [(i:Int)]else [])) rs Ls
theorem df (rs:List ByteArray) (l:List Ste) {i:Nat} (hi:i<l.length):Ma l[i] i rs (rs.map λr=>KF r (l.take i) 0)=rs.map λr=>KF r (l.take (i+1)) 0:=by
 unfold Ma;apply zg6z;intro j;rw[zf3z,zf8z,zf8z];cases rs[j]? with
 |none=>rfl
 |some r=>simp only[zf2z,TT r l hi]
def Ln (s:Ste) (i:Nat) (rs:List ByteArray) (Ls:List (List Int)) (k:Nat):List (List Int):=(Ma s i rs Ls).take k++Ls.drop k
theorem Zm (s:Ste) (i:Nat) (rs:List ByteArray) (Ls:List (List Int)):Ln s i rs Ls 0=Ls:=by simp[Ln]
theorem da (s:Ste) (i:Nat) (rs:List ByteArray) (Ls:List (List Int)) (h:Ls.length=rs.length):Ln s i rs Ls rs.length=Ma s i rs Ls:=by
 unfold Ln;rw[zf9z (by simp[Ma,h]),List.drop_eq_nil_of_le (by omega),zg9z]
theorem de (s:Ste) (i:Nat) (rs:List ByteArray) (Ls:List (List Int)) (h:Ls.length=rs.length) (k:Nat) (hk:k<=rs.length):(Ln s i rs Ls k).length=rs.length:=by
 simp[Ln,Ma,h];omega
theorem db (s:Ste) (i:Nat) (rs:List ByteArray) (Ls:List (List Int)) (h:Ls.length=rs.length) {k:Nat} (hk:k<rs.length):(Ln s i rs Ls k)[k]?=some (Ls[k]'(by omega)):=by
 unfold Ln;have hl:(Ma s i rs Ls).length=rs.length:=by simp[Ma,h]
 rw[zf6z (by rw[zf5z];omega),zf5z,hl,zt1z (by omega),zt3z,List.getElem?_drop,Nat.add_zero,zf0z (by omega)]
theorem Zl (s:Ste) (i:Nat) (rs:List ByteArray) (Ls:List (List Int)) (h:Ls.length=rs.length) {k:Nat} (hk:k<rs.length):Ln s i rs Ls (k+1)=(Ln s i rs Ls k).set k ((Ls[k]'(by omega))++(if KS rs[k] s then [(i:Int)]else [])):=by
 have hl:(Ma s i rs Ls).length=rs.length:=by simp[Ma,h]
 have hg:(Ma s i rs Ls)[k]'(by omega)=(Ls[k]'(by omega))++(if KS rs[k] s then [(i:Int)]else []):=by simp[Ma]
 unfold Ln;rw[List.take_succ_eq_append_getElem (by omega),hg,zf7z (by omega:k<Ls.length),List.set_append_right _ _ (by rw[zf5z];omega),zf5z,hl,zt1z (by omega),zt3z,List.set_cons_zero,List.append_assoc];rfl
theorem gz {l:C6} (h:2<=l.length):AZ l=false:=by
 match l,h with
 |a::b::l,_=>cases a<;>rfl
theorem Yi (na:Nar) (hrl:na.roles.length<=1048576) (h2r:2<=na.roles.length) (s:Ste) (k q:Nat) (hk:k<1048576) (Ls:List (List Int)) (hLl:Ls.length=na.roles.length) (hLL:∀l∈Ls,l.length<=k) (Kc0:C6) (B0:List (List AV)) (hKl:Kc0.length=na.roles.length) (hbp:B0[q]?=some (P3 s).cells) (fr:Fr) (h:AH) (hBX:h.boxes=(D1 na).cells::Kc0::B0) (hg0:GLs h (XA Ls Kc0)) (hl:fr.length=53) (h1:A2 fr 1=.ptr 0 0) (h5:A2 fr 5=.bsl 1 1 0 na.roles.length) (h6:A2 fr 6=.int .i64 (k:Nat)) (h7:A2 fr 7=.ptr (q+2) 0) (h30:A2 fr 30=sl na.rm 1 (na.roles.map .str)) (h31:A2 fr 31=.int .i64 na.roles.length) (h32:A2 fr 32=.int .i64 0) :
  C3 (lp (A4 (M3 Q) (B8 R9) m8) (fr,h)) λe fr' h'=>Kp m8.wr fr fr'/\e=.exit 2/\∃(Kc:List AV),h'.boxes=(D1 na).cells::Kc::B0/\Kc.length=na.roles.length/\GLs h' (XA (Ma s k na.roles Ls) Kc):=by
 refine C1 rfl fr (λn fr h'=>∃(i:Nat),i+n=na.roles.length/\A2 fr 32=.int .i64 (i:Nat)/\(∃(Kc:List AV),h'.boxes=(D1 na).cells::Kc::B0/\Kc.length=na.roles.length/\GLs h' (XA (Ln s k na.roles Ls i) Kc))) ?_ na.roles.length h ⟨0,by omega,h32,Kc0,hBX,hKl,by rw[Zm];exact hg0⟩;rintro J Φ hJ hΦ n E3 H1 K ⟨i,hi,k32,hr⟩;have A6:=K.1.trans hl;have k1:=C0 K 1 h1;have k5:=C0 K 5 h5;have k6:=C0 K 6 h6;have k7:=C0 K 7 h7;have k30:=C0 K 30 h30;have k31:=C0 K 31 h31;clear K;by_cases A9:i<na.roles.length
 .have Z0:=C8 i (by omega);obtain⟨Kc,hB,hKl,hg⟩:=hr;obtain⟨bx,fams⟩:=H1;simp only at hB;subst hB;have hx:=D5 (f:=AV.str) (zf0z A9);have hT:=Lf s na.roles[i];have hun:=Zl s k na.roles Ls hLl A9;have hug:=db s k na.roles Ls hLl A9;have hul:=de s k na.roles Ls hLl i (by omega);have hll:=hLL _ (zg8z (l:=Ls) (n:=i) (by omega));have hKi:Kc[i]?=some (Kc[i]'(by omega)):=zf0z (by omega);have hgi:=fE hug hKi;generalize Ls[i]=l0 at *
  generalize Kc[i]=v0 at *
  generalize na.roles[i]=r at *
  have hplt:(i:Int)<(na.roles.length:Int):=by omega
  have hMB:=gz (l:=Kc) (by omega);obtain⟨v',F',a1,a2⟩:=hg.app (c:=B8 R9) rfl (bytes:=8) (x:=sl (true,true) 1 [.int .i64 (k:Nat)]) (ys:=[.int .i64 (k:Nat)]) hgi (Ax _ _ _ _) (by simp only[X3,G3,maxLen,zt0z,List.length_cons,List.length_nil];omega);rw[show X3 l0++[AV.int .i64 (k:Nat)]=X3 (l0++[(k:Int)]) from by simp[X3]]at a2;have hgi':∀BB,(⟨true,1,X3 (l0++[(k:Int)]),v'⟩:GE).Ok ⟨BB,F'⟩:=λBB=>(a2 BB).ok _ (List.mem_of_getElem? (i:=i) (by rw[zf1z (List.getElem?_eq_some_iff.1 hgi).1]));obtain⟨c1,c2⟩:=(hgi' []).cells;simp only at a1 c1 c2;simp only[fF]at a2;have e8:=C7 na;have hsp:Kc.take i++v'::Kc.drop (i+1)=Kc.set i v':=by rw[List.set_eq_take_append_cons_drop,if_pos (by omega)]
  have hi1:i+1<=Kc.length:=by omega
  cases hb:KS r s with
  |true =>
   rw[hb]at hT hun;simp only[if_true]at hun;simp[m8,A6,k1,k5,k6,k7,k30,k31,k32,A9,Z0,hx,hT,hbp,hplt,hMB,hKi,B4,a1,c1,c2,S2,hsp,hi1,e8];exact F7 hJ ⟨i+1,by omega,by simp[A6],Kc.set i v',by rw[e8],by simp[hKl],by rw[hun];exact a2 _⟩
  |false =>
   rw[hb]at hT hun;simp only[Bool.false_eq_true,if_false,zg9z]at hun;have hun':Ln s k na.roles Ls (i+1)=Ln s k na.roles Ls i:=by rw[hun];exact GB hug
   simp[m8,A6,k1,k5,k6,k7,k30,k31,k32,A9,Z0,hx,hT,hbp,e8];exact F7 hJ ⟨i+1,by omega,by simp[A6],Kc,by rw[e8],hKl,by rw[hun'];exact hg.fams rfl⟩
 .obtain⟨Kc,hB,hKl,hg⟩:=hr;obtain⟨bx,fams⟩:=H1;simp only at hB;subst hB;have n6:i=na.roles.length:=by omega
  rw[n6,da _ _ _ _ hLl]at hg;have e8:=C7 na;simp[m8,A6,k1,k5,k6,k7,k30,k31,k32,A9,e8];exact hΦ _ _ _ ⟨rfl,Kc,by rw[e8],hKl,hg.fams rfl⟩
theorem bO {h:AH} {l:List Int} {v:AV} (hg:GE.Ok h ⟨true,1,X3 l,v⟩):∃m:Bool×Bool,∀B:List (List AV),RM ⟨B,h.fams⟩ true v=some (sl m 1 (X3 l)):=by
 have hg:NU false 1 (X3 l) v h:=hg.lsa rfl;rcases hg with ⟨b,rfl⟩|⟨S6,k,rfl,hk⟩
 .exact⟨(true,b),λB=>rfl⟩
 .refine⟨(false,true),λB=>?_⟩;simp only[RM,hk];rw[if_pos ⟨trivial,by omega,rfl⟩];have he:(X3 l).isEmpty=false:=by
   cases hq:X3 l with
   |nil=>exact absurd hq S6
   |cons _ _=>rfl
  simp[sl,he]
theorem TP {h:AH}:∀{Ls:List (List Int)} {Kc:C6},Kc.length=Ls.length->GLs h (XA Ls Kc)->∃xs,(∀B:List (List AV),KX ⟨B,h.fams⟩ true Kc=some xs)/\CL Ls xs
 | [],[],_,_=>⟨[],λB=>rfl,CL.nil⟩
 |l::Ls,v::Kc,hl,hg=>by
  have CN:GLs h (⟨true,1,X3 l,v⟩::XA Ls Kc):=hg;obtain⟨m,hm⟩:=bO (CN.get (i:=0) rfl);obtain⟨xs,h1,ms,h2,h3⟩:=TP (by simpa using hl) CN.tail;refine⟨sl m 1 (X3 l)::xs,λB=>?_,m::ms,by simp[h2],by rw[h3];rfl⟩;simp only[KX,hm B,h1 B];rfl
 | [],_::_,h,_=>by simp at h
 |_::_,[],h,_=>by simp at h
theorem QB:∀(n:Nat) (cs:C6),cs.length=n->LK 1 cs n=cs
 |0,[],_=>rfl
 |n+1,x::cs,h=>by
  simp only[LK,if_true,List.headD_cons,List.drop_one,List.tail_cons];rw[QB n cs (by simpa using h)]
theorem XB (h:AH):∀rs:List ByteArray,GLs h (XA (rs.map λ_=>[]) (zg1z rs.length (.vs true 0 [])))
 | []=>GLs.nil h
 |r::rs=>(XB h rs).cons 1 false []
theorem Yj (na:Nar) (C4:na.steps.length<=1048575) (hrl:na.roles.length<=1048576) (h2r:2<=na.roles.length) (Kc0:C6) (fr:Fr) (h:AH) (hh:h.boxes=[(D1 na).cells,Kc0]) (hKl0:Kc0.length=na.roles.length) (hg0:GLs h (XA (na.roles.map λ_=>[]) Kc0)) (hl:fr.length=53) (h1:A2 fr 1=.ptr 0 0) (h5:A2 fr 5=.bsl 1 1 0 na.roles.length) (h22:A2 fr 22=sl na.sm 7 (na.steps.map P3)) (h23:A2 fr 23=.int .i64 na.steps.length) (h24:A2 fr 24=.int .i64 0) :
  C3 (lp (A4 (M3 Q) (B8 R9) BC) (fr,h)) λe fr' h'=>Kp BC.wr fr fr'/\e=.exit 0/\∃(Kc:List AV) (B:List (List AV)),h'.boxes=(D1 na).cells::Kc::B/\Kc.length=na.roles.length/\GLs h' (XA (na.roles.map λr=>KF r na.steps 0) Kc):=by
 refine C1 rfl fr (λn fr h'=>∃(i:Nat),i+n=na.steps.length/\A2 fr 24=.int .i64 (i:Nat)/\(∃(Kc:List AV) (B:List (List AV)),h'.boxes=(D1 na).cells::Kc::B/\Kc.length=na.roles.length/\GLs h' (XA (na.roles.map λr=>KF r (na.steps.take i) 0) Kc))) ?_ na.steps.length h ⟨0,by omega,h24,Kc0,[],hh,hKl0,hg0⟩;rintro J Φ hJ hΦ n E3 H1 K ⟨i,hi,k24,hr⟩;have A6:=K.1.trans hl;have k1:=C0 K 1 h1;have k5:=C0 K 5 h5;have k22:=C0 K 22 h22;have k23:=C0 K 23 h23;clear K;by_cases A9:i<na.steps.length
 .have Z0:=C8 i (by omega);obtain⟨Kc,B,hB,hKl,hg⟩:=hr;obtain⟨bx,fams⟩:=H1;simp only at hB;subst hB;have hx:=D5 (f:=P3) (zf0z A9);have hun:=df na.roles na.steps A9;have hLl:(na.roles.map λr=>KF r (na.steps.take i) 0).length=na.roles.length:=by simp
  have hLL:∀l∈na.roles.map λr=>KF r (na.steps.take i) 0,l.length<=i:=λl hl=>by
   obtain⟨r,_,rfl⟩:=zg5z.1 hl;have:=Na r (na.steps.take i) 0;rw[zf5z]at this;omega
  generalize (na.roles.map λr=>KF r (na.steps.take i) 0)=Ls at *
  generalize hs:na.steps[i]=s at *
  have e8:=C7 na;simp[BC,A6,k1,k5,k22,k23,k24,A9,Z0,hx,e8];refine C3.mono (Yi na hrl h2r s i B.length (by omega) Ls hLl hLL Kc (B++[(P3 s).cells]) hKl (by simp) _ _ ?_ ?_ ?_ ?_ ?_ ?_ ?_ ?_ ?_ ?_) ?_<;>first|(simp[A6,k1,k5,e8];done)|exact hg.fams rfl|skip
  rintro e X2 ⟨bx2,F2⟩ ⟨K,rfl,Kc2,hB2,hKl2,hg2⟩;simp only at hB2;subst hB2;have If:X2.length=53:=K.1.trans (by simp[A6]);have q24:A2 X2 24=.int .i64 (i:Nat):=C0 K 24 (by simp[A6,k24]);clear K;rw[hun]at hg2;simp[If,q24,Z0];exact F7 hJ ⟨i+1,by omega,by simp[If],Kc2,_,rfl,hKl2,hg2.fams rfl⟩
 .obtain⟨Kc,B,hB,hKl,hg⟩:=hr;obtain⟨bx,fams⟩:=H1;simp only at hB;subst hB;rw[zf9z (by omega)]at hg;have e8:=C7 na;simp[BC,A6,k1,k5,k22,k23,k24,A9,e8];exact hΦ _ _ _ ⟨rfl,Kc,B,by rw[e8],hKl,hg.fams rfl⟩
theorem ZG (n:Nar) (F:Fine n) (S:Lens n):∃(m:W8) (xs:C6),pc Q R9 [D1 n]=some (sl m 1 xs)/\CL (NP n) xs:=by
 suffices h:∃v,pc Q R9 [D1 n]=some v/\∃(m:Bool×Bool) (xs:List AV),v=sl m 1 xs/\CL (NP n) xs by
  obtain⟨v,h1,m,xs,rfl,h2⟩:=h;exact⟨m,xs,h1,h2⟩
 have hC:=Jn n F S.names;have nb:=C7 n;by_cases hz:(AQ n).2=0
 .have hL:NP n=n.roles.map λr=>KF r n.steps 0:=if_pos hz;obtain⟨h0,hR⟩:=EJ hz;rw[h0]at hC;rw[hL];have hrl:n.roles.length<=1048576:=by have:=S.names;omega
  have h5:n.steps.length<=8:=(KK (Gz (Gl hR.nar).1).2).2.2.2.2.2.1;have h2r:2<=n.roles.length:=by have:=KK (Gz (Gl hR.nar).1).2;omega
  have hrep:(zg1z n.roles.length [AV.vs true 0 []]).flatten=zg1z n.roles.length (AV.vs true 0 []):=by
   rw[List.flatten_replicate_singleton]
  have hm1:(n.roles.length:Int)*24<=(G3:Int):=by unfold G3;omega
  have hm2:(n.roles.length:Int)<=(maxLen:Int):=by unfold maxLen;omega
  refine JA BA λΨ hΨ fr hl h0=>?_;simp[BA]at hl h0;simp[BA,hl,h0,nb,hC,NG,hm1,hm2,hrep];refine C3.mono (Yj n (by omega) hrl h2r (zg1z n.roles.length (AV.vs true 0 [])) _ _ ?_ ?_ ?_ ?_ ?_ ?_ ?_ ?_ ?_) ?_<;>first|(simp[hl,nb];done)|exact XB _ _|skip
  rintro e E3 ⟨bx,F1⟩ ⟨K,rfl,Kc,B,hB,hKl,hg⟩;simp only at hB;subst hB;have A6:E3.length=53:=K.1.trans (by simp[hl]);have q5:A2 E3 5=.bsl 1 1 0 n.roles.length:=C0 K 5 (by simp[hl]);obtain⟨xs,hf,hX⟩:=TP (by simpa using hKl) hg;have hMB:=gz (l:=Kc) (by omega);have NE:=hX.len;rw[zt0z]at NE;have hR1:BW ⟨(D1 n).cells::Kc::B,F1⟩ (.bsl 1 1 0 n.roles.length)=some (sl (false,true) 1 xs):=by
   simp only[BW,frz,uE,YQ,List.getElem?_cons_succ,zg3z];have hf':=hf ((D1 n).cells::Kc::B);simp only at hf';rw[if_pos ⟨trivial,hMB,by omega,by omega⟩,List.drop_zero,Nat.mul_one,zf9z (by omega),hf',zf2z,QB _ _ NE,PM]
  simp[A6,q5,hR1];exact hΨ _ ⟨_,_,rfl,hX⟩
 .have hL:NP n=[]:=if_neg hz;rw[hL];refine JA BA λΨ hΨ fr hl h0=>?_;simp[BA]at hl h0;simp[BA,hl,h0,nb,hC,hz];exact hΨ _ ⟨(true,false),[],by simp[sl],CL.nil⟩
end Go.Abs.Q
namespace Go.Abs
theorem Xl {O:Orc} {c:Ctx} {bs:List Nat} {ops:List RO} {fr fr':Fr} {h h':AH} {fs:List Foot} {Ψ:Ex->Fr->AH->Prop} (he:J4 O c ops fr (h.holes (XG ops))=some (fs,fr',h')) (hp:r7 bs ops fs=true) (hΨ:Ψ .normal fr' h') :
  C3 (A4 O c (.regd bs ops) (fr,h)) Ψ:=by
 have e:A4 O c (.regd bs ops) (fr,h)=some (.normal,(fr',h')):=by
  simp only[A4,he,hp,if_true]
 rw[e];simpa using hΨ
structure FLe (f g:Foot):Prop where
 rb:f.rb=g.rb
 wb:∀x∈f.wb,x∈g.wb
 rf:f.rf=g.rf
 wf:∀x∈f.wf,x∈g.wf
theorem Gh {r:Option (List (Option Nat))} {w w':List (Option Nat)} (h:CG r w'=true) (k:∀x∈w,x∈w'):CG r w=true:=by
 cases r with
 |none =>
  cases w with
  |nil=>rfl
  |cons x w =>
   have:=k x List.mem_cons_self;cases w' with
   |nil=>cases this
   |cons _ _=>exact absurd h (by simp[CG])
 |some r =>
  simp only[CG,zg0z]at h ⊢;exact λx hx=>h x (k x hx)
theorem No {a b w:List (Option Nat)} (h:CG (some b) w=true) (k:∀x∈a,x∈b):CG (some a) w=true:=by
 simp only[CG,zg0z,Bool.not_eq_true',zg4z,decide_eq_false_iff_not]at h ⊢;exact λx hx hm=>h x hx (k x hm)
theorem Pa {f g f' g':Foot} (h:FLe f g) (h':FLe f' g') (k:CW g g'=true):CW f f'=true:=by
 simp only[CW,zg7z]at k ⊢;obtain⟨⟨⟨⟨⟨k1,k2⟩,k3⟩,k4⟩,k5⟩,k6⟩:=k;refine⟨⟨⟨⟨⟨?_,?_⟩,?_⟩,?_⟩,?_⟩,?_⟩
 .rw[h.rb];exact Gh k1 h'.wb
 .rw[h'.rb];exact Gh k2 h.wb
 .exact No (Gh k3 h'.wb) h.wb
 .rw[h.rf];exact Gh k4 h'.wf
 .rw[h'.rf];exact Gh k5 h.wf
 .exact No (Gh k6 h'.wf) h.wf
def Xm:List Foot->List Foot->Prop
 | [],[]=>True
 |f::fs,g::gs=>FLe f g/\Xm fs gs
 |_,_=>False
theorem Xm.get:∀{fs gs:List Foot},Xm fs gs->∀{i:Nat} {g:Foot},gs[i]?=some g->∃f,fs[i]?=some f/\FLe f g
 | [],[],_,i,g,h=>by simp at h
 |f::fs,g'::gs,hl,0,g,h=>by
  simp only[zg3z,Option.some.injEq]at h;subst h;exact⟨f,rfl,hl.1⟩
 |f::fs,g'::gs,hl,i+1,g,h=>by
  simpa using Xm.get hl.2 (i:=i) (by simpa using h)
theorem Tw {bs:List Nat} {C5:List RO} {fs gs:List Foot} (hl:Xm fs gs) (h:r7 bs C5 gs=true):r7 bs C5 fs=true:=by
 simp only[r7,zg0z]at h ⊢;intro j hj i hi;have:=h j hj i hi;split at this
 .rename_i oi oj gi gj e1 e2 e3 e4;obtain⟨fi,h3,li⟩:=hl.get e3;obtain⟨fj,h4,lj⟩:=hl.get e4;rw[e1,e2,h3,h4];simp only[LZ,zg7z,Bool.or_eq_true]at this ⊢;refine⟨?_,this.2⟩;rcases this.1 with h5|⟨h5,h6⟩
  .exact .inl h5
  .exact .inr ⟨h5,Pa li lj h6⟩
 .cases this
theorem YG (a:List (List AV)):Kk a a=[]:=by
 have:∀i:Nat,QE a[i]? a[i]?=true:=λi=>by
  cases a[i]? with
  |none=>rfl
  |some x=>exact L5 x
 simp[Kk,this]
theorem VV (x:Option Fam):Me x x=true:=by
 cases x with
 |none=>rfl
 |some x=>simp[Me,L5]
theorem QD (a:List Fam):PZ a a=[]:=by
 simp[PZ,VV]
theorem bA (a:List (List AV)) (k:Nat) (c:C6):∀x∈Kk a (a.set k c),x∈[some k]:=by
 intro x hx;simp only[Kk,List.length_set,if_true,List.nil_append,zg5z,List.mem_filter]at hx;obtain⟨i,⟨_,h2⟩,rfl⟩:=hx;by_cases hik:k=i
 .subst hik;simp
 .rw[zf4z hik]at h2;have:QE a[i]? a[i]?=true:=by
   cases a[i]? with
   |none=>rfl
   |some x=>exact L5 x
  rw[this]at h2;cases h2
def GC (O:Orc) (c:Ctx) (ops:List RO) (fr:Fr) (h:AH) (gs:List Foot) (fr':Fr) (h':AH):Prop:=∃fs,J4 O c ops fr h=some (fs,fr',h')/\Xm fs gs
section
variable {O:Orc} {c:Ctx} {fr fr':Fr} {h h':AH} {gs:List Foot}
theorem GC.nil:GC O c [] fr h [] fr h:=⟨[],rfl,trivial⟩
theorem GC.r {d:Option Nat} {op:ROp} {rest:List RO} {v:AV} {rb rf:List (Option Nat)} (he:A3 O c op fr h=some (v,h)) (h1:GJ c h.boxes.length (get fr) op=some rb) (h2:Ej c (get fr) op=some rf) (hr:GC O c rest (put fr d v) h gs fr' h') :
  GC O c (⟨d,op,none⟩::rest) fr h (⟨some rb,[],some rf,[]⟩::gs) fr' h':=by
 obtain⟨fs,e,l⟩:=hr;refine⟨BV c ⟨d,op,none⟩ fr h h::fs,?_,?_,l⟩
 .simp only[J4,M7,he,e,zf2z]
 .refine⟨h1,?_,h2,?_⟩
  .show ∀x∈Kk h.boxes h.boxes,x∈[];rw[YG];exact λ_ h=>h
  .show ∀x∈PZ h.fams h.fams,x∈[];rw[QD];exact λ_ h=>h
theorem GC.w {d:Option Nat} {op:ROp} {rest:List RO} {v:AV} {k:Nat} {cs:C6} {rb rf:List (Option Nat)} (he:A3 O c op fr h=some (v,⟨h.boxes.set k cs,h.fams⟩)) (h1:GJ c h.boxes.length (get fr) op=some rb) (h2:Ej c (get fr) op=some rf) (hr:GC O c rest (put fr d v) ⟨h.boxes.set k cs,h.fams⟩ gs fr' h') :
  GC O c (⟨d,op,none⟩::rest) fr h (⟨some rb,[some k],some rf,[]⟩::gs) fr' h':=by
 obtain⟨fs,e,l⟩:=hr;refine⟨BV c ⟨d,op,none⟩ fr h ⟨h.boxes.set k cs,h.fams⟩::fs,?_,?_,l⟩
 .simp only[J4,M7,he,e,zf2z]
 .refine⟨h1,?_,h2,?_⟩
  .exact bA _ _ _
  .show ∀x∈PZ h.fams h.fams,x∈[];rw[QD];exact λ_ h=>h
theorem Xj {bs:List Nat} {ops:List RO} {Ψ:Ex->Fr->AH->Prop} (hr:GC O c ops fr (h.holes (XG ops)) gs fr' h') (hp:r7 bs ops gs=true) (hΨ:Ψ .normal fr' h'):C3 (A4 O c (.regd bs ops) (fr,h)) Ψ:=by
 obtain⟨fs,e,l⟩:=hr;exact Xl e (Tw l hp) hΨ
end
def Foot.map (f:Nat->Nat) (x:Foot):Foot:=⟨x.rb.map (·.map (·.map f)),x.wb.map (·.map f),x.rf.map (·.map (·.map f)),x.wf.map (·.map f)⟩
theorem RE {f:Nat->Nat} (hf:∀a b,f a=f b->a=b) (l:List (Option Nat)) (x:Option Nat):(l.map (·.map f)).contains (x.map f)=l.contains x:=by
 rw[Bool.eq_iff_iff];simp only[zg4z,decide_eq_true_eq,zg5z];constructor
 .rintro⟨y,hy,e⟩;have:y=x:=by
   cases x<;>cases y<;>simp at e ⊢;exact hf _ _ e
  exact this ▸ hy
 .intro h;exact⟨x,h,rfl⟩
theorem Np {f:Nat->Nat} (hf:∀a b,f a=f b->a=b) (r:Option (List (Option Nat))) (w:List (Option Nat)):CG (r.map (·.map (·.map f))) (w.map (·.map f))=CG r w:=by
 cases r with
 |none=>cases w<;>rfl
 |some r =>
  simp only[zf2z,CG,List.all_map];congr 1;funext x;simp only[Function.comp,RE hf]
theorem OH {f:Nat->Nat} (hf:∀a b,f a=f b->a=b) (a b:Foot):CW (a.map f) (b.map f)=CW a b:=by
 have h1:=λ(r:List (Option Nat)) w=>Np hf (some r) w;simp only[zf2z]at h1;simp only[CW,Foot.map,Np hf,h1]
theorem Rq {f:Nat->Nat} (hf:∀a b,f a=f b->a=b) (bs:List Nat) (C5:List RO) (gs:List Foot) (h:r7 bs C5 gs=true):r7 bs C5 (gs.map (Foot.map f))=true:=by
 simp only[r7,zg0z]at h ⊢;intro j hj i hi;have:=h j hj i hi;rw[zf8z,zf8z];split at this
 .rename_i oi oj gi gj e1 e2 e3 e4;rw[e1,e2,e3,e4];simp only[zf2z,LZ,OH hf]at this ⊢;exact this
 .cases this
end Go.Abs
namespace Go.Abs.Q
open Go.Proofs
attribute [local simp] D3 D6 fin H4 G2 EP Co Bd Bc
def qu (a b:Ste):Bool:=KS a.frm b||KS a.to b
def NX:List Ste->Bool
 |a::b::l=>qu a b&&NX (b::l)
 |_=>true
theorem ai (l:List Ste) (q:Nat) (h:q+1<l.length):NX (l.drop q)=(qu l[q] l[q+1]&&NX (l.drop (q+1))):=by
 rw[zf7z (by omega:q<l.length),zf7z h];rfl
theorem Ws (l:List Ste) (q:Nat) (h:l.length<=q+1):NX (l.drop q)=true:=by
 have:(l.drop q).length<=1:=by rw[List.length_drop];omega
 match hl:l.drop q,this with
 | [],_=>rfl
 | [_],_=>rfl
 |_::_::_,h=>simp at h
def PW:AV:=.agg [(.str (bs [])),(.str (bs [])),(pI 0),(.str (bs [])),(pI 0),(.vs true 0 []),(pI 0)]
def gh:List Nat:=[0,1,0,4,15,31,0,64,0,448,960,0,0,6207,16383]
def Wf:List RO:=[F 24 4 1,L 25 24,V 26 6,O 27 (.bin .sub (.t 26) (.c (pI 1))),oI 28 7 25 27,A 29 7 28,F 30 4 1,L 31 30,V 32 6,oI 33 7 31 32,A 34 7 33,O 7 (.allocAt 2 PW),O 8 (.allocAt 1 PW),W 7 7 29,W 7 8 34]
def pm:List Foot:=[⟨some [],[],some [],[]⟩,⟨some [some 0],[],some [],[]⟩,⟨some [],[],some [],[]⟩,⟨some [],[],some [],[]⟩,⟨some [],[],some [],[]⟩,⟨some [],[],some [],[]⟩,⟨some [],[],some [],[]⟩,⟨some [some 0],[],some [],[]⟩,⟨some [],[],some [],[]⟩,⟨some [],[],some [],[]⟩,⟨some [],[],some [],[]⟩,
 ⟨some [none,some 1],[some 1],some [],[]⟩,⟨some [none,some 2],[some 2],some [],[]⟩,⟨some [some 1],[some 1],some [],[]⟩,⟨some [some 2],[some 2],some [],[]⟩]
theorem gO:r7 gh Wf pm=true:=by decide
def HZ (p n:Nat):Nat:=match n with|0=>0|1=>p|2=>p+1|n+3=>p+2+n
theorem dL {p:Nat} (h:0<p):∀a b,HZ p a=HZ p b->a=b
 |0,0,_=>rfl
 |1,1,_=>rfl
 |2,2,_=>rfl
 |a+3,b+3,e=>by simp only[HZ]at e;omega
 |0,1,e=>by simp only[HZ]at e;omega
 |0,2,e=>by simp only[HZ]at e;omega
 |0,b+3,e=>by simp only[HZ]at e;omega
 |1,0,e=>by simp only[HZ]at e;omega
 |1,2,e=>by simp only[HZ]at e;omega
 |1,b+3,e=>by simp only[HZ]at e;omega
 |2,0,e=>by simp only[HZ]at e;omega
 |2,1,e=>by simp only[HZ]at e;omega
 |2,b+3,e=>by simp only[HZ]at e;omega
 |a+3,0,e=>by simp only[HZ]at e;omega
 |a+3,1,e=>by simp only[HZ]at e;omega
 |a+3,2,e=>by simp only[HZ]at e;omega
theorem Ks {O:Orc} {c:Ctx} (fr:Fr) (h:AH) (r:Nat) (z:AV):A3 O c (.allocAt r z) fr h=Ap h r z:=rfl
theorem tE {h:AH} {r p:Nat} (z:AV) (hp:h.boxes.length-r=p) (hb:h.boxes[p]?=some DF):Ap h r z=some (.ptr p 0,⟨h.boxes.set p z.cells,h.fams⟩):=by
 subst hp;simp only[Ap,hb];rfl
theorem cH {O:Orc} {c:Ctx} {fr:Fr} {h h':AH} {n:Nat} {a x:Opd} {v p:AV} (e1:get fr a=p) (e2:get fr x=v) (e:uG h n v p=some h'):A3 O c (.st n a x) fr h=some (B3,h'):=by
 subst e1 e2;simp only[A3,e]
theorem pW {h:AH} {p:Nat} (s:Ste) (hb:h.boxes[p]?=some PW.cells):uG h 7 (P3 s) (.ptr p 0)=some ⟨h.boxes.set p (P3 s).cells,h.fams⟩:=by
 simp only[uG,hb];simp[PW,AZ,S2]
set_option maxHeartbeats 1000000 in
theorem Up {O:Orc} {c:Ctx} (fr:Fr) (hl:46<=fr.length) (na:Nar) (B:List (List AV)) (F:List Fam) (q i:Nat) (hq:q+1=i) (hi:i<na.steps.length) (hs:na.steps.length<=1048576) (k1:A2 fr 1=.ptr 0 0) (k6:A2 fr 6=.int .i64 (i:Nat)) (s s':Ste) (h1:na.steps[q]?=some s) (h2:na.steps[i]?=some s')
  (Ψ:Ex->Fr->AH->Prop) (hΨ:∀fr' p bx B',fr'.length=fr.length->(∀j,j<24->j≠7->j≠8->A2 fr' j=A2 fr j)->A2 fr' 7=.ptr p 0->A2 fr' 8=.ptr (p+1) 0->bx=(D1 na).cells::B'->bx[p]?=some (P3 s).cells->bx[p+1]?=some (P3 s').cells->Ψ .normal fr' ⟨bx,F⟩) :
  C3 (A4 O c (.regd gh Wf) (fr,⟨(D1 na).cells::B,F⟩)) Ψ:=by
 have hH:AH.holes ⟨(D1 na).cells::B,F⟩ (XG Wf)=⟨(D1 na).cells::B++[DF,DF],F⟩:=rfl;obtain⟨p,hp⟩:∃p,p=B.length+1:=⟨_,rfl⟩;have hN:((D1 na).cells::B++[DF,DF]).length=p+2:=by simp[hp]
 have b0:((D1 na).cells::B++[DF,DF])[0]?=some (D1 na).cells:=rfl;have b1:((D1 na).cells::B++[DF,DF])[p]?=some DF:=by rw[zf6z (by simp[hp])];simp[hp]
 have b2:((D1 na).cells::B++[DF,DF])[p+1]?=some DF:=by rw[zf6z (by simp[hp])];simp[hp]
 have bd:∃B',(((((D1 na).cells::B++[DF,DF]).set p PW.cells).set (p+1) PW.cells).set p (P3 s).cells).set (p+1) (P3 s').cells=(D1 na).cells::B':=by
  subst hp;exact⟨_,rfl⟩
 have hp0:0<p:=by omega
 clear hp;generalize (D1 na).cells::B++[DF,DF]=X at *
 have hw:IntKind.i64.wrap ((i:Int)-1)=(q:Int):=by rw[j3 (by omega) (by omega)];omega
 have hx:Jj (na.steps.map P3) q=some (P3 s):=D5 h1;have hx':Jj (na.steps.map P3) i=some (P3 s'):=D5 h2;have nb:=C7 na;have L:∀k,k<46->k<List.length fr:=λk hk=>by omega
 refine Xj (fr':=?fr') (h':=?h') (gs:=pm.map (Foot.map (HZ p))) ?hr (Rq (dL hp0) _ _ _ gO) ?hψ
 case hr =>
  rw[hH];refine GC.r (v:=.ptr 0 4) (by simp[k1]) rfl rfl ?_;refine GC.r (v:=sl na.sm 7 (na.steps.map P3)) (by simp[b0,nb,L]) (by simp[GJ,L,HZ]) (by simp[Ej,L]) ?_;refine GC.r (v:=.int .i64 (i:Nat)) (by simp[k6,L]) rfl rfl ?_;refine GC.r (v:=.int .i64 (q:Nat)) (by simp[k6,L,hw]) rfl rfl ?_;refine GC.r (v:=.pv (P3 s).cells) (by simp[hx,L]) rfl rfl ?_;refine GC.r (v:=P3 s) (by simp[L]) (by simp[GJ,L]) (by simp[Ej,L]) ?_;refine GC.r (v:=.ptr 0 4) (by simp[k1,L]) rfl rfl ?_;refine GC.r (v:=sl na.sm 7 (na.steps.map P3)) (by simp[b0,nb,L]) (by simp[GJ,L,HZ]) (by simp[Ej,L]) ?_;refine GC.r (v:=.int .i64 (i:Nat)) (by simp[k6,L]) rfl rfl ?_;refine GC.r (v:=.pv (P3 s').cells) (by simp[hx',L]) rfl rfl ?_;refine GC.r (v:=P3 s') (by simp[L]) (by simp[GJ,L]) (by simp[Ej,L]) ?_;refine GC.w (v:=.ptr p 0) (k:=p) (cs:=PW.cells) ((Ks _ _ _ _).trans (tE PW (by simp[hN]) b1)) (by simp[GJ,hN,HZ]) rfl ?_;refine GC.w (v:=.ptr (p+1) 0) (k:=p+1) (cs:=PW.cells) ((Ks _ _ _ _).trans (tE PW (by simp[hN]) (by simpa using b2))) (by simp[GJ,hN,HZ]) rfl ?_;have s1:uG ⟨(X.set p PW.cells).set (p+1) PW.cells,F⟩ 7 (P3 s) (.ptr p 0)=some ⟨((X.set p PW.cells).set (p+1) PW.cells).set p (P3 s).cells,F⟩:=pW s (by
   show ((X.set p PW.cells).set (p+1) PW.cells)[p]?=_;rw[zf4z (by omega),zf1z (by omega)])
  have s2:uG ⟨((X.set p PW.cells).set (p+1) PW.cells).set p (P3 s).cells,F⟩ 7 (P3 s') (.ptr (p+1) 0)=some ⟨(((X.set p PW.cells).set (p+1) PW.cells).set p (P3 s).cells).set (p+1) (P3 s').cells,F⟩:=pW s' (by
   show (((X.set p PW.cells).set (p+1) PW.cells).set p (P3 s).cells)[p+1]?=_;rw[zf4z (by omega),zf1z (by simp;omega)])
  refine GC.w (v:=B3) (k:=p) (cs:=(P3 s).cells) (cH (v:=P3 s) (p:=.ptr p 0) (by simp[L]) (by simp[L]) s1) (by simp[GJ,L,HZ]) (by simp[Ej,L]) ?_;refine GC.w (v:=B3) (k:=p+1) (cs:=(P3 s').cells) (cH (v:=P3 s') (p:=.ptr (p+1) 0) (by simp[L]) (by simp[L]) s2) (by simp[GJ,L,HZ]) (by simp[Ej,L]) ?_;exact GC.nil
 case hψ =>
  obtain⟨B',hB'⟩:=bd;refine hΨ _ p _ B' (by simp) (λj h1 h2 h3=>?_) (by simp[L]) (by simp[L]) hB' ?_ ?_
  .simp only[cj,ci]
   repeat rw[D3 _ _ (by omega)]
  .rw[zf4z (by omega),zf1z (by simp;omega)]
  .rw[zf1z (by simp;omega)]
theorem Yh (na:Nar) (C4:na.steps.length<=1048576) (h0:0<na.steps.length) (fr:Fr) (h:AH) (hh:h.boxes=[(D1 na).cells]) (hl:fr.length=47) (h1:A2 fr 1=.ptr 0 0) (h6:A2 fr 6=.int .i64 1) :
  C3 (lp (A4 (M3 Q) (B8 S7) T9) (fr,h)) λe fr' h'=>Kp T9.wr fr fr'/\(e=.exit 0/\NX na.steps=true\/e=.ret/\A2 fr' 2=.bool false/\A2 fr' 3=.int .i64 0/\NX na.steps=false):=by
 refine C1 rfl fr (λn fr h'=>∃(q:Nat) (B:List (List AV)),q+1+n=na.steps.length/\A2 fr 6=.int .i64 ((q+1:Nat):Int)/\h'.boxes=(D1 na).cells::B/\NX na.steps=NX (na.steps.drop q)) ?_ (na.steps.length-1) h ⟨0,[],by omega,h6,hh,rfl⟩;rintro J Φ hJ hΦ n E3 H1 K ⟨q,B,hq,k6,hB,hr⟩;have A6:=K.1.trans hl;have k1:=C0 K 1 h1;clear K;obtain⟨bx,fams⟩:=H1;simp only at hB;subst hB;have e8:=C7 na;obtain⟨i,hi⟩:∃i,i=q+1:=⟨_,rfl⟩;rw[←hi]at k6;by_cases A9:i<na.steps.length
 .have Z0:=C8 i (by omega);rw[ai na.steps q (by omega)]at hr;have g1:na.steps[q]?=some (na.steps[q]'(by omega)):=zf0z (by omega);have g2:na.steps[i]?=some (na.steps[q+1]'(by omega)):=(congrArg (na.steps[·]?) hi).trans (zf0z (by omega));generalize na.steps[q]=s at *
  generalize na.steps[q+1]=s' at *
  have t1:=Lf s' s.frm;have t2:=Lf s' s.to;unfold qu at hr;simp[T9,A6,k1,k6,A9,e8];refine Up (c:=B8 S7) _ (by simp[A6]) na B fams q i hi.symm A9 C4 (by simp[A6,k1]) (by simp[A6,k6]) s s' g1 g2 _ λX2 p bx B' If hk q7 q8 Ie b1 b2=>?_;have hl2':X2.length=47:=If.trans (by simp[A6]);have q1:A2 X2 1=.ptr 0 0:=(hk 1 (by omega) (by omega) (by omega)).trans (by simp[A6,k1]);have q6:A2 X2 6=.int .i64 (i:Nat):=(hk 6 (by omega) (by omega) (by omega)).trans (by simp[A6,k6]);rw[Jw]at b1 b2;cases c1:KS s.frm s' with
  |true =>
   rw[c1]at t1 hr;simp[hl2',q1,q6,q7,q8,b1,b2,t1,Z0];exact F7 hJ ⟨i,B',by omega,by simp[hl2'],Ie,by rw[hr,hi];simp⟩
  |false =>
   rw[c1]at t1 hr;cases c2:KS s.to s' with
   |true =>
    rw[c2]at t2 hr;simp[hl2',q1,q6,q7,q8,b1,b2,t1,t2,Z0];exact F7 hJ ⟨i,B',by omega,by simp[hl2'],Ie,by rw[hr,hi];simp⟩
   |false =>
    rw[c2]at t2 hr;simp[hl2',q1,q6,q7,q8,b1,b2,t1,t2];exact hΦ _ _ _ (.inr ⟨rfl,by simp[hl2'],by simp[hl2'],by rw[hr];simp⟩)
 .rw[Ws na.steps q (by omega)]at hr;simp[T9,A6,k1,k6,A9,e8];exact hΦ _ _ _ (.inl ⟨rfl,hr⟩)
theorem Ym (na:Nar) (C4:na.steps.length<=1048576) (h0:0<na.steps.length) (fr:Fr) (h:AH) (hh:h.boxes=[(D1 na).cells]) (hl:fr.length=61) (h1:A2 fr 1=.ptr 0 0) (h6:A2 fr 6=.int .i64 1) :
  C3 (lp (A4 (M3 Q) (B8 U6) Y7) (fr,h)) λe fr' h'=>Kp Y7.wr fr fr'/\(e=.exit 0/\NX na.steps=true\/e=.ret/\A2 fr' 2=.bool false/\A2 fr' 3=.int .i64 0/\NX na.steps=false):=by
 refine C1 rfl fr (λn fr h'=>∃(q:Nat) (B:List (List AV)),q+1+n=na.steps.length/\A2 fr 6=.int .i64 ((q+1:Nat):Int)/\h'.boxes=(D1 na).cells::B/\NX na.steps=NX (na.steps.drop q)) ?_ (na.steps.length-1) h ⟨0,[],by omega,h6,hh,rfl⟩;rintro J Φ hJ hΦ n E3 H1 K ⟨q,B,hq,k6,hB,hr⟩;have A6:=K.1.trans hl;have k1:=C0 K 1 h1;clear K;obtain⟨bx,fams⟩:=H1;simp only at hB;subst hB;have e8:=C7 na;obtain⟨i,hi⟩:∃i,i=q+1:=⟨_,rfl⟩;rw[←hi]at k6;by_cases A9:i<na.steps.length
 .have Z0:=C8 i (by omega);rw[ai na.steps q (by omega)]at hr;have g1:na.steps[q]?=some (na.steps[q]'(by omega)):=zf0z (by omega);have g2:na.steps[i]?=some (na.steps[q+1]'(by omega)):=(congrArg (na.steps[·]?) hi).trans (zf0z (by omega));generalize na.steps[q]=s at *
  generalize na.steps[q+1]=s' at *
  unfold qu KS at hr;simp[Y7,A6,k1,k6,A9,e8];refine Up (c:=B8 U6) _ (by simp[A6]) na B fams q i hi.symm A9 C4 (by simp[A6,k1]) (by simp[A6,k6]) s s' g1 g2 _ λX2 p bx B' If hk q7 q8 Ie b1 b2=>?_;have hl2':X2.length=61:=If.trans (by simp[A6]);have q1:A2 X2 1=.ptr 0 0:=(hk 1 (by omega) (by omega) (by omega)).trans (by simp[A6,k1]);have q6:A2 X2 6=.int .i64 (i:Nat):=(hk 6 (by omega) (by omega) (by omega)).trans (by simp[A6,k6]);rw[Jw]at b1 b2;by_cases c1:s.frm=s'.frm
  .have hr':NX na.steps=NX (na.steps.drop (q+1)):=by rw[hr];simp[c1]
   simp[hl2',q1,q6,q7,q8,b1,b2,c1,Z0];exact F7 hJ ⟨i,B',by omega,by simp[hl2'],Ie,by rw[hr',hi]⟩
  .by_cases c2:s.frm=s'.to
   .have hr':NX na.steps=NX (na.steps.drop (q+1)):=by rw[hr];simp[c2]
    have c1':¬s'.to=s'.frm:=by rw[←c2];exact c1
    simp[hl2',q1,q6,q7,q8,b1,b2,c1',c2,Z0];exact F7 hJ ⟨i,B',by omega,by simp[hl2'],Ie,by rw[hr',hi]⟩
   .by_cases c3:s.to=s'.frm
    .have hr':NX na.steps=NX (na.steps.drop (q+1)):=by rw[hr];simp[c3]
     simp[hl2',q1,q6,q7,q8,b1,b2,c1,c2,c3,Z0];exact F7 hJ ⟨i,B',by omega,by simp[hl2'],Ie,by rw[hr',hi]⟩
    .by_cases c4:s.to=s'.to
     .have hr':NX na.steps=NX (na.steps.drop (q+1)):=by rw[hr];simp[c4]
      have c3':¬s'.to=s'.frm:=by rw[←c4];exact c3
      simp[hl2',q1,q6,q7,q8,b1,b2,c1,c2,c3',c4,Z0];exact F7 hJ ⟨i,B',by omega,by simp[hl2'],Ie,by rw[hr',hi]⟩
     .have hr':NX na.steps=false:=by
       have d1:¬s'.frm=s.frm:=λe=>c1 e.symm;have d2:¬s'.to=s.frm:=λe=>c2 e.symm;have d3:¬s'.frm=s.to:=λe=>c3 e.symm;have d4:¬s'.to=s.to:=λe=>c4 e.symm;rw[hr];simp[d1,d2,d3,d4]
      simp[hl2',q1,q6,q7,q8,b1,b2,c1,c2,c3,c4];exact hΦ _ _ _ (.inr ⟨rfl,by simp[hl2'],by simp[hl2'],hr'⟩)
 .rw[Ws na.steps q (by omega)]at hr;simp[Y7,A6,k1,k6,A9,e8];exact hΦ _ _ _ (.inl ⟨rfl,hr⟩)
def VS (n:Nar):Bool:=if (AQ n).2=0 then NX n.steps else false
theorem Oi (n:Nar) (F:Fine n) (S:Lens n):pc Q S7 [D1 n]=some (.tup [.bool (VS n),.int .i64 (AQ n).2]):=by
 have hC:=Jn n F S.names;have nb:=C7 n;by_cases hz:(AQ n).2=0
 .obtain⟨h0,hR⟩:=EJ hz;have hn:=(KK (Gz (Gl hR.nar).1).2).2.2.2.2.1;have hB:VS n=NX n.steps:=if_pos hz;rw[h0]at hC;rw[hB,hz];refine BN S8 λfr hl h0=>?_;simp[S8]at hl h0;simp[S8,hl,h0,nb,hC];refine C3.mono (Yh n S.steps hn _ _ ?_ ?_ ?_ ?_) ?_<;>first|(simp[hl,nb];done)|skip
  rintro e E3 U1 ⟨K,⟨rfl,hb⟩|⟨rfl,k2,k3,hb⟩⟩
  .have A6:E3.length=47:=K.1.trans (by simp[hl]);simp[A6,hb]
  .simp[k2,k3,hb]
 .have hB:VS n=false:=if_neg hz;rw[hB];generalize (AQ n).2=e at *
  generalize (AQ n).1=e1 at *
  refine BN S8 λfr hl h0=>?_;simp[S8]at hl h0;simp[S8,hl,h0,nb,hC,hz]
theorem On (n:Nar) (F:Fine n) (S:Lens n):pc Q U6 [D1 n]=some (.tup [.bool (VS n),.int .i64 (AQ n).2]):=by
 have hC:=MM n F S;have nb:=C7 n;by_cases hz:(AQ n).2=0
 .obtain⟨h0,hR⟩:=EJ hz;have hn:=(KK (Gz (Gl hR.nar).1).2).2.2.2.2.1;have hB:VS n=NX n.steps:=if_pos hz;rw[h0]at hC;rw[hB,hz];refine BN V3 λfr hl h0=>?_;simp[V3]at hl h0;simp[V3,hl,h0,nb,hC];refine C3.mono (Ym n S.steps hn _ _ ?_ ?_ ?_ ?_) ?_<;>first|(simp[hl,nb];done)|skip
  rintro e E3 U1 ⟨K,⟨rfl,hb⟩|⟨rfl,k2,k3,hb⟩⟩
  .have A6:E3.length=61:=K.1.trans (by simp[hl]);simp[A6,hb]
  .simp[k2,k3,hb]
 .have hB:VS n=false:=if_neg hz;rw[hB];generalize (AQ n).2=e at *
  generalize (AQ n).1=e1 at *
  refine BN V3 λfr hl h0=>?_;simp[V3]at hl h0;simp[V3,hl,h0,nb,hC,hz]
theorem bm (m m':W8) (l:List Int) (C4:l.length<=1048576) (fr:Fr) (h:AH) (hl:fr.length=26) (h0:A2 fr 0=sl m 1 (X3 l)) (h1:A2 fr 1=sl m' 1 (X3 l)) (h12:A2 fr 12=.int .i64 l.length) (h13:A2 fr 13=.int .i64 0) :
  C3 (lp (A4 (M3 Q) (B8 Q3) Y9) (fr,h)) λe fr' h'=>Kp Y9.wr fr fr'/\e=.exit 0:=by
 refine C1 rfl fr (λn fr h'=>∃(i:Nat),i+n=l.length/\A2 fr 13=.int .i64 (i:Nat)/\True) ?_ l.length h ⟨0,by omega,h13,trivial⟩;rintro J Φ hJ hΦ n E3 H1 K ⟨i,hi,k13,hr⟩;have A6:=K.1.trans hl;have k0:=C0 K 0 h0;have k1:=C0 K 1 h1;have k12:=C0 K 12 h12;clear K;by_cases A9:i<l.length
 .have Z0:=C8 i (by omega);have hx:Jj (X3 l) i=some (.int .i64 l[i]):=D5 (f:=AV.int .i64) (zf0z A9);simp[Y9,A6,k0,k1,k12,k13,A9,Z0,hx];exact F7 hJ ⟨i+1,by omega,by simp[A6],trivial⟩
 .simp[Y9,A6,k0,k1,k12,k13,A9];exact hΦ _ _ _ rfl
theorem jX (m m':W8) (l:List Int) (C4:l.length<=1048576):pc Q Q3 [sl m 1 (X3 l),sl m' 1 (X3 l)]=some (.bool true):=by
 have hil:(X3 l).length=l.length:=by simp[X3]
 refine Ez Dv λfr hl h0 h1=>?_;simp[Dv]at hl h0 h1;simp[Dv,hl,h0,h1,hil];refine C3.mono (bm m m' l C4 _ _ ?_ ?_ ?_ ?_ ?_) ?_<;>first|(simp[hl,h0,h1,hil];done)|skip
 rintro e E3 U1 ⟨K,rfl⟩;have A6:E3.length=26:=K.1.trans (by simp[hl]);simp[A6]
theorem bi (m m':W8) (L:List (List Int)) (C4:L.length<=1048576) (hL:∀l∈L,l.length<=1048576) (xs ys:C6) (hx0:CL L xs) (hy0:CL L ys) (fr:Fr) (h:AH) (hl:fr.length=32) (h1:A2 fr 1=sl m' 1 ys) (h2:A2 fr 2=.fn Q3 []) (h15:A2 fr 15=sl m 1 xs) (h16:A2 fr 16=.int .i64 L.length) (h17:A2 fr 17=.int .i64 0) :
  C3 (lp (A4 (M3 Q) (B8 M5) O7) (fr,h)) λe fr' h'=>Kp O7.wr fr fr'/\e=.exit 0:=by
 refine C1 rfl fr (λn fr h'=>∃(i:Nat),i+n=L.length/\A2 fr 17=.int .i64 (i:Nat)/\True) ?_ L.length h ⟨0,by omega,h17,trivial⟩;rintro J Φ hJ hΦ n E3 H1 K ⟨i,hi,k17,hr⟩;have A6:=K.1.trans hl;have k1:=C0 K 1 h1;have k2:=C0 K 2 h2;have k15:=C0 K 15 h15;have k16:=C0 K 16 h16;clear K;by_cases A9:i<L.length
 .have Z0:=C8 i (by omega);obtain⟨m1,g1⟩:=hx0.get A9;obtain⟨m2,g2⟩:=hy0.get A9;have hx:Jj xs i=some (sl m1 1 (X3 L[i])):=g1;have hy:Jj ys i=some (sl m2 1 (X3 L[i])):=g2;have hE:=jX m1 m2 L[i] (hL _ (zg8z A9));generalize L[i]=l at *
  simp[O7,A6,k1,k2,k15,k16,k17,A9,Z0,hx,hy,hE];exact F7 hJ ⟨i+1,by omega,by simp[A6],trivial⟩
 .simp[O7,A6,k1,k2,k15,k16,k17,A9];exact hΦ _ _ _ rfl
theorem jW (m m':W8) (L:List (List Int)) (C4:L.length<=1048576) (hL:∀l∈L,l.length<=1048576) (xs ys:C6) (hx0:CL L xs) (hy0:CL L ys):pc Q M5 [sl m 1 xs,sl m' 1 ys,.fn Q3 []]=some (.bool true):=by
 have NE:=hx0.len;have tJ:=hy0.len;refine fR BI λfr hl h0 h1 h2=>?_;simp[BI]at hl h0 h1 h2;simp[BI,hl,h0,h1,h2,NE,tJ];refine C3.mono (bi m m' L C4 hL xs ys hx0 hy0 _ _ ?_ ?_ ?_ ?_ ?_ ?_) ?_<;>first|(simp[hl,h0,h1,h2,NE];done)|skip
 rintro e E3 U1 ⟨K,rfl⟩;have A6:E3.length=32:=K.1.trans (by simp[hl]);simp[A6]
end Go.Abs.Q
