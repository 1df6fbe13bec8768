/- A part of the proof. -/
import Derived.Test.YtohjdamplbhdpaaGreatDoorSK26
import Derived.KernelRfl
import Derived.Shelf.SlSortCmp.NoneTotal
import Derived.Test.YtohjdamplbhdpaaGreatDoorProg
import Derived.Laws.CopyRow
import Derived.Laws.Externs
import Derived.Deep.AppendSrc
import Derived.Lib.AppendZerosOnto
set_option linter.all false
open List renaming getElem?_eq_some_iff->A0A,getElem?_eq_getElem->A0B,getElem?_cons_zero->A0C,getElem?_cons_succ->A0D,getElem_cons_succ->A0E,getElem_cons_zero->A0F,getElem_toArray->A0G,drop_succ_cons->A0H,take_succ_cons->A0I,map_cons->A0J,length_take->A0L,getElem?_range->A0M,drop_zero->A0N,take_zero->A0O,getElem?_map->A0P,map_nil->A0R,getElem?_drop->A0X,getElem?_take->A0Y,length_append->A0Z,length_map->A0a,mem_range->A0b,sum_cons->A0c,mem_map->A0e,range->A0i
open Array renaming getD_eq_getD_getElem?->A0K
open Nat renaming le_refl->A0Q,min_eq_left->A0S,sub_zero->A0U,zero_le->A0V,mul_le_mul_right->A0W,add_assoc->A0d,add_zero->A0f,zero_mul->A0g,add_mul->A0h
open Option renaming map_some->A0T
namespace Go.Abs.Q
open Go.Proofs
attribute [local simp] D9 E4 fin I8 G6 P7 M4 R4 R3
def Ee (r n:Nar):AV:=.agg ((F0 r).cells++(F0 n).cells)
theorem w8 (r n:Nar):(Ee r n).cells=[.str r.name,sl r.rm 1 (r.roles.map .str),sl r.fm 3 (r.fresh.map KD),sl r.tm 1 (r.tags.map .str),sl r.sm 7 (r.steps.map DY),sl r.gm 5 (r.goals.map Da),.str n.name,sl n.rm 1 (n.roles.map .str),sl n.fm 3 (n.fresh.map KD),sl n.tm 1 (n.tags.map .str),sl n.sm 7 (n.steps.map DY),sl n.gm 5 (n.goals.map Da)]:=rfl
@[simp] theorem zH (r n:Nar):AV.agg [.str r.name,sl r.rm 1 (r.roles.map .str),sl r.fm 3 (r.fresh.map KD),sl r.tm 1 (r.tags.map .str),sl r.sm 7 (r.steps.map DY),sl r.gm 5 (r.goals.map Da),.str n.name,sl n.rm 1 (n.roles.map .str),sl n.fm 3 (n.fresh.map KD),sl n.tm 1 (n.tags.map .str),sl n.sm 7 (n.steps.map DY),sl n.gm 5 (n.goals.map Da)]=Ee r n:=rfl
@[simp] theorem wN (r n:Nar):(Ee r n).isTup=false:=rfl
@[simp] theorem zI (h:AH) (am:Bool) (r n:Nar):JW h am (Ee r n)=some (Ee r n):=rfl
@[simp] theorem xp (h:AH) (r n:Nar):Ef h (Ee r n)=true:=rfl
@[simp] theorem tX (h:AH) (n:Nar):Cs h (F0 n)=some (F0 n):=rfl
theorem mR:AV.agg [.str (bs []),sl (true,false) 1 [],sl (true,false) 1 [],sl (true,false) 1 [],sl (true,false) 1 [],sl (true,false) 1 [],.str (bs []),sl (true,false) 1 [],sl (true,false) 1 [],sl (true,false) 1 [],sl (true,false) 1 [],sl (true,false) 1 []]=Ee iQ iQ:=by
 simp[Ee,F0,iQ,sl]
theorem YT (n:Nar) (F:Fine n) (S:Lens n):∃r,pc Q Jv [F0 n]=some (.tup [Ee r n,.int .i64 (Z5 n).2])/\((Z5 n).2=0->Pn r=Cn (J8 (B4 n) (G3 n)) n):=by
 obtain⟨r,hR,hE⟩:=dW n F S;refine⟨r,?_,hE⟩;have nb:=D8 n;have rb:=D8 r;have sb:=w8 r n;generalize (Z5 n).2=e at *
 generalize (Z5 n).1=e1 at *
 refine M2 Pd λfr hl h0=>?_;simp[Pd]at hl h0;simp[Pd,hl,h0,nb,rb,sb,hR,D2,E7,L9]
def Lz (n:Nar) (role step:Int):Int:=if (Z5 n).2≠0 then (Z5 n).2 else if role<0\/(n.roles.length:Int)<=role\/step<0\/(n.steps.length:Int)<step then 7 else 0
theorem Jm {n:Nar} {role step:Int} (h:Lz n role step=0):(Z5 n).2=0/\0<=role/\role.toNat<n.roles.length/\0<=step/\step.toNat<=n.steps.length:=by
 unfold Lz at h;split at h
 .rename_i h1;exact absurd h h1
 .rename_i h1;split at h
  .omega
  .rename_i h2;have Ei:(Z5 n).2=0:=by
    apply Classical.byContradiction;exact h1
   omega
theorem i5 {r n:Nar} {f:ByteArray->Int} (h:Pn r=Cn f n):r.name=n.name/\r.roles=n.roles/\r.fresh=n.fresh/\r.tags=n.tags/\r.steps.map KV=n.steps.map (Cd f)/\r.goals.map gb=n.goals.map (Si f):=by
 unfold Pn Cn at h;injection h with h1 h2 h3 h4 h5 h6 h7 h8 h9 h10 h11
 exact⟨h1,h3,h5,h7,h9,h11⟩
theorem aW (n:Nar) (F:Fine n) (S:Lens n) (role step:Int):∃r n',pc Q Kt [F0 n,.int .i64 role,.int .i64 step]=some (.tup [Ee r n',.int .i64 (Lz n role step)])/\(Lz n role step=0->n'=n/\Pn r=Cn (J8 (B4 n) (G3 n)) n):=by
 obtain⟨r,hR,hE⟩:=YT n F S;have nb:=D8 n;have sb:=w8 r n;have sn:=mR;have e0:∀k,sl (true,false) k []=sl (true,false) 1 []:=λk=>o7 _ rfl _ _;by_cases h1:(Z5 n).2=0
 .have hrl:=(i5 (hE h1)).2.1;have bw:r.steps.length=n.steps.length:=by
   have:=congrArg List.length (i5 (hE h1)).2.2.2.2.1;simpa using this
  rw[h1]at hR;by_cases h2:role<0\/(n.roles.length:Int)<=role\/step<0\/(n.steps.length:Int)<step
  .have ha:Lz n role step=7:=by unfold Lz;rw[if_neg (by simp[h1]),if_pos h2]
   rw[ha];refine⟨iQ,iQ,?_,λh=>by omega⟩;rw[←mR];rw[←hrl,←bw]at h2;by_cases q1:role<0
   .refine Gg U6 λfr hl h0 h1 h2=>?_;simp[U6]at hl h0 h1 h2;simp[U6,hl,h0,h1,nb,sb,hR,q1,D2,E7,L9]
   .by_cases q2:(r.roles.length:Int)<=role
    .refine Gg U6 λfr hl h0 h1 h2=>?_;simp[U6]at hl h0 h1 h2;simp[U6,hl,h0,h1,nb,sb,hR,q1,q2,D2,E7,L9]
    .by_cases q3:step<0
     .refine Gg U6 λfr hl h0 h1 h2=>?_;simp[U6]at hl h0 h1 h2;simp[U6,hl,h0,h1,h2,nb,sb,hR,q1,q2,q3,D2,E7,L9]
     .have q4:(r.steps.length:Int)<step:=by omega
      refine Gg U6 λfr hl h0 h1 h2=>?_;simp[U6]at hl h0 h1 h2;simp[U6,hl,h0,h1,h2,nb,sb,hR,q1,q2,q3,q4,D2,E7,L9]
  .have ha:Lz n role step=0:=by unfold Lz;rw[if_neg (by simp[h1]),if_neg h2]
   rw[ha];refine⟨r,n,?_,λ_=>⟨rfl,hE h1⟩⟩;rw[←hrl,←bw]at h2;have q1:¬role<0:=λh=>h2 (.inl h);have q2:¬(r.roles.length:Int)<=role:=λh=>h2 (.inr (.inl h));have q3:¬step<0:=λh=>h2 (.inr (.inr (.inl h)));have q4:¬(r.steps.length:Int)<step:=λh=>h2 (.inr (.inr (.inr h)));refine Gg U6 λfr hl h0 h1 h2=>?_;simp[U6]at hl h0 h1 h2;simp[U6,hl,h0,h1,h2,nb,sb,hR,q1,q2,q3,q4,L9]
 .have ha:Lz n role step=(Z5 n).2:=by unfold Lz;rw[if_pos h1]
  rw[ha];refine⟨iQ,iQ,?_,λh=>absurd h h1⟩;rw[←mR];generalize (Z5 n).2=e at *
  have P1:=h1;refine Gg U6 λfr hl h0 h1 h2=>?_;simp[U6]at hl h0 h1 h2;simp[U6,hl,h0,nb,sb,hR,P1,D2,E7,L9]
theorem TH (n:Nar) (F:Fine n) (S:Lens n) (role step:Int):∃r,pc Q Fk [F0 n,.int .i64 role,.int .i64 step]=some (.tup [F0 r,.int .i64 (Lz n role step)])/\(Lz n role step=0->Pn r=Cn (J8 (B4 n) (G3 n)) n):=by
 obtain⟨r,hR,hE⟩:=al n F S;have nb:=D8 n;have rb:=D8 r;have sn:=Uk;have e0:∀k,sl (true,false) k []=sl (true,false) 1 []:=λk=>o7 _ rfl _ _;by_cases h1:(Z5 n).2=0
 .rw[h1]at hR;generalize (Z5 n).1=e1 at *
  by_cases h2:role<0\/(n.roles.length:Int)<=role\/step<0\/(n.steps.length:Int)<step
  .have ha:Lz n role step=7:=by unfold Lz;rw[if_neg (by simp[h1]),if_pos h2]
   rw[ha];refine⟨iQ,?_,λh=>by omega⟩;rw[←Uk];by_cases q1:role<0
   .refine Gg H0 λfr hl h0 h1 h2=>?_;simp[H0]at hl h0 h1 h2;simp[H0,hl,h0,h1,nb,rb,hR,q1,D2,E7,L9]
   .by_cases q2:(n.roles.length:Int)<=role
    .refine Gg H0 λfr hl h0 h1 h2=>?_;simp[H0]at hl h0 h1 h2;simp[H0,hl,h0,h1,nb,rb,hR,q1,q2,D2,E7,L9]
    .by_cases q3:step<0
     .refine Gg H0 λfr hl h0 h1 h2=>?_;simp[H0]at hl h0 h1 h2;simp[H0,hl,h0,h1,h2,nb,rb,hR,q1,q2,q3,D2,E7,L9]
     .have q4:(n.steps.length:Int)<step:=by omega
      refine Gg H0 λfr hl h0 h1 h2=>?_;simp[H0]at hl h0 h1 h2;simp[H0,hl,h0,h1,h2,nb,rb,hR,q1,q2,q3,q4,D2,E7,L9]
  .have ha:Lz n role step=0:=by unfold Lz;rw[if_neg (by simp[h1]),if_neg h2]
   rw[ha];refine⟨r,?_,λ_=>hE h1⟩;have q1:¬role<0:=λh=>h2 (.inl h);have q2:¬(n.roles.length:Int)<=role:=λh=>h2 (.inr (.inl h));have q3:¬step<0:=λh=>h2 (.inr (.inr (.inl h)));have q4:¬(n.steps.length:Int)<step:=λh=>h2 (.inr (.inr (.inr h)));refine Gg H0 λfr hl h0 h1 h2=>?_;simp[H0]at hl h0 h1 h2;simp[H0,hl,h0,h1,h2,nb,rb,hR,q1,q2,q3,q4,L9]
 .have ha:Lz n role step=(Z5 n).2:=by unfold Lz;rw[if_pos h1]
  rw[ha];refine⟨iQ,?_,λh=>absurd h h1⟩;rw[←Uk];generalize (Z5 n).2=e at *
  generalize (Z5 n).1=e1 at *
  have P1:=h1;refine Gg H0 λfr hl h0 h1 h2=>?_;simp[H0]at hl h0 h1 h2;simp[H0,hl,h0,nb,rb,hR,P1,D2,E7,L9]
def Fe (me:ByteArray) (l:List Fre):List Tm:=(l.filter λf=>decide (f.role=me)).map λf=>.mk 2 f.name f.sort (true,false) []
theorem kU (me:I3) (l:List Fre) (f:Fre):Fe me (l++[f])=Fe me l++(if f.role=me then [.mk 2 f.name f.sort (true,false) []]else []):=by
 unfold Fe;rw[List.filter_append,List.map_append];congr 1;by_cases h:f.role=me<;>simp[h]
theorem NE (me:I3) (l:List Fre):(Fe me l).length<=l.length:=by
 unfold Fe;rw[A0a];exact List.length_filter_le _ _
theorem WS {me:I3} {l:List Fre} {i:Nat} (h:i<l.length):Fe me (l.take (i+1))=Fe me (l.take i)++(if l[i].role=me then [.mk 2 l[i].name l[i].sort (true,false) []]else []):=by
 rw[List.take_succ_eq_append_getElem h,kU]
theorem pz (a:I3) (s:Int):AV.agg [.int .i64 2,.str a,.int .i64 s,sl (true,false) 1 []]=B7 (.mk 2 a s (true,false) []):=by
 rw[o7 (true,false) rfl 1 4];simp[B7,A4]
theorem aG (na:Nar) (hfl:na.fresh.length<=1048576) (role:Nat) (me:I3) (hme:Jb (na.roles.map AV.str) role=some (.str me)) (fr:Fr) (h:AH) (B0:List (List AV)) (hB0:h.boxes=(F0 na).cells::B0) (h7:A0 fr 7=.vs true 0 []) (hl:fr.length=53) (h1:A0 fr 1=.int .i64 role) (h2:A0 fr 2=.ptr 0 0) (h29:A0 fr 29=sl na.fm 3 (na.fresh.map KD)) (h30:A0 fr 30=.int .i64 na.fresh.length) (h31:A0 fr 31=.int .i64 0) :
  B9 (lp (A3 (L5 Q) (E5 ET) Bt) (fr,h)) λe C6 h'=>Kp Bt.wr fr C6/\e=.exit 0/\Ie false 4 (A4 (Fe me na.fresh)) (A0 C6 7) h':=by
 refine B5 rfl fr (λn fr h'=>∃(i:Nat),i+n=na.fresh.length/\A0 fr 31=.int .i64 (i:Nat)/\(∃(B:List (List AV)) (v:AV),A0 fr 7=v/\h'.boxes=(F0 na).cells::B/\Ie false 4 (A4 (Fe me (na.fresh.take i))) v h')) ?_ na.fresh.length h ⟨0,by omega,h31,_,_,h7,hB0,RD _ _ _⟩;rintro J Φ hJ hΦ n E1 H1 K ⟨i,hi,k31,hr⟩;have A6:=K.1.trans hl;have k1:=A9 K 1 h1;have k2:=A9 K 2 h2;have k29:=A9 K 29 h29;have k30:=A9 K 30 h30;clear K;by_cases A7:i<na.fresh.length
 .have Q6:=D1 i (by omega);obtain⟨B,v,k7,hB,hg⟩:=hr;obtain⟨bx,fams⟩:=H1;simp only at hB;subst hB;have hx:=G0 (f:=KD) (A0B A7);have B8:=NE me (na.fresh.take i);rw[A0L]at B8;have J0:=WS (me:=me) A7;have nb:=D8 na;generalize na.fresh[i]=f at *
  by_cases hf:f.role=me
  .rw[if_pos hf]at J0;obtain⟨v',F',ha1,ha2,-⟩:=KW (c:=E5 ET) (bytes:=56) (x:=sl (true,true) 4 [B7 (.mk 2 f.name f.sort (true,false) [])]) (ys:=[B7 (.mk 2 f.name f.sort (true,false) [])]) (h:=⟨(F0 na).cells::(B++[(KD f).cells]),fams⟩) (G2 hg rfl) (T7 _ _ _ _) (by simp only[H6,maxLen,D6,A0a,List.length_singleton];omega);rw[←o8,←J0]at ha2;rw[←pz]at ha1;simp only[RS,nb,hf]at ha1 ha2;simp[Bt,A6,k1,k2,k29,k30,k31,A7,Q6,k7,hx,nb,hme,hf,D2,E7,A5,ha1];exact G8 hJ ⟨i+1,by omega,by simp[A6],_,_,rfl,rfl,by simp[A6];exact ha2⟩
  .rw[if_neg hf,List.append_nil]at J0;rw[←J0]at hg;simp[Bt,A6,k1,k2,k29,k30,k31,A7,Q6,hx,nb,hme,hf];exact G8 hJ ⟨i+1,by omega,by simp[A6],_,_,rfl,rfl,by simp[k7];exact G2 hg rfl⟩
 .obtain⟨B,v,k7,hB,hg⟩:=hr;rw[List.take_of_length_le (by omega)]at hg;simp[Bt,A6,k30,k31,A7];exact hΦ _ _ _ ⟨rfl,by simp[k7];exact G2 hg rfl⟩
theorem jA (n:Nar) (F:Fine n) (S:Lens n) (hz:(Z5 n).2=0) (role:Nat) (me:I3) (hme:n.roles[role]?=some me):∃m,pc Q ET [F0 n,.int .i64 (role:Nat)]=some (sl m 4 (A4 (Fe me n.fresh))):=by
 suffices hq:∃v,pc Q ET [F0 n,.int .i64 (role:Nat)]=some v/\∃m:Bool×Bool,v=sl m 4 (A4 (Fe me n.fresh)) by
  obtain⟨v,h1,m,rfl⟩:=hq;exact⟨m,h1⟩
 have hC:=TJ n F S.names;rw[hz]at hC;have hfl:n.fresh.length<=1048576:=by have:=S.names;omega
 have nb:=D8 n;have A7:=(A0A.1 hme).1;have hme':Jb (n.roles.map AV.str) role=some (.str me):=G0 hme;have q1:¬((role:Int)<0):=by omega
 have q2:¬((n.roles.length:Int)<=(role:Int)):=by omega
 generalize (Z5 n).1=e1 at *
 refine Qp Mr λΨ hΨ fr hl h0 h1=>?_;simp[Mr]at hl h0 h1;simp[Mr,hl,h0,h1,hC,nb,q1,q2];refine B9.mono (aG n hfl role me hme' _ _ [] ?_ ?_ ?_ ?_ ?_ ?_ ?_ ?_) ?_<;>first|(simp[hl,h1,nb];done)|skip
 rintro e E1 ⟨bx,F1⟩ ⟨K,rfl,hg⟩;have A6:E1.length=53:=K.1.trans (by simp[hl]);obtain⟨m',hf⟩:=Lu hg;simp only at hf;simp[A6,hf];exact hΨ _ ⟨m',rfl⟩
end Go.Abs.Q
namespace Go.Abs.Q
open Go.Proofs
open Go.Proofs.YtohjdamplbhdpaaGreatDoor (Rows.uptoBulk Rows.uptoBulkAll)
theorem kE:Tryz.prog.cellsOf 3=1:=by kernel_rfl
theorem gN:Tryz.prog.cellsOf 9=1:=by kernel_rfl
theorem uS:Tryz.prog.cellsOf 22=1:=by kernel_rfl
theorem kF:Tryz.prog.cellsOf 30=1:=by kernel_rfl
theorem eU:Tryz.prog.cellsOf 32=4:=by kernel_rfl
theorem kD:Tryz.prog.cellsOf 91=3:=by kernel_rfl
theorem nQ:Tryz.prog.cellsOf 23=1:=by kernel_rfl
theorem qI:Tryz.prog.cellsOf 70=7:=by kernel_rfl
theorem qw:Tryz.prog.cellsOf 24=1:=by kernel_rfl
theorem qH:Tryz.prog.cellsOf 99=5:=by kernel_rfl
theorem qv:Tryz.prog.cellsOf 25=1:=by kernel_rfl
theorem yG:Tryz.prog.cellsOf 27=6:=by kernel_rfl
theorem vS {α:Type}:∀{l:List α},l.length=3->∃a b c,l=[a,b,c]
 | [a,b,c],_=>⟨a,b,c,rfl⟩
theorem rY {α:Type}:∀{l:List α},l.length=4->∃a b c d,l=[a,b,c,d]
 | [a,b,c,d],_=>⟨a,b,c,d,rfl⟩
theorem vT {α:Type}:∀{l:List α},l.length=5->∃a b c d e,l=[a,b,c,d,e]
 | [a,b,c,d,e],_=>⟨a,b,c,d,e,rfl⟩
theorem vU {α:Type}:∀{l:List α},l.length=6->∃a b c d e f,l=[a,b,c,d,e,f]
 | [a,b,c,d,e,f],_=>⟨a,b,c,d,e,f,rfl⟩
theorem yf {α:Type}:∀{l:List α},l.length=7->∃a b c d e f g,l=[a,b,c,d,e,f,g]
 | [a,b,c,d,e,f,g],_=>⟨a,b,c,d,e,f,g,rfl⟩
theorem JE {P:Program} {w:World} {t:TypeId} {H:Type} {enc:TypeId×Value->H} {fs:Array Field} {n:Nat} {cs:List Value} {x:DataW H×List MemPlace} (ht:P.underlying t=some (.struct fs)) {c:Nat} (hc:P.cellsOf t=c)
  (h:DataW.trod enc P w 0 (λ_=>true) true n t cs=some x) :
  ∃(m:Nat) (xs:List (DataW H×List MemPlace)),n=m+1/\cs.length=c/\xs.length=fs.size/\x.1=.agg (xs.map (·.1))/\∀(i:Nat) (f:Field),fs[i]?=some f->∃y,xs[i]?=some y/\DataW.trod enc P w 0 (λ_=>true) true m f.type ((cs.drop f.offset).take (P.cellsOf f.type))=some y:=by
 obtain⟨xs,m,rfl,rfl,h1,h2,h3⟩:=DataW.trod_struct ht h;refine⟨m,xs,rfl,by omega,h2,rfl,λi f hi=>?_⟩;have A7:i<fs.size:=(Array.getElem?_eq_some_iff.1 hi).1;have:=h3 i f hi;rw[A0B (by omega)]at this;exact⟨xs[i],A0B _,this⟩
theorem qf {w:World} {ys ys':G1} {cs cs':List Value} (h:CV w ys cs) (k:CV w ys' cs'):CV w (ys++ys') (cs++cs'):=by
 induction ys generalizing cs with
 |nil =>
  have:cs=[]:=by
   have:=h.1;simpa[Cg]using this
  subst this;exact k
 |cons y ys ih =>
  obtain⟨h1,h2⟩:=h;simp only[Cg]at h1;obtain⟨u,us,rfl,h3,h4⟩:=h1;have:=ih ⟨h4,λv hv=>h2 v (List.mem_cons_of_mem _ hv)⟩;refine BO (Tw h3 (h2 u (by simp))) this
variable {w:World}
theorem XC (l:I6):(l.map Tm.size).sum=Tm.sizes l:=by
 induction l with
 |nil=>rfl
 |cons t l ih=>simp[Tm.sizes,ih]
theorem Sj {α:Type} {f:α->Nat} (h:∀a,1<=f a):∀l:List α,l.length<=(l.map f).sum
 | []=>by simp
 |a::l=>by have:=h a;have:=Sj h l;simp;omega
theorem QE {α:Type} {f:α->Nat} {a:α}:∀{l:List α},a∈l->f a<=(l.map f).sum
 |b::l,h=>by
  rcases List.mem_cons.1 h with rfl|h
  .simp
  .have:=QE (f:=f) h;simp;omega
theorem aQ:∀n,Ob Tryz.prog w 32 (λt:Tm=>(B7 t).cells) (λ_=>True) Tm.size n:=by
 intro n
 induction n using Nat.strongRecOn with
 |_ n ih =>
  intro H enc cs x hx;obtain⟨m,xs,rfl,GF,Wa,hx1,hf⟩:=JE Tryz.underlying32 eU hx;obtain⟨y0,hy0,h0⟩:=hf 0 _ rfl;obtain⟨y1,hy1,h1⟩:=hf 1 _ rfl;obtain⟨y2,hy2,h2⟩:=hf 2 _ rfl;obtain⟨y3,hy3,h3⟩:=hf 3 _ rfl;clear hf;obtain⟨v0,v1,v2,v3,rfl⟩:=rY GF;obtain⟨z0,z1,z2,z3,rfl⟩:=rY Wa;simp only[A0C,A0D,Option.some.injEq]at hy0 hy1 hy2 hy3;subst hy0 hy1 hy2 hy3;simp only[A0G,A0F,A0E,kE,gN,kF,A0N,A0H,A0I,A0O]at h0 h1 h2 h3;obtain⟨k,-,w0,cv0⟩:=Hf (w:=w) Tryz.underlying3 m enc _ _ h0;obtain⟨nm,-,w1,cv1⟩:=Fo (w:=w) Tryz.underlying9 m enc _ _ h1;obtain⟨s,-,w2,cv2⟩:=Hf (w:=w) Tryz.underlying3 m enc _ _ h2;cases m with
  |zero=>simp[DataW.trod]at h3
  |succ m =>
   obtain⟨⟨bk,kids⟩,-,w3,cv3⟩:=Hg (w:=w) Tryz.underlying30 eU (by omega) (ih m (by omega)) enc _ _ h3;refine⟨.mk k nm s (false,bk) kids,trivial,?_,?_⟩
   .rw[hx1];dsimp only at w0 w1 w2 w3;rw[XC]at w3;simp only[Tm.size,A0J,A0R,Rows.uptoBulk,Rows.uptoBulkAll];omega
   .dsimp only at cv0 cv1 cv2 cv3;simp only[B7,Kq];rw[D6];exact BO cv0 (BO cv1 (BO cv2 cv3))
def bi (l:List ByteArray):Nat:=(l.map λs=>s.size+1).sum
theorem Um (n:Nat):Ob Tryz.prog w 22 (λys:Bool×List ByteArray=>[sl (false,ys.1) 1 (ys.2.map AV.str)]) (λ_=>True) (λys=>bi ys.2) n:=by
 intro H enc cs x hx;cases n with
 |zero=>simp[DataW.trod]at hx
 |succ n =>
  obtain⟨ys,-,h1,h2⟩:=Hg (w:=w) (enc:=AV.str) Tryz.underlying22 gN (by omega) (Fo (w:=w) Tryz.underlying9 n) enc _ _ hx;exact⟨ys,trivial,by unfold bi;dsimp only at h1 ⊢;omega,h2⟩
def cc (f:Fre):Nat:=f.role.size+f.name.size+1
theorem iR (n:Nat):Ob Tryz.prog w 91 (λf:Fre=>(KD f).cells) (λ_=>True) cc n:=by
 intro H enc cs x hx;obtain⟨m,xs,rfl,GF,Wa,hx1,hf⟩:=JE Tryz.underlying91 kD hx;obtain⟨y0,hy0,h0⟩:=hf 0 _ rfl;obtain⟨y1,hy1,h1⟩:=hf 1 _ rfl;obtain⟨y2,hy2,h2⟩:=hf 2 _ rfl;clear hf;obtain⟨v0,v1,v2,rfl⟩:=vS GF;obtain⟨z0,z1,z2,rfl⟩:=vS Wa;simp only[A0C,A0D,Option.some.injEq]at hy0 hy1 hy2;subst hy0 hy1 hy2;simp only[A0G,A0F,A0E,kE,gN,A0N,A0H,A0I,A0O]at h0 h1 h2;obtain⟨a,-,w0,cv0⟩:=Fo (w:=w) Tryz.underlying9 m enc _ _ h0;obtain⟨b,-,w1,cv1⟩:=Fo (w:=w) Tryz.underlying9 m enc _ _ h1;obtain⟨s,-,w2,cv2⟩:=Hf (w:=w) Tryz.underlying3 m enc _ _ h2;refine⟨⟨a,b,s⟩,trivial,?_,BO cv0 (BO cv1 cv2)⟩;rw[hx1];dsimp only at w0 w1 w2;simp only[cc,A0J,A0R,Rows.uptoBulk,Rows.uptoBulkAll];omega
def Yi (s:Ste):Nat:=s.frm.size+s.to.size+s.msg.size+1
theorem iU (n:Nat):Ob Tryz.prog w 70 (λs:Ste=>(DY s).cells) (λ_=>True) Yi n:=by
 intro H enc cs x hx;obtain⟨m,xs,rfl,GF,Wa,hx1,hf⟩:=JE Tryz.underlying70 qI hx;obtain⟨y0,hy0,h0⟩:=hf 0 _ rfl;obtain⟨y1,hy1,h1⟩:=hf 1 _ rfl;obtain⟨y2,hy2,h2⟩:=hf 2 _ rfl;obtain⟨y3,hy3,h3⟩:=hf 3 _ rfl;clear hf;obtain⟨v0,v1,v2,v3,v4,v5,v6,rfl⟩:=yf GF;obtain⟨z0,z1,z2,z3,rfl⟩:=rY Wa;simp only[A0C,A0D,Option.some.injEq]at hy0 hy1 hy2 hy3;subst hy0 hy1 hy2 hy3;simp only[A0G,A0F,A0E,kE,gN,eU,A0N,A0H,A0I,A0O]at h0 h1 h2 h3;obtain⟨a,-,w0,cv0⟩:=Fo (w:=w) Tryz.underlying9 m enc _ _ h0;obtain⟨b,-,w1,cv1⟩:=Fo (w:=w) Tryz.underlying9 m enc _ _ h1;obtain⟨t,-,w2,cv2⟩:=aQ m enc _ _ h2;obtain⟨l,-,w3,cv3⟩:=Hf (w:=w) Tryz.underlying3 m enc _ _ h3;refine⟨⟨a,b,t,l⟩,trivial,?_,?_⟩
 .rw[hx1];dsimp only at w0 w1 w2 w3;simp only[Yi,A0J,A0R,Rows.uptoBulk,Rows.uptoBulkAll];omega
 .have:=BO cv0 (BO cv1 (qf cv2 cv3));dsimp only at this ⊢;rw[L0]at this;simpa only[bd,List.cons_append,List.nil_append]using this
def Xp (g:Gol):Nat:=g.role.size+g.wth.size+Tm.sizes g.data+1
theorem iS (n:Nat):Ob Tryz.prog w 99 (λg:Gol=>(Da g).cells) (λ_=>True) Xp n:=by
 intro H enc cs x hx;obtain⟨m,xs,rfl,GF,Wa,hx1,hf⟩:=JE Tryz.underlying99 qH hx;obtain⟨y0,hy0,h0⟩:=hf 0 _ rfl;obtain⟨y1,hy1,h1⟩:=hf 1 _ rfl;obtain⟨y2,hy2,h2⟩:=hf 2 _ rfl;obtain⟨y3,hy3,h3⟩:=hf 3 _ rfl;obtain⟨y4,hy4,h4⟩:=hf 4 _ rfl;clear hf;obtain⟨v0,v1,v2,v3,v4,rfl⟩:=vT GF;obtain⟨z0,z1,z2,z3,z4,rfl⟩:=vT Wa;simp only[A0C,A0D,Option.some.injEq]at hy0 hy1 hy2 hy3 hy4;subst hy0 hy1 hy2 hy3 hy4;simp only[A0G,A0F,A0E,kE,gN,kF,A0N,A0H,A0I,A0O]at h0 h1 h2 h3 h4;obtain⟨k,-,w0,cv0⟩:=Hf (w:=w) Tryz.underlying3 m enc _ _ h0;obtain⟨a,-,w1,cv1⟩:=Fo (w:=w) Tryz.underlying9 m enc _ _ h1;obtain⟨b,-,w2,cv2⟩:=Fo (w:=w) Tryz.underlying9 m enc _ _ h2;obtain⟨l,-,w4,cv4⟩:=Hf (w:=w) Tryz.underlying3 m enc _ _ h4;cases m with
 |zero=>simp[DataW.trod]at h3
 |succ m =>
  obtain⟨⟨bk,kids⟩,-,w3,cv3⟩:=Hg (w:=w) Tryz.underlying30 eU (by omega) (aQ m) enc _ _ h3;refine⟨⟨k,a,b,(false,bk),kids,l⟩,trivial,?_,?_⟩
  .rw[hx1];dsimp only at w0 w1 w2 w3 w4;rw[XC]at w3;simp only[Xp,A0J,A0R,Rows.uptoBulk,Rows.uptoBulkAll];omega
  .dsimp only at cv0 cv1 cv2 cv3 cv4;rw[←D6]at cv3;exact BO cv0 (BO cv1 (BO cv2 (BO cv3 cv4)))
def lR (n:Nar):Nat:=n.name.size+bi n.roles+(n.fresh.map cc).sum+bi n.tags+(n.steps.map Yi).sum+(n.goals.map Xp).sum
theorem iT (n:Nat):Ob Tryz.prog w 27 (λg:Nar=>(F0 g).cells) (λ_=>True) lR n:=by
 intro H enc cs x hx;obtain⟨m,xs,rfl,GF,Wa,hx1,hf⟩:=JE Tryz.underlying27 yG hx;obtain⟨y0,hy0,h0⟩:=hf 0 _ rfl;obtain⟨y1,hy1,h1⟩:=hf 1 _ rfl;obtain⟨y2,hy2,h2⟩:=hf 2 _ rfl;obtain⟨y3,hy3,h3⟩:=hf 3 _ rfl;obtain⟨y4,hy4,h4⟩:=hf 4 _ rfl;obtain⟨y5,hy5,h5⟩:=hf 5 _ rfl;clear hf;obtain⟨v0,v1,v2,v3,v4,v5,rfl⟩:=vU GF;obtain⟨z0,z1,z2,z3,z4,z5,rfl⟩:=vU Wa;simp only[A0C,A0D,Option.some.injEq]at hy0 hy1 hy2 hy3 hy4 hy5;subst hy0 hy1 hy2 hy3 hy4 hy5;simp only[A0G,A0F,A0E,gN,uS,nQ,qw,qv,A0N,A0H,A0I,A0O]at h0 h1 h2 h3 h4 h5;obtain⟨a,-,w0,cv0⟩:=Fo (w:=w) Tryz.underlying9 m enc _ _ h0;obtain⟨⟨b1,roles⟩,-,w1,cv1⟩:=Um m enc _ _ h1;obtain⟨⟨b3,tags⟩,-,w3,cv3⟩:=Um m enc _ _ h3;cases m with
 |zero=>simp[DataW.trod]at h2
 |succ m =>
  obtain⟨⟨b2,fresh⟩,-,w2,cv2⟩:=Hg (w:=w) (enc:=KD) Tryz.underlying23 kD (by omega) (iR m) enc _ _ h2;obtain⟨⟨b4,steps⟩,-,w4,cv4⟩:=Hg (w:=w) (enc:=DY) Tryz.underlying24 qI (by omega) (iU m) enc _ _ h4;obtain⟨⟨b5,goals⟩,-,w5,cv5⟩:=Hg (w:=w) (enc:=Da) Tryz.underlying25 qH (by omega) (iS m) enc _ _ h5;refine⟨⟨a,(false,b1),roles,(false,b2),fresh,(false,b3),tags,(false,b4),steps,(false,b5),goals⟩,trivial,?_,?_⟩
  .rw[hx1];dsimp only at w0 w1 w2 w3 w4 w5;simp only[lR,A0J,A0R,Rows.uptoBulk,Rows.uptoBulkAll];omega
  .exact BO cv0 (BO cv1 (BO cv2 (BO cv3 (BO cv4 cv5))))
theorem lS {n:Nar} (h:lR n<=1048576):Fine n/\Lens n/\Mg n.steps+Ov n.goals<=1099511627776:=by
 unfold lR at h;have r1:=Sj (f:=λs:ByteArray=>s.size+1) (λs=>by omega) n.roles;have r2:=Sj (f:=cc) (λs=>by unfold cc;omega) n.fresh;have r3:=Sj (f:=λs:ByteArray=>s.size+1) (λs=>by omega) n.tags;have r4:=Sj (f:=Yi) (λs=>by unfold Yi;omega) n.steps;have r5:=Sj (f:=Xp) (λs=>by unfold Xp;omega) n.goals;unfold bi at h;have m1:∀s∈n.roles,s.size<=1048576:=λs hs=>by have:=QE (f:=λs:ByteArray=>s.size+1) hs;omega
 have m2:∀f∈n.fresh,f.role.size<=1048576/\f.name.size<=1048576:=λs hs=>by have:=QE (f:=cc) hs;unfold cc at this h;omega
 have m3:∀s∈n.tags,s.size<=1048576:=λs hs=>by have:=QE (f:=λs:ByteArray=>s.size+1) hs;omega
 have m4:∀s∈n.steps,s.frm.size<=1048576/\s.to.size<=1048576/\s.msg.size<=1048576:=λs hs=>by have:=QE (f:=Yi) hs;unfold Yi at this h;omega
 have m5:∀g∈n.goals,g.role.size<=1048576/\g.wth.size<=1048576/\Tm.sizes g.data<=1048576:=λs hs=>by have:=QE (f:=Xp) hs;unfold Xp at this h;omega
 have q1:Mg n.steps<=(n.steps.map Yi).sum:=by
  generalize n.steps=l
  induction l with
  |nil=>simp[Mg]
  |cons a l ih=>simp only[Mg,A0J,A0c,Yi];omega
 have q2:Ov n.goals<=(n.goals.map Xp).sum:=by
  generalize n.goals=l
  induction l with
  |nil=>simp[Ov]
  |cons a l ih=>simp only[Ov,A0J,A0c,Xp];omega
 refine⟨⟨by omega,λs hs=>by have:=m1 s hs;omega,by omega,λs hs=>by have:=m2 s hs;omega,by omega,λs hs=>by have:=m3 s hs;omega,by omega,λs hs=>by have:=m4 s hs;omega,by omega,λs hs=>by have:=m5 s hs;omega,by omega⟩,⟨by omega,by omega,by omega,λg hg=>by have:=m5 g hg;have:=Tm.length_le g.data;omega⟩,by omega⟩
end Go.Abs.Q
namespace Go.Proofs
open Go.Shelf
def Tryz.sortLays_ren:Go.Shelf.Ren:=⟨fun|6=>96|15=>133|14=>132|28=>185|29=>186|20=>177|21=>178|22=>179|23=>180|24=>181|25=>182|26=>183|27=>184|46=>237|47=>238|48=>239|49=>240|50=>241|57=>295|n=>n,fun|22=>30|24=>32|25=>79|3=>3|39=>150|0=>0|53=>189|55=>191|4=>4|46=>183|45=>182|50=>144|5=>5|9=>9|66=>215|70=>219|76=>263|77=>264|n=>n,fun|n=>n⟩
theorem Tryz.sortLays:Go.Proofs.SlLaysF0.n6 Tryz.prog Tryz.sortLays_ren:={
 mixed:=by kernel_rfl
 f6:=⟨Tryz.f96.name,by decide,Tryz.func96.trans (congrArg some (by kernel_rfl))⟩
 f14:=⟨Tryz.f132.name,by decide,Tryz.func132.trans (congrArg some (by kernel_rfl))⟩
 f15:=Tryz.func133.trans (congrArg some (by kernel_rfl))
 f20:=⟨Tryz.f177.name,by decide,Tryz.func177.trans (congrArg some (by kernel_rfl))⟩
 f21:=⟨Tryz.f178.name,by decide,Tryz.func178.trans (congrArg some (by kernel_rfl))⟩
 f22:=⟨Tryz.f179.name,by decide,Tryz.func179.trans (congrArg some (by kernel_rfl))⟩
 f23:=⟨Tryz.f180.name,by decide,Tryz.func180.trans (congrArg some (by kernel_rfl))⟩
 f24:=⟨Tryz.f181.name,by decide,Tryz.func181.trans (congrArg some (by kernel_rfl))⟩
 f25:=⟨Tryz.f182.name,by decide,Tryz.func182.trans (congrArg some (by kernel_rfl))⟩
 f26:=⟨Tryz.f183.name,by decide,Tryz.func183.trans (congrArg some (by kernel_rfl))⟩
 f27:=⟨Tryz.f184.name,by decide,Tryz.func184.trans (congrArg some (by kernel_rfl))⟩
 f28:=Tryz.func185.trans (congrArg some (by kernel_rfl))
 f29:=Tryz.func186.trans (congrArg some (by kernel_rfl))
 f46:=⟨Tryz.f237.name,by decide,Tryz.func237.trans (congrArg some (by kernel_rfl))⟩
 f47:=Tryz.func238.trans (congrArg some (by kernel_rfl))
 f48:=Tryz.func239.trans (congrArg some (by kernel_rfl))
 f49:=⟨Tryz.f240.name,by decide,Tryz.func240.trans (congrArg some (by kernel_rfl))⟩
 f50:=⟨Tryz.f241.name,by decide,Tryz.func241.trans (congrArg some (by kernel_rfl))⟩
 f57:=⟨Tryz.f295.name,by decide,Tryz.func295.trans (congrArg some (by kernel_rfl))⟩
 t0:=Tryz.underlying0
 a0:=Tryz.isAgg0
 z0:=Tryz.sizeOf0
 v0:=Tryz.zeroValue0
 t3:=Tryz.underlying3
 a3:=Tryz.isAgg3
 z3:=Tryz.sizeOf3
 v3:=Tryz.zeroValue3
 t4:=Tryz.underlying4
 a4:=Tryz.isAgg4
 z4:=Tryz.sizeOf4
 v4:=Tryz.zeroValue4
 t5:=Tryz.underlying5
 a5:=Tryz.isAgg5
 z5:=Tryz.sizeOf5
 v5:=Tryz.zeroValue5
 t9:=Tryz.underlying9
 a9:=Tryz.isAgg9
 z9:=Tryz.sizeOf9
 v9:=Tryz.zeroValue9
 t22:=Tryz.underlying30
 a22:=Tryz.isAgg30
 z22:=Tryz.sizeOf30
 v22:=Tryz.zeroValue30
 t25:=Tryz.underlying79
 a25:=Tryz.isAgg79
 z25:=Tryz.sizeOf79
 v25:=Tryz.zeroValue79
 t39:=Tryz.underlying150
 a39:=Tryz.isAgg150
 z39:=Tryz.sizeOf150
 v39:=Tryz.zeroValue150
 t45:=Tryz.underlying182
 a45:=Tryz.isAgg182
 z45:=Tryz.sizeOf182
 v45:=Tryz.zeroValue182
 t46:=Tryz.underlying183
 a46:=Tryz.isAgg183
 z46:=Tryz.sizeOf183
 v46:=Tryz.zeroValue183
 t50:=Tryz.underlying144
 a50:=Tryz.isAgg144
 z50:=Tryz.sizeOf144
 v50:=Tryz.zeroValue144
 t53:=Tryz.underlying189
 a53:=Tryz.isAgg189
 z53:=Tryz.sizeOf189
 v53:=Tryz.zeroValue189
 t55:=Tryz.underlying191
 a55:=Tryz.isAgg191
 z55:=Tryz.sizeOf191
 v55:=Tryz.zeroValue191
 t66:=Tryz.underlying215
 a66:=Tryz.isAgg215
 z66:=Tryz.sizeOf215
 v66:=Tryz.zeroValue215
 t70:=Tryz.underlying219
 a70:=Tryz.isAgg219
 z70:=Tryz.sizeOf219
 v70:=Tryz.zeroValue219
 t76:=Tryz.underlying263
 a76:=Tryz.isAgg263
 z76:=Tryz.sizeOf263
 v76:=Tryz.zeroValue263
 t77:=Tryz.underlying264
 a77:=Tryz.isAgg264
 z77:=Tryz.sizeOf264
 v77:=Tryz.zeroValue264}
end Go.Proofs
namespace Go.Abs
open Go.RowKit (Below)
section
variable {P:Program} {E:Env}
theorem Nx (w:World) (dT sT ty elem:TypeId) (K g o dLen dCap:Nat) (a:Addr) (sLen sCap n:Nat) (cur:Array Value) (t:TypeId) (cs:List Value)
  (hu:P.underlying dT=some (.slice elem)) (hs:(P.info? elem).map (·.size)=some K)
  (hg:w.heap[g]?=some (.cells cur t (0,0))) (hn:Nat.min sLen dLen=n) (hl:cs.length=n*K)
  (hsrc:∀j v,cs[j]?=some v->w.cell? (a.add j)=some v) (Cl:o+cs.length<=cur.size) (h1:∀v∈cs,v.oneCell'=true) :
  (Builtin.copy_ #[dT,sT] ty #[.slice (some ⟨g,o,none⟩) dLen dCap,.slice (some a) sLen sCap]).run P w =
   .ok (goInt n) (w.setRow g (cur.toList.take o++cs++cur.toList.drop (o+cs.length)).toArray):=by
 have hl':=run_loadCells_list (P:=P) w a cs hsrc;have Gx:=run_storeCells_at P g o t cs 0 cur w hg (by simpa using Cl) h1;cases hq:P.info? elem with
 |none=>simp[hq]at hs
 |some i =>
  have hi:i.size=K:=by simpa[hq]using hs
  simp[Builtin.copy_,run_underlying hu,Builtin.lenOf,Builtin.firstCells,sizeOf,typeInfo,hq,hi,hn,←hl,hl',Gx]
theorem VK (t tx ty e ex:TypeId) (i:TypeInfo) (ht:P.underlying t=some (.slice e)) (htx:P.underlying tx=some (.slice ex)) (hi:P.info? e=some i)
  (g q sLen sCap:Nat) (cur:Array Value) (t':TypeId) (w:World) (hg:w.heap[g]?=some (.cells cur t' (0,0)))
  (a:Addr) (m c:Nat) (news:List Value) (hl:news.length=m*i.size) (hnews:∀j u,news[j]?=some u->w.cell? (a.add j)=some u) (h1:∀u∈news,u.oneCell'=true)
  (AY:sLen+m<=sCap) (Cl:q+sLen*i.size+news.length<=cur.size) :
  (Builtin.append_ #[t,tx] ty #[.slice (some ⟨g,q,none⟩) sLen sCap,.slice (some a) m c]).run P w =
   .ok (.slice (some ⟨g,q,none⟩) (sLen+m) sCap) (w.setRow g (cur.toList.take (q+sLen*i.size)++news++cur.toList.drop (q+sLen*i.size+news.length)).toArray):=by
 have hf:=run_firstCells_some (P:=P) w i.size m a m c news hl hnews;have Gx:=run_storeCells_at P g (q+sLen*i.size) t' news 0 cur w hg (by simpa using Cl) h1;simp only[A0f]at Gx;simp[Builtin.append_,run_underlying ht,run_underlying htx,sizeOf,typeInfo,hi,Builtin.lenOf,AY,hf,Dw,Gx]
theorem Sf (w:World) (tS tS' tR e:TypeId) (ht:P.underlying tS=some (.slice e)) (size:Nat) (hz:∀w,(Go.sizeOf e).run P w=.ok size w)
  (a b:Addr) (la ca lb cb:Nat) (P1:a.block≠b.block) (cur cur':Array Value) (t t':TypeId) (fr:Nat×Nat) (ha:w.heap[a.block]?=some (.cells cur t fr)) (h0:0<cur.size)
  (hb:w.heap[b.block]?=some (.cells cur' t' (0,0))) (h0':0<cur'.size) :
  (Extern.SlicesOverlaps.overlaps #[tS,tS'] #[tR] #[.slice (some a) la ca,.slice (some b) lb cb]).run P w=.ok (.bool false) w:=by
 have hnb:(a.block != b.block)=true:=by simpa using P1
 have hnb':(a.block == b.block)=false:=by simpa using P1
 have hsa:w.shape? a.block=some (t,cur.size):=by simp[World.shape?,ha]
 have hsb:w.shape? b.block=some (t',cur'.size):=by simp[World.shape?,hb]
 have hfb:w.frozen? b=false:=by simp[World.frozen?,hb]
 have hfb':w.frozen? {block:=b.block,off:=cur'.size}=false:=by simp[World.frozen?,hb]
 change Sem.run P (α:=Value) (do
  let some t:=(#[tS,tS']:Array TypeId)[0]? | stuck "slices.overlaps: no parameter types"
  let .slice elem ←underlying t|stuck "slices.overlaps: slice type expected"
  let size ←sizeOf elem
  match (some a:Option Addr),(some b:Option Addr)with
  |some a,some b =>
   if la=0\/lb=0\/size=0 then pure (Value.bool false)
   else if a.block != b.block&&(←frozen a)&&(←frozen b)then unsupported .addressObserved
   else do
    if a.block != b.block then do
     noView a;noView b
     if ←mayBeOne a b then return Value.bool ((←choose (.extern "sameAddr.stringBytes" 2)) == 1)
    pure (Value.bool (a.block == b.block&&a.off<b.off+lb*size&&b.off<a.off+la*size))
  |_,_=>pure (Value.bool false)) w=_
 by_cases hc:la=0\/lb=0\/size=0
 .simp[run_underlying ht,hz,hc]
 .obtain⟨ka,hka⟩:∃k,cur.size=k+1:=⟨cur.size-1,by omega⟩;obtain⟨kb,hkb⟩:∃k,cur'.size=k+1:=⟨cur'.size-1,by omega⟩;rw[hka]at hsa;rw[hkb]at hsb hfb';cases hfa:w.frozen? a<;>cases hfe:w.frozen? {block:=a.block,off:=ka+1}<;>
   simp[run_underlying ht,hz,hc,hnb,hnb',frozen,noView,viewAt,mayBeOne,stringish,shape,Sem.run,hsa,hsb,hfb,hfb',hfa,hfe]
structure InsLaw (P:Program) (f:FuncId) (K bytes:Nat):Prop where
 pos:0<K
 enter:Program.enterable P f=true
 inR:∀(w:World) (blk o n c i vb vo vc:Nat) (cur:Array Value) (t:TypeId) (cs vs:List Value),i<=n->n+1<=c->c<=maxLen->cs.length=n*K->vs.length=K->w.heap[blk]?=some (.cells cur t (0,0))->(∀j,j<n*K->cur[o+j]?=cs[j]?) ->
  o+c*K<=cur.size->(∀j v,vs[j]?=some v->w.cell? ⟨vb,vo+j,none⟩=some v)->vb≠blk->(∀v∈cs,v.oneCell'=true)->(∀v∈vs,v.oneCell'=true) ->
  Calls P f #[.slice (some ⟨blk,o,none⟩) n c,.int .i64 i,.slice (some ⟨vb,vo,none⟩) 1 vc] w λe w'=>e=.returned (.slice (some ⟨blk,o,none⟩) (n+1) c)/\∃(q:Nat) (us:Array Value),w'=(w.drewN q).setRow blk us/\us.size=cur.size /\
   ∀j,j<(n+1)*K->us[o+j]?=(cs.take (i*K)++vs++cs.drop (i*K))[j]?
 newR:∀(w:World) (base:Option Addr) (n c i vb vo vc:Nat) (cs vs:List Value),i<=n->n<=c->c<n+1->n+1<=maxLen->(n+1)*bytes<=H6->cs.length=n*K->vs.length=K->(base=none->n=0) ->
  (∀a,base=some a->(0<n->a.spot=none)/\∀j v,cs[j]?=some v->w.cell? (a.add j)=some v)->(∀j v,vs[j]?=some v->w.cell? ⟨vb,vo+j,none⟩=some v)->(∀v∈cs,v.oneCell'=true)->(∀v∈vs,v.oneCell'=true) ->
  Calls P f #[.slice base n c,.int .i64 i,.slice (some ⟨vb,vo,none⟩) 1 vc] w λe w'=>∃(q G:Nat) (us:Array Value) (t:TypeId),e=.returned (.slice (some ⟨w.heap.size,0,none⟩) (n+1) G)/\w'=(w.drewN q).alloc (.cells us t)/\n+1<=G/\G<=maxLen/\G*K<=us.size /\
   ∀j,j<(n+1)*K->us[j]?=(cs.take (i*K)++vs++cs.drop (i*K))[j]?
theorem GZ (w:World) (q:Nat):Bl w.heap.size w (w.drewN q):=⟨⟨rfl,rfl,rfl,A0Q _,λ_ _=>rfl⟩,Nat.le_add_right _ _⟩
theorem jr {cs vs:List Value} {xs:G1} {x:AV} {K n i:Nat} (hr:If E cs xs K) (hl:cs.length=n*K) (Wa:xs.length=n) (hv:If E vs [x] K) (hvl:vs.length=K) (hi:i<=n) :
  If E (cs.take (i*K)++vs++cs.drop (i*K)) (xs.take i++x::xs.drop i) K:=by
 have h1:If E (cs.take (i*K)) (xs.take i) K:=by
  intro j y hy;rw[A0Y]at hy;split at hy
  .rename_i hj;obtain⟨g1,g2⟩:=hr j y hy;refine⟨g1,λc z hz=>?_⟩;obtain⟨v,v1,v2⟩:=g2 c z hz;have hc:c<K:=by have:=(A0A.1 hz).1;omega
   have:=CC hj hc;exact⟨v,by rw[A0Y,if_pos (by omega)];exact v1,v2⟩
  .cases hy
 have h2:If E (cs.drop (i*K)) (xs.drop i) K:=by
  intro j y hy;rw[A0X]at hy;obtain⟨g1,g2⟩:=hr (i+j) y hy;refine⟨g1,λc z hz=>?_⟩;obtain⟨v,v1,v2⟩:=g2 c z hz;refine⟨v,?_,v2⟩;rw[A0X,←A0d,←A0h];exact v1
 have hiK:i*K<=n*K:=A0W _ hi;have h3:=Lx (Lx h1 (by rw[A0L,A0L,hl,Wa,A0S hiK,A0S hi]) hv) (by
  rw[A0Z,A0Z,A0L,A0L,hl,Wa,hvl,A0S hiK,A0S hi,A0h];simp) h2
 rw[List.append_assoc (xs.take i)]at h3;exact h3
theorem bu (hS:SR E) {k n:Nat} {f:Fam} {v:Value} (hv:VR E (.sl k n 0 n) v) (hf:E.h.fams[k]?=some f) (hn:f.xs.length=n) (h0:0<n):∃(cur:Array Value) (t:TypeId) (cs:List Value),v=.slice (some ⟨(E.im k).b,(E.im k).o,none⟩) n (E.im k).cap/\(E.im k).lo=0/\n<=(E.im k).cap/\(E.im k).cap<=maxLen /\
  E.w.heap[(E.im k).b]?=some (.cells cur t (0,0))/\(E.im k).o+(E.im k).cap*f.sz<=cur.size/\cs.length=n*f.sz/\(∀j,j<n*f.sz->cur[(E.im k).o+j]?=cs[j]?)/\(∀u∈cs,u.oneCell'=true)/\If E cs f.xs f.sz:=by
 simp only[VR]at hv;obtain⟨a,cap,f',rfl,hf',⟨_,_⟩,hv⟩:=hv;rw[hf]at hf';cases hf';obtain⟨l1,_,l3,_,l5⟩:=hv hn;have hF:=hS.fams k f hf;have Ql:(E.im k).lo=0:=by omega
 have AY:=hF.room;have hcap:cap=(E.im k).cap:=by omega
 have ha:a=some ⟨(E.im k).b,(E.im k).o,none⟩:=by
  have:=l5 (by omega);rw[Ql]at this;simpa using this
 subst ha;obtain⟨cur,t,hcur,Cl,Rw⟩:=hF.cells;rw[Ql]at Rw;have hnK:n*f.sz<=(E.im k).cap*f.sz:=A0W _ (by omega);refine⟨cur,t,(A0i (n*f.sz)).map λj=>cur.getD ((E.im k).o+j) undef,by rw[hcap],Ql,by omega,hF.cap,hcur,Cl,by simp,λj hj=>?_,λu hu=>?_,λj x hx=>?_⟩
 .rw[A0P,A0M hj,A0T,A0K,Array.getElem?_eq_getElem (by omega)];rfl
 .rw[A0e]at hu;obtain⟨j,hj,rfl⟩:=hu;rw[A0b]at hj;obtain⟨q1,q2,q3⟩:=eY hF.sz hj;obtain⟨g1,g2⟩:=Rw (j / f.sz) _ (A0V _) (A0B (by omega));obtain⟨u,u1,u2,_⟩:=g2 (j % f.sz) _ (A0B (by omega));rw[A0U,show (E.im k).o+j / f.sz*f.sz+j % f.sz=(E.im k).o+j from by omega]at u1;rw[A0K,u1];exact u2
 .obtain⟨g1,g2⟩:=Rw j x (A0V _) hx;refine⟨g1,λc y hy=>?_⟩;obtain⟨u,u1,u2,u3⟩:=g2 c y hy;rw[A0U]at u1;have hj:j<n:=by have:=(A0A.1 hx).1;omega
  have hc:c<f.sz:=by have:=(A0A.1 hy).1;omega
  have A7:=CC hj hc;refine⟨u,?_,u2,u3⟩;rw[A0P,A0M A7,A0T,A0K,show (E.im k).o+(j*f.sz+c)=(E.im k).o+j*f.sz+c from by omega,u1];rfl
theorem Wi (hS:SR E) {q:Bool} {z K:Nat} {x:AV} {v:Value} (hz:z=K) (hv:VR E (.vs q z [x]) v):∃(vb vo vc:Nat) (vs:List Value),v=.slice (some ⟨vb,vo,none⟩) 1 vc/\vs.length=K/\(∀j u,vs[j]?=some u->E.w.cell? ⟨vb,vo+j,none⟩=some u/\E.ok vb (vo+j))/\(∀u∈vs,u.oneCell'=true)/\If E vs [x] K/\0<K:=by
 subst hz;simp only[VR,PV]at hv;obtain⟨a,len,cap,rfl,rfl,_,_,_,_,h6⟩:=hv;obtain⟨b,o,rfl,hz,he⟩:=h6 (by simp);obtain⟨p1,p2⟩:=Oc he (j:=0) (x:=x) rfl;rw[A0g,A0f]at p2;have hex:∀c,c<z->∃u y,x.cells[c]?=some y/\E.ok b (o+c)/\E.w.cell? ⟨b,o+c,none⟩=some u/\u.oneCell'=true/\PV E.w E.ok y u:=λc hc=>by
  have A7:c<x.cells.length:=by omega
  obtain⟨u,u1,u2,u3,u4⟩:=Ip p2 (A0B A7);exact⟨u,_,A0B A7,u1,u2,u3,u4⟩
 refine⟨b,o,cap,(A0i z).map λc=>(E.w.cell? ⟨b,o+c,none⟩).getD undef,rfl,by simp,λj u hu=>?_,λu hu=>?_,λj y hy=>?_,hz⟩
 .rw[A0P]at hu;by_cases hj:j<z
  .rw[A0M hj,A0T,Option.some.injEq]at hu;obtain⟨u',_,_,u1,u2,_⟩:=hex j hj;rw[u2]at hu ⊢;cases hu;exact⟨rfl,u1⟩
  .rw[List.getElem?_eq_none (by simpa using hj)]at hu;cases hu
 .rw[A0e]at hu;obtain⟨j,hj,rfl⟩:=hu;rw[A0b]at hj;obtain⟨u',_,_,u1,u2,u3,_⟩:=hex j hj;rw[u2];exact u3
 .have hj:j=0:=by
   have:=(A0A.1 hy).1;simp at this;exact this
  subst hj;simp only[A0C,Option.some.injEq]at hy;subst hy;refine⟨p1,λc y hy=>?_⟩;have hc:c<z:=by have:=(A0A.1 hy).1;omega
  obtain⟨u,u1,u2,u3,u4⟩:=Ip p2 hy;refine⟨u,?_,u3,u4⟩;rw[A0g,Nat.zero_add,A0P,A0M hc,A0T,u2];rfl
theorem gh {f:FuncId} {K bytes:Nat} (L:InsLaw P f K bytes) (O:Orc) (args:G1) (h:AH) (r:AV) (h':AH) (he:(gf K bytes).run O args h=some (r,h')):Program.enterable P f=true /\
  ∀(E:Env) (vs:Array Value),SR E->E.h=h->Au E args vs.toList ->
   Calls P f vs E.w λe w'=>∃u E',e=.returned u/\w'=E'.w/\Ext E E'/\SR E'/\E'.h=h'/\VR E' r u:=by
 refine⟨L.enter,λE avs hS hh hv=>?_⟩;subst hh;change Nh K bytes args E.h=some (r,h')at he;unfold Nh at he;split at he
 .rename_i s i q z x;split at he
  .rename_i hc0;obtain⟨hzK,hag⟩:=hc0;obtain⟨avs⟩:=avs;simp only[Au]at hv;obtain⟨v0,_,rfl,hv0,v1,_,rfl,hv1,v2,_,rfl,hv2,rfl⟩:=hv;simp only[VR]at hv1;subst hv1;obtain⟨vb,vo,vc,vs,rfl,hvl,hvc,hv1c,hvr,hK⟩:=Wi hS hzK hv2;have hvc1:∀j u,vs[j]?=some u->E.w.cell? ⟨vb,vo+j,none⟩=some u:=λj u hu=>(hvc j u hu).1;have hv0':∃u,vs[0]?=some u:=⟨_,A0B (by omega)⟩;split at he
   .rename_i k n off len;split at he
    .rename_i f' hf;split at he
     .rename_i hc;obtain⟨c1,c2,c3,c4,c5,c6,c7,c8,c9,c10⟩:=hc;cases he;subst c2;have c3':=c3.symm;subst c3';obtain⟨cur,t,cs,rfl,Ql,hncap,hcapm,hcur,Cl,GF,hcc,hc1,hrow⟩:=bu hS hv0 hf c1 c4;rw[c6]at Cl GF hcc hrow;have hi0:(i.toNat:Int)=i:=Int.toNat_of_nonneg c7;have Ys:i.toNat<=n:=by omega
      have P1:vb≠(E.im k).b:=by
       obtain⟨u,hu⟩:=hv0';exact Ul hf c5 hS (hvc 0 u hu).2
      have hrow':∀{E':Env},Ext E E'->If E' (cs.take (i.toNat*K)++vs++cs.drop (i.toNat*K)) (f'.xs.take i.toNat++x::f'.xs.drop i.toNat) K:=λhx=>Of hx (jr hrow GF c1 hvr hvl Ys);have B8:(f'.xs.take i.toNat++x::f'.xs.drop i.toNat).length=n+1:=by simp;omega
      rw[←hi0];by_cases AY:n+1<=(E.im k).cap
      .refine(L.inR E.w (E.im k).b (E.im k).o n (E.im k).cap i.toNat vb vo vc cur t cs vs Ys AY hcapm GF hvl hcur hcc Cl hvc1 P1 hc1 hv1c).mono λe w' ⟨h1,q,us,h2,h3,h4⟩=>?_;have x1:=Az hS (GZ E.w q);have s1:=Ff hS (GZ E.w q);have hcur1:({E with w:=E.w.drewN q}:Env).w.heap[(({E with w:=E.w.drewN q}:Env).im k).b]?=some (.cells cur t (0,0)):=hcur
       have NF:f'.xs.length<=(f'.xs.take i.toNat++x::f'.xs.drop i.toNat).length:=by rw[B8];omega
       have x2:=JA s1 (f':={f' with xs:=f'.xs.take i.toNat++x::f'.xs.drop i.toNat}) (us:=us) hf hcur1 rfl rfl NF (λhw=>by rw[c5]at hw;cases hw)
       have s2:=NM s1 (f':={f' with xs:=f'.xs.take i.toNat++x::f'.xs.drop i.toNat}) (us:=us) hf hcur1 rfl rfl NF (λhw=>by rw[c5]at hw;cases hw)
        (by show (f'.xs.take i.toNat++x::f'.xs.drop i.toNat).length<=(E.im k).lo+(E.im k).cap;omega) h3 (by
         intro j y _ hy;show Ls _ _ ((E.im k).o+(j-(E.im k).lo)*f'.sz) f'.sz y;rw[Ql,A0U,c6];obtain⟨g1,g2⟩:=hrow' x1 j y hy;refine⟨g1,λc y' hy'=>?_⟩;obtain⟨v,v1,v2⟩:=g2 c y' hy';have hjn:j<n+1:=by have:=(A0A.1 hy).1;rw[←B8];exact this
         have hcK:c<K:=by have:=(A0A.1 hy').1;omega
         exact⟨v,by rw[A0d,h4 _ (CC hjn hcK)];exact v1,v2⟩)
       refine⟨_,({E with w:=E.w.drewN q}:Env).setFam k us {f' with xs:=f'.xs.take i.toNat++x::f'.xs.drop i.toNat},h1,h2,x1.trans x2,s2,rfl,?_⟩
       have Dd:=(A0A.1 hf).1;simp only[VR,Env.setFam];exact⟨_,_,{f' with xs:=f'.xs.take i.toNat++x::f'.xs.drop i.toNat},rfl,by simp[Dd],⟨by rw[B8];exact A0Q _,λ_=>⟨_,_,rfl⟩⟩,λ_=>⟨by omega,by omega,by omega,(λh=>nomatch h),λ_=>by simp[Ql]⟩⟩
      .refine(L.newR E.w (some ⟨(E.im k).b,(E.im k).o,none⟩) n (E.im k).cap i.toNat vb vo vc cs vs Ys hncap (by omega) c10 c9 GF hvl (λh=>nomatch h) (λa ha=>?_) hvc1 hc1 hv1c).mono λe w' ⟨q,G,us,te,h1,h2,h3,h4,h5,h6⟩=>?_
       .cases ha;refine⟨λ_=>rfl,λj v hj=>?_⟩;have hjn:j<n*K:=by have:=(A0A.1 hj).1;omega
        rw[Dw,cell_of_row _ _ _ _ _ _ hcur,hcc j hjn];exact hj
       have x1:=Az hS (GZ E.w q);have s1:=Ff hS (GZ E.w q);have A7:f'.xs.length<(f'.xs.take i.toNat++x::f'.xs.drop i.toNat).length:=by rw[B8];omega
       have x2:=PA s1 (f':={f' with xs:=f'.xs.take i.toNat++x::f'.xs.drop i.toNat}) hf us te 0 G rfl A7
       have s2:=Uf s1 (f':={f' with xs:=f'.xs.take i.toNat++x::f'.xs.drop i.toNat}) (us:=us) (t:=te) (lo:=0) (cap:=G) hf rfl A7 (A0V _) (by show (f'.xs.take i.toNat++x::f'.xs.drop i.toNat).length<=0+G;omega) h4 (by rw[c6];exact h5) (by
         intro j y _ hy;rw[A0U,c6];obtain⟨g1,g2⟩:=hrow' x1 j y hy;refine⟨g1,λc y' hy'=>?_⟩;obtain⟨v,v1,v2⟩:=g2 c y' hy';have hjn:j<n+1:=by have:=(A0A.1 hy).1;rw[←B8];exact this
         have hcK:c<K:=by have:=(A0A.1 hy').1;omega
         exact⟨v,by rw[h6 _ (CC hjn hcK)];exact v1,v2⟩)
       refine⟨_,({E with w:=E.w.drewN q}:Env).moveFam k us te 0 G {f' with xs:=f'.xs.take i.toNat++x::f'.xs.drop i.toNat},h1,h2,x1.trans x2,s2,rfl,?_⟩
       have Dd:=(A0A.1 hf).1;simp only[VR,Env.moveFam,j5];exact⟨_,_,{f' with xs:=f'.xs.take i.toNat++x::f'.xs.drop i.toNat},rfl,by simp[Dd],⟨by rw[B8];exact A0Q _,λ_=>⟨_,_,rfl⟩⟩,λ_=>⟨A0Q _,by omega,by omega,(λh=>nomatch h),λ_=>by simp⟩⟩
     .cases he
    .cases he
   .rename_i z';split at he
    .rename_i hc;obtain⟨rfl,hb⟩:=hc;cases he;simp only[VR,PV]at hv0;obtain⟨base,len,cap,rfl,rfl,_,_,h4',_,_⟩:=hv0;have hcap:cap=0:=h4' trivial;subst hcap;refine(L.newR E.w base 0 0 0 vb vo vc [] vs (A0Q _) (A0Q _) (by omega) (by unfold maxLen;omega) (by omega) (by simp) hvl (λ_=>rfl) (λa ha=>?_) hvc1 (λ_ h=>nomatch h) hv1c).mono λe w' ⟨q,G,us,te,h1,h2,h3,h4,h5,h6⟩=>?_
     .exact⟨λh=>absurd h (Nat.lt_irrefl 0),λj v hj=>by simp at hj⟩
     have x1:=Az hS (GZ E.w q);have s1:=Ff hS (GZ E.w q);refine⟨_,({E with w:=E.w.drewN q}:Env).newFam us te G ⟨[x],K,true⟩,h1,h2,x1.trans (Ix s1 _ _ _ _),NK s1 hK (by simpa using h3) h4 h5 (λj y hy=>?_),rfl,?_⟩
     .obtain⟨g1,g2⟩:=Of x1 hvr j y hy;refine⟨g1,λc y' hy'=>?_⟩;obtain⟨v,v1,v2⟩:=g2 c y' hy';have hjn:j<0+1:=by have:=(A0A.1 hy).1;simpa using this
      have hcK:c<K:=by have:=(A0A.1 hy').1;omega
      exact⟨v,by rw[h6 _ (CC hjn hcK)];simpa using v1,v2⟩
     .simp only[VR,Env.newFam,j5];exact⟨_,_,⟨[x],K,true⟩,rfl,by simp,⟨by simp,λ_=>⟨_,_,rfl⟩⟩,λ_=>⟨A0V _,by simp,by simp,(λh=>nomatch h),λ_=>by simp⟩⟩
    .cases he
   .cases he
  .cases he
 .cases he
end
end Go.Abs
