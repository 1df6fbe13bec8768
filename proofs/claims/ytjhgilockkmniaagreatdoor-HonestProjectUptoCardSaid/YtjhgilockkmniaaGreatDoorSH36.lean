/- A part of the proof. -/
import Derived.Test.YtjhgilockkmniaaGreatDoorSH35
import Derived.KernelRfl
import Derived.Test.YtjhgilockkmniaaGreatDoorCards
import Derived.Test.YtjhgilockkmniaaGreatDoorTie
import Derived.WalkKit
import Derived.ProofKit
import Derived.OpenShut
import Derived.JoinedCond
import Derived.Deep.DeepHandedRow
import Derived.Lib.LaidTab
set_option linter.all false
open List renaming getElem?_cons_succ->zf0z,getElem?_cons_zero->zf1z,getElem_cons_succ->zf2z,getElem_cons_zero->zf3z,getElem_toArray->zf4z,getElem?_eq_getElem->zf5z,drop_succ_cons->zf6z,take_succ_cons->zf7z,map_cons->zf8z,drop_zero->zf9z,take_zero->zg0z,map_nil->zg1z,mem_cons->zg2z,sum_cons->zg3z
namespace Go.Abs.Q
open Go.Proofs
open Go.Proofs.YtjhgilockkmniaaGreatDoor (Rows.uptoBulk Rows.uptoBulkAll)
theorem eS:Tryz.prog.cellsOf 3=1:=by kernel_rfl
theorem VP:Tryz.prog.cellsOf 9=1:=by kernel_rfl
theorem lx:Tryz.prog.cellsOf 22=1:=by kernel_rfl
theorem af:Tryz.prog.cellsOf 39=1:=by kernel_rfl
theorem Wr:Tryz.prog.cellsOf 41=4:=by kernel_rfl
theorem ae:Tryz.prog.cellsOf 126=3:=by kernel_rfl
theorem eR:Tryz.prog.cellsOf 23=1:=by kernel_rfl
theorem gd:Tryz.prog.cellsOf 43=7:=by kernel_rfl
theorem iU:Tryz.prog.cellsOf 24=1:=by kernel_rfl
theorem gc:Tryz.prog.cellsOf 62=5:=by kernel_rfl
theorem iT:Tryz.prog.cellsOf 25=1:=by kernel_rfl
theorem rL:Tryz.prog.cellsOf 27=6:=by kernel_rfl
theorem nY {α:Type}:∀{l:List α},l.length=3->∃a b c,l=[a,b,c]
 | [a,b,c],_=>⟨a,b,c,rfl⟩
theorem jP {α:Type}:∀{l:List α},l.length=4->∃a b c d,l=[a,b,c,d]
 | [a,b,c,d],_=>⟨a,b,c,d,rfl⟩
theorem nZ {α:Type}:∀{l:List α},l.length=5->∃a b c d e,l=[a,b,c,d,e]
 | [a,b,c,d,e],_=>⟨a,b,c,d,e,rfl⟩
theorem nc {α:Type}:∀{l:List α},l.length=6->∃a b c d e f,l=[a,b,c,d,e,f]
 | [a,b,c,d,e,f],_=>⟨a,b,c,d,e,f,rfl⟩
theorem sE {α:Type}:∀{l:List α},l.length=7->∃a b c d e f g,l=[a,b,c,d,e,f,g]
 | [a,b,c,d,e,f,g],_=>⟨a,b,c,d,e,f,g,rfl⟩
theorem HN {P:Program} {w:World} {t:TypeId} {H:Type} {enc:TypeId×Value->H} {fs:Array Field} {n:Nat} {cs:List Value} {x:DataW H×List MemPlace} (ht:P.underlying t=some (.struct fs)) {c:Nat} (hc:P.cellsOf t=c)
  (h:DataW.trod enc P w 0 (λ_=>true) true n t cs=some x) :
  ∃(m:Nat) (xs:List (DataW H×List MemPlace)),n=m+1/\cs.length=c/\xs.length=fs.size/\x.1=.agg (xs.map (·.1))/\∀(i:Nat) (f:Field),fs[i]?=some f->∃y,xs[i]?=some y/\DataW.trod enc P w 0 (λ_=>true) true m f.type ((cs.drop f.offset).take (P.cellsOf f.type))=some y:=by
 obtain⟨xs,m,rfl,rfl,h1,h2,h3⟩:=DataW.trod_struct ht h;refine⟨m,xs,rfl,by omega,h2,rfl,λi f hi=>?_⟩;have A9:i<fs.size:=(Array.getElem?_eq_some_iff.1 hi).1;have:=h3 i f hi;rw[zf5z (by omega)]at this;exact⟨xs[i],zf5z _,this⟩
theorem iJ {w:World} {ys ys':C6} {cs cs':List Value} (h:CV w ys cs) (k:CV w ys' cs'):CV w (ys++ys') (cs++cs'):=by
 induction ys generalizing cs with
 |nil =>
  have:cs=[]:=by
   have:=h.1;simpa[U3]using this
  subst this;exact k
 |cons y ys ih =>
  obtain⟨h1,h2⟩:=h;simp only[U3]at h1;obtain⟨u,us,rfl,h3,h4⟩:=h1;have:=ih ⟨h4,λv hv=>h2 v (List.mem_cons_of_mem _ hv)⟩;refine AB (Lr h3 (h2 u (by simp))) this
variable {w:World}
theorem Qm (l:Hm):(l.map Tm.size).sum=Tm.sizes l:=by
 induction l with
 |nil=>rfl
 |cons t l ih=>simp[Tm.sizes,ih]
theorem MZ {α:Type} {f:α->Nat} (h:∀a,1<=f a):∀l:List α,l.length<=(l.map f).sum
 | []=>by simp
 |a::l=>by have:=h a;have:=MZ h l;simp;omega
theorem KP {α:Type} {f:α->Nat} {a:α}:∀{l:List α},a∈l->f a<=(l.map f).sum
 |b::l,h=>by
  rcases zg2z.1 h with rfl|h
  .simp
  .have:=KP (f:=f) h;simp;omega
theorem Tu:∀n,IK Tryz.prog w 41 (λt:Tm=>(H2 t).cells) (λ_=>True) Tm.size n:=by
 intro n
 induction n using Nat.strongRecOn with
 |_ n ih =>
  intro H enc cs x hx;obtain⟨m,xs,rfl,He,NE,hx1,hf⟩:=HN Tryz.underlying41 Wr hx;obtain⟨y0,hy0,h0⟩:=hf 0 _ rfl;obtain⟨y1,hy1,h1⟩:=hf 1 _ rfl;obtain⟨y2,hy2,h2⟩:=hf 2 _ rfl;obtain⟨y3,hy3,h3⟩:=hf 3 _ rfl;clear hf;obtain⟨v0,v1,v2,v3,rfl⟩:=jP He;obtain⟨z0,z1,z2,z3,rfl⟩:=jP NE;simp only[zf1z,zf0z,Option.some.injEq]at hy0 hy1 hy2 hy3;subst hy0 hy1 hy2 hy3;simp only[zf4z,zf3z,zf2z,eS,VP,af,zf9z,zf6z,zf7z,zg0z]at h0 h1 h2 h3;obtain⟨k,-,w0,cv0⟩:=FQ (w:=w) Tryz.underlying3 m enc _ _ h0;obtain⟨nm,-,w1,cv1⟩:=Cw (w:=w) Tryz.underlying9 m enc _ _ h1;obtain⟨s,-,w2,cv2⟩:=FQ (w:=w) Tryz.underlying3 m enc _ _ h2;cases m with
  |zero=>simp[DataW.trod]at h3
  |succ m =>
   obtain⟨⟨bk,kids⟩,-,w3,cv3⟩:=EH (w:=w) Tryz.underlying39 Wr (by omega) (ih m (by omega)) enc _ _ h3;refine⟨.mk k nm s (false,bk) kids,trivial,?_,?_⟩
   .rw[hx1];dsimp only at w0 w1 w2 w3;rw[Qm]at w3;simp only[Tm.size,zf8z,zg1z,Rows.uptoBulk,Rows.uptoBulkAll];omega
   .dsimp only at cv0 cv1 cv2 cv3;simp only[H2,FC];rw[uH];exact AB cv0 (AB cv1 (AB cv2 cv3))
def Ui (l:List ByteArray):Nat:=(l.map λs=>s.size+1).sum
theorem Ob (n:Nat):IK Tryz.prog w 22 (λys:Bool×List ByteArray=>[sl (false,ys.1) 1 (ys.2.map AV.str)]) (λ_=>True) (λys=>Ui ys.2) n:=by
 intro H enc cs x hx;cases n with
 |zero=>simp[DataW.trod]at hx
 |succ n =>
  obtain⟨ys,-,h1,h2⟩:=EH (w:=w) (enc:=AV.str) Tryz.underlying22 VP (by omega) (Cw (w:=w) Tryz.underlying9 n) enc _ _ hx;exact⟨ys,trivial,by unfold Ui;dsimp only at h1 ⊢;omega,h2⟩
def VZ (f:Fre):Nat:=f.role.size+f.name.size+1
theorem Yy (n:Nat):IK Tryz.prog w 126 (λf:Fre=>(Hp f).cells) (λ_=>True) VZ n:=by
 intro H enc cs x hx;obtain⟨m,xs,rfl,He,NE,hx1,hf⟩:=HN Tryz.underlying126 ae hx;obtain⟨y0,hy0,h0⟩:=hf 0 _ rfl;obtain⟨y1,hy1,h1⟩:=hf 1 _ rfl;obtain⟨y2,hy2,h2⟩:=hf 2 _ rfl;clear hf;obtain⟨v0,v1,v2,rfl⟩:=nY He;obtain⟨z0,z1,z2,rfl⟩:=nY NE;simp only[zf1z,zf0z,Option.some.injEq]at hy0 hy1 hy2;subst hy0 hy1 hy2;simp only[zf4z,zf3z,zf2z,eS,VP,zf9z,zf6z,zf7z,zg0z]at h0 h1 h2;obtain⟨a,-,w0,cv0⟩:=Cw (w:=w) Tryz.underlying9 m enc _ _ h0;obtain⟨b,-,w1,cv1⟩:=Cw (w:=w) Tryz.underlying9 m enc _ _ h1;obtain⟨s,-,w2,cv2⟩:=FQ (w:=w) Tryz.underlying3 m enc _ _ h2;refine⟨⟨a,b,s⟩,trivial,?_,AB cv0 (AB cv1 cv2)⟩;rw[hx1];dsimp only at w0 w1 w2;simp only[VZ,zf8z,zg1z,Rows.uptoBulk,Rows.uptoBulkAll];omega
def SP (s:Ste):Nat:=s.frm.size+s.to.size+s.msg.size+1
theorem ZB (n:Nat):IK Tryz.prog w 43 (λs:Ste=>(P3 s).cells) (λ_=>True) SP n:=by
 intro H enc cs x hx;obtain⟨m,xs,rfl,He,NE,hx1,hf⟩:=HN Tryz.underlying43 gd hx;obtain⟨y0,hy0,h0⟩:=hf 0 _ rfl;obtain⟨y1,hy1,h1⟩:=hf 1 _ rfl;obtain⟨y2,hy2,h2⟩:=hf 2 _ rfl;obtain⟨y3,hy3,h3⟩:=hf 3 _ rfl;clear hf;obtain⟨v0,v1,v2,v3,v4,v5,v6,rfl⟩:=sE He;obtain⟨z0,z1,z2,z3,rfl⟩:=jP NE;simp only[zf1z,zf0z,Option.some.injEq]at hy0 hy1 hy2 hy3;subst hy0 hy1 hy2 hy3;simp only[zf4z,zf3z,zf2z,eS,VP,Wr,zf9z,zf6z,zf7z,zg0z]at h0 h1 h2 h3;obtain⟨a,-,w0,cv0⟩:=Cw (w:=w) Tryz.underlying9 m enc _ _ h0;obtain⟨b,-,w1,cv1⟩:=Cw (w:=w) Tryz.underlying9 m enc _ _ h1;obtain⟨t,-,w2,cv2⟩:=Tu m enc _ _ h2;obtain⟨l,-,w3,cv3⟩:=FQ (w:=w) Tryz.underlying3 m enc _ _ h3;refine⟨⟨a,b,t,l⟩,trivial,?_,?_⟩
 .rw[hx1];dsimp only at w0 w1 w2 w3;simp only[SP,zf8z,zg1z,Rows.uptoBulk,Rows.uptoBulkAll];omega
 .have:=AB cv0 (AB cv1 (iJ cv2 cv3));dsimp only at this ⊢;rw[dX]at this;simpa only[Jw,List.cons_append,List.nil_append]using this
def RR (g:Gol):Nat:=g.role.size+g.wth.size+Tm.sizes g.data+1
theorem Yz (n:Nat):IK Tryz.prog w 62 (λg:Gol=>(Bz g).cells) (λ_=>True) RR n:=by
 intro H enc cs x hx;obtain⟨m,xs,rfl,He,NE,hx1,hf⟩:=HN Tryz.underlying62 gc hx;obtain⟨y0,hy0,h0⟩:=hf 0 _ rfl;obtain⟨y1,hy1,h1⟩:=hf 1 _ rfl;obtain⟨y2,hy2,h2⟩:=hf 2 _ rfl;obtain⟨y3,hy3,h3⟩:=hf 3 _ rfl;obtain⟨y4,hy4,h4⟩:=hf 4 _ rfl;clear hf;obtain⟨v0,v1,v2,v3,v4,rfl⟩:=nZ He;obtain⟨z0,z1,z2,z3,z4,rfl⟩:=nZ NE;simp only[zf1z,zf0z,Option.some.injEq]at hy0 hy1 hy2 hy3 hy4;subst hy0 hy1 hy2 hy3 hy4;simp only[zf4z,zf3z,zf2z,eS,VP,af,zf9z,zf6z,zf7z,zg0z]at h0 h1 h2 h3 h4;obtain⟨k,-,w0,cv0⟩:=FQ (w:=w) Tryz.underlying3 m enc _ _ h0;obtain⟨a,-,w1,cv1⟩:=Cw (w:=w) Tryz.underlying9 m enc _ _ h1;obtain⟨b,-,w2,cv2⟩:=Cw (w:=w) Tryz.underlying9 m enc _ _ h2;obtain⟨l,-,w4,cv4⟩:=FQ (w:=w) Tryz.underlying3 m enc _ _ h4;cases m with
 |zero=>simp[DataW.trod]at h3
 |succ m =>
  obtain⟨⟨bk,kids⟩,-,w3,cv3⟩:=EH (w:=w) Tryz.underlying39 Wr (by omega) (Tu m) enc _ _ h3;refine⟨⟨k,a,b,(false,bk),kids,l⟩,trivial,?_,?_⟩
  .rw[hx1];dsimp only at w0 w1 w2 w3 w4;rw[Qm]at w3;simp only[RR,zf8z,zg1z,Rows.uptoBulk,Rows.uptoBulkAll];omega
  .dsimp only at cv0 cv1 cv2 cv3 cv4;rw[←uH]at cv3;exact AB cv0 (AB cv1 (AB cv2 (AB cv3 cv4)))
def bv (n:Nar):Nat:=n.name.size+Ui n.roles+(n.fresh.map VZ).sum+Ui n.tags+(n.steps.map SP).sum+(n.goals.map RR).sum
theorem ZA (n:Nat):IK Tryz.prog w 27 (λg:Nar=>(D1 g).cells) (λ_=>True) bv n:=by
 intro H enc cs x hx;obtain⟨m,xs,rfl,He,NE,hx1,hf⟩:=HN Tryz.underlying27 rL hx;obtain⟨y0,hy0,h0⟩:=hf 0 _ rfl;obtain⟨y1,hy1,h1⟩:=hf 1 _ rfl;obtain⟨y2,hy2,h2⟩:=hf 2 _ rfl;obtain⟨y3,hy3,h3⟩:=hf 3 _ rfl;obtain⟨y4,hy4,h4⟩:=hf 4 _ rfl;obtain⟨y5,hy5,h5⟩:=hf 5 _ rfl;clear hf;obtain⟨v0,v1,v2,v3,v4,v5,rfl⟩:=nc He;obtain⟨z0,z1,z2,z3,z4,z5,rfl⟩:=nc NE;simp only[zf1z,zf0z,Option.some.injEq]at hy0 hy1 hy2 hy3 hy4 hy5;subst hy0 hy1 hy2 hy3 hy4 hy5;simp only[zf4z,zf3z,zf2z,VP,lx,eR,iU,iT,zf9z,zf6z,zf7z,zg0z]at h0 h1 h2 h3 h4 h5;obtain⟨a,-,w0,cv0⟩:=Cw (w:=w) Tryz.underlying9 m enc _ _ h0;obtain⟨⟨b1,roles⟩,-,w1,cv1⟩:=Ob m enc _ _ h1;obtain⟨⟨b3,tags⟩,-,w3,cv3⟩:=Ob m enc _ _ h3;cases m with
 |zero=>simp[DataW.trod]at h2
 |succ m =>
  obtain⟨⟨b2,fresh⟩,-,w2,cv2⟩:=EH (w:=w) (enc:=Hp) Tryz.underlying23 ae (by omega) (Yy m) enc _ _ h2;obtain⟨⟨b4,steps⟩,-,w4,cv4⟩:=EH (w:=w) (enc:=P3) Tryz.underlying24 gd (by omega) (ZB m) enc _ _ h4;obtain⟨⟨b5,goals⟩,-,w5,cv5⟩:=EH (w:=w) (enc:=Bz) Tryz.underlying25 gc (by omega) (Yz m) enc _ _ h5;refine⟨⟨a,(false,b1),roles,(false,b2),fresh,(false,b3),tags,(false,b4),steps,(false,b5),goals⟩,trivial,?_,?_⟩
  .rw[hx1];dsimp only at w0 w1 w2 w3 w4 w5;simp only[bv,zf8z,zg1z,Rows.uptoBulk,Rows.uptoBulkAll];omega
  .exact AB cv0 (AB cv1 (AB cv2 (AB cv3 (AB cv4 cv5))))
theorem bw {n:Nar} (h:bv n<=1048576):Fine n/\Lens n/\Ib n.steps+KQ n.goals<=1099511627776:=by
 unfold bv at h;have r1:=MZ (f:=λs:ByteArray=>s.size+1) (λs=>by omega) n.roles;have r2:=MZ (f:=VZ) (λs=>by unfold VZ;omega) n.fresh;have r3:=MZ (f:=λs:ByteArray=>s.size+1) (λs=>by omega) n.tags;have r4:=MZ (f:=SP) (λs=>by unfold SP;omega) n.steps;have r5:=MZ (f:=RR) (λs=>by unfold RR;omega) n.goals;unfold Ui at h;have m1:∀s∈n.roles,s.size<=1048576:=λs hs=>by have:=KP (f:=λs:ByteArray=>s.size+1) hs;omega
 have m2:∀f∈n.fresh,f.role.size<=1048576/\f.name.size<=1048576:=λs hs=>by have:=KP (f:=VZ) hs;unfold VZ at this h;omega
 have m3:∀s∈n.tags,s.size<=1048576:=λs hs=>by have:=KP (f:=λs:ByteArray=>s.size+1) hs;omega
 have m4:∀s∈n.steps,s.frm.size<=1048576/\s.to.size<=1048576/\s.msg.size<=1048576:=λs hs=>by have:=KP (f:=SP) hs;unfold SP at this h;omega
 have m5:∀g∈n.goals,g.role.size<=1048576/\g.wth.size<=1048576/\Tm.sizes g.data<=1048576:=λs hs=>by have:=KP (f:=RR) hs;unfold RR at this h;omega
 have q1:Ib n.steps<=(n.steps.map SP).sum:=by
  generalize n.steps=l
  induction l with
  |nil=>simp[Ib]
  |cons a l ih=>simp only[Ib,zf8z,zg3z,SP];omega
 have q2:KQ n.goals<=(n.goals.map RR).sum:=by
  generalize n.goals=l
  induction l with
  |nil=>simp[KQ]
  |cons a l ih=>simp only[KQ,zf8z,zg3z,RR];omega
 refine⟨⟨by omega,λs hs=>by have:=m1 s hs;omega,by omega,λs hs=>by have:=m2 s hs;omega,by omega,λs hs=>by have:=m3 s hs;omega,by omega,λs hs=>by have:=m4 s hs;omega,by omega,λs hs=>by have:=m5 s hs;omega,by omega⟩,⟨by omega,by omega,by omega,λg hg=>by have:=m5 g hg;have:=Tm.length_le g.data;omega⟩,by omega⟩
end Go.Abs.Q
namespace Go.Abs.Q
open Go.Proofs Go.WideShapes
open Go.Proofs.YtjhgilockkmniaaGreatDoor (Rows.uptoBulk Rows.uptoBulkAll)
variable {w:World}
theorem iI {w:World} {cs:C6} {us:Array Value} (h:CV w cs us.toList):PV w (cE w) (.agg cs) (.agg us):=by
 simp only[PV];exact⟨us,rfl,h.2,h.1⟩
theorem iK {w:World} {x:AV} {v:Value} (h:CV w [x] [v]):PV w (cE w) x v:=by
 have h1:=h.1;simp only[U3]at h1;obtain⟨u,us,e,h2,rfl⟩:=h1;cases e;exact h2
theorem LS {P:Program} {W:World}:∀{l:List (String×DataW Unit)} {ps:List MemPlace},DataW.LaidVars P W l ps->∀{n:String} {d:DataW Unit},(n,d)∈l ->
  ∃(g:Nat) (t:TypeId) (cs:Array Value) (fuel:Nat) (p:List MemPlace),P.globalNamed n=some g/\(P.globals[g]?).map (·.type)=some t/\W.var? P n=some cs/\DataW.trod (λ_=>()) P W 0 (λ_=>true) false fuel t cs.toList=some (d,p)
 |(n',d')::l,ps,h,n,d,hm=>by
  obtain⟨g,t,cs,fuel,p,q,h1,h2,h3,h4,h5,_⟩:=h;rcases zg2z.1 hm with e|hm
  .cases e;exact⟨g,t,cs,fuel,p,h1,h2,h3,h4⟩
  .exact LS h5 hm
theorem Pb {W:World} {l:List (String×DataW Unit)} {ps:List MemPlace} (h:DataW.LaidVars Tryz.prog W l ps) (hm:("sealring/term.words",(Go.Proofs.YtjhgilockkmniaaGreatDoor.Rows.laid_sealring_term_words:DataW Unit))∈l):CS W (cE W):=by
 obtain⟨g,t,cs,fuel,p,h1,h2,h3,h4⟩:=LS h hm;obtain rfl:g=2:=Option.some.inj ((show Tryz.prog.globalNamed "sealring/term.words"=some 2 by kernel_rfl).symm.trans h1) |>.symm;obtain rfl:t=22:=Option.some.inj ((show (Tryz.prog.globals[2]?).map (·.type)=some 22 by kernel_rfl).symm.trans h2) |>.symm;rcases DataW.trod_slice Tryz.underlying22 h4 with ⟨_,hx⟩|⟨a,len,cap,elems,rest,n,-,s5,hx,-,hlc,hcm,Je,hrd,-⟩
 .cases hx
 .have hc0:cs[0]?=some (.slice (some a) len cap):=by
   rw[←Array.getElem?_toList,s5];rfl
  have hcell:W.cell? ⟨2,0,none⟩=some (.slice (some a) len cap):=(World.var?_cell h1 h3 0).trans hc0;have hd:elems.map (·.1)=[.lit (.string [97,110,121]),.lit (.string [97,103,101,110,116]),.lit (.string [110,111,110,99,101]),.lit (.string [107,101,121]),.lit (.string [100,97,116,97]),.lit (.string [116,97,103])]:=by
   have:=congrArg Prod.fst hx;unfold Go.Proofs.YtjhgilockkmniaaGreatDoor.Rows.laid_sealring_term_words at this;injection this with e1 e2
   exact e1.symm
  have hl6:len=6:=by
   rw[←Je];have:=congrArg List.length hd;simpa using this
  intro x hx;unfold XC at hx;rw[List.mem_singleton]at hx;subst hx;simp only[PV,BU];refine⟨_,_,rfl,⟨_,World.block_lt_of_cell? _ _ hcell,hcell,rfl,?_⟩,trivial⟩;refine gY (by rw[hl6];rfl) hlc hcm (by decide) λi x hi=>?_;have hi6:i<6:=by
   have:=(List.getElem?_eq_some_iff.1 hi).1;simpa using this
  have hr:=hrd i (by omega);rw[VP]at hr;have Fc:i<elems.length:=by omega
  rw[zf5z Fc]at hr;obtain⟨c,hc1,hc2⟩:=Option.bind_eq_some_iff.1 hr;obtain⟨s,rfl,hs2,-⟩:=DataW.trod_string Tryz.underlying9 hc2;have hdi:(elems.map (·.1))[i]?=some (.lit (.string s.data.toList)):=by
   rw[List.getElem?_map,zf5z Fc,hs2];rfl
  rw[hd]at hdi;have hx':x=.str s:=by
   have key:∀b:List UInt8,s.data.toList=b->s=⟨b.toArray⟩:=λb hb=>by
    obtain⟨d⟩:=s;obtain⟨d⟩:=d;simp only at hb;rw[hb]
   match i,hi6 with
   |0,_=>simp at hdi hi;rw[←hi,key _ hdi.symm]
   |1,_=>simp at hdi hi;rw[←hi,key _ hdi.symm]
   |2,_=>simp at hdi hi;rw[←hi,key _ hdi.symm]
   |3,_=>simp at hdi hi;rw[←hi,key _ hdi.symm]
   |4,_=>simp at hdi hi;rw[←hi,key _ hdi.symm]
   |5,_=>simp at hdi hi;rw[←hi,key _ hdi.symm]
  subst hx';exact⟨[.string s],hc1,Lr (by simp[PV]) rfl⟩
end Go.Abs.Q
namespace Go.Proofs.YtjhgilockkmniaaGreatDoor
open Go.ChangeShapes Go.WideShapes Go.ChangeAt Go.RowKit Go.Abs Go.Abs.Q
theorem own:ownKnob Tryz.prog.godebug=none:=by kernel_rfl
theorem laidOut:laidOutB Tryz.prog=true:=by kernel_rfl
def gf:DataW Unit->List Value
 | .lit (.int k n)=>[.int k n]
 | .lit (.string l)=>[.string ⟨l.toArray⟩]
 |_=>[]
def Py:DataW Unit->List Value
 | .agg l=>l.flatMap gf
 | .slice l _=>l.flatMap gf
 |_=>[]
def mB:DataW Unit->List Value
 | .agg l=>l.flatMap Py
 |_=>[]
def Gj (l:List Value):Obj->Obj
 | .cells _ t frozen=>.cells l.toArray t frozen
 |o=>o
noncomputable def MI (os:Os):World :=
 {World.holding Tryz.prog os ⟨#[],#[],[]⟩with heap:=(((((((World.holding Tryz.prog os ⟨#[],#[],[]⟩).heap.modify 3 (Gj (Py Rows.laid_math_bits_deBruijn32tab))).modify 4 (Gj (Py Rows.laid_math_bits_deBruijn64tab))).modify 1 (Gj (Py Rows.laid_internal_strconv_uint64pow10))).modify 6 (Gj (mB Rows.laid_unicode_utf8_acceptRanges))).modify 5 (Gj (Py Rows.laid_unicode_utf8_first))).modify 2 (Gj [.slice (some ⟨(World.holding Tryz.prog os ⟨#[],#[],[]⟩).heap.size,0,none⟩) 6 6])).push (.cells (Py Rows.laid_sealring_term_words).toArray 9 (0,0))}
theorem RQ {W:World} {l:List (String×DataW Unit)} (h:laidMetH Tryz.prog l W) (hf:(l.filter λx=>x.2.handleName?.isSome)=[]) (hm:("sealring/term.words",(Rows.laid_sealring_term_words:DataW Unit))∈l):CS W (cE W):=by
 unfold laidMetH at h;rw[hf]at h;obtain⟨ps,hv,_⟩:=h;exact Pb hv hm
end Go.Proofs.YtjhgilockkmniaaGreatDoor
