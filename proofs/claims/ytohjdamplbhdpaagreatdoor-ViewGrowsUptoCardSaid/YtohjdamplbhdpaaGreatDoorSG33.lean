/- A part of the proof. -/
import Derived.Test.YtohjdamplbhdpaaGreatDoorSG32
set_option linter.all false
open List renaming mem_cons_of_mem->xk,mem_cons_self->xl,mem_append_right->xm,mem_map->xn,getElem?_of_mem->xo,getElem?_eq_some_iff->xp,mem_append_left->xq,mem_map_of_mem->xt,length_map->xu,mem_singleton->xw,getD_eq_getElem?_getD->xy,getElem?_append_right->xz,getElem?_append_left->yA,all_eq_true->yB,length_cons->yC,length_take->yD,mem_filter->yE,mem_of_getElem?->yF,mem_of_getLast?->yG,length_append->yI,map_map->yJ,getElem?_map->yK,take_sublist->yL,any_eq_true->yM,mem_append->yN,map_cons->yO,mem_cons->yP
open Nat renaming le_refl->xr
open Bool renaming true_and->yH
namespace Go.Abs.Q
open Go.Proofs
def Ui:Bool->List ByteArray
 |true=>[bs [65],bs [66],bs [67]]
 |false=>[bs [65],bs [66]]
def Ys:List ByteArray:=[bs [102,48],bs [102,49],bs [102,50],bs [102,51]]
def OR:List ByteArray:=[bs [116,48],bs [116,49],bs [116,50]]
def Nd (s:Ste) (fm:Int) (tag:ByteArray) (us:List ByteArray):Prop:=s.msg=IY fm s.frm s.to (Jp (C7 tag::us.map C7)) us
def Src (n:Nar) (me:ByteArray) (i:Nat) (u:ByteArray):Prop :=
 (∃f∈n.fresh,f.role=me/\f.name=u)\/∃(j:Nat) (s:Ste),j<i/\n.steps[j]?=some s/\s.to=me/\∃fm tag us,Nd s fm tag us/\u∈us
structure StOk (n:Nar) (i:Nat) (s:Ste):Prop where
 msg:∃(fm:Int) (tag:ByteArray) (us:List ByteArray),Nd s fm tag us/\tag∈n.tags/\us.length<=3/\∀u∈us,Src n s.frm i u/\u∈n.fresh.map Fre.name
 frm:s.frm∈n.roles
 to:s.to∈n.roles
 ne:s.frm≠s.to
structure GlOk (n:Nar) (g:Gol):Prop where
 kind:1<=g.kind/\g.kind<=5
 role:g.role∈n.roles
 agr:Hi g=true->g.wth∈n.roles/\g.role≠g.wth
 nag:Hi g=false->g.wth=bs []
 data:∃u∈n.fresh.map Fre.name,g.data=[C7 u]
structure Drafted (n:Nar):Prop where
 name:n.name=bs [80]
 roles:∃b,n.roles=Ui b
 fresh:n.fresh.length<=4/\n.fresh.map Fre.name=Ys.take n.fresh.length
 fre:∀f∈n.fresh,f.role∈n.roles/\2<=f.sort/\f.sort<=4
 tags:n.tags=OR.take n.steps.length
 stepsL:1<=n.steps.length/\n.steps.length<=3
 steps:∀i s,n.steps[i]?=some s->StOk n i s
 goalsL:n.goals.length<=3
 goals:∀g∈n.goals,GlOk n g
theorem Er {α:Type} {g:α->Int}:∀{l:List α},(∀a∈l,g a=0)->E9 g l=0
 | [],_=>rfl
 |a::l,h=>by
  rw[E9,if_neg (by simp[h a xl])];exact Er λb hb=>h b (xk _ hb)
theorem Po {α:Type} {g ln:α->Int}:∀{l:List α},(∀a∈l,g a=0)->Ai g ln l=(0,0)
 | [],_=>rfl
 |a::l,h=>by
  rw[Ai,if_neg (by simp[h a xl])];exact Po λb hb=>h b (xk _ hb)
theorem DF {a:H7} {l:List ByteArray}:l.any (BS a)=true↔a∈l:=by
 rw[yM];constructor
 .rintro⟨x,hx,he⟩;rw[Ek]at he;exact he ▸ hx
 .exact λh=>⟨a,h,(Ek a a).2 rfl⟩
theorem Ty (rs:List ByteArray):∀(l:List (ByteArray×Option ByteArray)) (seen:List ByteArray),(seen++l.map (·.1)).Nodup->(∀e∈l,MQ e.1=false/\(e.2.isSome=true->e.1≠bs [101]/\e.1≠bs [103])/\nE rs e.2=true)->V9 rs seen l=0
 | [],_,_,_=>rfl
 |(x,f)::l,seen,hn,h=>by
  obtain⟨h1,h2,h3⟩:=h _ xl;simp only at h1 h2 h3;have hx:seen.any (BS x)=false:=by
   rw[Bool.eq_false_iff];intro hc;rw[DF]at hc;rw[yO,List.nodup_append]at hn;exact hn.2.2 x hc x xl rfl
  have e:Hv seen x f.isSome=0:=by
   unfold Hv;rw[if_neg (by simp[h1]),if_neg,if_neg (by simp[hx])];rintro⟨q1,q2⟩;obtain⟨g1,g2⟩:=h2 q1;exact q2.elim g1 g2
  rw[V9,if_neg (by simp[e]),if_neg (by simp[h3])];refine Ty rs l (seen++[x]) ?_ λe he=>h e (xk _ he);rw[List.append_assoc,List.singleton_append];exact hn
theorem dp:(Ui true++Ys++OR).Nodup:=by decide
theorem gy:∀a∈Ui true++Ys++OR,MQ a=false:=by
 have h:((Ui true++Ys++OR).all λa=>!MQ a)=true:=by kernel_rfl
 intro a ha;have:=yB.1 h a ha;simpa using this
theorem kc:∀a∈Ui true++Ys++OR,Y3 a=true:=by
 have h:((Ui true++Ys++OR).all Y3)=true:=by kernel_rfl
 exact λa ha=>yB.1 h a ha
theorem nN:∀a∈Ui true++Ys++OR,a≠bs [101]/\a≠bs [103]:=by decide
theorem lH (b:Bool):(Ui b).Sublist (Ui true):=by
 cases b
 .exact List.Sublist.cons_cons _ (List.Sublist.cons_cons _ (List.Sublist.cons _ List.Sublist.slnil))
 .exact List.Sublist.refl _
section
variable {n:Nar} (D:Drafted n)
include D
theorem Drafted.names_sub:(B5 n).Sublist (Ui true++Ys++OR):=by
 obtain⟨b,hb⟩:=D.roles;unfold B5;rw[hb,D.fresh.2,D.tags];exact((lH b).append (yL _ _)).append (yL _ _)
theorem Drafted.nodup:(B5 n).Nodup:=D.names_sub.nodup dp
theorem Drafted.mem_nms {a:H7} (h:a∈B5 n):a∈Ui true++Ys++OR:=D.names_sub.subset h
theorem Drafted.role_nm {a:H7} (h:a∈n.roles):a∈B5 n:=by unfold B5;simp[h]
theorem Drafted.fre_nm {a:H7} (h:a∈n.fresh.map Fre.name):a∈B5 n:=by
 unfold B5;exact xq _ (xm _ h)
theorem Drafted.tag_nm {a:H7} (h:a∈n.tags):a∈B5 n:=by
 unfold B5;exact xm _ h
theorem Drafted.dec:Hk n=0:=by
 have e:(TL n).map (·.1)=B5 n:=by
  unfold TL B5;simp[yJ,Function.comp_def]
 refine Ty n.roles (TL n) [] (by rw[List.nil_append,e];exact D.nodup) λx hx=>?_;have hm:x.1∈B5 n:=by rw[←e];exact xt hx
 refine⟨gy _ (D.mem_nms hm),λ_=>nN _ (D.mem_nms hm),?_⟩;unfold TL at hx;rcases yN.1 hx with hx|hx
 .rcases yN.1 hx with hx|hx
  .obtain⟨a,_,rfl⟩:=xn.1 hx;rfl
  .obtain⟨f,hf,rfl⟩:=xn.1 hx;exact DF.2 (D.fre f hf).1
 .obtain⟨a,_,rfl⟩:=xn.1 hx;rfl
end
def lX (t:Tm):Prop:=L3 t=0/\LJ t=0
theorem OZ {a:H7} (h:Y3 a=true):lX (C7 a):=by
 have hn:=Oy h;refine⟨?_,?_⟩
 .unfold C7;have:t8 2 0 a 0=0:=by unfold t8;rw[if_neg (by omega),if_neg (by simp[hn]),if_neg (by omega)]
  rw[L3,List.length_nil,this];simp[T4]
 .unfold C7;rw[LJ,if_neg (by omega),if_neg (by simp[h])];rfl
theorem FV {nm:H7} (h:Y3 nm=true) (m:I8) {l:I2} (hl:l.length<=8) (hk:∀x∈l,lX x):lX (Y4 nm m l):=by
 have hn:=Oy h;have e1:T4 l=0:=by
  clear hl
  induction l with
  |nil=>rfl
  |cons a l ih=>rw[T4,(hk a xl).1,ih λx hx=>hk x (xk _ hx)];simp
 have e2:Mg l=0:=by
  clear hl e1
  induction l with
  |nil=>rfl
  |cons a l ih=>rw[Mg,(hk a xl).2,ih λx hx=>hk x (xk _ hx)];simp
 unfold Y4;refine⟨?_,?_⟩
 .have:t8 3 0 nm l.length=0:=by unfold t8;rw[if_neg (by omega),if_neg (by simp[hn]),if_neg (by omega)]
  rw[L3,this,e1];simp
 .rw[LJ,if_neg (by omega),if_neg (by simp[h]),e2]
theorem aS {t:Tm} (h:lX t) (hs:t.size<=40):HN t=0:=by
 have hv:S5 t=0:=by
  unfold S5;have:=VK t;rw[if_neg (by simp[h.1]),if_neg (by omega)]
 have hr:KS t=0:=by
  unfold KS;rw[if_neg (by simp[hv]),h.2]
 unfold HN;rw[if_neg (by simp[hr]),if_neg (by omega)]
theorem sK:Y3 (bs [112,97,105,114])=true/\Y3 (bs [101,110,99])=true/\Y3 (bs [97,101,110,99])=true/\Y3 (bs [112,107])=true/\Y3 (bs [115,105,103,110])=true/\Y3 (bs [104,97,115,104])=true/\Y3 (bs [115,107])=true/\Y3 (bs [115,104,107])=true :=
 ⟨by kernel_rfl,by kernel_rfl,by kernel_rfl,by kernel_rfl,by kernel_rfl,by kernel_rfl,by kernel_rfl,by kernel_rfl⟩
theorem aT:∀l:List Tm,l≠[]->(∀x∈l,lX x)->lX (Jp l)
 | [],h,_=>absurd rfl h
 | [t],_,h=>h t (xw.2 rfl)
 |t::u::l,_,h=>FV sK.1 _ (by simp) (Hj (h t xl) (aT (u::l) (by simp) λx hx=>h x (xk _ hx)))
theorem fQ {fm:Int} {a b:H7} {t:Tm} {us:List ByteArray} (ht:lX t) (ha:Y3 a=true) (hb:Y3 b=true) (hu:∀u∈us,Y3 u=true):lX (IY fm a b t us):=by
 obtain⟨w1,w2,w3,w4,w5,w6,w7,w8⟩:=sK;have A:=OZ ha;have B:=OZ hb;unfold IY;split
 .exact FV w2 _ (by simp) (Hj ht (FV w8 _ (by simp) (Hj A B)))
 .split
  .exact FV w3 _ (by simp) (Hj ht (FV w4 _ (by simp) (NW (FV w7 _ (by simp) (NW B)))))
  .split
   .exact FV w5 _ (by simp) (Hj ht (FV w7 _ (by simp) (NW A)))
   .split
    .exact FV w2 _ (by simp) (Hj ht (FV w8 _ (by simp) (Hj B A)))
    .split
     .cases hl:us.getLast? with
      |none=>exact ht
      |some u =>
       exact FV w1 _ (by simp) (Hj ht (FV w6 _ (by simp) (NW (FV w1 _ (by simp) (Hj (OZ (hu u (yG hl))) (FV w8 _ (by simp) (Hj B A)))))))
     .exact ht
theorem Ym:∀l:List Tm,(∀x∈l,x.size=1)->(Jp l).size<=2*l.length+1
 | [],_=>by simp[Jp,Yw,Tm.size,Tm.sizes]
 | [t],h=>by rw[Jp,h t (xw.2 rfl)];simp
 |t::u::l,h=>by
  have h1:=Ym (u::l) λx hx=>h x (xk _ hx);have h2:=h t xl;rw[Jp];simp only[Y4,Tm.size,Tm.sizes,yC]at h1 ⊢;omega
theorem eQ (fm:Int) (a b:H7) (t:Tm) (us:List ByteArray):(IY fm a b t us).size<=t.size+8:=by
 unfold IY
 repeat' split
 all_goals first|(simp only[Y4,C7,Tm.size,Tm.sizes];omega)|omega
theorem Sj {ns rs:List ByteArray} {a:H7} (h:a∈ns):Ah ns rs (C7 a)=0:=by
 unfold C7;rw[Ah,if_pos (by decide),if_pos (DF.2 h)]
theorem aV (nm:H7) (m:I8) (l:I2) (k:Int) (h:(l.length:Int)=k):Aj (Y4 nm m l) nm k=true:=by
 simp[Aj,Y4,Tm.kind,Tm.name,Tm.kids,h]
theorem MB {nm nm':H7} {m:I8} {l:I2} {k:Int} (h:(l.length:Int)≠k):Aj (Y4 nm m l) nm' k=false:=by
 simp[Aj,Y4,Tm.kind,Tm.name,Tm.kids,h]
theorem JJ {nm nm':H7} {m:I8} {l:I2} {k:Int} (h:nm≠nm'):Aj (Y4 nm m l) nm' k=false:=by
 simp[Aj,Y4,Tm.kind,Tm.name,Tm.kids,h]
theorem LP {ns rs:List ByteArray} {nm:H7} {m:I8} {l:I2} {k:Nat} (hk:EX rs (Y4 nm m l)=(k:Int)) (h:∀x∈l.take k,Ah ns rs x=0):Ah ns rs (Y4 nm m l)=0:=by
 rw[RM,if_neg (by simp[Y4,Tm.kind]),if_neg (by rw[hk];omega),hk];exact Er h
theorem QE {rs:List ByteArray} {a:H7} (h:a∈rs):EG rs (C7 a)=true:=by
 unfold EG;rw[show (C7 a).name=a from rfl,DF.2 h];rfl
theorem fZ (nm:H7) (m:I8) (x:Tm):Aj (Y4 nm m [x]) nm 1=true:=aV nm m [x] 1 rfl
theorem Wf (nm:H7) (m:I8) (x y:Tm):Aj (Y4 nm m [x,y]) nm 2=true:=aV nm m [x,y] 2 rfl
theorem bc {rs:List ByteArray} (m:I8) {b:H7} (h:b∈rs):HR rs (Y4 (bs [115,107]) m [C7 b])=true:=by
 unfold HR;rw[fZ,yH];exact QE h
theorem lC {rs:List ByteArray} (m m':I8) {b:H7} (h:b∈rs):LI rs (Y4 (bs [112,107]) m [Y4 (bs [115,107]) m' [C7 b]])=true:=by
 unfold LI;rw[fZ,yH];exact bc m' h
theorem nv {rs:List ByteArray} (m:I8) {a b:H7} (h:a∈rs) (h':b∈rs) (M5:a≠b):YX rs (Y4 (bs [115,104,107]) m [C7 a,C7 b])=true:=by
 unfold YX;rw[Wf,yH];show (EG rs (C7 a)&&EG rs (C7 b)&&decide (a≠b))=true;rw[QE h,QE h',decide_eq_true M5];rfl
theorem dH {rs:List ByteArray} (m:I8) (x y:Tm):EX rs (Y4 (bs [112,97,105,114]) m [x,y])=((2:Nat):Int):=by
 unfold EX;rw[if_pos (.inl (Wf _ _ _ _))];rfl
theorem XL {rs:List ByteArray} (m:I8) (x y:Tm):EX rs (Y4 (bs [101,110,99]) m [x,y])=((2:Nat):Int):=by
 unfold EX;rw[if_pos (.inr (Wf _ _ _ _))];rfl
theorem dG {rs:List ByteArray} (m:I8) (x:Tm):EX rs (Y4 (bs [104,97,115,104]) m [x])=((1:Nat):Int):=by
 unfold EX;rw[if_neg (by rw[MB (by simp),MB (by simp)];simp),if_pos (fZ _ _ _)];rfl
theorem dF {rs:List ByteArray} (m m2 m3:I8) (x:Tm) {b:H7} (h:b∈rs):EX rs (Y4 (bs [97,101,110,99]) m [x,Y4 (bs [112,107]) m2 [Y4 (bs [115,107]) m3 [C7 b]]])=((1:Nat):Int):=by
 unfold EX;rw[if_neg (by rw[JJ (by decide),JJ (by decide)];simp),if_neg (by rw[MB (by simp)];simp),if_pos (.inl ⟨Wf _ _ _ _,lC m2 m3 h⟩)];rfl
theorem dI {rs:List ByteArray} (m m3:I8) (x:Tm) {b:H7} (h:b∈rs):EX rs (Y4 (bs [115,105,103,110]) m [x,Y4 (bs [115,107]) m3 [C7 b]])=((1:Nat):Int):=by
 unfold EX;rw[if_neg (by rw[JJ (by decide),JJ (by decide)];simp),if_neg (by rw[MB (by simp)];simp),if_pos (.inr ⟨Wf _ _ _ _,bc m3 h⟩)];rfl
theorem gO {rs:List ByteArray} (m:I8) {a b:H7} (h:a∈rs) (h':b∈rs) (M5:a≠b):EX rs (Y4 (bs [115,104,107]) m [C7 a,C7 b])=((0:Nat):Int):=by
 unfold EX;rw[if_neg (by rw[JJ (by decide),JJ (by decide)];simp),if_neg (by rw[MB (by simp)];simp),if_neg (by rw[JJ (by decide),JJ (by decide)];simp),if_pos (.inr (nv m h h' M5))];rfl
section
variable {ns rs:List ByteArray}
theorem WA (m:I8) {a b:H7} (h:a∈rs) (h':b∈rs) (M5:a≠b):Ah ns rs (Y4 (bs [115,104,107]) m [C7 a,C7 b])=0 :=
 LP (gO m h h' M5) λx hx=>by simp at hx
theorem Sl (m:I8) {x y:Tm} (hx:Ah ns rs x=0) (hy:Ah ns rs y=0):Ah ns rs (Y4 (bs [112,97,105,114]) m [x,y])=0 :=
 LP (dH m x y) (Hj hx hy)
theorem bi:∀l:List Tm,l≠[]->(∀x∈l,Ah ns rs x=0)->Ah ns rs (Jp l)=0
 | [],h,_=>absurd rfl h
 | [t],_,h=>h t (xw.2 rfl)
 |t::u::l,_,h=>Sl _ (h t xl) (bi (u::l) (by simp) λx hx=>h x (xk _ hx))
theorem ij {fm:Int} {a b:H7} {t:Tm} {us:List ByteArray} (ht:Ah ns rs t=0) (ha:a∈rs) (hb:b∈rs) (M5:a≠b) (hu:∀u∈us,u∈ns):Ah ns rs (IY fm a b t us)=0:=by
 unfold IY;split
 .exact LP (XL _ _ _) (Hj ht (WA _ ha hb M5))
 .split
  .exact LP (dF _ _ _ _ hb) (NW ht)
  .split
   .exact LP (dI _ _ _ ha) (NW ht)
   .split
    .exact LP (XL _ _ _) (Hj ht (WA _ hb ha M5.symm))
    .split
     .cases hl:us.getLast? with
      |none=>exact ht
      |some u=>exact Sl _ ht (LP (dG _ _) (NW (Sl _ (Sj (hu u (yG hl))) (WA _ hb ha M5.symm))))
     .exact ht
end
section
variable {n:Nar} (D:Drafted n)
include D
theorem Drafted.lex {a:H7} (h:a∈B5 n):Y3 a=true:=kc a (D.mem_nms h)
theorem Drafted.msg {i:Nat} {s:Ste} (h:n.steps[i]?=some s):HN s.msg=0/\JB (B5 n) n.roles s=0/\s.msg.size<=17:=by
 obtain⟨⟨fm,tag,us,hm,ht,hl,hu⟩,h1,h2,h3⟩:=D.steps i s h;have htup:∀x∈C7 tag::us.map C7,∃a∈B5 n,x=C7 a:=λx hx=>by
  rcases yP.1 hx with rfl|hx
  .exact⟨tag,D.tag_nm ht,rfl⟩
  .obtain⟨u,hu',rfl⟩:=xn.1 hx;exact⟨u,D.fre_nm (hu u hu').2,rfl⟩
 have K4:s.msg.size<=17:=by
  have e1:=eQ fm s.frm s.to (Jp (C7 tag::us.map C7)) us;have e2:=Ym (C7 tag::us.map C7) λx hx=>by obtain⟨a,_,rfl⟩:=htup x hx;rfl
  rw[yC,xu]at e2;rw[hm];omega
 refine⟨aS ?_ (by omega),?_,K4⟩
 .rw[hm];refine fQ (aT _ (by simp) λx hx=>?_) (D.lex (D.role_nm h1)) (D.lex (D.role_nm h2)) λu hu'=>D.lex (D.fre_nm (hu u hu').2);obtain⟨a,ha,rfl⟩:=htup x hx;exact OZ (D.lex ha)
 .unfold JB Mm;rw[DF.2 h1,DF.2 h2,if_pos (And.intro rfl rfl),if_neg h3,if_neg (by simp),hm];refine ij (bi _ (by simp) λx hx=>?_) h1 h2 h3 λu hu'=>D.fre_nm (hu u hu').2;obtain⟨a,ha,rfl⟩:=htup x hx;exact Sj ha
theorem Drafted.wrg {l:List ByteArray} (h:∀a∈l,a∈B5 n):¬l.any KY=true:=by
 rw[yM];rintro⟨a,ha,hw⟩;unfold KY at hw;rw[D.lex (h a ha)]at hw;cases hw
theorem Drafted.nar:NY n=0:=by
 obtain⟨b,hb⟩:=D.roles;have hrl:2<=n.roles.length/\n.roles.length<=3:=by rw[hb];cases b<;>exact⟨by decide,by decide⟩
 have htl:n.tags.length<=3:=by
  rw[D.tags,yD];have:=D.stepsL.2;omega
 have hnum:Pt n=0:=by
  have h1:=D.stepsL;have h2:=D.goalsL;have h3:=D.fresh.1;unfold Pt;rw[if_neg (by omega),if_neg (by omega),if_neg (by omega),if_neg (by omega)]
 have hnm:Y3 n.name=true:=by rw[D.name];kernel_rfl
 have hfre:E9 MO n.fresh=0:=Er λf hf=>by
  obtain⟨h1,h2,h3⟩:=D.fre f hf;unfold MO;rw[if_neg,if_neg (by omega)];rw[D.lex (D.role_nm h1),D.lex (D.fre_nm (xt hf))];simp
 have hh:Hh n=0:=by
  unfold Hh;rw[if_neg (by simp[hnm]),if_neg (by simp[hnum]),if_neg (D.wrg λa ha=>D.role_nm ha),if_neg (by simp[hfre]),if_neg (D.wrg λa ha=>D.tag_nm ha)]
 have DH:E9 LS n.steps=0:=Er λs hs=>by
  obtain⟨i,hi⟩:=xo hs;have h1:=(D.steps i s hi).frm;have h2:=(D.steps i s hi).to;unfold LS;rw[if_neg,(D.msg hi).1];rw[D.lex (D.role_nm h1),D.lex (D.role_nm h2)];simp
 unfold NY;rw[if_neg (by simp[hh]),if_neg (by simp[DH])];refine Er λg hg=>?_;have G:=D.goals g hg;obtain⟨u,hu,hd⟩:=G.data;unfold OC;rw[if_neg (by have:=G.kind;omega),if_neg,if_neg,if_neg,hd]
 .exact Er (NW (aS (OZ (D.lex (D.fre_nm hu))) (by simp[C7,Tm.size,Tm.sizes])))
 .rw[hd];simp
 .rintro⟨q1,q2⟩;exact q2 (G.nag q1)
 .rintro(q|⟨q1,q2⟩)
  .rw[D.lex (D.role_nm G.role)]at q;cases q
  .rw[D.lex (D.role_nm (G.agr q1).1)]at q2;cases q2
theorem Drafted.right:Right n where
 nar:=D.nar
 dec:=D.dec
 steps:=λs hs=>by
  obtain⟨i,hi⟩:=xo hs;exact(D.msg hi).2.1
 goals:=λg hg=>by
  have G:=D.goals g hg;obtain⟨u,hu,hd⟩:=G.data;unfold Ml;rw[DF.2 G.role,if_neg (by simp),if_neg,hd]
  .exact Er (NW (Sj (D.fre_nm hu)))
  .rintro⟨q1,q2⟩;obtain⟨g1,g2⟩:=G.agr q1;unfold Mm at q2;rw[DF.2 G.role,DF.2 g1,if_pos ⟨rfl,rfl⟩,if_neg g2]at q2;exact q2 rfl
theorem Drafted.sco:(Al n).2=0:=by
 have R:=D.right;unfold Al;rw[if_neg (by simp[R.nar]),if_neg (by simp[R.dec]),Po R.steps,if_neg (by simp),Po R.goals]
end
theorem KD:∀(l G1:I2) {x:Tm},x∈G1->x∈ES G1 l
 | [],_,_,h=>h
 |t::l,G1,x,h=>KD l (KB G1 t) (by unfold KB;split;exact h;exact xq _ h)
theorem Ns:∀(l G1:I2) {x:Tm},x∈l->x∈ES G1 l
 | [],_,_,h=>nomatch h
 |t::l,G1,x,h=>by
  rcases yP.1 h with rfl|h
  .refine KD l (KB G1 x) ?_;unfold KB;split
   .assumption
   .exact xm _ (xw.2 rfl)
  .exact Ns l (KB G1 t) h
theorem MA:∀(l G1:I2),(ES G1 l).length<=G1.length+l.length/\Tm.sizes (ES G1 l)<=Tm.sizes G1+Tm.sizes l
 | [],_=>⟨xr _,xr _⟩
 |t::l,G1=>by
  obtain⟨h1,h2⟩:=MA l (KB G1 t);have h3:(KB G1 t).length<=G1.length+1/\Tm.sizes (KB G1 t)<=Tm.sizes G1+t.size:=by
   unfold KB;split
   .exact⟨by omega,by omega⟩
   .rw[yI,Tm.sizes_append];exact⟨xr _,by simp[Tm.sizes]⟩
  show (ES (KB G1 t) l).length<=_/\Tm.sizes (ES (KB G1 t) l)<=_;rw[yC,Tm.sizes];exact⟨by omega,by omega⟩
theorem io {m:I8} {me:H7} {rs:List ByteArray} {role:Nat} {j:Nat} {r:H7} (hj:rs[j]?=some r) (M5:j≠role):∀{i:Nat},j<i->Sn me r∈(Ib m me rs role i).map D5/\Sn r me∈(Ib m me rs role i).map D5
 |0,h=>absurd h (Nat.not_lt_zero _)
 |i+1,h=>by
  rw[Ib,List.map_append];by_cases hji:j=i
  .subst hji;rw[if_neg M5,hj];exact⟨xm _ xl,xm _ (xk _ xl)⟩
  .obtain⟨h1,h2⟩:=io hj M5 (i:=i) (by omega);exact⟨xq _ h1,xq _ h2⟩
theorem gW {ns:List ByteArray} {vs:List Int} (hn:ns.Nodup) {i:Nat} {a:H7} {v:Int} (h1:ns[i]?=some a) (h2:vs[i]?=some v):H5 ns vs a=v:=by
 have hm:=yF h1;have hr:LL ns a=i:=by
  have h3:=(OK hm).1;exact(List.getElem?_inj (xp.1 h3).1 hn).1 (h3.trans h1.symm)
 unfold H5;rw[if_pos (DF.2 hm)];have:(idx (BS a) ns).toNat=i:=hr;rw[this,xy,h2];rfl
section
variable {n:Nar} (D:Drafted n)
include D
theorem Drafted.s_role {a:H7} (h:a∈n.roles):H5 (B5 n) (E4 n) a=1:=Ul h
theorem Drafted.s_fre {f:Fre} (h:f∈n.fresh):H5 (B5 n) (E4 n) f.name=f.sort:=by
 obtain⟨j,hj⟩:=xo h;have hjl:=(xp.1 hj).1;refine gW D.nodup (i:=n.roles.length+j) ?_ ?_
 .unfold B5;rw[yA (by simp;omega),xz (by omega),show n.roles.length+j-n.roles.length=j from by omega,yK,hj];rfl
 .unfold E4;rw[yA (by simp;omega),xz (by simp),xu,show n.roles.length+j-n.roles.length=j from by omega,yK,hj];rfl
end
structure KnOf (n:Nar) (me:ByteArray) (q:Nat) (k:List Tm):Prop where
 sk:Qu me∈k
 pk:∀a∈n.roles,Pz a∈k
 sh:∀a∈n.roles,a≠me->Sn me a∈k/\Sn a me∈k
 fre:∀f∈n.fresh,f.role=me->lq f.name f.sort∈k
 msg:∀j s,j<q->n.steps[j]?=some s->s.frm=me\/s.to=me->Y7 (H5 (B5 n) (E4 n)) s.msg∈k
section
variable {n:Nar} (D:Drafted n)
include D
theorem Drafted.kn {me:H7} {role:Nat} (hme:n.roles[role]?=some me) (q:Nat):KnOf n me q (JA (H5 (B5 n) (E4 n)) n me role q):=by
 have base:∀x,x∈([Qu me]++n.roles.map Pz++(Ib (true,true) me n.roles role n.roles.length).map D5)->x∈JA (H5 (B5 n) (E4 n)) n me role q:=λx hx=>KD _ _ (KD _ _ hx);refine⟨base _ (by simp),λa ha=>base _ (xq _ (xm _ (xt ha))),λa ha M5=>?_,λf hf hr=>?_,λj s hj hs Yt=>?_⟩
 .obtain⟨j,hj⟩:=xo ha;have hjr:j≠role:=λe=>by rw[e,hme]at hj;cases hj;exact M5 rfl
  obtain⟨h1,h2⟩:=io (m:=(true,true)) (me:=me) hj hjr (xp.1 hj).1;exact⟨base _ (xm _ h1),base _ (xm _ h2)⟩
 .refine KD _ _ (Ns _ _ ?_);unfold FZ;rw[yJ];exact xn.2 ⟨f,yE.2 ⟨hf,decide_eq_true hr⟩,rfl⟩
 .refine Ns _ _ (xn.2 ⟨s,yE.2 ⟨?_,?_⟩,rfl⟩)
  .refine yF (i:=j) ?_;rw[List.getElem?_take,if_pos hj];exact hs
  .unfold Iz;rw[Bool.or_eq_true,decide_eq_true_iff,decide_eq_true_iff];exact Yt
theorem Drafted.sml (me:H7) (role q:Nat):uA (JA (H5 (B5 n) (E4 n)) n me role q):=by
 have hrl:n.roles.length<=3:=by obtain⟨b,hb⟩:=D.roles;rw[hb];cases b<;>decide
 have hfl:=D.fresh.1;have Yu:=D.stepsL.2;have s1:(Ib (true,true) me n.roles role n.roles.length).length<=2*n.roles.length:=NS _ _ _ _ _;have e1:∀x∈(Ib (true,true) me n.roles role n.roles.length).map D5,x.size<=3:=λx hx=>by
  obtain⟨y,hy,rfl⟩:=xn.1 hx;rw[CK _ y (xr _),KU _ _ _ _ _ _ hy];exact xr _
 have e2:∀x∈n.roles.map Pz,x.size<=3:=λx hx=>by
  obtain⟨y,_,rfl⟩:=xn.1 hx;exact xr _
 have e3:∀x∈(FZ me n.fresh).map D5,x.size<=1:=λx hx=>by
  obtain⟨y,hy,rfl⟩:=xn.1 hx;rw[CK _ y (xr _),KJ hy];exact xr _
 have e4:∀x∈(((n.steps.take q).filter (Iz me)).map λs=>Y7 (H5 (B5 n) (E4 n)) s.msg),x.size<=17:=λx hx=>by
  obtain⟨s,hs,rfl⟩:=xn.1 hx;have hs':=List.mem_of_mem_take (yE.1 hs).1;obtain⟨i,hi⟩:=xo hs';rw[Su _ _ _ (xr _)];exact(D.msg hi).2.2
 have l4:(((n.steps.take q).filter (Iz me)).map λs=>Y7 (H5 (B5 n) (E4 n)) s.msg).length<=3:=by
  rw[xu];have:=List.length_filter_le (Iz me) (n.steps.take q);rw[yD]at this;omega
 have l3:=MP me n.fresh;have a1:=MA ((FZ me n.fresh).map D5) ([Qu me]++n.roles.map Pz++(Ib (true,true) me n.roles role n.roles.length).map D5);have a2:=MA (((n.steps.take q).filter (Iz me)).map λs=>Y7 (H5 (B5 n) (E4 n)) s.msg) (ES ([Qu me]++n.roles.map Pz++(Ib (true,true) me n.roles role n.roles.length).map D5) ((FZ me n.fresh).map D5));have z1:=KV e1;have z2:=KV e2;have z3:=KV e3;have z4:=KV e4;rw[xu]at z1 z2 z3;have q4:(((n.steps.take q).filter (Iz me)).map λs=>Y7 (H5 (B5 n) (E4 n)) s.msg).length*17<=3*17:=Nat.mul_le_mul_right _ l4;unfold uA JA;simp only[yI,Tm.sizes_append,xu,List.length_singleton]at a1 a2 z4 l4 q4 ⊢;have:Tm.sizes [Qu me]=2:=rfl;omega
end
section
variable {n:Nar} (D:Drafted n)
include D
theorem Drafted.srt {s:Ste} {fm:Int} {tag:H7} {us:List ByteArray} (hm:Nd s fm tag us) (h1:s.frm∈n.roles) (h2:s.to∈n.roles):Y7 (H5 (B5 n) (E4 n)) s.msg =
  Uh fm s.frm s.to (ev (lq tag (H5 (B5 n) (E4 n) tag)::us.map λu=>lq u (H5 (B5 n) (E4 n) u))) (us.getLast?.map λu=>lq u (H5 (B5 n) (E4 n) u)):=by
 rw[hm,iv _ (D.s_role h1) (D.s_role h2),bo _ _ (by simp),yO,PQ,yJ];congr 2
theorem Drafted.src {me:H7} {role q:Nat} (hme:n.roles[role]?=some me) {k U:I2} (hk:KnOf n me q k) (hU:∀x∈k,cE U x) {i:Nat} (hi:i<=q) {u:H7} (h:Src n me i u):Kn k U (D5 (lq u (H5 (B5 n) (E4 n) u))):=by
 rcases h with ⟨f,hf,hr,rfl⟩|⟨j,s,hj,hs,hto,fm,tag,us,hm,hu⟩
 .rw[D.s_fre hf];exact Rw (hk.fre f hf hr)
 .obtain⟨-,h1,h2,h3⟩:=D.steps j s hs;have hM:=hk.msg j s (by omega) hs (.inr hto);have hUM:=hU _ hM;rw[D.srt hm h1 h2]at hM hUM;have hfn:s.frm≠me:=λe=>h3 (e.trans hto.symm);obtain⟨g1,g2⟩:=hk.sh s.frm h1 hfn;rw[hto]at hM hUM;obtain⟨r1,r2⟩:=kQ (Rw hM) hUM (Rw g2) (Rw hk.sk) (Rw g1);exact gS _ r1 r2 _ (xk _ (xn.2 ⟨u,hu,rfl⟩))
theorem Drafted.lrn {role:Nat} {me:H7} (hme:n.roles[role]?=some me) {q:Nat} (hq:q<=n.steps.length) {t:Tm} (ht:t.size<=50) (hm:D5 t∈(JA (H5 (B5 n) (E4 n)) n me role q).map D5):(LB n role t).2=0/\(LB n role t).1<=q:=by
 have hat:Nt n role 0=0:=by
  unfold Nt;rw[if_neg (by simp[D.sco]),if_neg];have:=(xp.1 hme).1;omega
 have hgd:n.roles.getD role (bs [])=me:=by rw[xy,hme];rfl
 unfold LB;rw[if_neg (by simp[hat]),Int.toNat_natCast,hgd];have key:∀(c i:Nat),i<=q->q<i+c->(IN (JA (H5 (B5 n) (E4 n)) n me role) t i c).2=0/\(IN (JA (H5 (B5 n) (E4 n)) n me role) t i c).1<=q:=by
  intro c
  induction c with
  |zero=>intro i h1 h2;omega
  |succ c ih =>
   intro i h1 h2;have hz:=Wn (k:=JA (H5 (B5 n) (E4 n)) n me role i) (D.sml _ _ _) ht;rw[IN,if_neg (by simp[hz])];by_cases hd:(U1 (JA (H5 (B5 n) (E4 n)) n me role i) t).2=true
   .rw[if_pos hd];exact⟨rfl,by simp only;omega⟩
   .rw[if_neg hd];refine ih (i+1) ?_ (by omega);rcases Nat.lt_or_ge i q with h|h
    .omega
    .exfalso
     have:i=q:=by omega
     subst this;apply hd;rw[fu (D.sml _ _ _) ht];exact Kn.base _ hm
 exact key _ 0 (Nat.zero_le _) (by omega)
theorem Drafted.small {a:H7} (h:a∈B5 n):a.size<=10:=by
 have h1:=D.mem_nms h;have h2:((Ui true++Ys++OR).all λa=>decide (a.size<=10))=true:=by decide
 exact of_decide_eq_true (yB.1 h2 a h1)
theorem Drafted.rolesL:2<=n.roles.length/\n.roles.length<=3:=by
 obtain⟨b,hb⟩:=D.roles;rw[hb];cases b<;>exact⟨by decide,by decide⟩
theorem Drafted.tagsL:n.tags.length<=3:=by
 rw[D.tags,yD];have:=D.stepsL.2;omega
theorem Drafted.fine:Fine n where
 name:=by rw[D.name];decide
 roles:=λs hs=>by have:=D.small (D.role_nm hs);omega
 rolesL:=by have:=D.rolesL;omega
 fresh:=λf hf=>by
  have h1:=D.small (D.role_nm (D.fre f hf).1);have h2:=D.small (D.fre_nm (xt hf));omega
 freshL:=by have:=D.fresh.1;omega
 tags:=λs hs=>by have:=D.small (D.tag_nm hs);omega
 tagsL:=by have:=D.tagsL;omega
 steps:=λs hs=>by
  obtain⟨i,hi⟩:=xo hs;have h1:=D.small (D.role_nm (D.steps i s hi).frm);have h2:=D.small (D.role_nm (D.steps i s hi).to);have h3:=(D.msg hi).2.2;omega
 stepsL:=by have:=D.stepsL;omega
 goals:=λg hg=>by
  have G:=D.goals g hg;have h1:=D.small (D.role_nm G.role);have h2:g.wth.size<=10:=by
   cases ha:Hi g with
   |true=>exact D.small (D.role_nm (G.agr ha).1)
   |false=>rw[G.nag ha];decide
  obtain⟨u,hu,hd⟩:=G.data;rw[hd];refine⟨by omega,by omega,?_⟩;simp[C7,Tm.sizes,Tm.size]
 goalsL:=by have:=D.goalsL;omega
theorem Drafted.lens:Lens n where
 names:=by have:=D.rolesL;have:=D.fresh.1;have:=D.tagsL;omega
 steps:=by have:=D.stepsL;omega
 goals:=by have:=D.goalsL;omega
 data:=λg hg=>by
  obtain⟨u,hu,hd⟩:=(D.goals g hg).data;rw[hd];simp
end
end Go.Abs.Q
