/- A part of the proof. -/
import Derived.Test.YtohjdamplbhdpaaGreatDoorSD29
set_option linter.all false
open List renaming mem_map_of_mem->oD,drop_eq_nil_of_le->xX,mem_map->xY,map_cons->xZ,mem_flatMap->xb,length_map->xc,mem_cons_of_mem->xd,drop_eq_getElem_cons->xe,getElem?_eq_some_iff->xf,any_eq_true->xg,append_eq_nil_iff->xh,length_append->xj,mem_cons_self->xk,length->xl,getElem_mem->xm,map_append->xn,mem_cons->xo,map_map->xp
open Nat renaming le_refl->xa
open Bool renaming false_eq_true->xi
namespace Go.Abs.Q
open Go.Proofs
attribute [local simp] D1 D4 fin I2 G0 K7 I3 N4 O5
open Classical in
noncomputable def We (k:List Tm) (t:Tm):Nat:=if h:∃U,O1 U (alls (k++[t]))then h.choose.length else 0
theorem bn {U U' l l':I1} (h:O1 U l) (h':O1 U' l') (e:∀e,e∈l.map D2↔e∈l'.map D2):U.length=U'.length:=by
 have:=WR h h' e;rw[E4,E4]at this;simpa using congrArg xl this
theorem VA {k:I1} {t:Tm} {U:I1} (h:O1 U (alls (k++[t]))):We k t=U.length:=by
 unfold We;rw[dif_pos ⟨U,h⟩];exact bn (l:=alls (k++[t])) (l':=alls (k++[t])) (Exists.choose_spec (⟨U,h⟩:∃U,O1 U (alls (k++[t])))) h λ_=>Iff.rfl
theorem Gz {l l':I1} (h:l.map D2=l'.map D2):(alls l).map D2=(alls l').map D2:=by
 rw[←Ql,←Ql,E4,E4,h]
theorem aT {k k':I1} {t t':Tm} (h:k.map D2=k'.map D2) (ht:D2 t=D2 t'):(k++[t]).map D2=(k'++[t']).map D2:=by
 rw[xn,xn,h,xZ,xZ,ht,List.map_nil]
theorem Hw {U l l':I1} (h:O1 U l) (e:l.map D2=l'.map D2):O1 U l':=⟨h.1,λx=>by rw[←e];exact h.2 x⟩
theorem jU {k k':I1} {t t':Tm} (h:k.map D2=k'.map D2) (ht:D2 t=D2 t'):We k t=We k' t':=by
 have e:=Gz (aT h ht);have hiff:(∃U,O1 U (alls (k++[t])))↔∃U,O1 U (alls (k'++[t'])):=⟨λ⟨U,hU⟩=>⟨U,Hw hU e⟩,λ⟨U,hU⟩=>⟨U,Hw hU e.symm⟩⟩;by_cases hx:∃U,O1 U (alls (k++[t]))
 .obtain⟨U,hU⟩:=hx;rw[VA hU,VA (Hw hU e)]
 .unfold We;rw[dif_neg hx,dif_neg λh=>hx (hiff.2 h)]
theorem Zz {k k':I1} {t t':Tm} (h:k.map D2=k'.map D2) (ht:D2 t=D2 t'):Nf k t↔Nf k' t':=by
 have e:=Gz (aT h ht);unfold Nf;rw[ht];exact⟨OL (λx hx=>by rw[←h];exact hx) (λx hx=>by rw[←e];exact hx),OL (λx hx=>by rw[h];exact hx) (λx hx=>by rw[e];exact hx)⟩
open Classical in
noncomputable def Q7 (k:List Tm) (t:Tm):Int×Bool:=if 60<k.length\/200<We k t then (3,false)else (0,decide (Nf k t))
theorem Mv {k k':I1} {t t':Tm} (h:k.map D2=k'.map D2) (ht:D2 t=D2 t'):Q7 k t=Q7 k' t':=by
 have hl:k.length=k'.length:=by simpa using congrArg xl h
 have e2:(@decide (Nf k t) (Classical.propDecidable _))=@decide (Nf k' t') (Classical.propDecidable _):=by
  by_cases hd:Nf k t
  .rw[@decide_eq_true _ (Classical.propDecidable _) hd,@decide_eq_true _ (Classical.propDecidable _) ((Zz h ht).1 hd)]
  .rw[@decide_eq_false _ (Classical.propDecidable _) hd,@decide_eq_false _ (Classical.propDecidable _) λk=>hd ((Zz h ht).2 k)]
 unfold Q7;rw[hl,jU h ht,e2]
theorem VZ (m:J0) (k:I1) (t:Tm) (hk:∀x∈k,GoodT x) (ht:GoodT t) (CF:k.length<=1048576) :
  pc Q O0 [sl m 4 (A4 k),B8 t]=some (.tup [.bool (Q7 k t).2,.int .i64 (Q7 k t).1]):=by
 obtain⟨U,h1,h2⟩:=Va m k t hk ht CF;rw[h1];unfold mL Q7;by_cases hc:k.length<=60
 .rw[VA (h2 hc)];split<;>rfl
 .rw[if_pos (.inl (by omega)),if_pos (.inl (by omega))]
open Classical in
theorem cM {k:I1} {t:Tm} (h:(Q7 k t).2=true):(Q7 k t).1=0/\Nf k t:=by
 unfold Q7 at h ⊢;split at h
 .cases h
 .rename_i hc;rw[if_neg hc];exact⟨rfl,of_decide_eq_true h⟩
theorem Rl {m:J0} {r n:Nar} (hR:Right n) (he:Oc r=DA (G3 (B4 n) (D6 n)) n) {me:H6} (hme:me∈n.roles) {role q:Nat} {x:Tm} (h:x∈NX m r n me role q):GK x/\x.size<=40:=by
 obtain⟨e2,e3,e5⟩:=Hl he;have ro:=hR.role_ok;rcases jv h with rfl|⟨a,ha,rfl⟩|h|h|⟨s,h1,_,rfl⟩
 .exact⟨Mp (Uq (ro me hme)),by rw[(Mz m me me).1];omega⟩
 .exact⟨Mp (Uo (ro a (by rw[←e2];exact ha))),by rw[(Mz m a me).2.1];omega⟩
 .refine⟨?_,by rw[MY _ _ _ _ _ _ h];omega⟩;obtain⟨j,r',-,-,hj,h4⟩:=RB (oD (f:=D2) h);have hr':r'∈n.roles:=by rw[←e2];exact List.mem_of_getElem? hj
  refine Mp ?_;rcases h4 with h4|h4<;>rw[h4]
  .exact Up (ro me hme) (ro r' hr')
  .exact Up (ro r' hr') (ro me hme)
 .refine⟨?_,by rw[Mx h];omega⟩;unfold GO at h;rw[xY]at h;obtain⟨f,hf,rfl⟩:=h;have hf':=(List.mem_filter.1 hf).1;obtain⟨-,k2,-⟩:=Ns (GU hR.nar).1;have:=k2 f hf';exact Mo (Ry hR f.name (by unfold B4;simp only[List.mem_append,xY];exact .inl (.inr ⟨f,hf',rfl⟩))) (by omega) (by omega)
 .refine⟨?_,Rw hR.nar he s h1⟩;have hm:LX s∈n.steps.map (DB (G3 (B4 n) (D6 n))):=by rw[←(AE he).2.2.2.2.1];exact oD h1
  obtain⟨s',hs',e⟩:=xY.1 hm;unfold LX DB at e;injection e with _ _ e _
  refine Mp ?_;rw[←e];exact(hR.msg hs').1.allN hR.role_ok hR.at_ok
theorem XW {r n:Nar} (hR:Right n) (he:Oc r=DA (G3 (B4 n) (D6 n)) n) {s:Ste} (hs:s∈r.steps):GK s.msg/\s.msg.size<=40:=by
 refine⟨?_,Rw hR.nar he s hs⟩;have hm:LX s∈n.steps.map (DB (G3 (B4 n) (D6 n))):=by rw[←(AE he).2.2.2.2.1];exact oD hs
 obtain⟨s',hs',e⟩:=xY.1 hm;unfold LX DB at e;injection e with _ _ e _
 refine Mp ?_;rw[←e];exact(hR.msg hs').1.allN hR.role_ok hR.at_ok
theorem fB:∀(N:Nat) (t:Tm),t.size<=N->∀x∈EH t,x.size<=t.size:=by
 intro N
 induction N with
 |zero=>intro t h;have:=t.size_pos;omega
 |succ N ih =>
  intro t h x hx;have K3:=t.kids_size;rw[AY,I9]at hx;rcases xo.1 hx with rfl|hx
  .exact xa _
  .obtain⟨y,hy,hx⟩:=xb.1 hx;have:=Tm.size_le hy;have:=ih y (by omega) x hx;omega
theorem bt:∀(N:Nat) (t:Tm),t.size<=N->∀x∈EH t,∀y∈EH x,y∈EH t:=by
 intro N
 induction N with
 |zero=>intro t h;have:=t.size_pos;omega
 |succ N ih =>
  intro t h x hx y hy;have K3:=t.kids_size;rw[AY,I9]at hx;rcases xo.1 hx with rfl|hx
  .exact hy
  .obtain⟨z,hz,hx⟩:=xb.1 hx;rw[AY,I9];refine xd _ (xb.2 ⟨z,hz,?_⟩);have:=Tm.size_le hz;exact ih z (by omega) x hx y hy
theorem ia {R:I1} {t:Tm} (h:O1 R (alls [t])) (hN:GK t) (hs:t.size<=40):∀x∈R,GK x/\x.size<=40:=λx hx=>by
 obtain⟨y,hy,e⟩:=PT h hx;rw[alls,alls,List.append_nil]at hy;have h1:GK y:=λz hz=>hN z (bt _ t (xa _) y hy z hz);have h2:=fB _ t (xa _) y hy;refine⟨Mp ?_,?_⟩
 .rw[←e];intro z hz;rw[RL]at hz;obtain⟨w,hw,rfl⟩:=xY.1 hz;have:=h1 w hw;obtain⟨k,nm,s,m,l⟩:=w;simp only[NG,D2,Tm.kind,Tm.sort,Tm.kids,Tm.name]at this ⊢;rw[ew,E4,xc];rcases this with ⟨q1,q2,q3,q4,q5,q6⟩|h
  .exact .inl ⟨q1,q2,q3,by simp[q4],q5,q6⟩
  .exact .inr h
 .have h3:x.size=y.size:=by rw[←Dn _ x (xa _),←e,Dn _ y (xa _)]
  omega
theorem Xv (r n:Nar) (hl:r.roles.length<=1000) (a:H6):pc Q DM [Dx r n,.str a]=some (.int .i64 (idx (BR a) r.roles)):=by
 have hI:=QP r.rm r.roles a (by omega);simp only[GD]at hI;have sb:=BK r n;refine R9 Fu λfr hl h0 h1=>?_;simp[Fu]at hl h0 h1;simp[Fu,hl,h0,h1,sb,hI]
def Jq (rs:List ByteArray) (a:ByteArray):Nat:=(idx (BR a) rs).toNat
theorem Kw {rs:List ByteArray} {a:H6} (h:a∈rs):rs[Jq rs a]?=some a/\idx (BR a) rs=((Jq rs a:Nat):Int):=by
 have h1:rs.any (BR a)=true:=xg.2 ⟨a,h,(Dm a a).2 rfl⟩;have hge:=(CH (BR a) rs 0).2 h1;have A7:=IE (BR a) rs 0;have key:∀(l:List ByteArray) (i:Nat),l.any (BR a)=true->∃j:Nat,R7 (BR a) i l=((i+j:Nat):Int)/\l[j]?=some a:=by
  intro l
  induction l with
  |nil=>intro i h;simp at h
  |cons b l ih =>
   intro i h;unfold R7;by_cases hb:BR a b=true
   .rw[if_pos hb];exact⟨0,by simp,by rw[(Dm a b).1 hb];rfl⟩
   .rw[if_neg hb];rw[List.any_cons]at h;obtain⟨j,j1,j2⟩:=ih (i+1) (by simpa[hb]using h);exact⟨j+1,by rw[j1];congr 1;omega,by simpa using j2⟩
 obtain⟨j,j1,j2⟩:=key rs 0 h1;rw[Nat.zero_add]at j1;have e:Jq rs a=j:=by unfold Jq idx;rw[j1];rfl
 exact⟨by rw[e];exact j2,by rw[e];exact j1⟩
theorem Kz {ns rs:List ByteArray} {s:Ste} (h:Is ns rs s=0):s.frm∈rs/\s.to∈rs/\s.frm≠s.to:=by
 have h1:Ma rs s.frm s.to=0:=by
  unfold Is at h;apply Classical.byContradiction;intro hc;rw[if_pos hc]at h;exact hc h
 unfold Ma at h1;split at h1
 .rename_i h2;split at h1
  .omega
  .rename_i h3;obtain⟨q1,q2⟩:=h2;obtain⟨a,ha,ea⟩:=xg.1 q1;obtain⟨b,hb,eb⟩:=xg.1 q2;rw[Dm]at ea eb;exact⟨ea ▸ ha,eb ▸ hb,h3⟩
 .omega
end Go.Abs.Q
namespace Go.Abs.Q
open Go.Proofs
attribute [local simp] D1 D4 fin I2 G0 K7 I3 N4 O5
def WE:Tm:=.mk 0 (bs []) 0 (true,false) []
noncomputable def It (k:List Tm) (i:Int):List Tm->Option (Int×Tm×Int)
 | []=>none
 |t::l=>if (Q7 k t).1≠0 then some (0,WE,(Q7 k t).1)else if (Q7 k t).2=true then It k i l else some (i,t,13)
def VE (x:Int×Tm×Int):Int×Tm×Int:=(x.1,D2 x.2.1,x.2.2)
theorem RE {k k':I1} (h:k.map D2=k'.map D2) (i:Int):∀{l l':I1},l.map D2=l'.map D2->(It k i l).map VE=(It k' i l').map VE
 | [],[],_=>rfl
 | [],_::_,e=>by simp at e
 |_::_,[],e=>by simp at e
 |t::l,t'::l',e=>by
  rw[xZ,xZ,List.cons.injEq]at e;have hd:=Mv h e.1;rw[It,It,hd];split
  .rfl
  .split
   .exact RE h i e.2
   .simp only[Option.map_some,VE,e.1]
theorem gH (R kk:I1) (mr mk:J0) (C2:R.length<=1000) (hR:∀x∈R,GoodT x/\x.size<=1000) (hk:∀x∈kk,GoodT x) (CF:kk.length<=10000) (q:Int) (C0 Z SC:E5) (hZ:Z.length=4) (hZm:CG Z=false) (fr:Fr) (h:AH) (B0:List (List AV)) (hB0:h.boxes=C0::Z::SC::B0) (hl:fr.length=83) (h3:A0 fr 3=.ptr 1 0) (h7:A0 fr 7=.int .i64 q) (h9:A0 fr 9=sl mk 4 (A4 kk)) (h56:A0 fr 56=sl mr 4 (A4 R)) (h57:A0 fr 57=.int .i64 R.length) (h58:A0 fr 58=.int .i64 0) :
  C8 (lp (A1 (Q8 Q) (G8 R8) R4) (fr,h)) λe D3 h'=>Kp R4.wr fr D3/\((e=.exit 2/\It kk q R=none/\∃B,h'.boxes=C0::Z::SC::B)\/(e=.ret/\∃(a c:Int) (t t':Tm),It kk q R=some (a,t',c)/\D2 t=D2 t'/\A0 D3 2=.int .i64 a/\A0 D3 4=.int .i64 c/\∃B,h'.boxes=C0::(B8 t).cells::SC::B)):=by
 refine C3 rfl fr (λn fr h'=>∃(i:Nat),i+n=R.length/\A0 fr 58=.int .i64 (i:Nat)/\(∃B,h'.boxes=C0::Z::SC::B)/\It kk q (R.drop i)=It kk q R) ?_ R.length h ⟨0,by omega,h58,⟨_,hB0⟩,rfl⟩;rintro J Φ hJ hΦ n H0 H1 K ⟨i,hi,k58,hr⟩;have B5:=K.1.trans hl;have k3:=A5 K 3 h3;have k7:=A5 K 7 h7;have k9:=A5 K 9 h9;have k56:=A5 K 56 h56;have k57:=A5 K 57 h57;clear K;by_cases A7:i<R.length
 .have V9:=E6 i (by omega);obtain⟨⟨B,hB⟩,hr⟩:=hr;obtain⟨bx,fams⟩:=H1;simp only at hB;subst hB;have hx:=U2 A7;have hZd:Z.drop 4=[]:=xX (by omega);rw[xe A7,It]at hr;obtain⟨hg,K3⟩:=hR _ (xm A7);generalize R[i]=t at *
  have hD:=VZ mk kk t hk hg (by omega);generalize hd:Q7 kk t=d at *
  obtain⟨de,db⟩:=d;simp only at hD hr;by_cases hde:de=0
  .subst hde;rw[if_neg (by simp)]at hr;cases db with
   |true =>
    simp only[if_true]at hr;simp[R4,B5,k9,k56,k57,k58,A7,V9,hx,hD];exact O9 hJ ⟨i+1,by omega,by simp[B5],⟨_,rfl⟩,hr⟩
   |false =>
    simp only[xi,if_false]at hr;obtain⟨m',l',hC,hCe⟩:=UV _ (true,true) [t] (xa _) (by simp only[Tm.sizes];omega);rw[show A4 [t]=[B8 t] from rfl]at hC;have JS:l'.length=1:=by
     have:=congrArg xl hCe;rw[E4,E4,xc,xc]at this;simpa using this
    obtain⟨t2,rfl⟩:∃t2,l'=[t2]:=by
     match l',JS with
     | [t2],_=>exact⟨t2,rfl⟩
    have he2:D2 t2=D2 t:=by
     rw[E4,E4]at hCe;simpa using hCe
    rw[show A4 [t2]=[B8 t2] from rfl]at hC;simp[R4,B5,k3,k7,k9,k56,k57,k58,A7,hx,hD,A3,hC,hZ,hZm,I6];exact hΦ _ _ _ (.inr ⟨rfl,q,13,t2,t,hr.symm,he2,by simp[B5],by simp[B5],B++[(B8 t).cells],by simp[hZd]⟩)
  .rw[if_pos hde]at hr;simp[R4,B5,k3,k9,k56,k57,k58,A7,hx,hD,hde,D0,E7,hZ,hZm,I6];refine hΦ _ _ _ (.inr ⟨rfl,0,de,WE,WE,hr.symm,rfl,by simp[B5],by simp[B5],B++[(B8 t).cells],?_⟩);simp[WE,Tm.kind,Tm.name,Tm.sort,Tm.cm,Tm.kids,A4,hZd];exact Fk 4
 .obtain⟨⟨B,hB⟩,hr⟩:=hr;rw[xX (by omega),It]at hr;simp[R4,B5,k57,k58,A7];exact hΦ _ _ _ (.inl ⟨rfl,hr.symm,B,hB⟩)
open Classical in
noncomputable def PI (t:Tm):List Tm:=if h:∃R,O1 R (alls [t])then h.choose else []
theorem RD {t t':Tm} {R:I1} (h:O1 R (alls [t])) (e:D2 t=D2 t'):R.map D2=(PI t').map D2:=by
 have hx:∃R,O1 R (alls [t']):=⟨R,Hw h (Gz (by simp[e]))⟩;unfold PI;rw[dif_pos hx];have:=WR (Hw h (Gz (l:=[t]) (l':=[t']) (by simp[e]))) hx.choose_spec λ_=>Iff.rfl
 rwa [E4,E4]at this
noncomputable def Sx (kf:ByteArray->Nat->List Tm):Nat->List Ste->Int×Tm×Int
 |_,[]=>(0,WE,0)
 |i,s::l=>if (Q7 (kf s.frm i) s.msg).1≠0 then (0,WE,(Q7 (kf s.frm i) s.msg).1)else if (Q7 (kf s.frm i) s.msg).2=true then Sx kf (i+1) l else
  match It (kf s.frm i) i (PI s.msg)with
  |some x=>x
  |none=>Sx kf (i+1) l
theorem fY {kf kf':ByteArray->Nat->List Tm}:∀{l l':List Ste} (i:Nat),(∀s∈l,∀j,j<i+l.length->(kf s.frm j).map D2=(kf' s.frm j).map D2)->l.map LX=l'.map LX->VE (Sx kf i l)=VE (Sx kf' i l')
 | [],[],i,_,_=>rfl
 | [],_::_,i,_,e=>by simp at e
 |_::_,[],i,_,e=>by simp at e
 |s::l,s'::l',i,hk,e=>by
  rw[xZ,xZ,List.cons.injEq]at e;obtain⟨e1,e2⟩:=e;unfold LX at e1;injection e1 with a1 a2 a3 a4
  have hki:=hk s xk i (by simp);have ih:=fY (kf:=kf) (kf':=kf') (l:=l) (l':=l') (i+1) (λx hx j hj=>hk x (xd _ hx) j (by simp;omega)) e2;have hd:=Mv hki a3;have hsub:(PI s.msg).map D2=(PI s'.msg).map D2:=by
   by_cases hx:∃R,O1 R (alls [s.msg])
   .obtain⟨R,hR⟩:=hx;rw[←RD hR rfl,RD hR a3]
   .have hx':¬ ∃R,O1 R (alls [s'.msg]):=λ⟨R,hR⟩=>hx ⟨R,Hw hR (Gz (by simp[a3]))⟩;unfold PI;rw[dif_neg hx,dif_neg hx']
  have hs:=RE hki (i:Int) hsub;rw[Sx,Sx,←a1,hd];split
  .rfl
  .split
   .exact ih
   .generalize It (kf s.frm i) i (PI s.msg)=o1 at hs;generalize It (kf' s.frm i) i (PI s'.msg)=o2 at hs;cases o1 with
    |none =>
     cases o2 with
     |none=>exact ih
     |some y=>simp at hs
    |some x =>
     cases o2 with
     |none=>simp at hs
     |some y=>simpa using hs
theorem gI (r na:Nar) (F:Fine na) (S:Lens na) (hz:(Ae na).2=0) (hR:Right na) (he:Oc r=DA (G3 (B4 na) (D6 na)) na) (C0 Z:E5) (hZ:Z.length=4) (hZm:CG Z=false) (hstl:r.steps.length<=1000) (fr:Fr) (h:AH) (B0:List (List AV)) (hB0:h.boxes=C0::Z::(Dx r na).cells::B0) (hl:fr.length=83) (h3:A0 fr 3=.ptr 1 0) (h5:A0 fr 5=.ptr 2 0) (h27:A0 fr 27=sl r.sm 7 (r.steps.map Ci)) (h28:A0 fr 28=.int .i64 r.steps.length) (h29:A0 fr 29=.int .i64 0) :
  C8 (lp (A1 (Q8 Q) (G8 R8) R5) (fr,h)) λe D3 h'=>Kp R5.wr fr D3/\((e=.exit 0/\Sx (λme i=>NX (true,true) r na me (Jq r.roles me) i) 0 r.steps=(0,WE,0)/\∃B,h'.boxes=C0::Z::(Dx r na).cells::B)\/(e=.ret/\∃(x:Int×Tm×Int) (t:Tm),VE (Sx (λme i=>NX (true,true) r na me (Jq r.roles me) i) 0 r.steps)=VE x/\D2 t=D2 x.2.1/\A0 D3 2=.int .i64 x.1/\A0 D3 4=.int .i64 x.2.2/\∃B,h'.boxes=C0::(B8 t).cells::(Dx r na).cells::B)):=by
 refine C3 rfl fr (λn fr h'=>∃(i:Nat),i+n=r.steps.length/\A0 fr 29=.int .i64 (i:Nat)/\(∃B,h'.boxes=C0::Z::(Dx r na).cells::B)/\Sx (λme i=>NX (true,true) r na me (Jq r.roles me) i) i (r.steps.drop i)=Sx (λme i=>NX (true,true) r na me (Jq r.roles me) i) 0 r.steps) ?_ r.steps.length h ⟨0,by omega,h29,⟨_,hB0⟩,rfl⟩;rintro J Φ hJ hΦ n H0 H1 K ⟨i,hi,k29,hr⟩;have B5:=K.1.trans hl;have k3:=A5 K 3 h3;have k5:=A5 K 5 h5;have k27:=A5 K 27 h27;have k28:=A5 K 28 h28;clear K;by_cases A7:i<r.steps.length
 .have V9:=E6 i (by omega);obtain⟨⟨B,hB⟩,hr⟩:=hr;obtain⟨bx,fams⟩:=H1;simp only at hB;subst hB;have sb:=BK r na;have hx:=H8 (f:=Ci) (List.getElem?_eq_getElem A7);have HP:=xm A7;rw[xe A7,Sx]at hr;obtain⟨hmA,hmS⟩:=XW hR he HP;obtain⟨hsm,-⟩:=LB hR.nar he;obtain⟨e2,e3,e5⟩:=Hl he;have hrl:=hsm.roles;have hfr:r.steps[i].frm∈r.roles:=by
   have hm:LX r.steps[i]∈na.steps.map (DB (G3 (B4 na) (D6 na))):=by rw[←(AE he).2.2.2.2.1];exact oD HP
   obtain⟨s',hs',e⟩:=xY.1 hm;unfold LX DB at e;injection e with e _ _ _
   rw[←e,e2];exact(Kz (hR.steps s' hs')).1
  generalize r.steps[i]=s at *
  obtain⟨x1,x2⟩:=Kw hfr;have hrole:=Xv r na hrl s.frm;rw[x2]at hrole;obtain⟨mk,hK⟩:=SM r na F S hz hsm e2 (Jq r.roles s.frm) s.frm x1 i (by omega);have LP:∀x∈NX (true,true) r na s.frm (Jq r.roles s.frm) i,GoodT x:=λx hx=>by
   obtain⟨h1,h2⟩:=Rl hR he (by rw[←e2];exact hfr) hx;exact h1.good h2
  have CF:=VM (m:=(true,true)) (me:=s.frm) (role:=Jq r.roles s.frm) (q:=i) hsm;generalize MA:NX (true,true) r na s.frm (Jq r.roles s.frm) i=kk at *
  have hD:=VZ mk kk s.msg LP (hmA.good hmS) (by omega);obtain⟨R,mr,hSub,hSet,hRl⟩:=QQ (true,true) [s.msg] (by simp only[Tm.sizes];omega);rw[show A4 [s.msg]=[B8 s.msg] from rfl]at hSub;simp only[Tm.sizes]at hRl;have hRg:=ia hSet hmA hmS;have hse:=RE (k:=kk) (k':=kk) rfl (i:Int) (RD hSet rfl);generalize hd:Q7 kk s.msg=d at *
  obtain⟨de,db⟩:=d;simp only at hD hr;by_cases hde:de=0
  .subst hde;rw[if_neg (by simp)]at hr;cases db with
   |true =>
    simp only[if_true]at hr;simp[R5,B5,k5,k27,k28,k29,A7,V9,sb,hx,hrole,hK,hD];exact O9 hJ ⟨i+1,by omega,by simp[B5],⟨B++[(Ci s).cells],by rw[sb];simp⟩,hr⟩
   |false =>
    simp only[xi,if_false]at hr;simp[R5,B5,k5,k27,k28,k29,A7,sb,hx,hrole,hK,hD,A3,hSub];refine C8.mono (gH R kk mr mk (by omega) (λx hx=>by obtain⟨h1,h2⟩:=hRg x hx;exact⟨h1.good h2,by omega⟩) LP CF (i:Int) C0 Z (Dx r na).cells hZ hZm _ _ (B++[(Ci s).cells]) ?_ ?_ ?_ ?_ ?_ ?_ ?_ ?_) ?_<;>first|(simp[B5,k3,sb];done)|skip
    rintro e Cq ⟨bx2,F2⟩ ⟨K,⟨rfl,hn,B2,hB2⟩|⟨rfl,a,c,t,t',hso,het,l2,l4,B2,hB2⟩⟩
    .simp only at hB2;subst hB2;have JS:Cq.length=83:=K.1.trans (by simp[B5]);have k29':A0 Cq 29=.int .i64 (i:Nat):=A5 K 29 (by simp[k29]);have k3':A0 Cq 3=.ptr 1 0:=A5 K 3 (by simp[k3]);have k5':A0 Cq 5=.ptr 2 0:=A5 K 5 (by simp[k5]);have k27':=A5 K 27 (by simp[k27]:_=sl r.sm 7 (r.steps.map Ci));have k28':=A5 K 28 (by simp[k28]:_=AV.int .i64 r.steps.length);clear K;rw[hn]at hse;have hnone:It kk (i:Int) (PI s.msg)=none:=by
      cases hq:It kk (i:Int) (PI s.msg)with
      |none=>rfl
      |some x=>rw[hq]at hse;simp at hse
     rw[hnone]at hr;simp only at hr;simp[JS,k29',V9];exact O9 hJ ⟨i+1,by omega,by simp[JS],⟨B2,rfl⟩,hr⟩
    .simp only at hB2;subst hB2;rw[hso]at hse;obtain⟨y,hy,hye⟩:∃y,It kk (i:Int) (PI s.msg)=some y/\VE (a,t',c)=VE y:=by
      cases hq:It kk (i:Int) (PI s.msg)with
      |none=>rw[hq]at hse;simp at hse
      |some y=>rw[hq]at hse;exact⟨y,rfl,by simpa using hse⟩
     rw[hy]at hr;simp only at hr;simp;exact hΦ _ _ _ (.inr ⟨rfl,(a,t',c),t,by rw[←hr,hye],het,l2,l4,B2,by simp⟩)
  .rw[if_pos hde]at hr;have hZd:Z.drop 4=[]:=xX (by omega);simp[R5,B5,k3,k5,k27,k28,k29,A7,sb,hx,hrole,hK,hD,hde,D0,E7,hZ,hZm,I6];refine hΦ _ _ _ (.inr ⟨rfl,(0,WE,de),WE,by rw[←hr],rfl,by simp[B5],by simp[B5],B++[(Ci s).cells],?_⟩);simp[WE,Tm.kind,Tm.name,Tm.sort,Tm.cm,Tm.kids,A4,hZd,sb];exact Fk 4
 .obtain⟨⟨B,hB⟩,hr⟩:=hr;rw[xX (by omega),Sx]at hr;simp[R5,B5,k28,k29,A7];exact hΦ _ _ _ (.inl ⟨rfl,hr.symm,B,hB⟩)
noncomputable def NN (n:Nar):Int×Tm×Int :=
 if (Ae n).2≠0 then (0,D2 WE,(Ae n).2)else VE (Sx (λme i=>KQ (G3 (B4 n) (D6 n)) n me (Jq n.roles me) i) 0 (n.steps.map (DB (G3 (B4 n) (D6 n)))))
theorem Rk {f:ByteArray->Int} {n:Nar} {me:H6} {role q:Nat} (hd:Hf n=0) {r:Nar} (he:Oc r=DA f n) (hme:n.roles[role]?=some me):(KQ f n me role q).map D2=KQ f n me role q:=by
 rw[←Pd (m:=(true,true)) hd he hme q,xp];congr 1;funext x;exact Wp x
theorem lC {l l':List Ste} {f:ByteArray->Int} (h:l.map LX=l'.map (DB f)):l.map LX=(l'.map (DB f)).map LX:=by
 have:=congrArg (List.map LX) h;rw[←this,xp];congr 1;funext s;simp only[Function.comp,LX,Wp s.msg]
theorem jh {r n:Nar} (hR:Right n) (he:Oc r=DA (G3 (B4 n) (D6 n)) n) (kf:ByteArray->Nat->List Tm) (hk:∀me∈n.roles,∀q,(kf me q).map D2=KQ (G3 (B4 n) (D6 n)) n me (Jq n.roles me) q):VE (Sx kf 0 r.steps)=VE (Sx (λme i=>KQ (G3 (B4 n) (D6 n)) n me (Jq n.roles me) i) 0 (n.steps.map (DB (G3 (B4 n) (D6 n))))):=by
 refine fY 0 (λs hs j _=>?_) (lC (AE he).2.2.2.2.1);have hm:LX s∈n.steps.map (DB (G3 (B4 n) (D6 n))):=by rw[←(AE he).2.2.2.2.1];exact oD hs
 obtain⟨s',hs',e⟩:=xY.1 hm;unfold LX DB at e;injection e with e _ _ _
 have hfr:s.frm∈n.roles:=by rw[←e];exact(Kz (hR.steps s' hs')).1
 rw[hk s.frm hfr j,Rk hR.dec he (Kw hfr).1]
theorem Vb (n:Nar) (F:Fine n) (S:Lens n):∃t,pc Q R8 [X7 n]=some (.tup [.int .i64 (NN n).1,B8 t,.int .i64 (NN n).2.2])/\D2 t=(NN n).2.1:=by
 suffices hq:∃v,pc Q R8 [X7 n]=some v/\∃t,v=.tup [.int .i64 (NN n).1,B8 t,.int .i64 (NN n).2.2]/\D2 t=(NN n).2.1 by
  obtain⟨v,h1,t,rfl,h2⟩:=hq;exact⟨t,h1,h2⟩
 obtain⟨r,hO,hE⟩:=Vi n F S;have nb:=Y6 n;have sb:=BK r n;have hz4:B8 WE=.agg [.int .i64 0,.str (bs []),.int .i64 0,.vs true 0 []]:=by rw[Fk 4];rfl
 by_cases h1:(Ae n).2=0
 .have he:=hE h1;obtain⟨-,hR⟩:=KK h1;obtain⟨hsm,-⟩:=LB hR.nar he;obtain⟨e2,-,-⟩:=Hl he;rw[h1]at hO;have hX:NN n=VE (Sx (λme i=>NX (true,true) r n me (Jq r.roles me) i) 0 r.steps):=by
   unfold NN;rw[if_neg (by simp[h1])];refine(jh hR he _ λme hme q=>?_).symm;rw[e2];exact Pd hR.dec he (Kw hme).1 q
  rw[hX];refine Ja p8 λΨ hΨ fr hl h0=>?_;simp[p8]at hl h0;simp[p8,hl,h0,nb,sb,hO];refine C8.mono (gI r n F S h1 hR he (X7 n).cells [.int .i64 0,.str (bs []),.int .i64 0,.vs true 0 []] rfl rfl hsm.steps _ _ [] ?_ ?_ ?_ ?_ ?_ ?_ ?_) ?_<;>first|(simp[hl,nb,sb];done)|skip
  rintro e H0 ⟨bx,F1⟩ ⟨K,⟨rfl,hn,B2,hB2⟩|⟨rfl,x,t,hx,het,l2,l4,B2,hB2⟩⟩
  .simp only at hB2;subst hB2;have B5:H0.length=83:=K.1.trans (by simp[hl]);have k3':A0 H0 3=.ptr 1 0:=A5 K 3 (by simp[hl]);rw[hn]at hΨ;simp[B5,k3',D0,E7,I6];exact hΨ _ ⟨WE,by rw[hz4];rfl,rfl⟩
  .simp only at hB2;subst hB2;have B5:H0.length=83:=K.1.trans (by simp[hl]);have k3':A0 H0 3=.ptr 1 0:=A5 K 3 (by simp[hl]);rw[hx]at hΨ;simp[l2,l4,k3'];exact hΨ _ ⟨t,rfl,het⟩
 .have hX:NN n=(0,D2 WE,(Ae n).2):=by unfold NN;rw[if_pos h1]
  rw[hX];generalize (Ae n).2=e at *
  have M8:=h1;refine Ja p8 λΨ hΨ fr hl h0=>?_;simp[p8]at hl h0;simp[p8,hl,h0,nb,sb,hO,M8,D0,E7,I6];exact hΨ _ ⟨WE,by rw[hz4];rfl,rfl⟩
end Go.Abs.Q
namespace Go.Abs
def WM (L:Nat) (wr:Bool) (sz:Nat) (xs:List AV) (v:AV) (h:AH):Prop:=(xs.length<=1/\∃b,v=sl (true,b) sz xs)\/(xs≠[]/\∃k,L<=k/\v=.sl k xs.length 0 xs.length/\h.fams[k]?=some ⟨xs,sz,wr⟩)
theorem WM.a {L:Nat} {wr:Bool} {sz:Nat} {xs:E5} {v:AV} {h:AH} (hg:WM L wr sz xs v h):In wr sz xs v h:=by
 rcases hg with hg|⟨h1,k,_,h2,h3⟩
 .exact .inl hg.2
 .exact .inr ⟨h1,k,h2,h3⟩
theorem Lb {L:Nat} {wr:Bool} {sz:Nat} {xs:E5} {v:AV} {h h':AH} (hg:WM L wr sz xs v h) (e:h'.fams=h.fams):WM L wr sz xs v h':=by
 rcases hg with hg|⟨h1,k,h0,h2,h3⟩
 .exact .inl hg
 .exact .inr ⟨h1,k,h0,h2,by rw[e];exact h3⟩
theorem WM.mono {L L':Nat} {wr:Bool} {sz:Nat} {xs:E5} {v:AV} {h:AH} (hg:WM L wr sz xs v h) (hL:L'<=L):WM L' wr sz xs v h:=by
 rcases hg with hg|⟨h1,k,h0,h2,h3⟩
 .exact .inl hg
 .exact .inr ⟨h1,k,by omega,h2,h3⟩
theorem ls {L:Nat} {wr:Bool} {sz:Nat} {xs:E5} {v:AV} {h h':AH} (hg:WM L wr sz xs v h) (e:∀j,j<h.fams.length->h'.fams[j]?=h.fams[j]?):WM L wr sz xs v h':=by
 rcases hg with hg|⟨h1,k,h0,h2,h3⟩
 .exact .inl hg
 .exact .inr ⟨h1,k,h0,h2,by rw[e _ (xf.1 h3).1];exact h3⟩
theorem jG {c:Ctx} {L sz bytes:Nat} {xs ys:E5} {v x:AV} {h:AH} (hL:L<=h.fams.length) (hg:WM L c.mutApp sz xs v h) (hx:elems h sz x=some ys) (hb:(xs.length+ys.length)*bytes<=G5/\xs.length+ys.length<=maxLen) :
  ∃v' F',L5 c h sz bytes v x=some (v',⟨h.boxes,F'⟩)/\WM L c.mutApp sz (xs++ys) v' ⟨h.boxes,F'⟩/\L<=F'.length/\∀j,j<L->F'[j]?=h.fams[j]?:=by
 rcases hg with ⟨hx1,b,rfl⟩|⟨M8,k,hk0,rfl,hk⟩
 .simp only[sl,L5,hx];by_cases hy:ys.length=0
  .rw[if_pos hy];have:ys=[]:=List.eq_nil_of_length_eq_zero hy;subst this;exact⟨_,h.fams,rfl,.inl ⟨by simpa using hx1,b,by simp[sl]⟩,hL,λ_ _=>rfl⟩
  .rw[if_neg hy];have hc:((if (xs.isEmpty&&!b)=true then 0 else sz)=sz\/xs.length=0)/\(xs.length+ys.length)*bytes<=G5/\xs.length+ys.length<=maxLen:=by
    refine⟨?_,hb⟩;cases xs with
    |nil=>exact .inr rfl
    |cons a l=>exact .inl rfl
   rw[if_pos hc];refine⟨_,_,rfl,.inr ⟨by intro e;rw[xh]at e;rw[e.2]at hy;exact hy rfl,h.fams.length,hL,by rw[xj],by simp⟩,by simp;omega,λj hj=>List.getElem?_append_left (by omega)⟩
 .simp only[L5,hx,hk];rw[if_pos ⟨trivial,trivial,by omega,hb.1,hb.2⟩];have CF:=(xf.1 hk).1;refine⟨_,_,rfl,.inr ⟨by intro e;rw[xh]at e;exact M8 e.1,k,hk0,by rw[xj],by simp[CF]⟩,by simpa using hL,λj hj=>?_⟩;exact List.getElem?_set_ne (by omega)
end Go.Abs
namespace Go.Abs.Q
open Go.Proofs
attribute [local simp] D1 D4 fin I2 G0 K7 I3 N4 O5
noncomputable def FL (k:List Tm):Nat->Tm->List Tm
 |0,_=>[]
 |n+1,t =>
  if CI t (bs [112,97,105,114])=true then FL k n (M3 t 0)++FL k n (M3 t 1)
  else if CI t (bs [115,105,103,110])=true then FL k n (M3 t 0)
  else if CI t (bs [101,110,99])=true then (if (Q7 k (M3 t 1)).2=true then FL k n (M3 t 0)else [t])
  else if CI t (bs [97,101,110,99])=true then (if (Q7 k (M3 (M3 t 1) 0)).2=true then FL k n (M3 t 0)else if (Q7 k (M3 t 0)).2=true then []else [t])
  else if CI t (bs [104,97,115,104])=true then (if (Q7 k (M3 t 0)).2=true then []else [t])else []
def TY (t:Tm):Prop:=∀x∈EH t,CI x (bs [97,101,110,99])=true->CI (M3 x 1) (bs [112,107])=true
theorem TY.kid {t x:Tm} (h:TY t) (hx:x∈t.kids):TY x:=λy hy=>h y (by
 rw[AY,I9];exact xd _ (xb.2 ⟨x,hx,hy⟩))
theorem TY.root {t:Tm} (h:TY t):CI t (bs [97,101,110,99])=true->CI (M3 t 1) (bs [112,107])=true:=h t (by rw[AY];exact xk)
theorem Vf (m:J0) (k:I1) (t:Tm) (hk:∀x∈k,GoodT x) (ht:GoodT t) (CF:k.length<=1048576):pc Q GT [sl m 4 (A4 k),B8 t]=some (.bool (Q7 k t).2):=by
 have hD:=VZ m k t hk ht CF;have hT:(Q7 k t).2=true->(Q7 k t).1=0:=λh=>(cM h).1;generalize Q7 k t=d at *
 obtain⟨e,b⟩:=d;simp only at hD hT;cases b with
 |false =>
  refine R9 Gk λfr hl h0 h1=>?_;simp[Gk]at hl h0 h1;simp[Gk,hl,h0,h1,hD]
 |true =>
  have hT0:=hT rfl;subst hT0;refine R9 Gk λfr hl h0 h1=>?_;simp[Gk]at hl h0 h1;simp[Gk,hl,h0,h1,hD]
theorem Wb:bs [112,97,105,114]≠bs [115,105,103,110]/\bs [112,97,105,114]≠bs [101,110,99]/\bs [112,97,105,114]≠bs [97,101,110,99]/\bs [112,97,105,114]≠bs [104,97,115,104]/\bs [115,105,103,110]≠bs [112,97,105,114]/\bs [115,105,103,110]≠bs [101,110,99]/\bs [115,105,103,110]≠bs [97,101,110,99]/\bs [115,105,103,110]≠bs [104,97,115,104]/\bs [101,110,99]≠bs [112,97,105,114]/\bs [101,110,99]≠bs [115,105,103,110]/\bs [101,110,99]≠bs [97,101,110,99]/\bs [101,110,99]≠bs [104,97,115,104]/\bs [97,101,110,99]≠bs [112,97,105,114]/\bs [97,101,110,99]≠bs [115,105,103,110]/\bs [97,101,110,99]≠bs [101,110,99]/\bs [97,101,110,99]≠bs [104,97,115,104]/\bs [104,97,115,104]≠bs [112,97,105,114]/\bs [104,97,115,104]≠bs [115,105,103,110]/\bs [104,97,115,104]≠bs [101,110,99]/\bs [104,97,115,104]≠bs [97,101,110,99]:=by decide
theorem eD (m:J0) (k:I1) (hk:∀x∈k,GoodT x) (CF:k.length<=1048576):∀(N:Nat) (t:Tm),t.size<=N->GK t->TY t->t.size<=40->∀h:AH,
  ∃v h',rc Q O3 [sl m 4 (A4 k),B8 t] h=some (v,h')/\WM h.fams.length true 4 (A4 (FL k N t)) v h'/\(FL k N t).length<=t.size/\(∃B,h'.boxes=h.boxes++B)/\h.fams.length<=h'.fams.length/\∀j,j<h.fams.length->h'.fams[j]?=h.fams[j]?:=by
 intro N
 induction N with
 |zero=>intro t hs;have:=t.size_pos;omega
 |succ N ih0 =>
  intro t hs hA hE h40 h;have ih:∀(t:Tm),t.size<=N->GK t->TY t->t.size<=40->∀h:AH,∃v F',UJ true h (rc Q O3 [sl m 4 (A4 k),B8 t] h)=some (v,⟨h.boxes,F'⟩)/\WM h.fams.length true 4 (A4 (FL k N t)) v ⟨h.boxes,F'⟩/\(FL k N t).length<=t.size/\h.fams.length<=F'.length/\∀j,j<h.fams.length->F'[j]?=h.fams[j]?:=by
   intro t a b c d h;obtain⟨v,h',e1,e2,e3,e4,e5,e6⟩:=ih0 t a b c d h;exact⟨v,h'.fams,Rm e1 (Js e2.a).2.2.2 e4,e2,e3,e5,e6⟩
  clear ih0;have AG:=(hA.good h40).ok;have hnil:∀X:AH,WM h.fams.length true 4 (A4 []) (.vs true 0 []) X:=λX=>.inl ⟨by simp,false,rfl⟩;have hone:∀X:AH,WM h.fams.length true 4 (A4 [t]) (sl (true,true) 4 [B8 t]) X:=λX=>.inl ⟨by simp,true,rfl⟩;have hks:=t.kids_size;have hsp:=t.size_pos;by_cases hK:t.kind=3
  .have hname:∀nm,t.name=nm->CI t nm=true:=λnm h=>JD.2 ⟨hK,h⟩;have hname':∀nm,t.name≠nm->CI t nm=false:=λnm h=>by
    cases hq:CI t nm with
    |false=>rfl
    |true=>exact absurd (JD.1 hq).2 h
   by_cases c1:t.name=bs [112,97,105,114]
   .obtain⟨a,b,La⟩:=Gr AG (hname _ c1) (.inl rfl);rw[La]at hks;simp only[Tm.sizes]at hks;have hx0:Ir (A4 t.kids) 0=some (B8 a):=by rw[La];rfl
    have hx1:Ir (A4 t.kids) 1=some (B8 b):=by rw[La];rfl
    have hB:FL k (N+1) t=FL k N a++FL k N b:=by rw[FL,if_pos (hname _ c1),M3,M3,La];rfl
    rw[hB];have am:a∈t.kids:=by rw[La];simp
    have bm:b∈t.kids:=by rw[La];simp
    obtain⟨bx,F⟩:=h;obtain⟨va,Fa,a1,a2,a3,a4,a5⟩:=ih a (by omega) (hA.kid am) (hE.kid am) (by omega) ⟨bx++[(B8 t).cells],F⟩;obtain⟨vb,Fb,b1,b2,b3,b4,b5⟩:=ih b (by omega) (hA.kid bm) (hE.kid bm) (by omega) ⟨bx++[(B8 t).cells],Fa⟩;simp only at a4 a5 b4 b5;have a2':WM F.length true 4 (A4 (FL k N a)) va ⟨bx++[(B8 t).cells],Fb⟩:=ls a2 b5;obtain⟨vc,Fc,p1,p2,p3,p4⟩:=jG (c:=G8 O3) (bytes:=56) (h:=⟨bx++[(B8 t).cells],Fb⟩) (show F.length<=_ by simp only;omega) a2' (Ta (b2.mono a4).a _) (by simp only[G5,maxLen,D7,xc];omega);rw[show A4 (FL k N a)++A4 (FL k N b)=A4 (FL k N a++FL k N b) from by simp[D7]]at p2;simp only at p1;simp only[H4,hK,c1]at a1 b1 p1;refine FM D9 λfr hl h0 h1=>?_;simp[D9]at hl h0 h1;simp[D9,hl,h0,h1,hK,c1,hx0,hx1,a1,b1,p1];exact⟨Lb p2 rfl,by omega,p3,λj hj=>(p4 j hj).trans ((b5 j (by omega)).trans (a5 j hj))⟩
   by_cases c2:t.name=bs [115,105,103,110]
   .obtain⟨a,b,La⟩:=Gr AG (hname _ c2) (.inr (.inr (.inr (.inl rfl))));rw[La]at hks;simp only[Tm.sizes]at hks;have hx0:Ir (A4 t.kids) 0=some (B8 a):=by rw[La];rfl
    have hB:FL k (N+1) t=FL k N a:=by rw[FL,hname' _ c1,hname _ c2,M3,La];rfl
    rw[hB];have am:a∈t.kids:=by rw[La];simp
    obtain⟨bx,F⟩:=h;obtain⟨va,Fa,a1,a2,a3,a4,a5⟩:=ih a (by omega) (hA.kid am) (hE.kid am) (by omega) ⟨bx++[(B8 t).cells],F⟩;simp only at a4 a5;simp only[H4,hK,c2]at a1;refine FM D9 λfr hl h0 h1=>?_;simp[D9]at hl h0 h1;simp[D9,hl,h0,h1,Wb,hK,c2,hx0,a1];exact⟨Lb a2 rfl,by omega,a4,a5⟩
   by_cases c3:t.name=bs [101,110,99]
   .have hag:AV.agg [.int .i64 3,.str (bs [101,110,99]),.int .i64 t.sort,sl t.cm 4 (A4 t.kids)]=B8 t:=by rw[←hK,←c3];cases t;rfl
    obtain⟨a,b,La⟩:=Gr AG (hname _ c3) (.inr (.inl rfl));rw[La]at hks;simp only[Tm.sizes]at hks;have hx0:Ir (A4 t.kids) 0=some (B8 a):=by rw[La];rfl
    have hx1:Ir (A4 t.kids) 1=some (B8 b):=by rw[La];rfl
    have hB:FL k (N+1) t=if (Q7 k b).2=true then FL k N a else [t]:=by rw[FL,hname' _ c1,hname' _ c2,hname _ c3,M3,M3,La];rfl
    rw[hB];have am:a∈t.kids:=by rw[La];simp
    have bm:b∈t.kids:=by rw[La];simp
    have hC:=Vf m k b hk ((hA.kid bm).good (by omega)) CF;obtain⟨bx,F⟩:=h;obtain⟨va,Fa,a1,a2,a3,a4,a5⟩:=ih a (by omega) (hA.kid am) (hE.kid am) (by omega) ⟨bx++[(B8 t).cells],F⟩;simp only at a4 a5;simp only[H4,hK,c3]at a1;cases hd:(Q7 k b).2 with
    |true =>
     rw[hd]at hC;rw[if_pos rfl];refine FM D9 λfr hl h0 h1=>?_;simp[D9]at hl h0 h1;simp[D9,hl,h0,h1,Wb,hK,c3,hx0,hx1,hC,a1];exact⟨Lb a2 rfl,by omega,a4,a5⟩
    |false =>
     rw[hd]at hC;rw[if_neg (by simp)];refine FM D9 λfr hl h0 h1=>?_;simp[D9]at hl h0 h1;simp[D9,hl,h0,h1,Wb,hK,c3,hx1,hC,hag,A3];exact⟨hone _,by omega⟩
   by_cases c4:t.name=bs [97,101,110,99]
   .have hag:AV.agg [.int .i64 3,.str (bs [97,101,110,99]),.int .i64 t.sort,sl t.cm 4 (A4 t.kids)]=B8 t:=by rw[←hK,←c4];cases t;rfl
    obtain⟨a,b,La⟩:=Gr AG (hname _ c4) (.inr (.inr (.inl rfl)));rw[La]at hks;simp only[Tm.sizes]at hks;have am:a∈t.kids:=by rw[La];simp
    have bm:b∈t.kids:=by rw[La];simp
    have hb:=hE.root (hname _ c4);rw[show M3 t 1=b from by rw[M3,La];rfl]at hb;obtain⟨p1,p2⟩:=JD.1 hb;have hbok:=((hA.kid bm).good (by omega)).ok;obtain⟨c,hc⟩:=hbok.one p1 (by rw[p2];exact .inl rfl);have hsz2:=b.kids_size;rw[hc]at hsz2;simp only[Tm.sizes]at hsz2;have hx0:Ir (A4 t.kids) 0=some (B8 a):=by rw[La];rfl
    have hx1:Ir (A4 t.kids) 1=some (B8 b):=by rw[La];rfl
    have hy0:Ir (A4 b.kids) 0=some (B8 c):=by rw[hc];rfl
    have hB:FL k (N+1) t=if (Q7 k c).2=true then FL k N a else if (Q7 k a).2=true then []else [t]:=by rw[FL,hname' _ c1,hname' _ c2,hname' _ c3,hname _ c4,M3,M3,La,M3];simp only[List.getD_cons_succ,List.getD_cons_zero,hc];rfl
    rw[hB];have hC:=Vf m k c hk (((hA.kid bm).kid (by rw[hc];simp)).good (by omega)) CF;have hC2:=Vf m k a hk ((hA.kid am).good (by omega)) CF;obtain⟨bx,F⟩:=h;obtain⟨va,Fa,a1,a2,a3,a4,a5⟩:=ih a (by omega) (hA.kid am) (hE.kid am) (by omega) ⟨bx++[(B8 t).cells],F⟩;simp only at a4 a5;simp only[H4,hK,c4]at a1;cases hd:(Q7 k c).2 with
    |true =>
     rw[hd]at hC;rw[if_pos rfl];refine FM D9 λfr hl h0 h1=>?_;simp[D9]at hl h0 h1;simp[D9,hl,h0,h1,Wb,hK,c4,hx0,hx1,hy0,hC,a1];exact⟨Lb a2 rfl,by omega,a4,a5⟩
    |false =>
     rw[hd]at hC;rw[if_neg (by simp)];cases hd2:(Q7 k a).2 with
     |true =>
      rw[hd2]at hC2;rw[if_pos rfl];refine FM D9 λfr hl h0 h1=>?_;simp[D9]at hl h0 h1;simp[D9,hl,h0,h1,Wb,hK,c4,hx0,hx1,hy0,hC,hC2];exact hnil _
     |false =>
      rw[hd2]at hC2;rw[if_neg (by simp)];refine FM D9 λfr hl h0 h1=>?_;simp[D9]at hl h0 h1;simp[D9,hl,h0,h1,Wb,hK,c4,hx0,hx1,hy0,hC,hC2,hag,A3];exact⟨hone _,by omega⟩
   by_cases c5:t.name=bs [104,97,115,104]
   .have hag:AV.agg [.int .i64 3,.str (bs [104,97,115,104]),.int .i64 t.sort,sl t.cm 4 (A4 t.kids)]=B8 t:=by rw[←hK,←c5];cases t;rfl
    obtain⟨a,La⟩:=AG.one hK (by rw[c5];exact .inr (.inl rfl));rw[La]at hks;simp only[Tm.sizes]at hks;have hx0:Ir (A4 t.kids) 0=some (B8 a):=by rw[La];rfl
    have hB:FL k (N+1) t=if (Q7 k a).2=true then []else [t]:=by rw[FL,hname' _ c1,hname' _ c2,hname' _ c3,hname' _ c4,hname _ c5,M3,La];rfl
    rw[hB];have am:a∈t.kids:=by rw[La];simp
    have hC:=Vf m k a hk ((hA.kid am).good (by omega)) CF;cases hd:(Q7 k a).2 with
    |true =>
     rw[hd]at hC;rw[if_pos rfl];refine FM D9 λfr hl h0 h1=>?_;simp[D9]at hl h0 h1;simp[D9,hl,h0,h1,Wb,hK,c5,hx0,hC];exact hnil _
    |false =>
     rw[hd]at hC;rw[if_neg (by simp)];refine FM D9 λfr hl h0 h1=>?_;simp[D9]at hl h0 h1;simp[D9,hl,h0,h1,Wb,hK,c5,hx0,hC,hag,A3];exact⟨hone _,by omega⟩
   have hB:FL k (N+1) t=[]:=by rw[FL,hname' _ c1,hname' _ c2,hname' _ c3,hname' _ c4,hname' _ c5];rfl
   rw[hB];refine FM D9 λfr hl h0 h1=>?_;simp[D9]at hl h0 h1;simp[D9,hl,h1,hK,c1,c2,c3,c4,c5];exact hnil _
  .obtain⟨bx,F⟩:=h;have hB:FL k (N+1) t=[]:=by
    have hn:∀nm,CI t nm=false:=λnm=>by simp[CI,hK]
    rw[FL];simp[hn]
   rw[hB];refine FM D9 λfr hl h0 h1=>?_;simp[D9]at hl h0 h1;simp[D9,hl,h1,hK];exact hnil _
end Go.Abs.Q
