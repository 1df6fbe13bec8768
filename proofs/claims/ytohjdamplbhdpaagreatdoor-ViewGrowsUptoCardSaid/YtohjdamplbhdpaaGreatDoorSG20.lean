/- A part of the proof. -/
import Derived.Test.YtohjdamplbhdpaaGreatDoorSG19
set_option linter.all false
open List renaming getElem?_eq_getElem->xk,getD_eq_getElem?_getD->xl,mem_of_getElem?->xn,getElem?_eq_some_iff->xo,take_succ_eq_append_getElem->xt,getElem!_eq_getElem?_getD->xu,eq_nil_of_length_eq_zero->xw,replicate->xy,getElem?_map->yA,all_eq_true->yB,getElem_mem->yC,append_nil->yE,singleton_append->yF,append_assoc->yJ,take_length->yL,range->yM,map_take->yO,mem_map->yQ
open Nat renaming le_refl->xm,mul_comm->yD,zero_le->yK,add_zero->yR,le_of_eq->yS
open Array renaming range->xp,getD_eq_getD_getElem?->xq,getElem?_eq_getElem->xr,getElem?_append_left->xz,getElem_toList->yG
open Int renaming lt_or_gt_of_ne->yH,lt_or_le->yI,le_total->yP,not_lt->yT
open Option renaming map_some->yN
namespace Go.Abs
open Go.RowKit (Below)
open Go.Proofs (ltOf CmpLays sortWorldK)
open Go.Shelf (Ren)
section
variable {P:Program} {O:Orc} {E:Env}
theorem LQ {g:FuncId} {caps xs:E6} (h:SortOk O g caps xs):(CT O g caps xs).toList.Perm (yM xs.length)/\Go.Sort.SortedIn (ltOf (cc O g caps xs)) 0 xs.length (CT O g caps xs):=by
 have hs:(xp xs.length).size=xs.length:=by simp
 have:=Go.Sort.pdq_sorts (ltOf (cc O g caps xs)) h.swo (xp xs.length) 0 xs.length (Lib.bitLen xs.length) true true (yK _) (by rw[hs];exact xm _) (Or.inl rfl);refine⟨?_,this.2⟩;obtain⟨h1,h2,h3⟩:=this.1;have e1:∀d:Array Nat,d.size=xs.length->d.extract 0 xs.length=d:=λd hd=>by rw[←hd];simp
 rw[e1 _ hs,e1 _ (h1.trans hs)]at h3;unfold CT;simpa using h3
theorem PP {g:FuncId} {caps xs:E6} (h:SortOk O g caps xs):(CT O g caps xs).size=xs.length:=by
 have:=(LQ h).1.length_eq;simpa using this
theorem aD {g:FuncId} {caps xs:E6} (h:SortOk O g caps xs) {i:Nat} (hi:i<(CT O g caps xs).size):(CT O g caps xs)[i]! < xs.length:=by
 have hm:(CT O g caps xs)[i]!∈(CT O g caps xs).toList:=by
  rw[getElem!_pos _ i hi];exact Array.getElem_mem_toList hi
 have:=(LQ h).1.mem_iff.1 hm;simpa using this
def Hl (cur:Array Value) (off K n i:Nat):List Value:=(yM K).map λc=>cur.getD (off+W1 n i*K+c) undef
theorem Wr {cur:Array Value} {off K n i:Nat}:(Hl cur off K n i).length=K:=by simp[Hl]
theorem Ri {cur:Array Value} {off K n i c:Nat} (hc:c<K):(Hl cur off K n i)[c]?=some (cur.getD (off+W1 n i*K+c) undef):=by simp[Hl,hc]
theorem JE.enc {cur:Array Value} {off K n i:Nat} {x:AV} (hi:i<n) (h:JE E cur (off+i*K) K x):(∀v∈Hl cur off K n i,v.oneCell'=true)/\BT E.w E.ok x.cells (Hl cur off K n i):=by
 have Cc:W1 n i=i:=by unfold W1;rw[if_pos hi]
 obtain⟨h1,h2⟩:=h;have key:∀c,c<K->∃y,x.cells[c]?=some y/\(cur.getD (off+i*K+c) undef).oneCell'=true/\PV E.w E.ok y (cur.getD (off+i*K+c) undef):=by
  intro c hc;have A6:c<x.cells.length:=by omega
  obtain⟨v,e1,e2,e3⟩:=h2 c _ (xk A6);refine⟨_,xk A6,?_⟩;have:cur.getD (off+i*K+c) undef=v:=by rw[xq,e1];rfl
  rw[this];exact⟨e2,e3⟩
 constructor
 .intro v hv;unfold Hl at hv;rw[yQ]at hv;obtain⟨c,hc,rfl⟩:=hv;rw[Cc];obtain⟨_,_,k,_⟩:=key c (by simpa using hc);exact k
 .refine PZ (by rw[Wr];exact h1.symm) λc y u hy hu=>?_;have hc:c<K:=by have:=(xo.1 hy).1;omega
  rw[Ri hc,Cc]at hu;cases hu;obtain⟨y',e1,_,e3⟩:=key c hc;rw[hy]at e1;cases e1;exact e3
theorem SM {k:Nat} {f:Fam} (hf:E.h.fams[k]?=some f) (hw:f.wr=true) (hS:SR E) {b o:Nat} (ho:E.ok b o):b≠(E.im k).b:=by
 intro e;rcases ho with ⟨h1,_⟩|⟨_,_,_,h4⟩
 .have:=(hS.fams k f hf).base;omega
 .have:=(h4 k f hf e.symm).1;rw[hw]at this;cases this
theorem Sv {enc:Nat->List Value} {K blk off m:Nat} {dk:Array Nat} {os:Array Obj} {w:World} {b o:Nat} (hb:b<w.heap.size) (M5:b≠blk):GJ w (sortWorldK enc K w blk off m dk os) b o:=by
 have hh:(sortWorldK enc K w blk off m dk os).heap[b]?=w.heap[b]?:=by
  unfold sortWorldK Go.Sort.grow;show ((Go.Sort.putRowK enc K (Go.Sort.ahead w m) blk off dk).heap++os)[b]?=_;have K4:(Go.Sort.putRowK enc K (Go.Sort.ahead w m) blk off dk).heap.size=w.heap.size:=Go.Sort.size_putRowK _ _ _ _ _ _;rw[xz (by rw[K4];exact hb)];unfold Go.Sort.putRowK Go.Sort.putRow Go.Sort.mapBlock;simp only[Array.getElem?_modify];rw[if_neg (λe=>M5 e.symm)];rfl
 exact Gx hh
theorem aF {ρ:Ren} (L:Go.Proofs.SlLaysF0.n6 P ρ) (hen:Program.enterable P (ρ.f 6)=true) (K:Nat) (aE:∀w,(isAgg (ρ.t 24)).run P w=.ok true w) (zE:∀w,(Go.sizeOf (ρ.t 24)).run P w=.ok K w)
  (hP:Ld P O) (args:List AV) (h:AH) (r:AV) (h':AH) (he:(Up K).run O args h=some (r,h')):Program.enterable P (ρ.f 6)=true /\
  ∀(E:Env) (vs:Array Value),SR E->E.h=h->x6 E args vs.toList ->
   Calls P (ρ.f 6) vs E.w λe w'=>∃u E',e=.returned u/\w'=E'.w/\Ext E E'/\SR E'/\E'.h=h'/\VR E' r u:=by
 refine⟨hen,λE vs hS hh hv=>?_⟩;subst hh;change HD K O args E.h=some (r,h')at he;unfold HD at he;split at he
 .rename_i k n off len g caps;split at he
  .rename_i f hf;split at he
   .rename_i hc;obtain⟨c1,rfl,c3,c4,c5,c6,c7,c8,c9,AK⟩:=hc;cases he;subst c1;subst c3;obtain⟨vs⟩:=vs;simp only[x6]at hv;obtain⟨v0,_,rfl,hv0,v1,_,rfl,hv1,rfl⟩:=hv;simp only[VR]at hv0 hv1;obtain⟨a,cap,f',rfl,hf',⟨_,_⟩,hv0⟩:=hv0;rw[hf]at hf';cases hf';obtain⟨us,rfl,Qq⟩:=hv1;obtain⟨l1,_,l3,_,l5⟩:=hv0 rfl;have OE:(E.im k).lo=0:=by omega
    have hfam:=hS.fams k f hf;have t6:=hfam.room;have hcap:cap=(E.im k).cap:=by omega
    have ha:a=some ⟨(E.im k).b,(E.im k).o,none⟩:=by
     have:=l5 (by omega);rw[OE]at this;simpa using this
    subst ha;obtain⟨cur,t,hcur,BU,Pj⟩:=hfam.cells;rw[OE]at Pj;have hel':∀(i:Nat) (x:AV),f.xs[i]?=some x->JE E cur ((E.im k).o+i*K) K x:=λi x hx=>by
     have:=Pj i x (yK _) hx;rw[c7]at this;simpa using this
    rw[c7]at BU;generalize hn:f.xs.length=n at *
    have hblk:=hS.im_lt (xo.1 hf).1;generalize hb:(E.im k).b=blk at *
    generalize ho:(E.im k).o=off at *
    have hnK:off+n*K<=cur.size:=by
     have:n*K<=(E.im k).cap*K:=Nat.mul_le_mul_right _ (by omega);omega
    have hget:∀i,i<n->∃x,f.xs[i]?=some x:=λi hi=>⟨_,xk (by omega)⟩;have henc:∀i,(∀v∈Hl cur off K n i,v.oneCell'=true)/\∃cs,f.xs.getD (W1 n i) A9=.agg cs/\BT E.w E.ok cs (Hl cur off K n i):=by
     intro i;obtain⟨x,hx⟩:=hget (W1 n i) (FY c4);have e1:Hl cur off K n i=Hl cur off K n (W1 n i):=by
      unfold Hl;have:W1 n (W1 n i)=W1 n i:=by
       have:=FY (i:=i) c4;show (if W1 n i<n then W1 n i else 0)=_
       rw[if_pos this]
      rw[this]
     obtain⟨k1,k2⟩:=(hel' _ x hx).enc (FY c4);rw[e1];refine⟨k1,?_⟩;have hag:x.isAgg=true:=yB.1 c9 x (xn hx);have hgd:f.xs.getD (W1 n i) A9=x:=by rw[xl,hx];rfl
     rw[hgd];cases x<;>simp only[AV.isAgg]at hag<;>try (cases hag;done)
     exact⟨_,rfl,k2⟩
    have hfr:E.w.heap[blk]?=some (.cells cur t (0,0)):=hcur;have hH:Go.Sort.HoldsK (Hl cur off K n) K E.w blk off (xp n):=by
     intro j hj;rw[Go.Sort.size_flatK]at hj;have hK:0<K:=by
                rcases Nat.eq_zero_or_pos K with h|h;· subst h;simp at hj
                .exact h
     have hjs:j<n*K:=by simpa using hj
     have hdiv:j / K<n:=Nat.div_lt_of_lt_mul (by rw[yD];exact hjs);have hmod:j % K<K:=Nat.mod_lt _ hK;have hjj:j / K*K+j % K=j:=by rw[yD];exact Nat.div_add_mod j K
     rw[Go.Sort.get_flatK _ _ _ _ hj];have e1:(xp n)[j / K]! = j / K:=by rw[getElem!_pos _ _ (by simpa using hdiv)];simp
     rw[e1];have e2:(Hl cur off K n (j / K))[j % K]! = cur.getD (off+j) undef:=by
      have:=Ri (cur:=cur) (off:=off) (n:=n) (i:=j / K) hmod;rw[show W1 n (j / K)=j / K from by unfold W1;rw[if_pos hdiv],Nat.add_assoc,hjj]at this;rw[xu,this];rfl
     rw[e2];refine⟨?_,by unfold World.frozen?;rw[hfr];simp⟩;rw[cell_of_row _ _ _ _ _ _ hfr,xq,xr (by omega)];rfl
    have hcmp:CmpLays P g us (Hl cur off K n) K (cc O g caps f.xs) blk off (xp n).size E.w:=by
     intro m os dk hdk x y;obtain⟨_,csx,ex,px⟩:=henc x;obtain⟨_,csy,ey,py⟩:=henc y;obtain⟨c,hc⟩:=AK.ans (W1 n x) (W1 n y) (by rw[hn];exact FY c4) (by rw[hn];exact FY c4);have hcf:cc O g caps f.xs x y=c:=by unfold cc VH;rw[hn,hc]
     rw[hcf];rw[ex,ey]at hc;obtain⟨_,hcalls⟩:=hP g _ _ hc;have DH:∀b o,E.ok b o->E.ok b o/\GJ E.w (sortWorldK (Hl cur off K n) K E.w blk off m dk os) b o:=λb o hbo =>
      ⟨hbo,Sv (PA hS hbo) (by rw[←hb];exact SM hf c6 hS hbo)⟩
     have hcp:BT E.w E.ok caps us.toList:=by
      refine PZ (Ej Qq).1 λj z u hz hu=>?_;obtain⟨u',hu',hvr⟩:=(Ej Qq).2 hz;rw[hu]at hu';cases hu';exact RB hvr (yB.1 c8 z (xn hz))
     have hpv:BT (sortWorldK (Hl cur off K n) K E.w blk off m dk os) E.ok ([.agg csx,.agg csy]++caps) (#[Value.agg (Hl cur off K n x).toArray,Value.agg (Hl cur off K n y).toArray]++us).toList:=by
      refine W0 DH _ _ ?_;simp only[Array.toList_append,List.cons_append,List.nil_append,BT,PV];exact⟨_,_,rfl,⟨_,rfl,(henc x).1,px⟩,_,_,rfl,⟨_,rfl,(henc y).1,py⟩,hcp⟩
     refine(hcalls _ E.ok _ (λb o hbo=>Nat.lt_of_lt_of_le (PA hS hbo) (Go.Proofs.size_sortWorldK_c _ _ _ _ _ _ _ _)) hpv).mono λe w' ⟨u,h1,h2,h3⟩=>?_;simp only[PV]at h3;subst h3;exact⟨h1,ZQ h2⟩
    have hcalls:=Go.Proofs.AnyQ.slices_SortFunc_eq L K aE zE (Hl cur off K n) (λ_=>Wr) (λx=>(henc x).1) (cc O g caps f.xs) AK.swo g us blk off cap (xp n) E.w
     (λargs w=>Ws (hP g _ _ (AK.ans 0 0 (by omega) (by omega)).choose_spec).1 args w) hcmp hH hblk.2 (by simpa using c5)
    rw[show (xp n).size=n from by simp]at hcalls;refine hcalls.mono λe w' ⟨h1,m,os,h2⟩=>?_;have hidx:Go.Sort.pdq (ltOf (cc O g caps f.xs)) (xp n) 0 n (Lib.bitLen n) true true=CT O g caps f.xs:=by unfold CT;rw[hn]
    rw[hidx]at h2;have K4:=PP AK;rw[hn]at K4;generalize hd:CT O g caps f.xs=d at *
    have A6:∀i,i<n->d[i]! < n:=λi hi=>by have:=aD AK (i:=i) (by rw[hd];omega);rw[hd]at this;omega
    have hA:Bl E.w.heap.size E.w (Go.Sort.ahead E.w m):=⟨⟨rfl,rfl,rfl,xm _,λ_ _=>rfl⟩,Nat.le_add_right _ _⟩;have x1:=AJ hS hA;have s1:=Do hS hA;have hcur1:({E with w:=Go.Sort.ahead E.w m}:Env).w.heap[(({E with w:=Go.Sort.ahead E.w m}:Env).im k).b]?=some (.cells cur t (0,0)):=by
     show E.w.heap[(E.im k).b]?=_;rw[hb];exact hcur
    have hf1:({E with w:=Go.Sort.ahead E.w m}:Env).h.fams[k]?=some f:=hf
    have hfl:f.xs.length=({f with xs:=d.toList.map λi=>f.xs.getD i A9}:Fam).xs.length:=by simp;omega
    have x2:=Gf s1 hf1 (us:=Go.Sort.putCells id off (Go.Sort.flatK (Hl cur off K n) K d) cur) (f':={f with xs:=d.toList.map λi=>f.xs.getD i A9}) hcur1 rfl rfl (yS hfl) (λhw=>by rw[c6]at hw;cases hw)
    have s2:=KT s1 hf1 (us:=Go.Sort.putCells id off (Go.Sort.flatK (Hl cur off K n) K d) cur) (f':={f with xs:=d.toList.map λi=>f.xs.getD i A9}) hcur1 rfl rfl (yS hfl) (λhw=>by rw[c6]at hw;cases hw)
     (by rw[←hfl];show f.xs.length<=(E.im k).lo+(E.im k).cap;omega) Td (by
      intro i x _ hx;show JE _ _ ((E.im k).o+(i-(E.im k).lo)*f.sz) f.sz x;rw[OE,ho,c7,Nat.sub_zero];simp only[yA]at hx;have hi:i<n:=by
       rcases Nat.lt_or_ge i n with h|h
       .exact h
       .rw[List.getElem?_eq_none (by simp;omega)]at hx;cases hx
      have hdi:d.toList[i]?=some d[i]!:=by
       rw[getElem!_pos _ i (by omega)];simp[xr (show i<d.size by omega)]
      rw[hdi]at hx;simp only[yN,Option.some.injEq]at hx;obtain⟨x',hx'⟩:=hget _ (A6 i hi);have fD:x'=x:=by rw[←hx,xl,hx'];rfl
      subst fD;obtain⟨g1,g2⟩:=(hel' _ _ hx').ext x1;refine⟨g1,λc y hy=>?_⟩;have hcK:c<K:=by have:=(xo.1 hy).1;omega
      obtain⟨v,e1,e2,e3⟩:=g2 c y hy;refine⟨v,?_,e2,e3⟩;have hik:i*K+c<n*K:=BE hi hcK;have hK0:0<K:=by omega
      rw[VT,xr (show off+i*K+c<cur.size by omega),yN,if_pos ⟨by omega,by rw[Go.Sort.size_flatK,K4];omega⟩];rw[show off+i*K+c-off=i*K+c from by omega,Go.Sort.get_flatK _ _ _ _ (by rw[K4];exact hik)];have q1:(i*K+c) / K=i:=by rw[yD,Nat.mul_add_div hK0,Nat.div_eq_of_lt hcK,yR]
      have q2:(i*K+c) % K=c:=by rw[yD,Nat.mul_add_mod,Nat.mod_eq_of_lt hcK]
      rw[q1,q2];have:=Ri (cur:=cur) (off:=off) (n:=n) (i:=d[i]!) hcK;rw[show W1 n d[i]! = d[i]! from by unfold W1;rw[if_pos (A6 i hi)]]at this;rw[xu,this];simp only[Option.getD_some];rw[xq,e1];rfl)
    generalize hE2:({E with w:=Go.Sort.ahead E.w m}:Env).setFam k (Go.Sort.putCells id off (Go.Sort.flatK (Hl cur off K n) K d) cur) {f with xs:=d.toList.map λi=>f.xs.getD i A9}=E2 at x2 s2
    have hw2:E2.w=Go.Sort.putRowK (Hl cur off K n) K (Go.Sort.ahead E.w m) blk off d:=by
     rw[←hE2];show (Go.Sort.ahead E.w m).setRow (E.im k).b _=_;rw[hb];exact(QA (w:=Go.Sort.ahead E.w m) hcur).symm
    have hB3:Bl E2.w.heap.size E2.w (Go.Sort.grow E2.w os):=by
     refine⟨⟨rfl,rfl,rfl,?_,λi hi=>?_⟩,xm _⟩
     .simp[Go.Sort.grow]
     .show (E2.w.heap++os)[i]?=_;rw[xz hi]
    refine⟨.tuple #[],{E2 with w:=Go.Sort.grow E2.w os},h1,?_,(x1.trans x2).trans (AJ s2 hB3),Do s2 hB3,?_,Cd _⟩
    .rw[h2];show _=Go.Sort.grow E2.w os;rw[hw2];rfl
    .show E2.h=_;rw[←hE2];rfl
   .cases he
  .cases he
 .rename_i q z xs g caps;split at he
  .rename_i h0;cases he;obtain⟨vs⟩:=vs;simp only[x6]at hv;obtain⟨v0,_,rfl,hv0,v1,_,rfl,hv1,rfl⟩:=hv;simp only[VR,PV]at hv0;obtain⟨a,len,cap,rfl,hl,_⟩:=hv0;have B4:len=0\/len=1:=by omega
   rcases B4 with B4|B4
   .subst B4;refine(Go.Proofs.AnyF.slices_SortFunc_none L a cap v1 E.w).mono λe w' ⟨h1,h2⟩=>?_;exact⟨_,E,h1,h2,Ext.refl E,hS,rfl,Cd _⟩
   .subst B4;refine(en L a cap v1 E.w).mono λe w' ⟨h1,h2⟩=>?_;exact⟨_,E,h1,h2,Ext.refl E,hS,rfl,Cd _⟩
  .cases he
 .cases he
end
end Go.Abs
namespace Go.Abs.Q
open Go.Proofs
def T3 (x y z:Int):Prop:=(x<=0->y<=0->z<=0/\(z=0->x=0/\y=0))/\(0<=x->0<=y->0<=z/\(z=0->x=0/\y=0))
theorem Tn {x y z x' y' z':Int} (h:T3 x y z) (h':x=0->y=0->T3 x' y' z'):T3 (nz x x') (nz y y') (nz z z'):=by
 unfold T3 nz at *
 by_cases hx:x=0
 .by_cases hy:y=0
  .have hz:z=0:=by
    have h1:=(h.1 (by omega) (by omega)).1;have h2:=(h.2 (by omega) (by omega)).1;omega
   rw[if_pos hx,if_pos hy,if_pos hz];exact h' hx hy
  .rw[if_pos hx,if_neg hy];have hz:z≠0:=by
    intro hz;rcases yH hy with hl|hl
    .exact hy ((h.1 (by omega) (by omega)).2 hz).2
    .exact hy ((h.2 (by omega) (by omega)).2 hz).2
   rw[if_neg hz];refine⟨λ_ hy'=>⟨(h.1 (by omega) hy').1,λe=>absurd e hz⟩,λ_ hy'=>⟨(h.2 (by omega) hy').1,λe=>absurd e hz⟩⟩
 .rw[if_neg hx];by_cases hy:y=0
  .rw[if_pos hy];have hz:z≠0:=by
    intro hz;rcases yH hx with hl|hl
    .exact hx ((h.1 (by omega) (by omega)).2 hz).1
    .exact hx ((h.2 (by omega) (by omega)).2 hz).1
   rw[if_neg hz];refine⟨λhx' _=>⟨(h.1 hx' (by omega)).1,λe=>absurd e hz⟩,λhx' _=>⟨(h.2 hx' (by omega)).1,λe=>absurd e hz⟩⟩
  .rw[if_neg hy];refine⟨λa b=>?_,λa b=>?_⟩
   .have hz:z≠0:=λhz=>hx ((h.1 a b).2 hz).1;rw[if_neg hz];exact h.1 a b
   .have hz:z≠0:=λhz=>hx ((h.2 a b).2 hz).1;rw[if_neg hz];exact h.2 a b
theorem VB (a b c:Int):T3 (EU a b) (EU b c) (EU a c):=by
 unfold T3 EU;by_cases h1:a<b<;>by_cases h2:b<c<;>by_cases h3:a<c<;>by_cases h4:b<a<;>by_cases h5:c<b<;>by_cases h6:c<a<;>simp[h1,h2,h3,h4,h5,h6]<;>omega
theorem Ky:∀{a b c:List UInt8},Op.bytesLess a b=true->Op.bytesLess b c=true->Op.bytesLess a c=true
 | [],_,[],h,k=>by cases ‹List UInt8›<;>simp[Op.bytesLess]at h k
 | [],_,_::_,_,_=>rfl
 |x::a,[],c,h,_=>by simp[Op.bytesLess]at h
 |x::a,y::b,[],_,k=>by simp[Op.bytesLess]at k
 |x::a,y::b,z::c,h,k=>by
  have ih:=@Ky a b c;simp only[Op.bytesLess,Bool.or_eq_true,decide_eq_true_eq,Bool.and_eq_true,beq_iff_eq]at h k ⊢;rcases h with h|⟨rfl,h⟩
  .rcases k with k|⟨rfl,k⟩
   .exact .inl (UInt8.lt_trans h k)
   .exact .inl h
  .rcases k with k|⟨rfl,k⟩
   .exact .inl k
   .exact .inr ⟨rfl,ih h k⟩
theorem Kx:∀{a b:List UInt8},a≠b->Op.bytesLess a b=true\/Op.bytesLess b a=true
 | [],[],h=>absurd rfl h
 | [],_::_,_=>.inl rfl
 |_::_,[],_=>.inr rfl
 |x::a,y::b,h=>by
  simp only[Op.bytesLess];by_cases h1:x<y
  .simp[h1]
  .by_cases h2:y<x
   .simp[h2]
   .have:x=y:=UInt8.le_antisymm (UInt8.not_lt.1 h2) (UInt8.not_lt.1 h1);subst this;have ih:=@Kx a b (λe=>h (by rw[e]));simp[h1];exact ih
theorem fR (a b c:H7):T3 (Q9 a b) (Q9 b c) (Q9 a c):=by
 have key:∀a b c:List UInt8,T3 (if Op.bytesLess a b then -1 else if a=b then 0 else 1) (if Op.bytesLess b c then -1 else if b=c then 0 else 1) (if Op.bytesLess a c then -1 else if a=c then 0 else 1):=by
  intro a b c;have irr:=Ry;unfold T3;by_cases h1:Op.bytesLess a b=true
  .by_cases h2:Op.bytesLess b c=true
   .have h3:=Ky h1 h2;simp[h1,h2,h3]
   .by_cases e:b=c
    .subst e;simp[h1,irr]
    .have h3:=(Kx e).resolve_left h2;simp[h1,h2,e]
  .by_cases e:a=b
   .subst e;rw[if_neg h1,if_pos rfl];generalize (if Op.bytesLess a c then (-1:Int)else if a=c then 0 else 1)=q
    exact⟨λ_ h=>⟨h,λe=>⟨rfl,e⟩⟩,λ_ h=>⟨h,λe=>⟨rfl,e⟩⟩⟩
   .have h3:=(Kx e).resolve_left h1;by_cases h2:Op.bytesLess b c=true
    .simp[h1,e,h2]
    .by_cases e2:b=c
     .subst e2;simp[h1,e,h2]
     .have h4:=(Kx e2).resolve_left h2;have h5:=Ky h4 h3;have h6:Op.bytesLess a c=false:=by
       cases h:Op.bytesLess a c with
       |false=>rfl
       |true=>have:=Ky h h5;rw[irr]at this;cases this
      have h7:a≠c:=λh=>by subst h;rw[irr]at h5;cases h5
      simp[h1,e,h2,e2,h6,h7]
 unfold Q9;exact key _ _ _
theorem qX:∀(n:Nat) (a b c:Tm),a.size<=n->T3 (H0 a b) (H0 b c) (H0 a c):=by
 intro n
 induction n with
 |zero=>intro a _ _ h;have:=a.size_pos;omega
 |succ n ih =>
  intro a b c hn;obtain⟨k,nm,s,m,l⟩:=a;obtain⟨k',nm',s',m',l'⟩:=b;obtain⟨k2,nm2,s2,m2,l2⟩:=c;have K4:Tm.size (.mk k nm s m l)=1+Tm.sizes l:=rfl;simp only[H0];refine Tn (VB _ _ _) λ_ _=>Tn (VB _ _ _) λ_ _=>Tn (fR _ _ _) λ_ _=>Tn (VB _ _ _) λ_ _=>Tn (VB _ _ _) λh1 h2=>?_;have e1:=Oj h1;have e2:=Oj h2;have:∀l l' l2:List Tm,Tm.sizes l<=n->l.length=l'.length->l'.length=l2.length->T3 (FJ l l') (FJ l' l2) (FJ l l2):=by
   intro l
   induction l with
   |nil =>
    intro l' l2 _ h1 h2;have:l'=[]:=xw h1.symm;subst this;simp only[NE];unfold T3;omega
   |cons a l ihl =>
    intro l' l2 hs h1 h2;cases l' with
    |nil=>simp at h1
    |cons b l' =>
     cases l2 with
     |nil=>simp at h2
     |cons c l2 =>
      simp only[Tm.sizes]at hs;simp only[FJ];exact Tn (ih a b c (by omega)) λ_ _=>ihl l' l2 (by omega) (by simpa using h1) (by simpa using h2)
  exact this l l' l2 (by omega) e1 e2
theorem cP (a b c:Tm):T3 (H0 a b) (H0 b c) (H0 a c):=qX _ a b c (xm _)
theorem KF (a:Tm):H0 a a=0:=VI _ a a (xm _) rfl
theorem KG {a b:Tm}:(H0 a b<0↔0<H0 b a)/\(H0 a b=0↔H0 b a=0):=by
 have h:=cP a b a;rw[KF]at h;unfold T3 at h;have h1:H0 a b<=0->H0 b a<=0->H0 a b=0/\H0 b a=0:=λp q=>(h.1 p q).2 rfl;have h2:0<=H0 a b->0<=H0 b a->H0 a b=0/\H0 b a=0:=λp q=>(h.2 p q).2 rfl;constructor<;>constructor<;>intro hh
 .rcases yI 0 (H0 b a)with q|q
  .exact q
  .have:=h1 (by omega) q;omega
 .rcases yI (H0 a b) 0 with q|q
  .exact q
  .have:=h2 q (by omega);omega
 .rcases yP 0 (H0 b a)with q|q
  .exact(h2 (by omega) q).2
  .exact(h1 (by omega) q).2
 .rcases yP 0 (H0 a b)with q|q
  .exact(h2 q (by omega)).1
  .exact(h1 q (by omega)).1
theorem Ep {a b c:Tm} (h:H0 a b<0) (k:H0 b c<0):H0 a c<0:=by
 have:=(cP a b c).1 (by omega) (by omega);rcases Int.lt_or_eq_of_le this.1 with q|q
 .exact q
 .have:=this.2 q;omega
theorem bN {a b:Int}:nz a b=0↔a=0/\b=0:=by
 unfold nz;split<;>simp_all
theorem ci {a b:Int}:EU a b=0↔a=b:=by
 unfold EU;split
 .constructor<;>intro h<;>omega
 .split<;>constructor<;>intro h<;>omega
theorem cg {a b:H7}:Q9 a b=0↔a=b:=by
 unfold Q9;split
 .rename_i h;constructor
  .intro e;omega
  .intro e;subst e;rw[Ry]at h;cases h
 .split
  .rename_i h;simp[(N6 a b).1 h]
  .rename_i h;constructor
   .intro e;omega
   .intro e;exact absurd (by rw[e]) h
theorem jt:∀(n:Nat) (a b:Tm),a.size<=n->H0 a b=0->D5 a=D5 b:=by
 intro n
 induction n with
 |zero=>intro a _ h;have:=a.size_pos;omega
 |succ n ih =>
  intro a b hn h;obtain⟨k,nm,s,m,l⟩:=a;obtain⟨k',nm',s',m',l'⟩:=b;have K4:Tm.size (.mk k nm s m l)=1+Tm.sizes l:=rfl;simp only[H0,bN,ci,cg]at h;obtain⟨_,rfl,rfl,rfl,h1,h2⟩:=h;have e1:l.length=l'.length:=by omega
  have:∀l l':List Tm,Tm.sizes l<=n->l.length=l'.length->FJ l l'=0->G8 l=G8 l':=by
   intro l
   induction l with
   |nil=>intro l' _ h1 _;rw[xw h1.symm]
   |cons a l ihl =>
    intro l' hs h1 h2;cases l' with
    |nil=>simp at h1
    |cons b l' =>
     simp only[Tm.sizes]at hs;simp only[FJ,bN]at h2;simp only[G8,ih a b (by omega) h2.1,ihl l' (by omega) (by simpa using h1) h2.2]
  simp only[D5,this l l' (by omega) e1 h2]
theorem AF {a b:Tm}:H0 a b=0↔D5 a=D5 b:=⟨jt _ a b (xm _),VI _ a b (xm _)⟩
theorem Vf {α:Type} {R:α->α->Prop} {l:List α} (h:∀(i j:Nat) (hi:i<l.length) (hj:j<l.length),i<j->R l[i] l[j]):l.Pairwise R:=by
 rw[List.pairwise_iff_getElem];exact h
theorem PI (k:Nat) (h:AH) (l:I2) (hk:h.fams[k]?=some ⟨A3 l,4,true⟩) (M5:l≠[]) (K4:∀t∈l,t.size<=1099511627776) (C2:l.length<=1099511627776) :
  ∃l':List Tm,l'.Perm l/\l'.Pairwise (λa b=>H0 a b<=0)/\rc Q C9 [.sl k l.length 0 l.length,.fn A8 []] h=some (A9,⟨h.boxes,h.fams.set k ⟨A3 l',4,true⟩⟩):=by
 have hl:(A3 l).length=l.length:=by simp
 have N7:0<l.length:=List.length_pos_iff.2 M5;have hget:∀i,i<l.length->(A3 l).getD i A9=B8 (l.getD i (.mk 0 (bs []) 0 (true,true) [])):=by
  intro i hi;rw[D7,xl,xl,yA,xk hi];rfl
 have Jd:∀i,i<l.length->l.getD i (.mk 0 (bs []) 0 (true,true) [])∈l:=by
  intro i hi;rw[xl,xk hi];exact yC hi
 have hans:∀i j,i<l.length->j<l.length->(Q8 Q).pure A8 ([(A3 l).getD i A9,(A3 l).getD j A9]++[])=some (.int .i64 (H0 (l.getD i (.mk 0 (bs []) 0 (true,true) [])) (l.getD j (.mk 0 (bs []) 0 (true,true) [])))):=by
  intro i j hi hj;rw[hget i hi,hget j hj];exact Z4 _ _ _ (xm _) (K4 _ (Jd i hi)) (K4 _ (Jd j hj))
 have hcf:∀i j,cc (Q8 Q) A8 [] (A3 l) i j=H0 (l.getD (W1 l.length i) (.mk 0 (bs []) 0 (true,true) [])) (l.getD (W1 l.length j) (.mk 0 (bs []) 0 (true,true) [])):=by
  intro i j;unfold cc VH;rw[hl,hans _ _ (FY N7) (FY N7)]
 have AK:SortOk (Q8 Q) A8 [] (A3 l):=by
  refine⟨λi j hi hj=>⟨_,hans i j (by omega) (by omega)⟩,⟨λx=>?_,λx y z=>?_,λx y z=>?_⟩⟩
  .simp[ltOf,hcf,KF]
  .simp only[ltOf,hcf,decide_eq_true_eq];exact Ep
  .simp only[ltOf,hcf,decide_eq_false_iff_not,yT];intro a b;exact((cP _ _ _).2 a b).1
 obtain⟨p1,p2⟩:=LQ AK;have psz:=PP AK;rw[hl]at p1 p2 psz;have ay:rc Q C9 [.sl k l.length 0 l.length,.fn A8 []] h=some (A9,⟨h.boxes,h.fams.set k ⟨(CT (Q8 Q) A8 [] (A3 l)).toList.map λi=>(A3 l).getD i A9,4,true⟩⟩):=by
  refine JV (s:=Up 4) rfl rfl ?_;change HD 4 (Q8 Q) [.sl k l.length 0 l.length,.fn A8 []] h=_;unfold HD;simp only[hk];rw[if_pos ⟨hl,rfl,rfl,N7,by omega,rfl,rfl,rfl,by
   rw[yB];intro x hx;rw[D7,yQ]at hx;obtain⟨t,_,rfl⟩:=hx;cases t;rfl,AK⟩]
 generalize hd:CT (Q8 Q) A8 [] (A3 l)=d at *
 have A6:∀i∈d.toList,i<l.length:=λi hi=>by simpa using p1.mem_iff.1 hi
 have e1:(d.toList.map λi=>(A3 l).getD i A9)=A3 (d.toList.map λi=>l.getD i (.mk 0 (bs []) 0 (true,true) [])):=by
  rw[D7 (d.toList.map _),List.map_map];exact List.map_congr_left λi hi=>hget i (A6 i hi)
 refine⟨d.toList.map λi=>l.getD i (.mk 0 (bs []) 0 (true,true) []),?_,?_,by rw[ay,e1]⟩
 .have h1:=p1.map λi=>l.getD i (.mk 0 (bs []) 0 (true,true) []);have h2:(yM l.length).map (λi=>l.getD i (.mk 0 (bs []) 0 (true,true) []))=l:=by
   apply List.ext_getElem
   .simp
   .intro i g1 g2;simp[xl,g2]
  rw[h2]at h1;exact h1
 .refine Vf λi j hi hj hij=>?_;simp only[List.length_map,Array.length_toList]at hi hj;have h1:=p2 i j (yK _) hij (by omega);have BV:=A6 (d.toList[i]'(by simpa using hi)) (yC _);have hj':=A6 (d.toList[j]'(by simpa using hj)) (yC _);rw[getElem!_pos d i hi,getElem!_pos d j hj]at h1;simp only[yG]at BV hj';simp only[ltOf,hcf,decide_eq_false_iff_not,yT]at h1;rw[show W1 l.length d[i]=d[i] from by unfold W1;rw[if_pos BV],show W1 l.length d[j]=d[j] from by unfold W1;rw[if_pos hj']]at h1;simp only[List.getElem_map,yG];rcases yI 0 (H0 (l.getD d[i] (.mk 0 (bs []) 0 (true,true) [])) (l.getD d[j] (.mk 0 (bs []) 0 (true,true) [])))with q|q
  .have:=KG.1.2 q;omega
  .exact q
end Go.Abs.Q
namespace Go.Abs.Q
open Go.Proofs
attribute [local simp] D0 D1 fin I1 E7 K8 I3
def keep (p:Tm):List Tm->List Tm
 | []=>[]
 |b::l=>if H0 b p=0 then keep b l else b::keep b l
def P3:List Tm->List Tm
 | []=>[]
 |a::l=>a::keep a l
def QL (g:FuncId) (l:List Tm):Prop:=C4 g=false/\∀a∈l,∀b∈l,pc Q g [B8 a,B8 b]=some (.bool (decide (H0 a b=0)))
theorem TB {l:I2} {i:Nat} {t:Tm} (h:l[i]?=some t):(A3 l)[i]?=some (B8 t):=by
 rw[D7,yA,h];rfl
theorem jI (l:I2) (i:Nat) (t:Tm):(A3 l).set i (B8 t)=A3 (l.set i t):=by
 rw[D7,D7,List.map_set]
theorem Rh {α:Type} {l:List α} {i:Nat} {p:α} {q:List α} (h:l.drop i=p::q):l[i]?=some p/\l.drop (i+1)=q/\i+1+q.length=l.length:=by
 have h1:(l.drop i)[0]?=some p:=by rw[h];rfl
 rw[List.getElem?_drop,yR]at h1;have h2:(l.drop i).drop 1=q:=by rw[h];rfl
 rw[List.drop_drop]at h2;have h3:=congrArg List.length h;rw[List.length_drop,List.length_cons]at h3;obtain⟨h4,-⟩:=xo.1 h1;exact⟨h1,h2,by omega⟩
theorem jF {α:Type} {l:List α} {i:Nat} (x:α) (h:i<l.length):(l.set i x).take (i+1)=l.take i++[x]:=by
 rw[xt (by simpa using h),List.take_set_of_le (xm i)];simp
theorem gY (g:FuncId) (l R:I2) (hg:QL g l) (k N k0:Nat) (hN:l.length=N) (hN2:N<=1099511627776) (h1k:1<=k0) (p0:Tm) (q0:I2) (hd0:l.drop k0=p0::q0) (hR:l.take k0++keep p0 q0=R)
  (fr:Fr) (h:AH) (hfam:h.fams[k]?=some ⟨A3 l,4,true⟩) (hl:fr.length=66) (h0:A0 fr 0=.sl k N 0 N) (h1:A0 fr 1=.fn g []) (h6:A0 fr 6=.sl k N k0 (N-k0))
  (h5:A0 fr 5=.int .i64 (k0:Nat)) (h7:A0 fr 7=.int .i64 1) :
  C8 (lp (A1 (Q8 Q) (G7 B9) L6) (fr,h)) λe D4 h'=>Kp L6.wr fr D4/\e=.exit 2 /\
   ∃(Y:List Tm) (k':Nat),A0 D4 5=.int .i64 (k':Nat)/\h'=⟨h.boxes,h.fams.set k ⟨A3 Y,4,true⟩⟩/\Y.length=N/\k' < N/\1<=k'/\Y.take k'=R:=by
 have CI:=J0 hfam;obtain⟨d1,d2,d3⟩:=Rh hd0;refine C3 rfl fr (λn fr h'=>∃(j kk:Nat) (Y:List Tm) (p:Tm) (q:List Tm),j+n=N-k0/\1<=j/\1<=kk/\kk<k0+j/\A0 fr 5=.int .i64 (kk:Nat)/\A0 fr 7=.int .i64 (j:Nat) /\
  h'=⟨h.boxes,h.fams.set k ⟨A3 Y,4,true⟩⟩/\Y.length=N/\(∀x∈Y,x∈l)/\Y.drop (k0+j-1)=p::q/\Y.take kk++keep p q=R) ?_ (N-k0-1) h
  ⟨1,k0,l,p0,q0,by omega,xm _,h1k,by omega,h5,h7,by rw[Ck hfam],hN,λ_ h=>h,by simpa using hd0,hR⟩
 rintro J Φ hJ hΦ n G9 H1 K ⟨j,kk,Y,p,q,hjn,hj,MR,hkj,k5,k7,rfl,hY,hYl,hYd,hYR⟩;have B4:=K.1.trans hl;have k0':=A5 K 0 h0;have k1':=A5 K 1 h1;have k6':=A5 K 6 h6;clear K;obtain⟨e1,e2,e3⟩:=Rh hYd;by_cases A6:j<N-k0
 .have hlti:(j:Int)<((N-k0:Nat):Int):=by omega
  cases q with
  |nil=>simp at e3;omega
  |cons b q =>
   obtain⟨f1,f2,f3⟩:=Rh e2;have hbY:b∈Y:=xn f1;have hpY:p∈Y:=xn e1;have hc:=hg.2 b (hYl _ hbY) p (hYl _ hpY);have hw1:=E5 j (by omega);have hw2:IntKind.i64.wrap ((j:Int)-1)=((j-1:Nat):Int):=by rw[M3 (by omega) (by omega)];omega
   have hw3:=E5 kk (by omega);have hb1:((j-1:Nat):Int)<((N-k0:Nat):Int):=by omega
   have hb2:(kk:Int)<N:=by omega
   have g1:=TB e1;have g2:=TB f1;rw[show k0+j-1+1=k0+j from by omega]at g2;rw[show k0+j-1=k0+(j-1) from by omega]at g1;have gl:(A3 Y).length=N:=by simpa using hY
   by_cases hcz:H0 b p=0
   .have hYR':Y.take kk++keep b q=R:=by rw[←hYR,keep,if_pos hcz]
    simp only[hcz,decide_true]at hc;simp[L6,B4,k1',k6',k7,hlti,hw1,hw2,hb1,g1,g2,gl,CI,hc,hg.1];exact O4 hJ ⟨j+1,kk,Y,b,q,by omega,by omega,MR,by omega,by simp[k5],by simp[B4],rfl,hY,hYl,by rw[show k0+(j+1)-1=k0+j-1+1 from by omega];exact e2,hYR'⟩
   .have hkY:kk<Y.length:=by omega
    have hYR':(Y.set kk b).take (kk+1)++keep b q=R:=by rw[←hYR,keep,if_neg hcz,jF _ hkY,yJ,yF]
    have g3:=jI Y kk b;obtain⟨c,hc1⟩:∃c,Y[kk]?=some c:=⟨_,xk hkY⟩;have g4:=TB hc1;simp only[hcz,decide_false]at hc;simp[L6,B4,k0',k1',k6',k5,k7,hlti,hw1,hw2,hw3,hb1,hb2,g1,g2,g3,g4,gl,CI,hc,hg.1];exact⟨n-1,by omega,hJ _ _ _ ⟨j+1,kk+1,Y.set kk b,b,q,by omega,by omega,by omega,by omega,by simp[B4],by simp[B4],rfl,by simpa using hY,λx hx=>by
     rcases List.mem_or_eq_of_mem_set hx with h|rfl
     .exact hYl _ h
     .exact hYl _ hbY,by rw[show k0+(j+1)-1=k0+j-1+1 from by omega,List.drop_set_of_lt (by omega)];exact e2,hYR'⟩⟩
 .have hlti:¬(j:Int)<((N-k0:Nat):Int):=by omega
  cases q with
  |cons b q=>simp at e3;omega
  |nil =>
   simp[L6,B4,k6',k7,hlti];exact hΦ _ _ _ ⟨rfl,Y,kk,by simp[k5],rfl,hY,by omega,MR,by rw[←hYR,keep,yE]⟩
def Yw:Tm:=.mk 0 (bs []) 0 (true,false) []
theorem jO:AV.agg [.int .i64 0,.str (bs []),.int .i64 0,.vs true 0 []]=B8 Yw:=rfl
theorem QI (l:I2) (i:Nat):A3 (l.take i)=(A3 l).take i:=by rw[D7,D7,yO]
@[simp] theorem uM (h:AH) (z:AV) (k n off len:Nat):Pg h z (.sl k n off len)=(h.fams[k]?).bind λf=>if f.xs.length=n/\off+len<=n/\f.wr=true/\z.cells.length=f.sz then some (A9,{h with fams:=h.fams.set k {f with xs:=f.xs.take off++xy len z++f.xs.drop (off+len)}})else none:=by
 simp only[Pg];cases h.fams[k]?<;>rfl
@[simp] theorem qF (h:AH) (sz k n off len:Nat) (lo hi:Option Int):Te h sz (.sl k n off len) (some lo) (some hi) (some none)=(h.fams[k]?).bind λf =>
  if (0<sz/\f.sz=sz/\f.xs.length=n)/\0<=lo.getD 0/\lo.getD 0<=hi.getD len/\hi.getD len<=len then some (.sl k n (off+(lo.getD 0).toNat) (hi.getD len-lo.getD 0).toNat,h)else none:=by
 simp only[Te,Jn];cases h.fams[k]? with
 |none=>rfl
 |some f =>
  simp only[Option.bind_some];by_cases h1:0<sz/\f.sz=sz/\f.xs.length=n
  .by_cases h2:0<=lo.getD 0/\lo.getD 0<=hi.getD len/\hi.getD len<=len
   .rw[if_pos h1,if_pos h2,if_pos ⟨h1,h2⟩]
   .rw[if_pos h1,if_neg h2,if_neg λk=>h2 k.2]
  .rw[if_neg h1,if_neg λk=>h1 k.1]
theorem jm (Y:I2) {N k':Nat} (hY:Y.length=N) (hk:k'<=N):(A3 Y).take k'++(xy (N-k') (AV.agg [.int .i64 0,.str (bs []),.int .i64 0,.vs true 0 []])++(A3 Y).drop N)=A3 (Y.take k'++xy (N-k') Yw):=by
 rw[jO,List.drop_of_length_le (by simp;omega),yE,D7,D7,List.map_append,yO,List.map_replicate]
theorem IZ (g:FuncId) (l:I2) (hg:QL g l) (k:Nat) (h:AH) (hk:h.fams[k]?=some ⟨A3 l,4,true⟩) (C2:l.length<=1099511627776) :
  ∃Z:List Tm,Z.length=l.length/\Z.take (P3 l).length=P3 l/\rc Q B9 [.sl k l.length 0 l.length,.fn g []] h=some (.sl k l.length 0 (P3 l).length,⟨h.boxes,h.fams.set k ⟨A3 Z,4,true⟩⟩):=by
 have CI:=J0 hk
 suffices hq:∃v h',rc Q B9 [.sl k l.length 0 l.length,.fn g []] h=some (v,h') /\
   ∃Z:List Tm,Z.length=l.length/\Z.take (P3 l).length=P3 l/\v=.sl k l.length 0 (P3 l).length/\h'=⟨h.boxes,h.fams.set k ⟨A3 Z,4,true⟩⟩ by
  obtain⟨v,h',h1,Z,h2,h3,rfl,rfl⟩:=hq;exact⟨Z,h2,h3,h1⟩
 have hsame:h=⟨h.boxes,h.fams.set k ⟨A3 l,4,true⟩⟩:=by rw[Ck hk]
 have hl0:(A3 l).length=l.length:=by simp
 refine FT G6 λfr hl h0 h1=>?_;simp[G6]at hl h0 h1;by_cases hs:l.length<2
 .have hs':(l.length:Int)<2:=by omega
  have Cc:P3 l=l:=by
   match l,hs with
   | [],_=>rfl
   | [a],_=>rfl
   |_::_::_,h=>exact absurd h (by simp)
  simp[G6,hl,h0,hs'];exact⟨l,rfl,by rw[Cc,yL],by rw[Cc],hsame⟩
 have hs':¬(l.length:Int)<2:=by omega
 simp[G6,hl,h0,hs'];obtain⟨a,q1,hd1⟩:∃a q1,l=a::q1:=by
  cases l with
  |nil=>simp at hs
  |cons a q=>exact⟨a,q,rfl⟩
 refine(C3 (Ψ:=λe D4 h'=>e=.exit 0/\P3 l=l/\h'=h\/e=.ret/\∃Z:List Tm,Z.length=l.length/\Z.take (P3 l).length=P3 l/\A0 D4 4=.sl k l.length 0 (P3 l).length/\h'=⟨h.boxes,h.fams.set k ⟨A3 Z,4,true⟩⟩) rfl _ (λn D4 h'=>h'=h/\∃(j:Nat) (p:Tm) (q:List Tm),j+n=l.length/\1<=j/\A0 D4 5=.int .i64 (j:Nat)/\l.drop (j-1)=p::q/\l.take j++keep p q=P3 l) ?_ (l.length-1) h ⟨rfl,1,a,q1,by omega,xm _,by simp[hl],by simpa using hd1,by rw[hd1];rfl⟩).mono ?_
 .rintro J Φ hJ hΦ n G9 H1 K ⟨rfl,j,p,q,hjn,hj,k5,hYd,hR⟩;have B4:G9.length=66:=K.1.trans (by simp[hl]);have k0:=A5 K 0 (by simp[h0]:_=AV.sl k l.length 0 l.length);have k1:=A5 K 1 (by simp[h1]:_=AV.fn g []);clear K h0 h1;obtain⟨e1,e2,e3⟩:=Rh hYd;by_cases A6:j<l.length
  .have hlti:(j:Int)<l.length:=by omega
   cases q with
   |nil=>simp at e3;omega
   |cons b q =>
    obtain⟨f1,f2,f3⟩:=Rh e2;have hc:=hg.2 b (xn f1) p (xn e1);have hw1:=E5 j (by omega);have hw2:IntKind.i64.wrap ((j:Int)-1)=((j-1:Nat):Int):=by rw[M3 (by omega) (by omega)];omega
    have hb1:((j-1:Nat):Int)<(l.length:Int):=by omega
    have g1:=TB e1;have g2:=TB f1;rw[show j-1+1=j from by omega]at g2 f1;by_cases hcz:H0 b p=0
    .have hR':l.take j++keep b q=P3 l:=by rw[←hR,keep,if_pos hcz]
     have hd':l.drop j=b::q:=by rw[←e2,show j-1+1=j from by omega]
     have Nh:j<=l.length:=by omega
     simp only[hcz,decide_true]at hc;simp[V6,B4,k0,k1,k5,hlti,hw2,hb1,g1,g2,hk,hc,hg.1,Nh];refine C8.mono (gY g l (P3 l) hg k l.length j rfl C2 hj b q hd' hR' _ _ hk ?_ ?_ ?_ ?_ ?_ ?_) ?_<;>first|(simp[B4,k0,k1,k5];done)|skip
     rintro e Cs h2 ⟨K,rfl,Y,k',m5,rfl,hYl,CH,hk1,hYR⟩;have Jc:Cs.length=66:=K.1.trans (by simp[B4]);have m0:=A5 K 0 (by simp[k0]:_=AV.sl k l.length 0 l.length);clear K;have Cc:(P3 l).length=k':=by rw[←hYR,List.length_take];omega
     have hle':k'<=l.length:=by omega
     have hcr:=jm Y hYl hle';have hYl':(A3 Y).length=l.length:=by simpa using hYl
     have hmin:min k' Y.length+(l.length-k')=l.length:=by omega
     simp[Jc,m0,m5,CI,hle',hYl',hcr,hmin];refine hΦ _ _ _ (.inr ⟨rfl,Y.take k'++xy (l.length-k') Yw,?_,?_,?_,rfl⟩)
     .simp;omega
     .rw[Cc,List.take_left' (by simp;omega)];exact hYR
     .simp[Jc,Cc]
    .have hR':l.take (j+1)++keep b q=P3 l:=by
      have Qp:l[j]?=some b:=f1;rw[←hR,keep,if_neg hcz,xt A6,yJ];have:l[j]=b:=by rw[xk A6]at Qp;exact Option.some.inj Qp
      rw[this,yF]
     simp only[hcz,decide_false]at hc;simp[V6,B4,k0,k1,k5,hlti,hw1,hw2,hb1,g1,g2,hk,hc,hg.1];exact O4 hJ ⟨rfl,j+1,b,q,by omega,by omega,by simp[B4],by rw[←e2];congr 1;omega,hR'⟩
  .have hlti:¬(j:Int)<l.length:=by omega
   cases q with
   |cons b q=>simp at e3;omega
   |nil =>
    simp[V6,B4,k0,k5,hlti];exact hΦ _ _ _ (.inl ⟨rfl,by rw[←hR,keep,yE,List.take_of_length_le (by omega)],rfl⟩)
 .rintro e Cs h2 ⟨K,⟨rfl,Cc,rfl⟩|⟨rfl,Z,hZ,hZ2,k4,rfl⟩⟩
  .have Jc:Cs.length=66:=K.1.trans (by simp[hl]);have m0:=A5 K 0 (by simp[h0]:_=AV.sl k l.length 0 l.length);clear K;simp[Jc,m0];exact⟨l,rfl,by rw[Cc,yL],by rw[Cc],hsame⟩
  .simp[k4];exact⟨Z,hZ,hZ2,rfl⟩
end Go.Abs.Q
