/- A part of the proof. -/
import Derived.Test.YtohjdamplbhdpaaGreatDoorSB13
set_option linter.all false
open List renaming getElem?_append_left->A0O,getElem?_eq_getElem->A0P,mem_cons_self->A0R,length_append->A0S,getD_eq_getElem?_getD->A0T,take_succ_eq_append_getElem->A0U,mem_cons_of_mem->A0V,mem_of_getElem?->A0W,map_cons->A0X,mem_cons->A0Y,getElem?_eq_some_iff->A0Z,mem_map->A0a,pairwise_cons->A0b,append_assoc->A0d,getElem_mem->A0f,length_cons->A0g,length_map->A0j,pairwise_iff_getElem->A0k,getElem?_map->A0m,take_of_length_le->A0n,length_filter_le->A0o,append_nil->A0p,getElem!_eq_getElem?_getD->A0q,getElem?_set_ne->A0r,map_append->A0s,eq_nil_of_length_eq_zero->A0t,flatMap_append->A0u,replicate->A0v,all_eq_true->A0x,take_length->A0y,length->A01,singleton_append->A02,take_append_drop->A03,map_eq_nil_iff->A05,mem_map_of_mem->A06,filter_append->A09,flatMap_cons->A1B,mem_flatMap->A1D,not_mem_nil->A1E,nil_append->A1F,range->A1G,take_left'->A1H,map_take->A1I,map_nil->A1K,set_set->A1L
open Nat renaming le_refl->A0Q,mul_comm->A0z,lt_of_lt_of_le->A1A,zero_le->A1C,add_zero->A1M,le_of_eq->A1N
open Array renaming range->A0c,getD_eq_getD_getElem?->A0e,getElem?_eq_getElem->A0i,getElem?_append_left->A0w,getElem_toList->A04
open Option renaming bind_some->A0h,map_some->A00
open Int renaming lt_or_eq_of_le->A0l,lt_or_gt_of_ne->A07,lt_or_le->A08,le_total->A1J,not_lt->A1O
namespace Go.Abs
open Go.Proofs Go.Shelf Go.RowKit Go.Lib Go.Sort
variable {P:Program} {ρ:Ren}
set_option maxHeartbeats 2000000 in
theorem qw (L:SlLaysF0.n20 P ρ) (p:Option Addr) (cap:Nat) (fv:Value) (w:World) :
  Calls P (ρ.f 20) #[.slice p 1 cap,.int .i64 0,.int .i64 1,fv] w λe w'=>e=.returned (.tuple #[])/\w'=w:=by
 have mixed:=L.mixed;have t0:=L.t0;have a0:=L.a0;have z0:=L.z0;have v0:=L.v0;have t3:=L.t3;have a3:=L.a3;have z3:=L.z3;have v3:=L.v3;have t4:=L.t4;have a4:=L.a4;have z4:=L.z4;have v4:=L.v4;have t22:=L.t22;have a22:=L.a22;have z22:=L.z22;have v22:=L.v22;have t25:=L.t25;have a25:=L.a25;have z25:=L.z25;have v25:=L.v25;obtain⟨_,_,FG⟩:=L.f20
 go_enter FG,SlBodyF.n20_ntmps ρ
 go_wp2
 refine wp_loop_rounds 1 ?_;rw[rounds_succ]
 go_wp2
 go_end0
 exact⟨rfl,rfl⟩
set_option maxHeartbeats 2000000 in
theorem sw (L:SlLaysF0.n14 P ρ) (p:Option Addr) (cap:Nat) (K8:Int) (fv:Value) (w:World) :
  Calls P (ρ.f 14) #[.slice p 1 cap,.int .i64 0,.int .i64 1,.int .i64 K8,fv] w λe w'=>e=.returned (.tuple #[])/\w'=w:=by
 have mixed:=L.mixed;have t0:=L.t0;have a0:=L.a0;have z0:=L.z0;have v0:=L.v0;have t3:=L.t3;have a3:=L.a3;have z3:=L.z3;have v3:=L.v3;have t4:=L.t4;have a4:=L.a4;have z4:=L.z4;have v4:=L.v4;have t5:=L.t5;have a5:=L.a5;have z5:=L.z5;have v5:=L.v5;have t9:=L.t9;have a9:=L.a9;have z9:=L.z9;have v9:=L.v9;have t22:=L.t22;have a22:=L.a22;have z22:=L.z22;have v22:=L.v22;have t25:=L.t25;have a25:=L.a25;have z25:=L.z25;have v25:=L.v25;have t39:=L.t39;have a39:=L.a39;have z39:=L.z39;have v39:=L.v39;have t45:=L.t45;have a45:=L.a45;have z45:=L.z45;have v45:=L.v45;have t46:=L.t46;have a46:=L.a46;have z46:=L.z46;have v46:=L.v46;have t50:=L.t50;have a50:=L.a50;have z50:=L.z50;have v50:=L.v50;have t53:=L.t53;have a53:=L.a53;have z53:=L.z53;have v53:=L.v53;have t55:=L.t55;have a55:=L.a55;have z55:=L.z55;have v55:=L.v55;have t66:=L.t66;have a66:=L.a66;have z66:=L.z66;have v66:=L.v66;have t70:=L.t70;have a70:=L.a70;have z70:=L.z70;have v70:=L.v70;have t76:=L.t76;have a76:=L.a76;have z76:=L.z76;have v76:=L.v76;have t77:=L.t77;have a77:=L.a77;have z77:=L.z77;have v77:=L.v77;have e20:∀args w,(callFunc (ρ.f 20) args).run P w=.ok (.enter (ρ.f 20) args) w:=L.f20.enters rfl;have hi:=λW=>qw (P:=P) (ρ:=ρ) {L with} p cap fv W
 obtain⟨_,_,FG⟩:=L.f14
 go_enter FG,SlBodyF.n14_ntmps ρ
 go_wp2
 refine wp_loop_rounds 1 ?_;rw[rounds_succ]
 go_wp2_with (go_at_fn (ρ.f 20);refine(hi _).mono ?_;rintro e w' ⟨rfl,rfl⟩)
 (try simp only[Exit.inBlock,Exit.then]);refine bodyPost_ret (results_none rfl _ _ _) rfl ?_
 exact⟨rfl,rfl⟩
set_option maxHeartbeats 2000000 in
theorem pq (L:SlLaysF0.n6 P ρ) (p:Option Addr) (cap:Nat) (fv:Value) (w:World) :
  Calls P (ρ.f 6) #[.slice p 1 cap,fv] w λe w'=>e=.returned (.tuple #[])/\w'=w:=by
 have mixed:=L.mixed;have t0:=L.t0;have a0:=L.a0;have z0:=L.z0;have v0:=L.v0;have t3:=L.t3;have a3:=L.a3;have z3:=L.z3;have v3:=L.v3;have t4:=L.t4;have a4:=L.a4;have z4:=L.z4;have v4:=L.v4;have t5:=L.t5;have a5:=L.a5;have z5:=L.z5;have v5:=L.v5;have t9:=L.t9;have a9:=L.a9;have z9:=L.z9;have v9:=L.v9;have t22:=L.t22;have a22:=L.a22;have z22:=L.z22;have v22:=L.v22;have t25:=L.t25;have a25:=L.a25;have z25:=L.z25;have v25:=L.v25;have t39:=L.t39;have a39:=L.a39;have z39:=L.z39;have v39:=L.v39;have t45:=L.t45;have a45:=L.a45;have z45:=L.z45;have v45:=L.v45;have t46:=L.t46;have a46:=L.a46;have z46:=L.z46;have v46:=L.v46;have t50:=L.t50;have a50:=L.a50;have z50:=L.z50;have v50:=L.v50;have t53:=L.t53;have a53:=L.a53;have z53:=L.z53;have v53:=L.v53;have t55:=L.t55;have a55:=L.a55;have z55:=L.z55;have v55:=L.v55;have t66:=L.t66;have a66:=L.a66;have z66:=L.z66;have v66:=L.v66;have t70:=L.t70;have a70:=L.a70;have z70:=L.z70;have v70:=L.v70;have t76:=L.t76;have a76:=L.a76;have z76:=L.z76;have v76:=L.v76;have t77:=L.t77;have a77:=L.a77;have z77:=L.z77;have v77:=L.v77;have e14:∀args w,(callFunc (ρ.f 14) args).run P w=.ok (.enter (ρ.f 14) args) w:=L.f14.enters rfl;have e15:∀args w,(callFunc (ρ.f 15) args).run P w=.ok (.enter (ρ.f 15) args) w:=enters_of L.f15 (by kernel_rfl) rfl;have hp:=λK8 W=>sw (P:=P) (ρ:=ρ) {L with} p cap K8 fv W
 have hl:∀W,Calls P (ρ.f 15) #[.int .u64 1] W λe w'=>e=.returned (.int .i64 (Lib.bitLen 1:Nat))/\w'=W:=λW=>by
  have h:=Any.bits_Len (SlLaysF0.n15.bits (P:=P) (ρ:=ρ) {L with}) 1 W (by omega) (by omega)
  exact h
 obtain⟨_,_,FG⟩:=L.f6
 go_enter FG,SlBodyF.n6_ntmps ρ
 go_wp2_with (first|(go_at_fn (ρ.f 15);refine(hl _).mono ?_;rintro e w' ⟨rfl,rfl⟩)|(go_at_fn (ρ.f 14);refine(hp _ _).mono ?_;rintro e w' ⟨rfl,rfl⟩))
 go_end0
 exact⟨rfl,rfl⟩
end Go.Abs
namespace Go.Abs
open Go.RowKit (Below)
open Go.Proofs (ltOf CmpLays sortWorldK)
open Go.Shelf (Ren)
section
variable {P:Program} {O:Orc} {E:Env}
theorem QM {g:FuncId} {caps xs:G4} (h:SortOk O g caps xs):(FE O g caps xs).toList.Perm (A1G xs.length)/\Go.Sort.SortedIn (ltOf (mJ O g caps xs)) 0 xs.length (FE O g caps xs):=by
 have hs:(A0c xs.length).size=xs.length:=by simp
 have:=Go.Sort.pdq_sorts (ltOf (mJ O g caps xs)) h.swo (A0c xs.length) 0 xs.length (Lib.bitLen xs.length) true true (A1C _) (by rw[hs];exact A0Q _) (Or.inl rfl);refine⟨?_,this.2⟩;obtain⟨h1,h2,h3⟩:=this.1;have e1:∀d:Array Nat,d.size=xs.length->d.extract 0 xs.length=d:=λd hd=>by rw[←hd];simp
 rw[e1 _ hs,e1 _ (h1.trans hs)]at h3;unfold FE;simpa using h3
theorem Uc {g:FuncId} {caps xs:G4} (h:SortOk O g caps xs):(FE O g caps xs).size=xs.length:=by
 have:=(QM h).1.length_eq;simpa using this
theorem kA {g:FuncId} {caps xs:G4} (h:SortOk O g caps xs) {i:Nat} (hi:i<(FE O g caps xs).size):(FE O g caps xs)[i]! < xs.length:=by
 have hm:(FE O g caps xs)[i]!∈(FE O g caps xs).toList:=by
  rw[getElem!_pos _ i hi];exact Array.getElem_mem_toList hi
 have:=(QM h).1.mem_iff.1 hm;simpa using this
def MM (cur:Array Value) (off K n i:Nat):List Value:=(A1G K).map λc=>cur.getD (off+d8 n i*K+c) undef
theorem dx {cur:Array Value} {off K n i:Nat}:(MM cur off K n i).length=K:=by simp[MM]
theorem XK {cur:Array Value} {off K n i c:Nat} (hc:c<K):(MM cur off K n i)[c]?=some (cur.getD (off+d8 n i*K+c) undef):=by simp[MM,hc]
theorem Ny.enc {cur:Array Value} {off K n i:Nat} {x:AV} (hi:i<n) (h:Ny E cur (off+i*K) K x):(∀v∈MM cur off K n i,v.oneCell'=true)/\Dk E.w E.ok x.cells (MM cur off K n i):=by
 have GK:d8 n i=i:=by unfold d8;rw[if_pos hi]
 obtain⟨h1,h2⟩:=h;have key:∀c,c<K->∃y,x.cells[c]?=some y/\(cur.getD (off+i*K+c) undef).oneCell'=true/\PV E.w E.ok y (cur.getD (off+i*K+c) undef):=by
  intro c hc;have A7:c<x.cells.length:=by omega
  obtain⟨v,e1,e2,e3⟩:=h2 c _ (A0P A7);refine⟨_,A0P A7,?_⟩;have:cur.getD (off+i*K+c) undef=v:=by rw[A0e,e1];rfl
  rw[this];exact⟨e2,e3⟩
 constructor
 .intro v hv;unfold MM at hv;rw[A0a]at hv;obtain⟨c,hc,rfl⟩:=hv;rw[GK];obtain⟨_,_,k,_⟩:=key c (by simpa using hc);exact k
 .refine Up (by rw[dx];exact h1.symm) λc y u hy hu=>?_;have hc:c<K:=by have:=(A0Z.1 hy).1;omega
  rw[XK hc,GK]at hu;cases hu;obtain⟨y',e1,_,e3⟩:=key c hc;rw[hy]at e1;cases e1;exact e3
theorem Xr {k:Nat} {f:Fam} (hf:E.h.fams[k]?=some f) (hw:f.wr=true) (hS:SR E) {b o:Nat} (ho:E.ok b o):b≠(E.im k).b:=by
 intro e;rcases ho with ⟨h1,_⟩|⟨_,_,_,h4⟩
 .have:=(hS.fams k f hf).base;omega
 .have:=(h4 k f hf e.symm).1;rw[hw]at this;cases this
theorem Yd {enc:Nat->List Value} {K blk off m:Nat} {dk:Array Nat} {os:Array Obj} {w:World} {b o:Nat} (hb:b<w.heap.size) (P6:b≠blk):KH w (sortWorldK enc K w blk off m dk os) b o:=by
 have hh:(sortWorldK enc K w blk off m dk os).heap[b]?=w.heap[b]?:=by
  unfold sortWorldK Go.Sort.grow;show ((Go.Sort.putRowK enc K (Go.Sort.ahead w m) blk off dk).heap++os)[b]?=_;have J5:(Go.Sort.putRowK enc K (Go.Sort.ahead w m) blk off dk).heap.size=w.heap.size:=Go.Sort.size_putRowK _ _ _ _ _ _;rw[A0w (by rw[J5];exact hb)];unfold Go.Sort.putRowK Go.Sort.putRow Go.Sort.mapBlock;simp only[Array.getElem?_modify];rw[if_neg (λe=>P6 e.symm)];rfl
 exact LG hh
theorem kB {ρ:Ren} (L:Go.Proofs.SlLaysF0.n6 P ρ) (hen:Program.enterable P (ρ.f 6)=true) (K:Nat) (aE:∀w,(isAgg (ρ.t 24)).run P w=.ok true w) (zE:∀w,(Go.sizeOf (ρ.t 24)).run P w=.ok K w)
  (hP:Qc P O) (args:List AV) (h:AH) (r:AV) (h':AH) (he:(af K).run O args h=some (r,h')):Program.enterable P (ρ.f 6)=true /\
  ∀(E:Env) (vs:Array Value),SR E->E.h=h->Bh E args vs.toList ->
   Calls P (ρ.f 6) vs E.w λe w'=>∃u E',e=.returned u/\w'=E'.w/\Ext E E'/\SR E'/\E'.h=h'/\VR E' r u:=by
 refine⟨hen,λE vs hS hh hv=>?_⟩;subst hh;change LM K O args E.h=some (r,h')at he;unfold LM at he;split at he
 .rename_i k n off len g caps;split at he
  .rename_i f hf;split at he
   .rename_i hc;obtain⟨c1,rfl,c3,c4,c5,c6,c7,c8,c9,BF⟩:=hc;cases he;subst c1;subst c3;obtain⟨vs⟩:=vs;simp only[Bh]at hv;obtain⟨v0,_,rfl,hv0,v1,_,rfl,hv1,rfl⟩:=hv;simp only[VR]at hv0 hv1;obtain⟨a,cap,f',rfl,hf',⟨_,_⟩,hv0⟩:=hv0;rw[hf]at hf';cases hf';obtain⟨us,rfl,WH⟩:=hv1;obtain⟨l1,_,l3,_,l5⟩:=hv0 rfl;have TY:(E.im k).lo=0:=by omega
    have hfam:=hS.fams k f hf;have BG:=hfam.room;have hcap:cap=(E.im k).cap:=by omega
    have ha:a=some ⟨(E.im k).b,(E.im k).o,none⟩:=by
     have:=l5 (by omega);rw[TY]at this;simpa using this
    subst ha;obtain⟨cur,t,hcur,Dr,Ul⟩:=hfam.cells;rw[TY]at Ul;have hel':∀(i:Nat) (x:AV),f.xs[i]?=some x->Ny E cur ((E.im k).o+i*K) K x:=λi x hx=>by
     have:=Ul i x (A1C _) hx;rw[c7]at this;simpa using this
    rw[c7]at Dr;generalize hn:f.xs.length=n at *
    have hblk:=hS.im_lt (A0Z.1 hf).1;generalize hb:(E.im k).b=blk at *
    generalize ho:(E.im k).o=off at *
    have hnK:off+n*K<=cur.size:=by
     have:n*K<=(E.im k).cap*K:=Nat.mul_le_mul_right _ (by omega);omega
    have hget:∀i,i<n->∃x,f.xs[i]?=some x:=λi hi=>⟨_,A0P (by omega)⟩;have henc:∀i,(∀v∈MM cur off K n i,v.oneCell'=true)/\∃cs,f.xs.getD (d8 n i) C5=.agg cs/\Dk E.w E.ok cs (MM cur off K n i):=by
     intro i;obtain⟨x,hx⟩:=hget (d8 n i) (JN c4);have e1:MM cur off K n i=MM cur off K n (d8 n i):=by
      unfold MM;have:d8 n (d8 n i)=d8 n i:=by
       have:=JN (i:=i) c4;show (if d8 n i<n then d8 n i else 0)=_
       rw[if_pos this]
      rw[this]
     obtain⟨k1,k2⟩:=(hel' _ x hx).enc (JN c4);rw[e1];refine⟨k1,?_⟩;have hag:x.isAgg=true:=A0x.1 c9 x (A0W hx);have hgd:f.xs.getD (d8 n i) C5=x:=by rw[A0T,hx];rfl
     rw[hgd];cases x<;>simp only[AV.isAgg]at hag<;>try (cases hag;done)
     exact⟨_,rfl,k2⟩
    have hfr:E.w.heap[blk]?=some (.cells cur t (0,0)):=hcur;have hH:Go.Sort.HoldsK (MM cur off K n) K E.w blk off (A0c n):=by
     intro j hj;rw[Go.Sort.size_flatK]at hj;have hK:0<K:=by
                rcases Nat.eq_zero_or_pos K with h|h;· subst h;simp at hj
                .exact h
     have hjs:j<n*K:=by simpa using hj
     have hdiv:j / K<n:=Nat.div_lt_of_lt_mul (by rw[A0z];exact hjs);have hmod:j % K<K:=Nat.mod_lt _ hK;have hjj:j / K*K+j % K=j:=by rw[A0z];exact Nat.div_add_mod j K
     rw[Go.Sort.get_flatK _ _ _ _ hj];have e1:(A0c n)[j / K]! = j / K:=by rw[getElem!_pos _ _ (by simpa using hdiv)];simp
     rw[e1];have e2:(MM cur off K n (j / K))[j % K]! = cur.getD (off+j) undef:=by
      have:=XK (cur:=cur) (off:=off) (n:=n) (i:=j / K) hmod;rw[show d8 n (j / K)=j / K from by unfold d8;rw[if_pos hdiv],Nat.add_assoc,hjj]at this;rw[A0q,this];rfl
     rw[e2];refine⟨?_,by unfold World.frozen?;rw[hfr];simp⟩;rw[cell_of_row _ _ _ _ _ _ hfr,A0e,A0i (by omega)];rfl
    have hcmp:CmpLays P g us (MM cur off K n) K (mJ O g caps f.xs) blk off (A0c n).size E.w:=by
     intro m os dk hdk x y;obtain⟨_,csx,ex,px⟩:=henc x;obtain⟨_,csy,ey,py⟩:=henc y;obtain⟨c,hc⟩:=BF.ans (d8 n x) (d8 n y) (by rw[hn];exact JN c4) (by rw[hn];exact JN c4);have hcf:mJ O g caps f.xs x y=c:=by unfold mJ bN;rw[hn,hc]
     rw[hcf];rw[ex,ey]at hc;obtain⟨_,hcalls⟩:=hP g _ _ hc;have Hi:∀b o,E.ok b o->E.ok b o/\KH E.w (sortWorldK (MM cur off K n) K E.w blk off m dk os) b o:=λb o hbo =>
      ⟨hbo,Yd (UL hS hbo) (by rw[←hb];exact Xr hf c6 hS hbo)⟩
     have hcp:Dk E.w E.ok caps us.toList:=by
      refine Up (IW WH).1 λj z u hz hu=>?_;obtain⟨u',hu',hvr⟩:=(IW WH).2 hz;rw[hu]at hu';cases hu';exact WX hvr (A0x.1 c8 z (A0W hz))
     have hpv:Dk (sortWorldK (MM cur off K n) K E.w blk off m dk os) E.ok ([.agg csx,.agg csy]++caps) (#[Value.agg (MM cur off K n x).toArray,Value.agg (MM cur off K n y).toArray]++us).toList:=by
      refine d7 Hi _ _ ?_;simp only[Array.toList_append,List.cons_append,A1F,Dk,PV];exact⟨_,_,rfl,⟨_,rfl,(henc x).1,px⟩,_,_,rfl,⟨_,rfl,(henc y).1,py⟩,hcp⟩
     refine(hcalls _ E.ok _ (λb o hbo=>A1A (UL hS hbo) (Go.Proofs.size_sortWorldK_c _ _ _ _ _ _ _ _)) hpv).mono λe w' ⟨u,h1,h2,h3⟩=>?_;simp only[PV]at h3;subst h3;exact⟨h1,iT h2⟩
    have hcalls:=Go.Proofs.AnyQ.slices_SortFunc_eq L K aE zE (MM cur off K n) (λ_=>dx) (λx=>(henc x).1) (mJ O g caps f.xs) BF.swo g us blk off cap (A0c n) E.w
     (λargs w=>dy (hP g _ _ (BF.ans 0 0 (by omega) (by omega)).choose_spec).1 args w) hcmp hH hblk.2 (by simpa using c5)
    rw[show (A0c n).size=n from by simp]at hcalls;refine hcalls.mono λe w' ⟨h1,m,os,h2⟩=>?_;have hidx:Go.Sort.pdq (ltOf (mJ O g caps f.xs)) (A0c n) 0 n (Lib.bitLen n) true true=FE O g caps f.xs:=by unfold FE;rw[hn]
    rw[hidx]at h2;have J5:=Uc BF;rw[hn]at J5;generalize hd:FE O g caps f.xs=d at *
    have A7:∀i,i<n->d[i]! < n:=λi hi=>by have:=kA BF (i:=i) (by rw[hd];omega);rw[hd]at this;omega
    have hA:Bl E.w.heap.size E.w (Go.Sort.ahead E.w m):=⟨⟨rfl,rfl,rfl,A0Q _,λ_ _=>rfl⟩,Nat.le_add_right _ _⟩;have x1:=Bn hS hA;have s1:=HJ hS hA;have hcur1:({E with w:=Go.Sort.ahead E.w m}:Env).w.heap[(({E with w:=Go.Sort.ahead E.w m}:Env).im k).b]?=some (.cells cur t (0,0)):=by
     show E.w.heap[(E.im k).b]?=_;rw[hb];exact hcur
    have hf1:({E with w:=Go.Sort.ahead E.w m}:Env).h.fams[k]?=some f:=hf
    have hfl:f.xs.length=({f with xs:=d.toList.map λi=>f.xs.getD i C5}:Fam).xs.length:=by simp;omega
    have x2:=Kh s1 hf1 (us:=Go.Sort.putCells id off (Go.Sort.flatK (MM cur off K n) K d) cur) (f':={f with xs:=d.toList.map λi=>f.xs.getD i C5}) hcur1 rfl rfl (A1N hfl) (λhw=>by rw[c6]at hw;cases hw)
    have s2:=Pc s1 hf1 (us:=Go.Sort.putCells id off (Go.Sort.flatK (MM cur off K n) K d) cur) (f':={f with xs:=d.toList.map λi=>f.xs.getD i C5}) hcur1 rfl rfl (A1N hfl) (λhw=>by rw[c6]at hw;cases hw)
     (by rw[←hfl];show f.xs.length<=(E.im k).lo+(E.im k).cap;omega) ZL (by
      intro i x _ hx;show Ny _ _ ((E.im k).o+(i-(E.im k).lo)*f.sz) f.sz x;rw[TY,ho,c7,Nat.sub_zero];simp only[A0m]at hx;have hi:i<n:=by
       rcases Nat.lt_or_ge i n with h|h
       .exact h
       .rw[List.getElem?_eq_none (by simp;omega)]at hx;cases hx
      have hdi:d.toList[i]?=some d[i]!:=by
       rw[getElem!_pos _ i (by omega)];simp[A0i (show i<d.size by omega)]
      rw[hdi]at hx;simp only[A00,Option.some.injEq]at hx;obtain⟨x',hx'⟩:=hget _ (A7 i hi);have pu:x'=x:=by rw[←hx,A0T,hx'];rfl
      subst pu;obtain⟨g1,g2⟩:=(hel' _ _ hx').ext x1;refine⟨g1,λc y hy=>?_⟩;have hcK:c<K:=by have:=(A0Z.1 hy).1;omega
      obtain⟨v,e1,e2,e3⟩:=g2 c y hy;refine⟨v,?_,e2,e3⟩;have hik:i*K+c<n*K:=DA hi hcK;have hK0:0<K:=by omega
      rw[bX,A0i (show off+i*K+c<cur.size by omega),A00,if_pos ⟨by omega,by rw[Go.Sort.size_flatK,J5];omega⟩];rw[show off+i*K+c-off=i*K+c from by omega,Go.Sort.get_flatK _ _ _ _ (by rw[J5];exact hik)];have q1:(i*K+c) / K=i:=by rw[A0z,Nat.mul_add_div hK0,Nat.div_eq_of_lt hcK,A1M]
      have q2:(i*K+c) % K=c:=by rw[A0z,Nat.mul_add_mod,Nat.mod_eq_of_lt hcK]
      rw[q1,q2];have:=XK (cur:=cur) (off:=off) (n:=n) (i:=d[i]!) hcK;rw[show d8 n d[i]! = d[i]! from by unfold d8;rw[if_pos (A7 i hi)]]at this;rw[A0q,this];simp only[Option.getD_some];rw[A0e,e1];rfl)
    generalize hE2:({E with w:=Go.Sort.ahead E.w m}:Env).setFam k (Go.Sort.putCells id off (Go.Sort.flatK (MM cur off K n) K d) cur) {f with xs:=d.toList.map λi=>f.xs.getD i C5}=E2 at x2 s2
    have hw2:E2.w=Go.Sort.putRowK (MM cur off K n) K (Go.Sort.ahead E.w m) blk off d:=by
     rw[←hE2];show (Go.Sort.ahead E.w m).setRow (E.im k).b _=_;rw[hb];exact(VL (w:=Go.Sort.ahead E.w m) hcur).symm
    have hB3:Bl E2.w.heap.size E2.w (Go.Sort.grow E2.w os):=by
     refine⟨⟨rfl,rfl,rfl,?_,λi hi=>?_⟩,A0Q _⟩
     .simp[Go.Sort.grow]
     .show (E2.w.heap++os)[i]?=_;rw[A0w hi]
    refine⟨.tuple #[],{E2 with w:=Go.Sort.grow E2.w os},h1,?_,(x1.trans x2).trans (Bn s2 hB3),HJ s2 hB3,?_,FP _⟩
    .rw[h2];show _=Go.Sort.grow E2.w os;rw[hw2];rfl
    .show E2.h=_;rw[←hE2];rfl
   .cases he
  .cases he
 .rename_i q z xs g caps;split at he
  .rename_i h0;cases he;obtain⟨vs⟩:=vs;simp only[Bh]at hv;obtain⟨v0,_,rfl,hv0,v1,_,rfl,hv1,rfl⟩:=hv;simp only[VR,PV]at hv0;obtain⟨a,len,cap,rfl,hl,_⟩:=hv0;have A6:len=0\/len=1:=by omega
   rcases A6 with A6|A6
   .subst A6;refine(Go.Proofs.AnyF.slices_SortFunc_none L a cap v1 E.w).mono λe w' ⟨h1,h2⟩=>?_;exact⟨_,E,h1,h2,Ext.refl E,hS,rfl,FP _⟩
   .subst A6;refine(pq L a cap v1 E.w).mono λe w' ⟨h1,h2⟩=>?_;exact⟨_,E,h1,h2,Ext.refl E,hS,rfl,FP _⟩
  .cases he
 .cases he
end
end Go.Abs
namespace Go.Abs.Q
open Go.Proofs
def T3 (x y z:Int):Prop:=(x<=0->y<=0->z<=0/\(z=0->x=0/\y=0))/\(0<=x->0<=y->0<=z/\(z=0->x=0/\y=0))
theorem ZT {x y z x' y' z':Int} (h:T3 x y z) (h':x=0->y=0->T3 x' y' z'):T3 (nz x x') (nz y y') (nz z z'):=by
 unfold T3 nz at *
 by_cases hx:x=0
 .by_cases hy:y=0
  .have hz:z=0:=by
    have h1:=(h.1 (by omega) (by omega)).1;have h2:=(h.2 (by omega) (by omega)).1;omega
   rw[if_pos hx,if_pos hy,if_pos hz];exact h' hx hy
  .rw[if_pos hx,if_neg hy];have hz:z≠0:=by
    intro hz;rcases A07 hy with hl|hl
    .exact hy ((h.1 (by omega) (by omega)).2 hz).2
    .exact hy ((h.2 (by omega) (by omega)).2 hz).2
   rw[if_neg hz];refine⟨λ_ hy'=>⟨(h.1 (by omega) hy').1,λe=>absurd e hz⟩,λ_ hy'=>⟨(h.2 (by omega) hy').1,λe=>absurd e hz⟩⟩
 .rw[if_neg hx];by_cases hy:y=0
  .rw[if_pos hy];have hz:z≠0:=by
    intro hz;rcases A07 hx with hl|hl
    .exact hx ((h.1 (by omega) (by omega)).2 hz).1
    .exact hx ((h.2 (by omega) (by omega)).2 hz).1
   rw[if_neg hz];refine⟨λhx' _=>⟨(h.1 hx' (by omega)).1,λe=>absurd e hz⟩,λhx' _=>⟨(h.2 hx' (by omega)).1,λe=>absurd e hz⟩⟩
  .rw[if_neg hy];refine⟨λa b=>?_,λa b=>?_⟩
   .have hz:z≠0:=λhz=>hx ((h.1 a b).2 hz).1;rw[if_neg hz];exact h.1 a b
   .have hz:z≠0:=λhz=>hx ((h.2 a b).2 hz).1;rw[if_neg hz];exact h.2 a b
theorem bB (a b c:Int):T3 (Hw a b) (Hw b c) (Hw a c):=by
 unfold T3 Hw;by_cases h1:a<b<;>by_cases h2:b<c<;>by_cases h3:a<c<;>by_cases h4:b<a<;>by_cases h5:c<b<;>by_cases h6:c<a<;>simp[h1,h2,h3,h4,h5,h6]<;>omega
theorem Px:∀{a b c:List UInt8},Op.bytesLess a b=true->Op.bytesLess b c=true->Op.bytesLess a c=true
 | [],_,[],h,k=>by cases ‹List UInt8›<;>simp[Op.bytesLess]at h k
 | [],_,_::_,_,_=>rfl
 |x::a,[],c,h,_=>by simp[Op.bytesLess]at h
 |x::a,y::b,[],_,k=>by simp[Op.bytesLess]at k
 |x::a,y::b,z::c,h,k=>by
  have ih:=@Px a b c;simp only[Op.bytesLess,Bool.or_eq_true,decide_eq_true_eq,Bool.and_eq_true,beq_iff_eq]at h k ⊢;rcases h with h|⟨rfl,h⟩
  .rcases k with k|⟨rfl,k⟩
   .exact .inl (UInt8.lt_trans h k)
   .exact .inl h
  .rcases k with k|⟨rfl,k⟩
   .exact .inl k
   .exact .inr ⟨rfl,ih h k⟩
theorem Pw:∀{a b:List UInt8},a≠b->Op.bytesLess a b=true\/Op.bytesLess b a=true
 | [],[],h=>absurd rfl h
 | [],_::_,_=>.inl rfl
 |_::_,[],_=>.inr rfl
 |x::a,y::b,h=>by
  simp only[Op.bytesLess];by_cases h1:x<y
  .simp[h1]
  .by_cases h2:y<x
   .simp[h2]
   .have:x=y:=UInt8.le_antisymm (UInt8.not_lt.1 h2) (UInt8.not_lt.1 h1);subst this;have ih:=@Pw a b (λe=>h (by rw[e]));simp[h1];exact ih
theorem qN (a b c:J3):T3 (V4 a b) (V4 b c) (V4 a c):=by
 have key:∀a b c:List UInt8,T3 (if Op.bytesLess a b then -1 else if a=b then 0 else 1) (if Op.bytesLess b c then -1 else if b=c then 0 else 1) (if Op.bytesLess a c then -1 else if a=c then 0 else 1):=by
  intro a b c;have irr:=XZ;unfold T3;by_cases h1:Op.bytesLess a b=true
  .by_cases h2:Op.bytesLess b c=true
   .have h3:=Px h1 h2;simp[h1,h2,h3]
   .by_cases e:b=c
    .subst e;simp[h1,irr]
    .have h3:=(Pw e).resolve_left h2;simp[h1,h2,e]
  .by_cases e:a=b
   .subst e;rw[if_neg h1,if_pos rfl];generalize (if Op.bytesLess a c then (-1:Int)else if a=c then 0 else 1)=q
    exact⟨λ_ h=>⟨h,λe=>⟨rfl,e⟩⟩,λ_ h=>⟨h,λe=>⟨rfl,e⟩⟩⟩
   .have h3:=(Pw e).resolve_left h1;by_cases h2:Op.bytesLess b c=true
    .simp[h1,e,h2]
    .by_cases e2:b=c
     .subst e2;simp[h1,e,h2]
     .have h4:=(Pw e2).resolve_left h2;have h5:=Px h4 h3;have h6:Op.bytesLess a c=false:=by
       cases h:Op.bytesLess a c with
       |false=>rfl
       |true=>have:=Px h h5;rw[irr]at this;cases this
      have h7:a≠c:=λh=>by subst h;rw[irr]at h5;cases h5
      simp[h1,e,h2,e2,h6,h7]
 unfold V4;exact key _ _ _
theorem zm:∀(n:Nat) (a b c:Tm),a.size<=n->T3 (H6 a b) (H6 b c) (H6 a c):=by
 intro n
 induction n with
 |zero=>intro a _ _ h;have:=a.size_pos;omega
 |succ n ih =>
  intro a b c hn;obtain⟨k,nm,s,m,l⟩:=a;obtain⟨k',nm',s',m',l'⟩:=b;obtain⟨k2,nm2,s2,m2,l2⟩:=c;have J5:Tm.size (.mk k nm s m l)=1+Tm.sizes l:=rfl;simp only[H6];refine ZT (bB _ _ _) λ_ _=>ZT (bB _ _ _) λ_ _=>ZT (qN _ _ _) λ_ _=>ZT (bB _ _ _) λ_ _=>ZT (bB _ _ _) λh1 h2=>?_;have e1:=Ty h1;have e2:=Ty h2;have:∀l l' l2:List Tm,Tm.sizes l<=n->l.length=l'.length->l'.length=l2.length->T3 (Ix l l') (Ix l' l2) (Ix l l2):=by
   intro l
   induction l with
   |nil =>
    intro l' l2 _ h1 h2;have:l'=[]:=A0t h1.symm;subst this;simp only[SF];unfold T3;omega
   |cons a l ihl =>
    intro l' l2 hs h1 h2;cases l' with
    |nil=>simp at h1
    |cons b l' =>
     cases l2 with
     |nil=>simp at h2
     |cons c l2 =>
      simp only[Tm.sizes]at hs;simp only[Ix];exact ZT (ih a b c (by omega)) λ_ _=>ihl l' l2 (by omega) (by simpa using h1) (by simpa using h2)
  exact this l l' l2 (by omega) e1 e2
theorem mB (a b c:Tm):T3 (H6 a b) (H6 b c) (H6 a c):=zm _ a b c (A0Q _)
theorem PO (a:Tm):H6 a a=0:=bO _ a a (A0Q _) rfl
theorem KS {a b:Tm}:(H6 a b<0↔0<H6 b a)/\(H6 a b=0↔H6 b a=0):=by
 have h:=mB a b a;rw[PO]at h;unfold T3 at h;have h1:H6 a b<=0->H6 b a<=0->H6 a b=0/\H6 b a=0:=λp q=>(h.1 p q).2 rfl;have h2:0<=H6 a b->0<=H6 b a->H6 a b=0/\H6 b a=0:=λp q=>(h.2 p q).2 rfl;constructor<;>constructor<;>intro hh
 .rcases A08 0 (H6 b a)with q|q
  .exact q
  .have:=h1 (by omega) q;omega
 .rcases A08 (H6 a b) 0 with q|q
  .exact q
  .have:=h2 q (by omega);omega
 .rcases A1J 0 (H6 b a)with q|q
  .exact(h2 (by omega) q).2
  .exact(h1 (by omega) q).2
 .rcases A1J 0 (H6 a b)with q|q
  .exact(h2 q (by omega)).1
  .exact(h1 q (by omega)).1
theorem GZ {a b c:Tm} (h:H6 a b<0) (k:H6 b c<0):H6 a c<0:=by
 have:=(mB a b c).1 (by omega) (by omega);rcases A0l this.1 with q|q
 .exact q
 .have:=this.2 q;omega
theorem lI {a b:Int}:nz a b=0↔a=0/\b=0:=by
 unfold nz;split<;>simp_all
theorem mO {a b:Int}:Hw a b=0↔a=b:=by
 unfold Hw;split
 .constructor<;>intro h<;>omega
 .split<;>constructor<;>intro h<;>omega
theorem mM {a b:J3}:V4 a b=0↔a=b:=by
 unfold V4;split
 .rename_i h;constructor
  .intro e;omega
  .intro e;subst e;rw[XZ]at h;cases h
 .split
  .rename_i h;simp[(R0 a b).1 h]
  .rename_i h;constructor
   .intro e;omega
   .intro e;exact absurd (by rw[e]) h
theorem ui:∀(n:Nat) (a b:Tm),a.size<=n->H6 a b=0->E3 a=E3 b:=by
 intro n
 induction n with
 |zero=>intro a _ h;have:=a.size_pos;omega
 |succ n ih =>
  intro a b hn h;obtain⟨k,nm,s,m,l⟩:=a;obtain⟨k',nm',s',m',l'⟩:=b;have J5:Tm.size (.mk k nm s m l)=1+Tm.sizes l:=rfl;simp only[H6,lI,mO,mM]at h;obtain⟨_,rfl,rfl,rfl,h1,h2⟩:=h;have e1:l.length=l'.length:=by omega
  have:∀l l':List Tm,Tm.sizes l<=n->l.length=l'.length->Ix l l'=0->G9 l=G9 l':=by
   intro l
   induction l with
   |nil=>intro l' _ h1 _;rw[A0t h1.symm]
   |cons a l ihl =>
    intro l' hs h1 h2;cases l' with
    |nil=>simp at h1
    |cons b l' =>
     simp only[Tm.sizes]at hs;simp only[Ix,lI]at h2;simp only[G9,ih a b (by omega) h2.1,ihl l' (by omega) (by simpa using h1) h2.2]
  simp only[E3,this l l' (by omega) e1 h2]
theorem V5 {a b:Tm}:H6 a b=0↔E3 a=E3 b:=⟨ui _ a b (A0Q _),bO _ a b (A0Q _)⟩
theorem cE {α:Type} {R:α->α->Prop} {l:List α} (h:∀(i j:Nat) (hi:i<l.length) (hj:j<l.length),i<j->R l[i] l[j]):l.Pairwise R:=by
 rw[A0k];exact h
theorem UU (k:Nat) (h:AH) (l:G6) (hk:h.fams[k]?=some ⟨A4 l,4,true⟩) (P6:l≠[]) (J5:∀t∈l,t.size<=1099511627776) (B9:l.length<=1099511627776) :
  ∃l':List Tm,l'.Perm l/\l'.Pairwise (λa b=>H6 a b<=0)/\rc Q D9 [.sl k l.length 0 l.length,.fn C4 []] h=some (C5,⟨h.boxes,h.fams.set k ⟨A4 l',4,true⟩⟩):=by
 have hl:(A4 l).length=l.length:=by simp
 have M3:0<l.length:=List.length_pos_iff.2 P6;have hget:∀i,i<l.length->(A4 l).getD i C5=B8 (l.getD i (.mk 0 (bs []) 0 (true,true) [])):=by
  intro i hi;rw[C9,A0T,A0T,A0m,A0P hi];rfl
 have Ii:∀i,i<l.length->l.getD i (.mk 0 (bs []) 0 (true,true) [])∈l:=by
  intro i hi;rw[A0T,A0P hi];exact A0f hi
 have hans:∀i j,i<l.length->j<l.length->(K8 Q).pure C4 ([(A4 l).getD i C5,(A4 l).getD j C5]++[])=some (.int .i64 (H6 (l.getD i (.mk 0 (bs []) 0 (true,true) [])) (l.getD j (.mk 0 (bs []) 0 (true,true) [])))):=by
  intro i j hi hj;rw[hget i hi,hget j hj];exact x7 _ _ _ (A0Q _) (J5 _ (Ii i hi)) (J5 _ (Ii j hj))
 have hcf:∀i j,mJ (K8 Q) C4 [] (A4 l) i j=H6 (l.getD (d8 l.length i) (.mk 0 (bs []) 0 (true,true) [])) (l.getD (d8 l.length j) (.mk 0 (bs []) 0 (true,true) [])):=by
  intro i j;unfold mJ bN;rw[hl,hans _ _ (JN M3) (JN M3)]
 have BF:SortOk (K8 Q) C4 [] (A4 l):=by
  refine⟨λi j hi hj=>⟨_,hans i j (by omega) (by omega)⟩,⟨λx=>?_,λx y z=>?_,λx y z=>?_⟩⟩
  .simp[ltOf,hcf,PO]
  .simp only[ltOf,hcf,decide_eq_true_eq];exact GZ
  .simp only[ltOf,hcf,decide_eq_false_iff_not,A1O];intro a b;exact((mB _ _ _).2 a b).1
 obtain⟨p1,p2⟩:=QM BF;have psz:=Uc BF;rw[hl]at p1 p2 psz;have kw:rc Q D9 [.sl k l.length 0 l.length,.fn C4 []] h=some (C5,⟨h.boxes,h.fams.set k ⟨(FE (K8 Q) C4 [] (A4 l)).toList.map λi=>(A4 l).getD i C5,4,true⟩⟩):=by
  refine OT (s:=af 4) rfl rfl ?_;change LM 4 (K8 Q) [.sl k l.length 0 l.length,.fn C4 []] h=_;unfold LM;simp only[hk];rw[if_pos ⟨hl,rfl,rfl,M3,by omega,rfl,rfl,rfl,by
   rw[A0x];intro x hx;rw[C9,A0a]at hx;obtain⟨t,_,rfl⟩:=hx;cases t;rfl,BF⟩]
 generalize hd:FE (K8 Q) C4 [] (A4 l)=d at *
 have A7:∀i∈d.toList,i<l.length:=λi hi=>by simpa using p1.mem_iff.1 hi
 have e1:(d.toList.map λi=>(A4 l).getD i C5)=A4 (d.toList.map λi=>l.getD i (.mk 0 (bs []) 0 (true,true) [])):=by
  rw[C9 (d.toList.map _),List.map_map];exact List.map_congr_left λi hi=>hget i (A7 i hi)
 refine⟨d.toList.map λi=>l.getD i (.mk 0 (bs []) 0 (true,true) []),?_,?_,by rw[kw,e1]⟩
 .have h1:=p1.map λi=>l.getD i (.mk 0 (bs []) 0 (true,true) []);have h2:(A1G l.length).map (λi=>l.getD i (.mk 0 (bs []) 0 (true,true) []))=l:=by
   apply List.ext_getElem
   .simp
   .intro i g1 g2;simp[A0T,g2]
  rw[h2]at h1;exact h1
 .refine cE λi j hi hj hij=>?_;simp only[A0j,Array.length_toList]at hi hj;have h1:=p2 i j (A1C _) hij (by omega);have Cx:=A7 (d.toList[i]'(by simpa using hi)) (A0f _);have hj':=A7 (d.toList[j]'(by simpa using hj)) (A0f _);rw[getElem!_pos d i hi,getElem!_pos d j hj]at h1;simp only[A04]at Cx hj';simp only[ltOf,hcf,decide_eq_false_iff_not,A1O]at h1;rw[show d8 l.length d[i]=d[i] from by unfold d8;rw[if_pos Cx],show d8 l.length d[j]=d[j] from by unfold d8;rw[if_pos hj']]at h1;simp only[List.getElem_map,A04];rcases A08 0 (H6 (l.getD d[i] (.mk 0 (bs []) 0 (true,true) [])) (l.getD d[j] (.mk 0 (bs []) 0 (true,true) [])))with q|q
  .have:=KS.1.2 q;omega
  .exact q
end Go.Abs.Q
namespace Go.Abs.Q
open Go.Proofs
attribute [local simp] E6 E7 fin K1 H4 P2 L5
def keep (p:Tm):List Tm->List Tm
 | []=>[]
 |b::l=>if H6 b p=0 then keep b l else b::keep b l
def S8:List Tm->List Tm
 | []=>[]
 |a::l=>a::keep a l
def Va (g:FuncId) (l:List Tm):Prop:=C2 g=false/\∀a∈l,∀b∈l,pc Q g [B8 a,B8 b]=some (.bool (decide (H6 a b=0)))
theorem Yi {l:G6} {i:Nat} {t:Tm} (h:l[i]?=some t):(A4 l)[i]?=some (B8 t):=by
 rw[C9,A0m,h];rfl
theorem ti (l:G6) (i:Nat) (t:Tm):(A4 l).set i (B8 t)=A4 (l.set i t):=by
 rw[C9,C9,List.map_set]
theorem XJ {α:Type} {l:List α} {i:Nat} {p:α} {q:List α} (h:l.drop i=p::q):l[i]?=some p/\l.drop (i+1)=q/\i+1+q.length=l.length:=by
 have h1:(l.drop i)[0]?=some p:=by rw[h];rfl
 rw[List.getElem?_drop,A1M]at h1;have h2:(l.drop i).drop 1=q:=by rw[h];rfl
 rw[List.drop_drop]at h2;have h3:=congrArg A01 h;rw[List.length_drop,A0g]at h3;obtain⟨h4,-⟩:=A0Z.1 h1;exact⟨h1,h2,by omega⟩
theorem tg {α:Type} {l:List α} {i:Nat} (x:α) (h:i<l.length):(l.set i x).take (i+1)=l.take i++[x]:=by
 rw[A0U (by simpa using h),List.take_set_of_le (A0Q i)];simp
theorem rT (g:FuncId) (l R:G6) (hg:Va g l) (k N k0:Nat) (hN:l.length=N) (hN2:N<=1099511627776) (h1k:1<=k0) (p0:Tm) (q0:G6) (hd0:l.drop k0=p0::q0) (hR:l.take k0++keep p0 q0=R)
  (fr:Fr) (h:AH) (hfam:h.fams[k]?=some ⟨A4 l,4,true⟩) (hl:fr.length=66) (h0:A0 fr 0=.sl k N 0 N) (h1:A0 fr 1=.fn g []) (h6:A0 fr 6=.sl k N k0 (N-k0))
  (h5:A0 fr 5=.int .i64 (k0:Nat)) (h7:A0 fr 7=.int .i64 1) :
  B7 (lp (A2 (K8 Q) (D6 D4) O4) (fr,h)) λe C3 h'=>Kp O4.wr fr C3/\e=.exit 2 /\
   ∃(Y:List Tm) (k':Nat),A0 C3 5=.int .i64 (k':Nat)/\h'=⟨h.boxes,h.fams.set k ⟨A4 Y,4,true⟩⟩/\Y.length=N/\k' < N/\1<=k'/\Y.take k'=R:=by
 have CI:=H5 hfam;obtain⟨d1,d2,d3⟩:=XJ hd0;refine B4 rfl fr (λn fr h'=>∃(j kk:Nat) (Y:List Tm) (p:Tm) (q:List Tm),j+n=N-k0/\1<=j/\1<=kk/\kk<k0+j/\A0 fr 5=.int .i64 (kk:Nat)/\A0 fr 7=.int .i64 (j:Nat) /\
  h'=⟨h.boxes,h.fams.set k ⟨A4 Y,4,true⟩⟩/\Y.length=N/\(∀x∈Y,x∈l)/\Y.drop (k0+j-1)=p::q/\Y.take kk++keep p q=R) ?_ (N-k0-1) h
  ⟨1,k0,l,p0,q0,by omega,A0Q _,h1k,by omega,h5,h7,by rw[DK hfam],hN,λ_ h=>h,by simpa using hd0,hR⟩
 rintro J Φ hJ hΦ n D5 H1 K ⟨j,kk,Y,p,q,hjn,hj,Tn,hkj,k5,k7,rfl,hY,hYl,hYd,hYR⟩;have A6:=K.1.trans hl;have k0':=A8 K 0 h0;have k1':=A8 K 1 h1;have k6':=A8 K 6 h6;clear K;obtain⟨e1,e2,e3⟩:=XJ hYd;by_cases A7:j<N-k0
 .have hlti:(j:Int)<((N-k0:Nat):Int):=by omega
  cases q with
  |nil=>simp at e3;omega
  |cons b q =>
   obtain⟨f1,f2,f3⟩:=XJ e2;have hbY:b∈Y:=A0W f1;have hpY:p∈Y:=A0W e1;have hc:=hg.2 b (hYl _ hbY) p (hYl _ hpY);have hw1:=C6 j (by omega);have hw2:IntKind.i64.wrap ((j:Int)-1)=((j-1:Nat):Int):=by rw[V0 (by omega) (by omega)];omega
   have hw3:=C6 kk (by omega);have hb1:((j-1:Nat):Int)<((N-k0:Nat):Int):=by omega
   have hb2:(kk:Int)<N:=by omega
   have g1:=Yi e1;have g2:=Yi f1;rw[show k0+j-1+1=k0+j from by omega]at g2;rw[show k0+j-1=k0+(j-1) from by omega]at g1;have gl:(A4 Y).length=N:=by simpa using hY
   by_cases hcz:H6 b p=0
   .have hYR':Y.take kk++keep b q=R:=by rw[←hYR,keep,if_pos hcz]
    simp only[hcz,decide_true]at hc;simp[O4,A6,k1',k6',k7,hlti,hw1,hw2,hb1,g1,g2,gl,CI,hc,hg.1];exact G0 hJ ⟨j+1,kk,Y,b,q,by omega,by omega,Tn,by omega,by simp[k5],by simp[A6],rfl,hY,hYl,by rw[show k0+(j+1)-1=k0+j-1+1 from by omega];exact e2,hYR'⟩
   .have hkY:kk<Y.length:=by omega
    have hYR':(Y.set kk b).take (kk+1)++keep b q=R:=by rw[←hYR,keep,if_neg hcz,tg _ hkY,A0d,A02]
    have g3:=ti Y kk b;obtain⟨c,hc1⟩:∃c,Y[kk]?=some c:=⟨_,A0P hkY⟩;have g4:=Yi hc1;simp only[hcz,decide_false]at hc;simp[O4,A6,k0',k1',k6',k5,k7,hlti,hw1,hw2,hw3,hb1,hb2,g1,g2,g3,g4,gl,CI,hc,hg.1];exact⟨n-1,by omega,hJ _ _ _ ⟨j+1,kk+1,Y.set kk b,b,q,by omega,by omega,by omega,by omega,by simp[A6],by simp[A6],rfl,by simpa using hY,λx hx=>by
     rcases List.mem_or_eq_of_mem_set hx with h|rfl
     .exact hYl _ h
     .exact hYl _ hbY,by rw[show k0+(j+1)-1=k0+j-1+1 from by omega,List.drop_set_of_lt (by omega)];exact e2,hYR'⟩⟩
 .have hlti:¬(j:Int)<((N-k0:Nat):Int):=by omega
  cases q with
  |cons b q=>simp at e3;omega
  |nil =>
   simp[O4,A6,k6',k7,hlti];exact hΦ _ _ _ ⟨rfl,Y,kk,by simp[k5],rfl,hY,by omega,Tn,by rw[←hYR,keep,A0p]⟩
def gt:Tm:=.mk 0 (bs []) 0 (true,false) []
theorem uA:AV.agg [.int .i64 0,.str (bs []),.int .i64 0,.vs true 0 []]=B8 gt:=rfl
theorem VW (l:G6) (i:Nat):A4 (l.take i)=(A4 l).take i:=by rw[C9,C9,A1I]
@[simp] theorem clrA_sl (h:AH) (z:AV) (k n off len:Nat):Uz h z (.sl k n off len)=(h.fams[k]?).bind λf=>if f.xs.length=n/\off+len<=n/\f.wr=true/\z.cells.length=f.sz then some (C5,{h with fams:=h.fams.set k {f with xs:=f.xs.take off++A0v len z++f.xs.drop (off+len)}})else none:=by
 simp only[Uz];cases h.fams[k]?<;>rfl
@[simp] theorem zW (h:AH) (sz k n off len:Nat) (lo hi:Option Int):Yb h sz (.sl k n off len) (some lo) (some hi) (some none)=(h.fams[k]?).bind λf =>
  if (0<sz/\f.sz=sz/\f.xs.length=n)/\0<=lo.getD 0/\lo.getD 0<=hi.getD len/\hi.getD len<=len then some (.sl k n (off+(lo.getD 0).toNat) (hi.getD len-lo.getD 0).toNat,h)else none:=by
 simp only[Yb,Ok];cases h.fams[k]? with
 |none=>rfl
 |some f =>
  simp only[A0h];by_cases h1:0<sz/\f.sz=sz/\f.xs.length=n
  .by_cases h2:0<=lo.getD 0/\lo.getD 0<=hi.getD len/\hi.getD len<=len
   .rw[if_pos h1,if_pos h2,if_pos ⟨h1,h2⟩]
   .rw[if_pos h1,if_neg h2,if_neg λk=>h2 k.2]
  .rw[if_neg h1,if_neg λk=>h1 k.1]
theorem uY (Y:G6) {N k':Nat} (hY:Y.length=N) (hk:k'<=N):(A4 Y).take k'++(A0v (N-k') (AV.agg [.int .i64 0,.str (bs []),.int .i64 0,.vs true 0 []])++(A4 Y).drop N)=A4 (Y.take k'++A0v (N-k') gt):=by
 rw[uA,List.drop_of_length_le (by simp;omega),A0p,C9,C9,A0s,A1I,List.map_replicate]
theorem NL (g:FuncId) (l:G6) (hg:Va g l) (k:Nat) (h:AH) (hk:h.fams[k]?=some ⟨A4 l,4,true⟩) (B9:l.length<=1099511627776) :
  ∃Z:List Tm,Z.length=l.length/\Z.take (S8 l).length=S8 l/\rc Q D4 [.sl k l.length 0 l.length,.fn g []] h=some (.sl k l.length 0 (S8 l).length,⟨h.boxes,h.fams.set k ⟨A4 Z,4,true⟩⟩):=by
 have CI:=H5 hk
 suffices hq:∃v h',rc Q D4 [.sl k l.length 0 l.length,.fn g []] h=some (v,h') /\
   ∃Z:List Tm,Z.length=l.length/\Z.take (S8 l).length=S8 l/\v=.sl k l.length 0 (S8 l).length/\h'=⟨h.boxes,h.fams.set k ⟨A4 Z,4,true⟩⟩ by
  obtain⟨v,h',h1,Z,h2,h3,rfl,rfl⟩:=hq;exact⟨Z,h2,h3,h1⟩
 have hsame:h=⟨h.boxes,h.fams.set k ⟨A4 l,4,true⟩⟩:=by rw[DK hk]
 have hl0:(A4 l).length=l.length:=by simp
 refine Df I5 λfr hl h0 h1=>?_;simp[I5]at hl h0 h1;by_cases hs:l.length<2
 .have hs':(l.length:Int)<2:=by omega
  have GK:S8 l=l:=by
   match l,hs with
   | [],_=>rfl
   | [a],_=>rfl
   |_::_::_,h=>exact absurd h (by simp)
  simp[I5,hl,h0,hs'];exact⟨l,rfl,by rw[GK,A0y],by rw[GK],hsame⟩
 have hs':¬(l.length:Int)<2:=by omega
 simp[I5,hl,h0,hs'];obtain⟨a,q1,hd1⟩:∃a q1,l=a::q1:=by
  cases l with
  |nil=>simp at hs
  |cons a q=>exact⟨a,q,rfl⟩
 refine(B4 (Ψ:=λe C3 h'=>e=.exit 0/\S8 l=l/\h'=h\/e=.ret/\∃Z:List Tm,Z.length=l.length/\Z.take (S8 l).length=S8 l/\A0 C3 4=.sl k l.length 0 (S8 l).length/\h'=⟨h.boxes,h.fams.set k ⟨A4 Z,4,true⟩⟩) rfl _ (λn C3 h'=>h'=h/\∃(j:Nat) (p:Tm) (q:List Tm),j+n=l.length/\1<=j/\A0 C3 5=.int .i64 (j:Nat)/\l.drop (j-1)=p::q/\l.take j++keep p q=S8 l) ?_ (l.length-1) h ⟨rfl,1,a,q1,by omega,A0Q _,by simp[hl],by simpa using hd1,by rw[hd1];rfl⟩).mono ?_
 .rintro J Φ hJ hΦ n D5 H1 K ⟨rfl,j,p,q,hjn,hj,k5,hYd,hR⟩;have A6:D5.length=66:=K.1.trans (by simp[hl]);have k0:=A8 K 0 (by simp[h0]:_=AV.sl k l.length 0 l.length);have k1:=A8 K 1 (by simp[h1]:_=AV.fn g []);clear K h0 h1;obtain⟨e1,e2,e3⟩:=XJ hYd;by_cases A7:j<l.length
  .have hlti:(j:Int)<l.length:=by omega
   cases q with
   |nil=>simp at e3;omega
   |cons b q =>
    obtain⟨f1,f2,f3⟩:=XJ e2;have hc:=hg.2 b (A0W f1) p (A0W e1);have hw1:=C6 j (by omega);have hw2:IntKind.i64.wrap ((j:Int)-1)=((j-1:Nat):Int):=by rw[V0 (by omega) (by omega)];omega
    have hb1:((j-1:Nat):Int)<(l.length:Int):=by omega
    have g1:=Yi e1;have g2:=Yi f1;rw[show j-1+1=j from by omega]at g2 f1;by_cases hcz:H6 b p=0
    .have hR':l.take j++keep b q=S8 l:=by rw[←hR,keep,if_pos hcz]
     have hd':l.drop j=b::q:=by rw[←e2,show j-1+1=j from by omega]
     have OI:j<=l.length:=by omega
     simp only[hcz,decide_true]at hc;simp[Z8,A6,k0,k1,k5,hlti,hw2,hb1,g1,g2,hk,hc,hg.1,OI];refine B7.mono (rT g l (S8 l) hg k l.length j rfl B9 hj b q hd' hR' _ _ hk ?_ ?_ ?_ ?_ ?_ ?_) ?_<;>first|(simp[A6,k0,k1,k5];done)|skip
     rintro e R3 h2 ⟨K,rfl,Y,k',m5,rfl,hYl,Dv,hk1,hYR⟩;have CK:R3.length=66:=K.1.trans (by simp[A6]);have m0:=A8 K 0 (by simp[k0]:_=AV.sl k l.length 0 l.length);clear K;have GK:(S8 l).length=k':=by rw[←hYR,List.length_take];omega
     have hle':k'<=l.length:=by omega
     have hcr:=uY Y hYl hle';have hYl':(A4 Y).length=l.length:=by simpa using hYl
     have hmin:min k' Y.length+(l.length-k')=l.length:=by omega
     simp[CK,m0,m5,CI,hle',hYl',hcr,hmin];refine hΦ _ _ _ (.inr ⟨rfl,Y.take k'++A0v (l.length-k') gt,?_,?_,?_,rfl⟩)
     .simp;omega
     .rw[GK,A1H (by simp;omega)];exact hYR
     .simp[CK,GK]
    .have hR':l.take (j+1)++keep b q=S8 l:=by
      have t7:l[j]?=some b:=f1;rw[←hR,keep,if_neg hcz,A0U A7,A0d];have:l[j]=b:=by rw[A0P A7]at t7;exact Option.some.inj t7
      rw[this,A02]
     simp only[hcz,decide_false]at hc;simp[Z8,A6,k0,k1,k5,hlti,hw1,hw2,hb1,g1,g2,hk,hc,hg.1];exact G0 hJ ⟨rfl,j+1,b,q,by omega,by omega,by simp[A6],by rw[←e2];congr 1;omega,hR'⟩
  .have hlti:¬(j:Int)<l.length:=by omega
   cases q with
   |cons b q=>simp at e3;omega
   |nil =>
    simp[Z8,A6,k0,k5,hlti];exact hΦ _ _ _ (.inl ⟨rfl,by rw[←hR,keep,A0p,A0n (by omega)],rfl⟩)
 .rintro e R3 h2 ⟨K,⟨rfl,GK,rfl⟩|⟨rfl,Z,hZ,hZ2,k4,rfl⟩⟩
  .have CK:R3.length=66:=K.1.trans (by simp[hl]);have m0:=A8 K 0 (by simp[h0]:_=AV.sl k l.length 0 l.length);clear K;simp[CK,m0];exact⟨l,rfl,by rw[GK,A0y],by rw[GK],hsame⟩
  .simp[k4];exact⟨Z,hZ,hZ2,rfl⟩
theorem wX {a b c:Tm} (h:H6 a b<=0) (k:H6 b c<0):H6 a c<0:=by
 have h1:=(mB a b c).1 h (by omega);rcases A0l h1.1 with q|q
 .exact q
 .have:=h1.2 q;omega
theorem rq {a b c:Tm} (h:H6 a b<0) (k:H6 b c<=0):H6 a c<0:=by
 have h1:=(mB a b c).1 (by omega) k;rcases A0l h1.1 with q|q
 .exact q
 .have:=h1.2 q;omega
theorem eE {a b:Tm} (h:E3 a=E3 b):H6 a b<=0:=by rw[V5.2 h];omega
def L0 (R l:List Tm):Prop:=R.Pairwise (λa b=>H6 a b<0)/\∀e,e∈R.map E3↔e∈l.map E3
theorem Zu:∀(q:G6) (p:Tm),(p::q).Pairwise (λa b=>H6 a b<=0)->(∀x∈keep p q,H6 p x<0/\x∈q)/\(keep p q).Pairwise (λa b=>H6 a b<0)/\(keep p q).length<=q.length/\∀x∈q,E3 x=E3 p\/E3 x∈(keep p q).map E3
 | [],p,_=>by simp[keep]
 |b::q,p,h=>by
  obtain⟨h1,h2⟩:=A0b.1 h;obtain⟨i1,i2,i3,i4⟩:=Zu q b h2;unfold keep;by_cases hc:H6 b p=0
  .rw[if_pos hc];have e:=V5.1 hc;refine⟨λx hx=>⟨wX (eE e.symm) (i1 x hx).1,A0V _ (i1 x hx).2⟩,i2,by simp only[A0g];omega,λx hx=>?_⟩;rcases A0Y.1 hx with rfl|hx
   .exact .inl e
   .rcases i4 x hx with h|h
    .exact .inl (h.trans e)
    .exact .inr h
  .rw[if_neg hc];have hpb:H6 p b<0:=by
    have h3:=h1 b (A0R);rcases A0l h3 with q|q
    .exact q
    .exact absurd (KS.2.1 q) hc
   refine⟨λx hx=>?_,A0b.2 ⟨λx hx=>(i1 x hx).1,i2⟩,by simp only[A0g];omega,λx hx=>?_⟩
   .rcases A0Y.1 hx with rfl|hx
    .exact⟨hpb,A0R⟩
    .exact⟨GZ hpb (i1 x hx).1,A0V _ (i1 x hx).2⟩
   .refine .inr ?_;rw[A0X];rcases A0Y.1 hx with rfl|hx
    .exact A0R
    .rcases i4 x hx with h|h
     .rw[h];exact A0R
     .exact A0V _ h
theorem Pp (l:G6) (h:l.Pairwise (λa b=>H6 a b<=0)):L0 (S8 l) l/\(∀x∈S8 l,x∈l)/\(S8 l).length<=l.length:=by
 cases l with
 |nil=>exact⟨⟨List.Pairwise.nil,λ_=>Iff.rfl⟩,λ_ h=>h,A0Q _⟩
 |cons a q =>
  obtain⟨i1,i2,i3,i4⟩:=Zu q a h;have hs:∀x∈S8 (a::q),x∈a::q:=λx hx=>by
   rcases A0Y.1 hx with rfl|hx
   .exact A0R
   .exact A0V _ (i1 x hx).2
  refine⟨⟨A0b.2 ⟨λx hx=>(i1 x hx).1,i2⟩,λe=>⟨λhe=>?_,λhe=>?_⟩⟩,hs,by simp only[S8,A0g];omega⟩
  .obtain⟨x,hx,rfl⟩:=A0a.1 he;exact A06 (hs x hx)
  .obtain⟨x,hx,rfl⟩:=A0a.1 he;rw[S8,A0X];rcases A0Y.1 hx with rfl|hx
   .exact A0R
   .rcases i4 x hx with h|h
    .rw[h];exact A0R
    .exact A0V _ h
theorem gO:∀{R R':G6},R.Pairwise (λa b=>H6 a b<0)->R'.Pairwise (λa b=>H6 a b<0)->(∀e,e∈R.map E3↔e∈R'.map E3)->R.map E3=R'.map E3
 | [],[],_,_,_=>rfl
 | [],b::r',_,_,h=>absurd ((h (E3 b)).2 A0R) A1E
 |a::r,[],_,_,h=>absurd ((h (E3 a)).1 A0R) A1E
 |a::r,b::r',hp,hp',h=>by
  obtain⟨p1,p2⟩:=A0b.1 hp;obtain⟨q1,q2⟩:=A0b.1 hp';have key:∀{a b:Tm} {r r':List Tm},(∀x∈r',H6 b x<0)->E3 a∈(b::r').map E3->H6 b a<=0:=by
   intro a b r r' hq hm;rw[A0X]at hm;rcases A0Y.1 hm with e|hm
   .exact eE e.symm
   .obtain⟨y,hy,e⟩:=A0a.1 hm;have:=rq (hq y hy) (eE e);omega
  have k1:H6 b a<=0:=key (r:=r) q1 ((h _).1 A0R);have k2:H6 a b<=0:=key (r:=r') p1 ((h _).2 A0R);have k3:E3 a=E3 b:=by
   apply V5.1;have:=(mB a b a).1 k2 k1;rw[PO]at this;exact(this.2 rfl).1
  have tl:∀{a b:Tm} {r r':List Tm},E3 a=E3 b->(∀x∈r,H6 a x<0)->(∀e,e∈(a::r).map E3->e∈(b::r').map E3)->∀e,e∈r.map E3->e∈r'.map E3:=by
   intro a b r r' e0 hq hm e he;obtain⟨x,hx,rfl⟩:=A0a.1 he;have:=hm _ (A06 (A0V a hx));rw[A0X]at this;rcases A0Y.1 this with h1|h1
   .have h2:=V5.2 (h1.trans e0.symm);have h3:=hq x hx;have h4:=KS.2.1 h2;omega
   .exact h1
  rw[A0X,A0X,k3,gO p2 q2 λe=>⟨tl k3 p1 (λe=>(h e).1) e,tl k3.symm q1 (λe=>(h e).2) e⟩]
theorem Ww {R R' l l':G6} (h:L0 R l) (h':L0 R' l') (e:∀e,e∈l.map E3↔e∈l'.map E3):G9 R=G9 R':=by
 rw[E1,E1];exact gO h.1 h'.1 λx=>(h.2 x).trans ((e x).trans (h'.2 x).symm)
theorem Vc {R R' l:G6} (h:L0 R l) (e:G9 R'=G9 R):L0 R' l:=by
 rw[E1,E1]at e;refine⟨?_,λx=>by rw[e];exact h.2 x⟩;have hl:R'.length=R.length:=by simpa using congrArg A01 e
 rw[A0k];intro i j hi hj hij;have h1:=(A0k.1 h.1) i j (by omega) (by omega) hij;have g:∀i (hi:i<R'.length),E3 R'[i]=E3 (R[i]'(by omega)):=by
  intro i hi;have:=congrArg (·[i]?) e;simp only[A0m,A0P hi,A0P (show i<R.length by omega),A00]at this;exact Option.some.inj this
 exact rq (wX (eE (g i hi)) h1) (eE (g j hj).symm)
@[simp] theorem kpB_s (h:AH) (v:AV):WI true h (some (v,h))=some (v,h):=rJ h v h.fams
theorem rh (R Z:G6) (N k:Nat) (hZ:Z.length=N) (hZR:Z.take R.length=R) (B9:N<=1099511627776) (hRl:R.length<=N) (J5:∀t∈R,t.size<=1099511627776) (fr:Fr) (h:AH) (hfam:h.fams[k]?=some ⟨A4 Z,4,true⟩) (hl:fr.length=23) (h0:A0 fr 0=.sl k N 0 R.length) (h9:A0 fr 9=.int .i64 R.length) (h10:A0 fr 10=.int .i64 0) :
  B7 (lp (A2 (K8 Q) (D6 j6) Z5) (fr,h)) λe C3 h'=>Kp Z5.wr fr C3/\e=.exit 0/\∃(done:List Tm) (X:List AV),X=(done++Z.drop R.length).map B8/\h'=⟨h.boxes,h.fams.set k ⟨X,4,true⟩⟩/\G9 done=G9 R/\done.length=R.length:=by
 refine B4 rfl fr (λn fr h'=>∃(i:Nat),i+n=R.length/\A0 fr 10=.int .i64 (i:Nat)/\(∃(done:List Tm) (X:List AV),X=(done++Z.drop i).map B8/\h'=⟨h.boxes,h.fams.set k ⟨X,4,true⟩⟩/\G9 done=G9 (R.take i)/\done.length=i)) ?_ R.length h ⟨0,by omega,h10,⟨[],A4 Z,by simp[C9],by rw[DK hfam],by simp[G9],rfl⟩⟩;rintro J Φ hJ hΦ n D5 H1 K ⟨i,hi,k10,hr⟩;have A6:=K.1.trans hl;have k0:=A8 K 0 h0;have k9:=A8 K 9 h9;clear K;by_cases A7:i<R.length
 .have L4:=C6 i (by omega);obtain⟨done,X,hX,rfl,hd,Dm⟩:=hr;have hltZ:i<Z.length:=by omega
  obtain⟨t',hI,ht⟩:=Xz _ R[i] (A0Q _) (J5 _ (A0f A7));obtain⟨q1,q2,q3⟩:=SN B8 done Z hltZ Dm;have q4:=SO B8 done Z hltZ Dm t';have hzr:Z[i]=R[i]:=by
   have:=congrArg (·[i]?) hZR;simp only[List.getElem?_take_of_lt A7,A0P hltZ,A0P A7]at this;exact Option.some.inj this
  rw[hzr]at q2;rw[hZ]at q3;have e2:G9 (done++[t'])=G9 (R.take (i+1)):=by
   rw[A0U A7,E1,A0s,←E1,hd,E1,E1,A0s,A0X,A1K,A0X,A1K,ht]
  have CI:=H5 hfam;rw[←hX]at q1 q3 q4;have hq2:X[i]?=some (B8 R[i]):=by subst hX;rw[A0P q1,q2]
  clear hd ht hzr q2 hX;generalize hY:(done++[t']++Z.drop (i+1)).map B8=Y at *
  generalize R[i]=s at *
  simp[Z5,A6,k0,k9,k10,A7,L4,hI,hq2,q3,q4,CI];exact G0 hJ ⟨i+1,by omega,by simp[A6],_,Y,hY.symm,rfl,e2,by simp[Dm]⟩
 .obtain⟨done,X,hX,rfl,hd,Dm⟩:=hr;have e:i=R.length:=by omega
  subst e;rw[A0y]at hd;simp[Z5,A6,k9,k10];exact hΦ _ _ _ ⟨rfl,done,X,hX,rfl,hd,Dm⟩
theorem nL (fr:Fr) (h:AH) (hl:fr.length=23) (h9:A0 fr 9=.int .i64 0) (h10:A0 fr 10=.int .i64 0) :
  B7 (lp (A2 (K8 Q) (D6 j6) Z5) (fr,h)) λe C3 h'=>Kp Z5.wr fr C3/\e=.exit 0/\h'=h:=by
 refine B4 rfl fr (λn C3 h'=>C3=fr/\h'=h) ?_ 0 h ⟨rfl,rfl⟩;rintro J Φ hJ hΦ n D5 H1 K ⟨rfl,rfl⟩;simp[Z5,hl,h9,h10];exact hΦ _ _ _ ⟨rfl,rfl⟩
theorem fb (a b:Tm) (h:a.size<=1099511627776) (h':b.size<=1099511627776):pc Q BZ [B8 a,B8 b]=some (.bool (decide (H6 a b=0))):=by
 have hC:=x7 _ a b (A0Q _) h h';refine M9 Kx λfr hl h0 h1=>?_;simp[Kx]at hl h0 h1;simp[Kx,hl,h0,h1,hC]
theorem ot (a b:Tm) (h:a.size<=1099511627776) (h':b.size<=1099511627776):pc Q p9 [B8 a,B8 b]=some (.bool (decide (H6 a b=0))):=by
 have hC:=x7 _ a b (A0Q _) h h';refine M9 Hp λfr hl h0 h1=>?_;simp[Hp]at hl h0 h1;simp[Hp,hl,h0,h1,hC]
theorem gI (h:AH) (b:Bool):rc Q D9 [sl (true,b) 4 [],.fn C4 []] h=some (C5,h):=by
 refine OT (s:=af 4) rfl rfl ?_;rfl
theorem Vx (g:FuncId) (h:AH) (b:Bool):rc Q D4 [sl (true,b) 4 [],.fn g []] h=some (sl (true,b) 4 [],h):=by
 suffices hq:∃v h',rc Q D4 [sl (true,b) 4 [],.fn g []] h=some (v,h')/\(v=sl (true,b) 4 []/\h'=h) by
  obtain⟨v,h',h1,rfl,rfl⟩:=hq;exact h1
 refine Df I5 λfr hl h0 h1=>?_;simp[I5]at hl h0 h1;simp[I5,hl,h0]
def zh (sz:Nat) (xs:List AV) (v:AV) (h:AH):Prop:=v.isTup=false/\v.cells=[v]/\∃m,DZ h v=some (sl m sz xs)
theorem YQ (k:Nat) (l:G6) (v:AV) (h:AH) (hg:lw k 4 (A4 l) v h) (J5:∀t∈l,t.size<=1099511627776) (B9:l.length<=1099511627776) :
  ∃(v':AV) (h':AH) (R:List Tm),rc Q j6 [v] h=some (v',h')/\h'.boxes=h.boxes/\L0 R l/\R.length<=l.length/\zh 4 (A4 R) v' h':=by
 suffices hq:∃v' h',rc Q j6 [v] h=some (v',h')/\∃(R:List Tm),h'.boxes=h.boxes/\L0 R l/\R.length<=l.length/\zh 4 (A4 R) v' h' by
  obtain⟨v',h',h1,R,h2⟩:=hq;exact⟨v',h',R,h1,h2⟩
 rcases hg with ⟨hl0,b,rfl⟩|⟨P6,rfl,hk⟩
 .have:l=[]:=by rw[C9]at hl0;exact A05.1 hl0
  subst this;have hS:=gI h b;have hC:=Vx BZ h b;refine gD Ef λfr hl h0=>?_;simp[Ef]at hl h0;simp[Ef,hl,h0,hS,hC];refine B7.mono (nL _ _ ?_ ?_ ?_) ?_<;>first|(simp[hl];done)|skip
  rintro e D5 h1 ⟨K,rfl,rfl⟩;have J2:D5.length=23:=K.1.trans (by simp[hl]);have Mt:A0 D5 0=sl (true,b) 4 []:=A8 K 0 (by simp[hl]);clear K;simp[J2,Mt];exact⟨[],⟨List.Pairwise.nil,λ_=>Iff.rfl⟩,rfl,rfl,rfl,_,rfl⟩
 .have hne':l≠[]:=by rintro rfl;exact P6 rfl
  have CI:=H5 hk;obtain⟨l',hp,hsort,hS⟩:=UU k h l hk hne' J5 B9;have hl':l'.length=l.length:=hp.length_eq;have hcm:Va BZ l':=⟨rfl,λa ha b hb=>fb a b (J5 a (hp.mem_iff.1 ha)) (J5 b (hp.mem_iff.1 hb))⟩;obtain⟨Z,hZ,hZR,hC⟩:=NL BZ l' hcm k ⟨h.boxes,h.fams.set k ⟨A4 l',4,true⟩⟩ (by simp[CI]) (by omega);obtain⟨s1,s2,s3⟩:=Pp l' hsort;rw[hl']at hC hZ;generalize S8 l'=R at *
  simp only[A1L]at hC;refine gD Ef λfr hl h0=>?_;simp[Ef]at hl h0;simp[Ef,hl,h0,hS,hC];refine B7.mono (rh R Z l.length k hZ hZR B9 (by omega) (λt ht=>J5 t (hp.mem_iff.1 (s2 t ht))) _ _ ?_ ?_ ?_ ?_ ?_) ?_<;>first|(simp[hl,CI];done)|skip
  rintro e D5 h1 ⟨K,rfl,done,X,hX,rfl,hd,Dm⟩;have J2:D5.length=23:=K.1.trans (by simp[hl]);have Mt:A0 D5 0=.sl k l.length 0 R.length:=A8 K 0 (by simp[hl]);clear K;simp[J2,Mt];refine⟨done,Vc ⟨s1.1,λe=>(s1.2 e).trans ?_⟩ hd,by omega,rfl,rfl,(false,true),?_⟩
  .simp only[A0a,hp.mem_iff]
  .have e1:X.length=l.length:=by rw[hX];simp;omega
   have e2:X.take R.length=A4 done:=by rw[hX,A0s,←Dm,A1H (by simp),C9]
   have e3:R.length<=l.length:=by omega
   rw[Ld,CU];simp[CI,e1,e2,e3]
theorem fo (m:I6) (l:G6) (J5:∀t∈l,t.size<=1099511627776) (B9:l.length<=1048576) :
  ∃(R:List Tm) (m':Bool×Bool),pc Q DB [sl m 4 (A4 l)]=some (sl m' 4 (A4 R))/\L0 R l/\(∀x∈R,x∈l)/\R.length<=l.length:=by
 have hlv:(A4 l).length=l.length:=by rw[C9,A0j]
 obtain⟨w,⟨B,F⟩,hC,hg,hb,hf⟩:=QI m (A4 l) (by omega) AH.empty;simp only[AH.empty,List.length_nil]at hC hg hb;subst hb
 suffices h:∃v,pc Q DB [sl m 4 (A4 l)]=some v/\∃q:List Tm×(Bool×Bool),v=sl q.2 4 (A4 q.1)/\L0 q.1 l/\(∀x∈q.1,x∈l)/\q.1.length<=l.length by
  obtain⟨v,h1,q,rfl,h2⟩:=h;exact⟨q.1,q.2,h1,h2⟩
 rcases hg with ⟨hl0,b,rfl⟩|⟨P6,rfl,hk⟩
 .have:l=[]:=by rw[C9]at hl0;exact A05.1 hl0
  subst this;have hS:=gI ⟨[],F⟩ b;have hK:=Vx p9 ⟨[],F⟩ b;refine GV Al λΨ hΨ fr hl h0=>?_;simp[Al]at hl h0;simp[Al,hl,h0,hC,hS,hK];exact hΨ _ ⟨([],(true,b)),rfl,⟨List.Pairwise.nil,λ_=>Iff.rfl⟩,λ_ h=>h,A0Q _⟩
 .have hne':l≠[]:=by rintro rfl;exact P6 rfl
  have CI:=H5 hk;obtain⟨l',hp,hsort,hS⟩:=UU 0 ⟨[],F⟩ l hk hne' J5 (by omega);have hl':l'.length=l.length:=hp.length_eq;have hcm:Va p9 l':=⟨rfl,λa ha b hb=>ot a b (J5 a (hp.mem_iff.1 ha)) (J5 b (hp.mem_iff.1 hb))⟩;obtain⟨Z,hZ,hZR,hK⟩:=NL p9 l' hcm 0 ⟨[],F.set 0 ⟨A4 l',4,true⟩⟩ (by simp only at CI;simp[CI]) (by omega);obtain⟨s1,s2,s3⟩:=Pp l' hsort;rw[hl']at hK hZ;generalize S8 l'=R at *
  simp only[A1L]at hK hS CI;rw[hlv]at hC;have e1:(A4 Z).length=l.length:=by rw[C9,A0j,hZ]
  have e2:(A4 Z).take R.length=A4 R:=by rw[←VW,hZR]
  have e3:R.length<=l.length:=by omega
  refine GV Al λΨ hΨ fr hl h0=>?_;simp[Al]at hl h0;simp[Al,hl,h0,hC,hS,hK,CI,e1,e2,e3];exact hΨ _ ⟨(R,(false,true)),rfl,⟨s1.1,λe=>(s1.2 e).trans (by simp only[A0a,hp.mem_iff])⟩,λx hx=>hp.mem_iff.1 (s2 x hx),e3⟩
mutual
def Cv:Tm->List Tm
 | .mk k nm s m l=>.mk k nm s m l::alls l
def alls:List Tm->List Tm
 | []=>[]
 |t::l=>Cv t++alls l
end
theorem AF (t:Tm):Cv t=t::alls t.kids:=by cases t;rfl
theorem G2 (l:G6):alls l=l.flatMap Cv:=by
 induction l with
 |nil=>rfl
 |cons t l ih=>rw[alls,ih,A1B]
theorem PM {l:G6} {i:Nat} (h:i<l.length):alls (l.take (i+1))=alls (l.take i)++Cv l[i]:=by
 rw[A0U h,G2,G2,A0u,A1B,List.flatMap_nil,A0p]
mutual
theorem Mm:∀t:Tm,(Cv t).length=t.size
 | .mk _ _ _ _ l=>by
  have:=Q5 l;simp only[Cv,Tm.size,A0g];omega
theorem Q5:∀l:List Tm,(alls l).length=Tm.sizes l
 | []=>rfl
 |t::l=>by
  have:=Mm t;have:=Q5 l;simp only[alls,Tm.sizes,A0S];omega
end
theorem SE:∀(n:Nat) (t:Tm),t.size<=n->∀x∈Cv t,x.size<=t.size:=by
 intro n
 induction n with
 |zero=>intro t h;have:=t.size_pos;omega
 |succ n ih =>
  intro t hn x hx;rw[AF]at hx;rcases A0Y.1 hx with rfl|hx
  .exact A0Q _
  .have J5:=t.kids_size;rw[G2]at hx;obtain⟨y,hy,hx⟩:=A1D.1 hx;have h1:=Tm.size_le hy;have:=ih y (by omega) x hx;omega
def LS (L:Nat) (h h':AH):Prop:=h.boxes.length<=h'.boxes.length/\∀j,L<=j->j<h.boxes.length->h'.boxes[j]?=h.boxes[j]?
theorem LS.trans {L:Nat} {a b c:AH} (h:LS L a b) (k:LS L b c):LS L a c :=
 ⟨Nat.le_trans h.1 k.1,λj h1 h2=>(k.2 j h1 (A1A h2 h.1)).trans (h.2 j h1 h2)⟩
theorem LS.refl (L:Nat) (a:AH):LS L a a:=⟨A0Q _,λ_ _ _=>rfl⟩
theorem LS.push (L:Nat) (a:AH) (c:G4):LS L a ⟨a.boxes++[c],a.fams⟩ :=
 ⟨by simp,λj _ h=>by simp[A0O h]⟩
structure Vis (g:FuncId) (caps:List AV) (p:Tm->Bool) (L:Nat) (I:List Tm->AH->Prop):Prop where
 raw:C2 g=true
 rawv:Lk r6=true
 noB:Ds g=false
 keep:∀acc h c,L<=h.boxes.length->I acc h->I acc ⟨h.boxes++[c],h.fams⟩
 call:∀(x:Tm) (acc:List Tm) (h:AH),acc.length<1099511627776->L<=h.boxes.length->I acc h ->
  ∃v h',rc Q g (B8 x::caps) h=some (v,h')/\I (acc++[x].filter p) h'/\LS L h h'
theorem nU {g:FuncId} {caps:G4} {p:Tm->Bool} {L:Nat} {I:List Tm->AH->Prop} (V:Vis g caps p L I) (m:I6) (l:G6) (acc:G6) (B9:acc.length+Tm.sizes l<=1099511627776)
  (IH:∀t∈l,∀(acc:List Tm) (h:AH),acc.length+t.size<=1099511627776->L<=h.boxes.length->I acc h->∃v h',rc Q r6 [B8 t,.fn g caps] h=some (v,h')/\I (acc++(Cv t).filter p) h'/\LS L h h')
  (fr:Fr) (h:AH) (hL:L<=h.boxes.length) (hI:I acc h) (hl:fr.length=20) (h1:A0 fr 1=.fn g caps) (h10:A0 fr 10=sl m 4 (A4 l)) (h11:A0 fr 11=.int .i64 l.length) (h12:A0 fr 12=.int .i64 0) :
  B7 (lp (A2 (K8 Q) (D6 r6) IU) (fr,h)) λe C3 h'=>Kp IU.wr fr C3/\e=.exit 0/\I (acc++(alls l).filter p) h'/\LS L h h':=by
 have hll:=Tm.length_le l;refine B4 rfl fr (λn fr h'=>∃i:Nat,i+n=l.length/\A0 fr 12=.int .i64 (i:Nat)/\I (acc++(alls (l.take i)).filter p) h'/\LS L h h') ?_ l.length h ⟨0,by omega,h12,by simpa[alls]using hI,LS.refl _ _⟩;rintro J Φ hJ hΦ n D5 H1 K ⟨i,hi,k12,hI',hK⟩;have A6:=K.1.trans hl;have k1:=A8 K 1 h1;have k10:=A8 K 10 h10;have k11:=A8 K 11 h11;clear K;by_cases A7:i<l.length
 .have L4:=C6 i (by omega);have hx:=I0 A7;have hat:=PM A7;have hb:(acc++(alls (l.take i)).filter p).length+l[i].size<=1099511627776:=by
   have a1:=A0o p (alls (l.take i));have a2:=Q5 (l.take (i+1));rw[hat,A0S,Mm]at a2;have a3:Tm.sizes (l.take (i+1))<=Tm.sizes l:=by
    have e:=congrArg A01 (congrArg alls (A03 (i+1) l));rw[G2,G2,A0u,A0S,←G2,←G2,←G2,Q5,Q5,Q5]at e;omega
   simp only[A0S];omega
  obtain⟨v,⟨B',F'⟩,hc,hI2,hK2⟩:=IH l[i] (A0f A7) _ ⟨H1.boxes++[(B8 l[i]).cells],H1.fams⟩ hb (by simp only[A0S];have:=hK.1;omega) (V.keep _ _ _ (by have:=hK.1;omega) hI');rw[A0d,←A09,←hat]at hI2;have hK3:=(hK.trans (LS.push L H1 (B8 l[i]).cells)).trans hK2;clear hat hb hI' IH;generalize l[i]=s at *
  obtain⟨B,F⟩:=H1;simp only[I3]at hc;simp[IU,A6,k1,k10,k11,k12,A7,hx,hc,L4];exact G0 hJ ⟨i+1,by omega,by simp[A6],hI2,hK3⟩
 .rw[A0n (by omega)]at hI';simp[IU,A6,k11,k12,A7];exact hΦ _ _ _ ⟨rfl,hI',hK⟩
theorem lV {g:FuncId} {caps:G4} {p:Tm->Bool} {L:Nat} {I:List Tm->AH->Prop} (V:Vis g caps p L I) :
  ∀(n:Nat) (t:Tm),t.size<=n->∀(acc:List Tm) (h:AH),acc.length+t.size<=1099511627776->L<=h.boxes.length->I acc h ->
   ∃v h',rc Q r6 [B8 t,.fn g caps] h=some (v,h')/\I (acc++(Cv t).filter p) h'/\LS L h h':=by
 intro n
 induction n with
 |zero=>intro t h;have:=t.size_pos;omega
 |succ n ih =>
  intro t hn acc h hb hL hI;have J5:=t.kids_size;obtain⟨B,F⟩:=h;simp only at hL;obtain⟨v1,⟨B1,F1⟩,hc1,hI1,hk1⟩:=V.call t acc ⟨B++[(B8 t).cells],F⟩ (by omega) (by simp only[A0S];omega) (V.keep _ ⟨B,F⟩ _ hL hI);have hk2:=(LS.push L ⟨B,F⟩ (B8 t).cells).trans hk1;have hown:B1[B.length]?=some (B8 t).cells:=by
   rw[hk1.2 B.length hL (by simp)];simp
  have hl0:(acc++[t].filter p).length+Tm.sizes t.kids<=1099511627776:=by
   have:=A0o p [t];simp only[A0S,List.length_singleton]at this ⊢;omega
  have GX:=nU V t.cm t.kids _ hl0 (λt' ht'=>ih t' (by have:=Tm.size_le ht';omega));clear ih hb hn hl0;have hraw:=V.raw;have hrv:=V.rawv;have hnb:=V.noB;simp only[I3]at hc1 hown;rw[show (Cv t).filter p=[t].filter p++(alls t.kids).filter p from by rw[AF,←A09];rfl,←A0d];refine Df Ru λfr hl h0 h1=>?_;simp[Ru]at hl h0 h1;simp[Ru,hl,h0,h1,hc1,hraw,hrv,hnb,hown];refine B7.mono (GX _ _ ?_ hI1 ?_ ?_ ?_ ?_ ?_) ?_<;>first|(simp[hl,h1];done)|skip
  .have:=hk2.1;simp only at this ⊢;omega
  rintro e D5 Cw ⟨K,rfl,hI2,hk3⟩;simp;exact⟨by rw[←A0d];exact hI2,hk2.trans hk3⟩
def dQ (sz:Nat) (acc:List AV) (v:AV) (h:AH):Prop:=(acc=[]/\v=.vs true 0 [])\/(acc≠[]/\∃k,v=.sl k acc.length 0 acc.length/\h.fams[k]?=some ⟨acc,sz,true⟩)
theorem dU {sz:Nat} {acc:G4} {v:AV} {h:AH} (hg:dQ sz acc v h):∃k,lw k sz acc v h:=by
 rcases hg with ⟨rfl,rfl⟩|⟨P6,k,rfl,hk⟩
 .exact⟨0,.inl ⟨rfl,false,In sz⟩⟩
 .exact⟨k,.inr ⟨P6,rfl,hk⟩⟩
theorem PH {sz:Nat} {acc:G4} {v:AV} {h h':AH} (hg:dQ sz acc v h) (e:h'.fams=h.fams):dQ sz acc v h':=by
 rcases hg with hg|⟨h1,k,h2,h3⟩
 .exact .inl hg
 .exact .inr ⟨h1,k,h2,by rw[e];exact h3⟩
theorem Pk {sz:Nat} {acc:G4} {v:AV} {h:AH} (hg:dQ sz acc v h):v.isTup=false/\v.cells=[v]/\Es [v]=false:=by
 rcases hg with ⟨_,rfl⟩|⟨_,k,rfl,_⟩<;>exact⟨rfl,rfl,rfl⟩
theorem dR {sz:Nat} {acc:G4} {v:AV} {h:AH} (hg:dQ sz acc v h) (h':AH):bd h' v=some (.int .i64 acc.length,h'):=by
 rcases hg with ⟨rfl,rfl⟩|⟨P6,k,rfl,hk⟩<;>rfl
theorem dS {c:Ctx} {sz bytes:Nat} {acc:G4} {v z:AV} {h:AH} (hg:dQ sz acc v h) (hm:c.mutApp=true) (m:I6)
  (hb:(acc.length+1)*bytes<=140737488355328) (hb':acc.length<=1099511627776):∃k F,K3 c h sz bytes v (sl m sz [z])=some (.sl k (acc.length+1) 0 (acc.length+1),⟨h.boxes,F⟩)/\F[k]?=some ⟨acc++[z],sz,true⟩/\k<F.length /\
   (∀x,(acc++[z]).set acc.length x=acc++[x])/\∀x B,dQ sz (acc++[x]) (.sl k (acc.length+1) 0 (acc.length+1)) ⟨B,F.set k ⟨acc++[x],sz,true⟩⟩:=by
 have hr:(acc.length+1)*bytes<=H3/\acc.length+1<=maxLen:=by simp only[H3,maxLen];omega
 rcases hg with ⟨rfl,rfl⟩|⟨P6,k,rfl,hk⟩
 .rw[Po,N0,A0h,if_neg (by simp),if_pos (by simpa using hr),hm];exact⟨h.fams.length,_,rfl,by simp,by simp,by simp,λx B=>.inr ⟨by simp,_,rfl,by simp⟩⟩
 .have Dv:=H5 hk;rw[LV,N0,A0h,hk,A0h,if_pos ⟨rfl,rfl,by omega,by simpa using hr⟩];exact⟨k,_,rfl,by simp[Dv],by simpa using Dv,by simp,λx B=>.inr ⟨by simp,k,by simp,by simp[Dv]⟩⟩
def kN (b:Nat) (acc:List Tm) (h:AH):Prop:=∃v,h.boxes[b]?=some [v]/\dQ 4 (A4 acc) v h
@[simp] theorem xG (cs ds:G4):(AV.agg cs).reform ds=some (.agg ds):=rfl
@[simp] theorem steA_ep (h:AH) (n k m i q sz:Nat) (v:AV):Yf h n (.ep k m i q sz) v=if OH v then ((h.fams[k]?).bind λf =>
  if f.xs.length=m/\f.sz=sz/\f.wr=true then
   (f.xs[i]?).bind λx=>(KI h false v).bind λu=>if u.cells.length=n/\q+n<=x.cells.length then
    (x.reform (M5 x.cells q u.cells)).map λy=>{h with fams:=h.fams.set k {f with xs:=f.xs.set i y}} else none
  else none).map (λh'=>(C5,h'))else none:=by
 have e:Io h n v k m i q sz=((h.fams[k]?).bind λf =>
  if f.xs.length=m/\f.sz=sz/\f.wr=true then
   (f.xs[i]?).bind λx=>(KI h false v).bind λu=>if u.cells.length=n/\q+n<=x.cells.length then
    (x.reform (M5 x.cells q u.cells)).map λy=>{h with fams:=h.fams.set k {f with xs:=f.xs.set i y}} else none
  else none):=by
  simp only[Io];cases h.fams[k]? with
  |none=>rfl
  |some f =>
   simp only[A0h];split
   .cases f.xs[i]? with
    |none=>rfl
    |some x=>cases KI h false v<;>rfl
   .rfl
 rw[←e];simp only[Yf];split
 .cases Io h n v k m i q sz<;>rfl
 .rfl
@[simp] theorem stbA_ptr (h:AH) (n:Nat) (v:AV) (b off:Nat):Ye h n (.ptr b off) v=(h.boxes[b]?).bind λcs=>if Es cs=false/\v.isTup=false/\v.cells.length=n/\off+n<=cs.length then some (C5,{h with boxes:=h.boxes.set b (M5 cs off v.cells)})else none:=by
 simp only[Ye];cases h.boxes[b]?<;>rfl
theorem lk:B8 gt=AV.agg [.int .i64 0,.str (bs []),.int .i64 0,sl (true,false) 1 []]:=rfl
theorem kv:OH (AV.agg [.int .i64 0,.str (bs []),.int .i64 0,.vs true 0 []])=true:=rfl
theorem dJ (b:Nat):Vis i9 [.ptr b 0] (λ_=>true) (b+1) (kN b) where
 raw:=rfl
 rawv:=rfl
 noB:=rfl
 keep:=by
  rintro acc h c hL ⟨v,h1,h2⟩;exact⟨v,by rw[A0O (by omega)];exact h1,PH h2 rfl⟩
 call:=by
  rintro x acc ⟨B,F⟩ hb hL ⟨v,hv,hg⟩;simp only at hv hL;have hbl:=H5 hv;have hal:(A4 acc).length=acc.length:=by rw[C9,A0j]
  obtain⟨k,F',ha,hk,CI,q8,hG⟩:=dS (c:=D6 i9) (bytes:=56) (z:=B8 gt) (PH (h':=⟨B++[(B8 x).cells],F⟩) hg rfl) rfl (true,true) (by omega) (by omega);obtain⟨c1,c2,c3⟩:=Pk hg;have B9:=dR hg;have hG2:=hG (B8 x);have hs2:=q8 (B8 x);rw[hal]at ha hG2 hs2 B9;simp only[I3,lk]at ha hk hs2;have hq:(B++[[AV.int .i64 x.kind,.str x.name,.int .i64 x.sort,sl x.cm 4 (A4 x.kids)]])[b]?=some [v]:=by rw[A0O hbl];exact hv
  refine Df KC λfr hl h0 h1=>?_;simp[KC]at hl h0 h1;have hlt1:(acc.length:Int)<(acc.length:Int)+1:=by omega
  simp[KC,hl,h0,h1,hq,B9,ha,hk,c3,kv,A5,hbl,hal,hlt1];refine⟨⟨_,?_,by rw[P9];exact hG2 _⟩,?_,λj hj hj2=>?_⟩
  .simp[A0O,hbl]
  .simp
  .simp only at hj2 ⊢;rw[A0O (by simpa using hj2),A0r (by omega)]
def wx (a b:Nat) (kd:Int) (acc:List Tm) (h:AH):Prop:=h.boxes[a]?=some [.int .i64 kd]/\kN b acc h
theorem kG (a b:Nat) (BE:a<b) (kd:Int):Vis Aw [.ptr a 0,.ptr b 0] (λx=>decide (x.kind=kd)) (b+1) (wx a b kd) where
 raw:=rfl
 rawv:=rfl
 noB:=rfl
 keep:=by
  rintro acc h c hL ⟨h0,v,h1,h2⟩;exact⟨by rw[A0O (by omega)];exact h0,v,by rw[A0O (by omega)];exact h1,PH h2 rfl⟩
 call:=by
  rintro x acc ⟨B,F⟩ hb hL ⟨hkd,v,hv,hg⟩;simp only at hv hL hkd;have hbl:=H5 hv;have hal:(A4 acc).length=acc.length:=by rw[C9,A0j]
  have hq:(B++[[AV.int .i64 x.kind,.str x.name,.int .i64 x.sort,sl x.cm 4 (A4 x.kids)]])[b]?=some [v]:=by rw[A0O hbl];exact hv
  have hq2:(B++[[AV.int .i64 x.kind,.str x.name,.int .i64 x.sort,sl x.cm 4 (A4 x.kids)]])[a]?=some [.int .i64 kd]:=by rw[A0O (by omega)];exact hkd
  by_cases hc:x.kind=kd
  .subst hc;obtain⟨k,F',ha,hk,CI,q8,hG⟩:=dS (c:=D6 Aw) (bytes:=56) (z:=B8 gt) (PH (h':=⟨B++[(B8 x).cells],F⟩) hg rfl) rfl (true,true) (by omega) (by omega);obtain⟨c1,c2,c3⟩:=Pk hg;have B9:=dR hg;have hG2:=hG (B8 x);have hs2:=q8 (B8 x);rw[hal]at ha hG2 hs2 B9;simp only[I3,lk]at ha hk hs2;have hlt1:(acc.length:Int)<(acc.length:Int)+1:=by omega
   refine cn Cs λfr hl h0 h1 h2=>?_;simp[Cs]at hl h0 h1 h2;simp[Cs,hl,h0,h1,h2,hq,hq2,B9,ha,hk,c3,kv,A5,hbl,hal,hlt1];refine⟨⟨?_,_,?_,by rw[P9];exact hG2 _⟩,?_,λj hj hj2=>?_⟩
   .simp only;rw[A0O (by simp;omega),A0r (by omega)];exact hkd
   .simp[A0O,hbl]
   .simp
   .simp only at hj2 ⊢;rw[A0O (by simpa using hj2),A0r (by omega)]
  .refine cn Cs λfr hl h0 h1 h2=>?_;simp[Cs]at hl h0 h1 h2;simp[Cs,hl,h0,h1,hq2,hc];exact⟨⟨hq2,v,hq,PH hg rfl⟩,LS.push _ ⟨B,F⟩ _⟩
theorem Yw (m:I6) (l:G6) (B9:Tm.sizes l<=1099511627776) (fr:Fr) (h:AH) (hh:h.boxes=[[.vs true 0 []]]) (hl:fr.length=18)
  (h3:A0 fr 3=.ptr 0 0) (h6:A0 fr 6=sl m 4 (A4 l)) (h7:A0 fr 7=.int .i64 l.length) (h8:A0 fr 8=.int .i64 0) :
  B7 (lp (A2 (K8 Q) (D6 Av) DX) (fr,h)) λe C3 h'=>Kp DX.wr fr C3/\e=.exit 0/\kN 0 (alls l) h':=by
 have hll:=Tm.length_le l;refine B4 rfl fr (λn fr h'=>∃i:Nat,i+n=l.length/\A0 fr 8=.int .i64 (i:Nat)/\kN 0 (alls (l.take i)) h'/\1<=h'.boxes.length) ?_ l.length h ⟨0,by omega,h8,⟨_,by rw[hh];rfl,.inl ⟨rfl,rfl⟩⟩,by rw[hh];simp⟩;rintro J Φ hJ hΦ n D5 H1 K ⟨i,hi,k8,hI,hB⟩;have A6:=K.1.trans hl;have k3:=A8 K 3 h3;have k6:=A8 K 6 h6;have k7:=A8 K 7 h7;clear K;by_cases A7:i<l.length
 .have L4:=C6 i (by omega);have hx:=I0 A7;have hat:=PM A7;have hV:=dJ 0;have hb:(alls (l.take i)).length+l[i].size<=1099511627776:=by
   have a2:=Q5 (l.take (i+1));rw[hat,A0S,Mm]at a2;have a3:Tm.sizes (l.take (i+1))<=Tm.sizes l:=by
    have e:=congrArg A01 (congrArg alls (A03 (i+1) l));rw[G2,G2,A0u,A0S,←G2,←G2,←G2,Q5,Q5,Q5]at e;omega
   omega
  obtain⟨v,⟨B',F'⟩,hc,hI2,hK2⟩:=lV hV _ l[i] (A0Q _) _ ⟨H1.boxes++[(B8 l[i]).cells],H1.fams⟩ hb (by simp) (hV.keep _ _ _ hB hI);rw[List.filter_eq_self.2 (λ_ _=>rfl),←hat]at hI2;have hB2:1<=B'.length:=by have:=hK2.1;simp at this;omega
  clear hat hb hI hV hK2;generalize l[i]=s at *
  obtain⟨B,F⟩:=H1;simp only[I3]at hc;simp[DX,A6,k3,k6,k7,k8,A7,hx,hc,L4];exact G0 hJ ⟨i+1,by omega,by simp[A6],hI2,hB2⟩
 .rw[A0n (by omega)]at hI;simp[DX,A6,k7,k8,A7];exact hΦ _ _ _ ⟨rfl,hI⟩
theorem Vs (m:I6) (l:G6) (B9:Tm.sizes l<=1099511627776) :
  ∃(R:List Tm) (m':Bool×Bool),pc Q Av [sl m 4 (A4 l)]=some (sl m' 4 (A4 R))/\L0 R (alls l)/\R.length<=Tm.sizes l:=by
 suffices h:∃v,pc Q Av [sl m 4 (A4 l)]=some v/\∃q:List Tm×(Bool×Bool),v=sl q.2 4 (A4 q.1)/\L0 q.1 (alls l)/\q.1.length<=Tm.sizes l by
  obtain⟨v,h1,q,rfl,h2⟩:=h;exact⟨q.1,q.2,h1,h2⟩
 refine GV MF λΨ hΨ fr hl h0=>?_;simp[MF]at hl h0;simp[MF,hl,h0];refine B7.mono (Yw m l B9 _ _ ?_ ?_ ?_ ?_ ?_ ?_) ?_<;>first|(simp[hl];done)|skip
 rintro e D5 ⟨B,F⟩ ⟨K,rfl,v,hv,hg⟩;simp only at hv;obtain⟨c1,c2,c3⟩:=Pk hg;obtain⟨k,hrow⟩:=dU hg;have hal:=Q5 l;obtain⟨v',⟨B',F'⟩,R,ho,hb,q8,hRl,f1,f2,mm,f3⟩:=YQ k (alls l) v ⟨B,F⟩ hrow (λt ht=>by
  rw[G2]at ht;obtain⟨y,hy,ht⟩:=A1D.1 ht;have:=SE _ y (A0Q _) t ht;have:=Tm.size_le hy;omega) (by omega)
 simp only at hb;subst hb;have J2:D5.length=18:=K.1.trans (by simp[hl]);have OJ:A0 D5 3=.ptr 0 0:=A8 K 3 (by simp[hl]);clear K;simp[J2,OJ,hv,c3,ho,f3];exact hΨ _ ⟨(R,mm),rfl,q8,by simpa[hal]using hRl⟩
theorem vT (t:Tm) (B9:t.size<=1099511627776) :
  ∃(R:List Tm) (m':Bool×Bool),pc Q RQ [B8 t]=some (sl m' 4 (A4 R))/\L0 R ((Cv t).filter λx=>decide (x.kind=1)):=by
 have hofk:∃(R:List Tm) (m':Bool×Bool),pc Q IG [B8 t,.int .i64 1]=some (sl m' 4 (A4 R))/\L0 R ((Cv t).filter λx=>decide (x.kind=1)):=by
  suffices h:∃v,pc Q IG [B8 t,.int .i64 1]=some v/\∃q:List Tm×(Bool×Bool),v=sl q.2 4 (A4 q.1)/\L0 q.1 ((Cv t).filter λx=>decide (x.kind=1)) by
   obtain⟨v,h1,q,rfl,h2⟩:=h;exact⟨q.1,q.2,h1,h2⟩
  have hV:=kG 1 2 (by omega) 1;obtain⟨w,⟨B,F⟩,hc,⟨_,v,hv,hg⟩,hK2⟩:=lV hV _ t (A0Q _) [] ⟨[(B8 t).cells,[.int .i64 1],[.vs true 0 []]],[]⟩ (by simpa using B9) (by simp) ⟨rfl,_,rfl,.inl ⟨rfl,rfl⟩⟩;rw[A1F]at hg;simp only at hv;obtain⟨c1,c2,c3⟩:=Pk hg;obtain⟨k,hrow⟩:=dU hg;have hal:=Mm t;have hfl:=A0o (λx:Tm=>decide (x.kind=1)) (Cv t);obtain⟨v',⟨B',F'⟩,R,ho,hb,q8,hRl,f1,f2,mm,f3⟩:=YQ k _ v ⟨B,F⟩ hrow (λx hx=>by
   have:=SE _ t (A0Q _) x (List.mem_filter.1 hx).1;omega) (by omega)
  simp only at hb;subst hb;simp only[I3]at hc;refine Sk PF λΨ hΨ fr hl h0 h1=>?_;simp[PF]at hl h0 h1;simp[PF,hl,h0,h1,hc,hv,c3,ho,f3];exact hΨ _ ⟨(R,mm),rfl,q8⟩
 obtain⟨R,m',h1,h2⟩:=hofk;refine⟨R,m',?_,h2⟩;refine H8 Rr λfr hl h0=>?_;simp[Rr]at hl h0;simp[Rr,hl,h0,h1]
end Go.Abs.Q
