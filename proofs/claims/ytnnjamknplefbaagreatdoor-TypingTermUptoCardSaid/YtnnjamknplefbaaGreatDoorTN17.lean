/- A part of the proof. -/
import Derived.Test.YtnnjamknplefbaaGreatDoorTN16
import Derived.Shelf.RegionOpenPlain
import Derived.Test.YtnnjamknplefbaaGreatDoorProg
import Derived.ProofKit
import Derived.WalkKit
import Derived.Lib.Walk
import Derived.Lib.SliceRun
import Derived.Shelf.Bits.Mul64
import Derived.Laws.CopyOwn
import Derived.Laws.MakeOwn
import Derived.KernelRfl
import Derived.Shelf.Strings.SlTrimAscii
import Derived.Lib.Strings
import Derived.Lib.Slices
import Derived.Lib.Bytealg
set_option linter.all false
open List renaming drop_eq_getElem_cons->zf0z,replicate->zf1z,drop_eq_nil_of_le->zf3z,getElem?_eq_getElem->zf4z,getElem?_replicate->zf5z,getElem_mem->zf6z,length_set->zf7z,getElem?_eq_some_iff->zf9z,getElem?_cons_zero->zg0z,length_replicate->zg2z,length_cons->zg7z,all_cons->zg9z
open Nat renaming le_refl->zf2z,zero_add->zt0z,mul_one->zt2z,zero_le->zt3z
open Bool renaming false_or->zf8z,or_eq_true->zg1z,or_false->zg3z,or_true->zg4z,true_or->zg5z
open Int renaming cast_ofNat_Int->zg6z,le_refl->zt1z
open ByteArray renaming size->zg8z
set_option linter.all false
set_option linter.unusedVariables false
set_option linter.unusedSimpArgs false
namespace Go.Proofs
open Go.RowKit Go.Lib Go.Abs
set_option maxHeartbeats 2000000 in
set_option maxRecDepth 100000 in
theorem Tryz.mul64(x y:Nat)(hx:x<18446744073709551616)(hy:y<18446744073709551616)(w:World) :
  Calls Tryz.prog 213 #[.int .u64 x,.int .u64 y] w λe w'=>e=.returned (.tuple #[.int .u64 ((x*y / 18446744073709551616:Nat):Int),.int .u64 ((x*y % 18446744073709551616:Nat):Int)])/\w'=w:=by
 obtain⟨bd,bt,bw,gO⟩:=Lib.mul64_hi x y hx hy;have ba:=Lib.half_mul_le (a:=x / 4294967296) (b:=y / 4294967296) (by omega) (by omega);have bb:=Lib.half_mul_le (a:=x / 4294967296) (b:=y % 4294967296) (by omega) (by omega);have bc:=Lib.half_mul_le (a:=x % 4294967296) (b:=y / 4294967296) (by omega) (by omega);have ba':x / 4294967296*(y / 4294967296)<18446744073709551616:=by omega
 have bb':x / 4294967296*(y % 4294967296)<18446744073709551616:=by omega
 have bc':x % 4294967296*(y / 4294967296)<18446744073709551616:=by omega
 have bh1:x / 4294967296*(y / 4294967296)+(x / 4294967296*(y % 4294967296)+x % 4294967296*(y % 4294967296) / 4294967296) / 4294967296<18446744073709551616:=by omega
 have bh:x / 4294967296*(y / 4294967296)+(x / 4294967296*(y % 4294967296)+x % 4294967296*(y % 4294967296) / 4294967296) / 4294967296+((x / 4294967296*(y % 4294967296)+x % 4294967296*(y % 4294967296) / 4294967296) % 4294967296+x % 4294967296*(y / 4294967296)) / 4294967296<18446744073709551616:=by omega
 go_enter Tryz.func213,Tryz.ntmps213
 go_wp2
 simp only[Mul64.maskN x hx,Mul64.maskN y hy,Mul64.divN,Mul64.mulN,Mul64.addN,Mul64.wrapN _ bd,Mul64.wrapN _ bb',Mul64.wrapN _ bt,Mul64.maskN _ bt,Mul64.wrapN _ bc',Mul64.wrapN _ bw,Mul64.wrapN _ ba',Mul64.wrapN _ bh1,Mul64.wrapN _ bh,Mul64.wrapM (x*y)];rw[gO]
 go_ret2
 exact⟨rfl,rfl⟩
set_option maxHeartbeats 2000000 in
set_option maxRecDepth 100000 in
theorem Tryz.mul(x y:Nat)(hx:x<18446744073709551616)(hy:y<18446744073709551616)(w:World) :
  Calls Tryz.prog 120 #[.int .u64 x,.int .u64 y] w λe w'=>e=.returned (.tuple #[.int .u64 ((x*y / 18446744073709551616:Nat):Int),.int .u64 ((x*y % 18446744073709551616:Nat):Int)])/\w'=w:=by
 have c64:=Tryz.mul64 x y hx hy w
 go_enter Tryz.func120,Tryz.ntmps120
 go_wp2_with (go_at_call 213;refine c64.mono ?_;rintro e w' ⟨rfl,hw⟩;rw[hw])
 go_ret2
 exact⟨rfl,rfl⟩
theorem wc(n:Nat):madeCells (Value.int .i64 0).cells (n*1)=(zf1z n (Value.int .i64 0)).toArray:=by
 rw[zt2z];apply Array.ext
 .simp[size_madeCells]
 .intro i h1 h2;simp only[madeCells,Array.getElem_map,List.getElem_toArray,List.getElem_replicate];show (Value.int .i64 0).cells[_ % 1]! = _;rw[Nat.mod_one];rfl
def V9(x:Int)(k n:Nat):Array Value:=(zf1z k (Value.int .i64 x)++zf1z (n-k) (Value.int .i64 0)).toArray
theorem PT(x:Int){k n:Nat}(h:k<=n):(V9 x k n).size=n:=by simp[V9];omega
theorem WM(x:Int){k n j:Nat}(h:j<k)(hk:k<=n):(V9 x k n)[j]?=some (.int .i64 x):=by
 unfold V9;rw[List.getElem?_toArray,List.getElem?_append_left (by simpa using h),zf5z,if_pos h]
theorem Tz(x:Int){k n q:Nat}(hq:k+q<=n):((V9 x k n).toList.take k++zf1z q (Value.int .i64 x)++(V9 x k n).toList.drop (k+q)).toArray=V9 x (k+q) n:=by
 unfold V9;congr 1;simp only[List.take_append,List.drop_append,zg2z,List.take_replicate,List.drop_replicate];rw[Nat.min_self,Nat.sub_self,Nat.zero_min,show k-(k+q)=0 by omega,show n-k-(k+q-k)=n-(k+q) by omega];simp
theorem yy(w:World)(a:Array Value)(t:TypeId)(j:Nat)(v:Value)(h:a[j]?=some v):(w.alloc (.cells a t)).cell? ⟨w.heap.size,j,none⟩=some v:=by
 have hh:(w.alloc (.cells a t)).heap[w.heap.size]?=some (.cells a t):=by
  show (w.heap.push _)[w.heap.size]?=_;simp
 show (match (w.alloc (.cells a t)).heap[w.heap.size]? with|some (.cells c _ _)=>c[j]? | _=>none)=some v
 rw[hh];exact h
set_option maxHeartbeats 4000000 in
set_option maxRecDepth 100000 in
theorem Tryz.rep_calls(b o c:Nat)(x:Int)(n:Nat)(hn:n<=1048576)(w:World)(hx:w.cell? ⟨b,o,none⟩=some (.int .i64 x)) :
  Calls Tryz.prog 52 #[.slice (some ⟨b,o,none⟩) 1 c,.int .i64 n] w λe w'=>e=.returned (.slice (some ⟨w.heap.size,0,none⟩) n n)/\∃q,w'=(w.drewN q).alloc (.cells (V9 x n n) 3):=by
 have hm:(1*n / 18446744073709551616:Nat)=0:=by omega
 have hm2:(1*n % 18446744073709551616:Nat)=n:=by omega
 have c1:=λw=>Tryz.mul 1 n (by omega) (by omega) w;rw[hm,hm2]at c1;have hnn:¬(n:Int)<0:=by omega
 obtain⟨i0,z,hi0,hz0,X9,hzc,hby⟩:∃i0 z,Tryz.prog.info? 3=some i0/\i0.zero=some z/\i0.size=1/\z=.int .i64 0/\i0.bytes=8:=⟨_,_,rfl,rfl,by kernel_rfl,by kernel_rfl,by kernel_rfl⟩;subst hzc;have hund:Tryz.prog.underlying 44=some (.slice 3):=by kernel_rfl
 have hinf:(Tryz.prog.info? 3).map (·.size)=some 1:=by rw[hi0];simp[X9]
 have hmk:=run_make (P:=Tryz.prog) w 44 3 i0 (.int .i64 0) hund hi0 hz0 .i64 .i64 n n (by omega) (zt1z _) (by rw[hby];omega) (by omega);rw[Int.toNat_natCast,X9,wc,show (zf1z n (Value.int .i64 0)).toArray=V9 x 0 n by simp[V9]]at hmk;have hheap:∀k,(w.alloc (.cells (V9 x k n) 3)).heap[w.heap.size]?=some (.cells (V9 x k n) 3 (0,0)):=λk=>by
  show (w.heap.push _)[w.heap.size]?=_;simp
 have C2:∀{a' o':Nat} {v:Value} (k:Nat),w.cell? ⟨a',o',none⟩=some v->(w.alloc (.cells (V9 x k n) 3)).cell? ⟨a',o',none⟩=some v:=λk h=>Lib.cell?_alloc_some _ h;have cp1:∀ty,(Builtin.copy_ #[44,44] ty #[.slice (some ⟨w.heap.size,0,none⟩) n n,.slice (some ⟨b,o,none⟩) 1 c]).run Tryz.prog (w.alloc (.cells (V9 x 0 n) 3))=.ok (goInt (min 1 n:Nat)) (w.alloc (.cells (V9 x (min 1 n) n) 3)):=λty=>by
  rcases Nat.eq_zero_or_pos n with h0|h0
  .subst h0;exact run_copy_none (P:=Tryz.prog) _ _ _ ty 3 _ _ 0 0 1 c hund hinf rfl
  .have h:=run_copy_row (P:=Tryz.prog) (w.alloc (.cells (V9 x 0 n) 3)) 44 44 ty 3 w.heap.size 0 n n ⟨b,o,none⟩ 1 c (V9 x 0 n) 3 [.int .i64 x] hund hinf (hheap 0) (by show 1=min 1 n;omega)
    (λj v hj=>by
     have:j=0:=by have:=(zf9z.1 hj).1;simpa using this
     subst this;rw[zg0z,Option.some.injEq]at hj;subst hj;exact C2 0 hx) (by rw[PT x (zt3z _)];simp;omega) (λv hv=>by rw[List.mem_singleton.1 hv];rfl)
   rw[h,Me];have e:=Tz x (k:=0) (n:=n) (q:=1) (by omega);rw[show min 1 n=1 by omega];rw[List.take_zero,List.nil_append,zt0z]at *
   exact congrArg (λq=>Result.ok (goInt ((1:Nat):Int)) (w.alloc (.cells q 3))) (by simpa using e)
 go_enter Tryz.func52,Tryz.ntmps52
 go_wp2_with (go_at_call 120;refine(c1 _).mono ?_;rintro e w' ⟨rfl,hw⟩;rw[hw])
 have hcpk:∀(q k:Nat) ty dc sc,0<k->k<n->(Builtin.copy_ #[44,44] ty #[.slice (some ⟨w.heap.size,k,none⟩) (n-k) dc,.slice (some ⟨w.heap.size,0,none⟩) k sc]).run Tryz.prog ((w.drewN q).alloc (.cells (V9 x k n) 3)).drew=.ok (goInt (min k (n-k):Nat)) ((w.drewN (q+1)).alloc (.cells (V9 x (k+min k (n-k)) n) 3)):=λq k ty dc sc h0 hkn=>by
  have hhp:((w.drewN (q+1)).alloc (.cells (V9 x k n) 3)).heap[w.heap.size]?=some (.cells (V9 x k n) 3 (0,0)):=heap_alloc_new (w.drewN (q+1)) _;have h:=run_copy_row (P:=Tryz.prog) ((w.drewN (q+1)).alloc (.cells (V9 x k n) 3)) 44 44 ty 3 w.heap.size k (n-k) dc ⟨w.heap.size,0,none⟩ k sc (V9 x k n) 3 (zf1z (min k (n-k)) (.int .i64 x)) hund hinf hhp (by simp)
   (λj v hj=>by
    rw[zf5z]at hj;split at hj
    .cases hj;rw[Addr.add_lit,zt0z];exact yy (w.drewN (q+1)) _ _ j _ (WM x (by omega) (by omega))
    .cases hj) (by rw[PT x (by omega)];simp;omega) (λv hv=>by rw[List.eq_of_mem_replicate hv];rfl)
  rw[zg2z,Tz x (by omega)]at h;exact h.trans (congrArg _ (Me (w.drewN (q+1)) _ _ _))
 have mixed:Tryz.prog.follows Departure.mixedOrders=true:=by kernel_rfl
 go_loopw [8] (λv wr=>∃k q:Nat,v=.int .i64 k/\k<=n/\min 1 n<=k/\wr=(w.drewN q).alloc (.cells (V9 x k n) 3)) (λv _=>n-(RowKit.intOf v).toNat)
 case atStart=>exact⟨min 1 n,0,rfl,by omega,zf2z _,rfl⟩
 case round =>
  obtain⟨k,q,rfl,hk,hk1,rfl⟩:=hrel;by_cases hlt2:k<n
  .have hkp:0<k:=by omega
   have hw1:IntKind.i64.wrap ((k:Int)+(min k (n-k):Nat))=(k:Int)+(min k (n-k):Nat):=by rw[IntKind.wrap_i64];omega
   have hkn:¬n=k:=by omega
   go_wp2
   go_region_law_o (refine step_copy_runI rfl _ _ 44 44 rfl (.slice (some ⟨w.heap.size,k,none⟩) (n-k) (n-k)) (.slice (some ⟨w.heap.size,0,none⟩) k n) (by simp[Act.eval,Act.put]) (by simp[Act.eval,Act.put]) (hcpk _ _ _ _ _ hkp hlt2) ?_)
   simp[Act.put]
   go_roundw
   case rel =>
    refine⟨_,_,_,_,_,_,_,_,_,_,_,_,_,_,⟨k+min k (n-k),q+1,?_,by omega,by omega,rfl⟩,rfl⟩;simp
   case measure=>simp[RowKit.intOf];omega
  .obtain rfl:k=n:=by omega
   go_wp2
   go_ret
   exact⟨rfl,q,rfl⟩
end Go.Proofs
namespace Go.Abs
open Go.RowKit (Below)
structure RepLaw (P:Program) (f:FuncId):Prop where
 enter:Program.enterable P f=true
 run:∀(w:World) (b o c n:Nat) (x:Int),n<=1048576->w.cell? ⟨b,o,none⟩=some (.int .i64 x) ->
  Calls P f #[.slice (some ⟨b,o,none⟩) 1 c,.int .i64 n] w λe w'=>∃(q:Nat) (us:Array Value) (t:TypeId),e=.returned (.slice (some ⟨w.heap.size,0,none⟩) n n)/\w'=(w.drewN q).alloc (.cells us t)/\n<=us.size/\∀j,j<n->us[j]?=some (.int .i64 x)
theorem xV{P:Program}{f:FuncId}(L:RepLaw P f)(O:Orc)(args:b9)(h:AH)(r:AV)(h':AH)(he:repR.run O args h=some (r,h')):Program.enterable P f=true /\
  ∀(E:Env) (vs:Array Value),SR E->Fo E.w E.ok->E.h=h->i7 E args vs.toList ->
   Calls P f vs E.w λe w'=>∃u E',e=.returned u/\w'=E'.w/\Ext E E'/\SR E'/\E'.h=h'/\VR E' r u:=by
 refine⟨L.enter,λE avs hS _ hh hv=>?_⟩;subst hh;change aw args E.h=some (r,h')at he;unfold aw at he;split at he
 .rename_i fl z x n;obtain⟨avs⟩:=avs;simp only[i7]at hv;obtain⟨v0,_,rfl,hv0,v1,_,rfl,hv1,rfl⟩:=hv;simp only[VR]at hv1;subst hv1;split at he
  .rename_i hc;obtain⟨rfl,c1,c2,c3⟩:=hc;cases he;obtain⟨m,rfl⟩:∃m:Nat,n=m:=⟨n.toNat,by omega⟩;simp only[VR,PV]at hv0;obtain⟨base,len,cap,rfl,rfl,hlc,hcm,hfull,hnil,hels⟩:=hv0;obtain⟨b,o,rfl,hz0,hP⟩:=hels (by simp);simp only[Pk]at hP;obtain⟨_,⟨u,hu1,hu2,hu3,hu4⟩,_⟩:=hP;simp only[PV]at hu4;subst hu4;refine(L.run E.w b o cap m x (by omega) hu2).mono λe w' ⟨q,us,te,h1,h2,h3,h4⟩=>?_;have x1:=Bi hS (Fq E.w q);have s1:=FO hS (Fq E.w q);refine⟨_,({E with w:=E.w.drewN q}:Env).newFam us te m ⟨zf1z m (.int .i64 x),1,true⟩,h1,h2,x1.trans (JQ s1 _ _ _ _),NI s1 (Nat.one_pos) (by simp) (Nat.le_trans (by omega:m<=1048576) (by decide)) (by simpa using h3) (λj y hy=>?_),?_,?_⟩
   .obtain⟨hjm,rfl⟩:j<m/\y=.int .i64 x:=by
     rw[zf5z]at hy;split at hy
     .exact⟨by assumption,by simpa using hy.symm⟩
     .cases hy
    refine⟨rfl,λc y' hy'=>?_⟩;have hc:c=0:=by
     have h9:=(zf9z.1 hy').1;rw[show (AV.int .i64 x).cells=[AV.int .i64 x] from rfl]at h9;simp at h9;omega
    subst hc;simp only[AV.cells,zg0z,Option.some.injEq]at hy';subst hy';exact⟨.int .i64 x,by rw[zt2z,Nat.add_zero];exact h4 j hjm,rfl,rfl⟩
   .simp[Env.newFam]
   .simp only[VR,Env.newFam,X5];exact⟨_,_,⟨zf1z m (.int .i64 x),1,true⟩,rfl,by simp,⟨by simp,λ_=>⟨_,_,rfl⟩⟩,λ_=>⟨zt3z _,by simp,by simp,(λh=>nomatch h),λ_=>by simp⟩⟩
  .cases he
 .cases he
end Go.Abs
namespace Go.Proofs
open Go.RowKit Go.Lib Go.Abs
theorem Tryz.repLaw:RepLaw Tryz.prog 52 :=
 ⟨by kernel_rfl,λw b o c n x hn hx=>(Tryz.rep_calls b o c x n hn w hx).mono λe w' ⟨h1,q,h2⟩=>⟨q,_,_,h1,h2,by rw[PT x (zf2z _)];exact zf2z _,λj hj=>WM x hj (zf2z _)⟩⟩
end Go.Proofs
namespace Go.Proofs
open Go.Shelf
def Tryz.trimLays_ren:Go.Shelf.Ren:=⟨fun|160=>215|232=>294|231=>293|227=>295|234=>297|233=>296|236=>299|235=>298|228=>361|271=>364|151=>363|197=>362|120=>416|152=>415|260=>414|137=>444|119=>445|224=>359|225=>358|217=>357|266=>412|n=>n,fun|9=>9|4=>4|3=>3|5=>5|117=>354|116=>353|0=>0|124=>357|21=>21|105=>394|46=>168|119=>439|139=>442|138=>441|n=>n,fun|3=>3|4=>4|n=>n⟩
set_option maxRecDepth 100000 in
theorem Tryz.trimLays:Go.Proofs.Lays.n160 Tryz.prog Tryz.trimLays_ren:={
 mixed:=by kernel_rfl
 f119:=Tryz.func445.trans (congrArg some (by kernel_rfl))
 f120:=Tryz.func416.trans (congrArg some (by kernel_rfl))
 f137:=Tryz.func444.trans (congrArg some (by kernel_rfl))
 f151:=Tryz.func363.trans (congrArg some (by kernel_rfl))
 f152:=Tryz.func415.trans (congrArg some (by kernel_rfl))
 f160:=Tryz.func215.trans (congrArg some (by kernel_rfl))
 f197:=Tryz.func362.trans (congrArg some (by kernel_rfl))
 f217:=Tryz.func357.trans (congrArg some (by kernel_rfl))
 f224:=Tryz.func359.trans (congrArg some (by kernel_rfl))
 f225:=Tryz.func358.trans (congrArg some (by kernel_rfl))
 f227:=Tryz.func295.trans (congrArg some (by kernel_rfl))
 f228:=Tryz.func361.trans (congrArg some (by kernel_rfl))
 f231:=Tryz.func293.trans (congrArg some (by kernel_rfl))
 f232:=Tryz.func294.trans (congrArg some (by kernel_rfl))
 f233:=Tryz.func296.trans (congrArg some (by kernel_rfl))
 f234:=Tryz.func297.trans (congrArg some (by kernel_rfl))
 f235:=Tryz.func298.trans (congrArg some (by kernel_rfl))
 f236:=Tryz.func299.trans (congrArg some (by kernel_rfl))
 f260:=Tryz.func414.trans (congrArg some (by kernel_rfl))
 f266:=Tryz.func412.trans (congrArg some (by kernel_rfl))
 f271:=Tryz.func364.trans (congrArg some (by kernel_rfl))
 t0:=Tryz.underlying0
 a0:=Tryz.isAgg0
 z0:=Tryz.sizeOf0
 v0:=Tryz.zeroValue0
 t3:=Tryz.underlying3
 a3:=Tryz.isAgg3
 z3:=Tryz.sizeOf3
 v3:=Tryz.zeroValue3
 t4:=Tryz.underlying4
 a4:=Tryz.isAgg4
 z4:=Tryz.sizeOf4
 v4:=Tryz.zeroValue4
 t5:=Tryz.underlying5
 a5:=Tryz.isAgg5
 z5:=Tryz.sizeOf5
 v5:=Tryz.zeroValue5
 t9:=Tryz.underlying9
 a9:=Tryz.isAgg9
 z9:=Tryz.sizeOf9
 v9:=Tryz.zeroValue9
 t21:=Tryz.underlying21
 a21:=Tryz.isAgg21
 z21:=Tryz.sizeOf21
 v21:=Tryz.zeroValue21
 t46:=Tryz.underlying168
 a46:=Tryz.isAgg168
 z46:=Tryz.sizeOf168
 v46:=Tryz.zeroValue168
 t105:=Tryz.underlying394
 a105:=Tryz.isAgg394
 z105:=Tryz.sizeOf394
 v105:=Tryz.zeroValue394
 t116:=Tryz.underlying353
 a116:=Tryz.isAgg353
 z116:=Tryz.sizeOf353
 t117:=Tryz.underlying354
 a117:=Tryz.isAgg354
 z117:=Tryz.sizeOf354
 v117:=Tryz.zeroValue354
 t119:=Tryz.underlying439
 a119:=Tryz.isAgg439
 z119:=Tryz.sizeOf439
 t124:=Tryz.underlying357
 a124:=Tryz.isAgg357
 z124:=Tryz.sizeOf357
 v124:=Tryz.zeroValue357
 t138:=Tryz.underlying441
 a138:=Tryz.isAgg441
 z138:=Tryz.sizeOf441
 v138:=Tryz.zeroValue441
 t139:=Tryz.underlying442
 a139:=Tryz.isAgg442
 z139:=Tryz.sizeOf442
 v139:=Tryz.zeroValue442
 g3:=by kernel_rfl
 g4:=by kernel_rfl}
set_option maxRecDepth 100000 in
theorem Tryz.trim(s:ByteArray)(w:World)(hs:s.size<=9223372036854775807) :
  Calls Tryz.prog 215 #[.string s,.string ⟨#[48,49,50,51,52,53,54,55,56,57]⟩] w λe w'=>e=.returned (.string ⟨(Lib.trimS s.data.toList [48,49,50,51,52,53,54,55,56,57]).toArray⟩)/\Go.RowKit.Below w.heap.size w w' :=
 Any.strings_Trim_laid Tryz.trimLays (by kernel_rfl) s ⟨#[48,49,50,51,52,53,54,55,56,57]⟩ w hs (by decide) (ascii_of_all (by decide))
end Go.Proofs
namespace Go.Proofs
set_option maxHeartbeats 1000000 in
set_option maxRecDepth 100000 in
theorem Tryz.cmpString(a b:ByteArray)(w:World) :
  Calls Tryz.prog 347 #[.string a,.string b] w λe w'=>e=.returned (.int .i64 (Lib.compareBytes a.data.toList b.data.toList))/\w'=w:=by
 go_enter Tryz.func347,Tryz.ntmps347
 go_wp2
 rw[run_callFunc_extern Tryz.func404 (by kernel_rfl) (by kernel_rfl) (by kernel_rfl) (e:=Extern.BytealgCompare.compare) (by kernel_rfl),Lib.run_compareString];simp only[Result.andThen];rw[Oper.upon_value]
 go_wp2
 go_ret
 exact⟨rfl,rfl⟩
set_option maxHeartbeats 1000000 in
set_option maxRecDepth 100000 in
theorem Tryz.sliteIndexByte(s:ByteArray)(c:Int)(w:World) :
  Calls Tryz.prog 357 #[.string s,.int .u8 c] w λe w'=>e=.returned (.int .i64 (Lib.indexByte s.data.toList c.toNat.toUInt8))/\w'=w:=by
 go_enter Tryz.func357,Tryz.ntmps357
 go_wp2
 rw[run_callFunc_extern Tryz.func412 (by kernel_rfl) (by kernel_rfl) (by kernel_rfl) (e:=Extern.BytealgIndexByte.indexByte) (by kernel_rfl),Lib.run_indexByteString];simp only[Result.andThen];rw[Oper.upon_value]
 go_wp2
 go_ret
 exact⟨rfl,rfl⟩
set_option maxHeartbeats 2000000 in
set_option maxRecDepth 100000 in
theorem Tryz.sliteIndexOne(s:ByteArray)(c:UInt8)(w:World) :
  Calls Tryz.prog 289 #[.string s,.string ⟨#[c]⟩] w λe w'=>e=.returned (.int .i64 (Lib.indexByte s.data.toList c))/\w'=w:=by
 go_enter Tryz.func289,Tryz.ntmps289
 go_wp2_with (go_at_call 357;refine(Tryz.sliteIndexByte _ _ _).mono ?_;rintro e w' ⟨rfl,rfl⟩)
 .have h:([c] == s.toList)=true:=by assumption
  go_ret
  refine⟨?_,rfl⟩;have e:s.data.toList=[c]:=by rw[←Lib.toList_data];exact(beq_iff_eq.1 h).symm
  rw[e];simp[Lib.indexByte]
 .go_ret
  exact⟨rfl,rfl⟩
set_option maxHeartbeats 1000000 in
theorem Tryz.stringsIndexOne(s:ByteArray)(c:UInt8)(w:World) :
  Calls Tryz.prog 206 #[.string s,.string ⟨#[c]⟩] w λe w'=>e=.returned (.int .i64 (Lib.indexByte s.data.toList c))/\w'=w:=by
 go_enter Tryz.func206,Tryz.ntmps206
 go_wp2_with (go_at_call 289;refine(Tryz.sliteIndexOne _ _ _).mono ?_;rintro e w' ⟨rfl,rfl⟩)
 go_ret
 exact⟨rfl,rfl⟩
set_option maxHeartbeats 1000000 in
theorem Tryz.stringsContainsOne(s:ByteArray)(c:UInt8)(w:World) :
  Calls Tryz.prog 110 #[.string s,.string ⟨#[c]⟩] w λe w'=>e=.returned (.bool (decide (0<=Lib.indexByte s.data.toList c)))/\w'=w:=by
 go_enter Tryz.func110,Tryz.ntmps110
 go_wp2_with (go_at_call 206;refine(Tryz.stringsIndexOne _ _ _).mono ?_;rintro e w' ⟨rfl,rfl⟩)
 go_ret
 exact⟨rfl,rfl⟩
end Go.Proofs
namespace Go.Abs.Q
open Go.Proofs
open Go.RowKit (Below)
theorem Zg:∀(a b:List UInt8),Lib.compareBytes a b=if Op.bytesLess a b then -1 else if a=b then 0 else 1
 | [],[]=>by simp[Lib.compareBytes,Op.bytesLess]
 | [],_::_=>by simp[Lib.compareBytes,Op.bytesLess]
 |_::_,[]=>by simp[Lib.compareBytes,Op.bytesLess]
 |x::a,y::b=>by
  simp only[Lib.compareBytes,Op.bytesLess,Zg a b];by_cases h:x<y
  .simp[h]
  .by_cases h':y<x
   .have AS:x≠y:=λe=>h (e ▸ h');simp[h,h',AS]
   .have he:x=y:=by
     apply UInt8.le_antisymm
     .exact UInt8.not_lt.1 h'
     .exact UInt8.not_lt.1 h
    subst he;simp[h]
theorem jg(a b:Al):AE a b=Lib.compareBytes a.data.toList b.data.toList:=by
 rw[Zg,AE,Lib.toList_data,Lib.toList_data]
theorem Te(c:UInt8):∀l:List UInt8,0<=Lib.indexByte l c↔c∈l
 | []=>by simp[Lib.indexByte]
 |b::l=>by
  have ih:=Te c l;have hge:=Lib.indexByte_ge l c;by_cases h:b=c
  .subst h;simp[Lib.indexByte]
  .have h1:Lib.indexByte (b::l) c=if Lib.indexByte l c=-1 then -1 else Lib.indexByte l c+1:=by
    simp[Lib.indexByte,h]
   have h2:¬c=b:=λe=>h e.symm;rw[h1,List.mem_cons];by_cases h3:Lib.indexByte l c=-1
   .rw[if_pos h3];constructor
    .intro k;omega
    .rintro(k|k)
     .exact absurd k h2
     .have:=ih.2 k;omega
   .rw[if_neg h3];constructor
    .intro k;exact .inr (ih.1 (by omega))
    .intro k;omega
theorem cp(l:List UInt8)(c:UInt8):decide (0<=Lib.indexByte l c)=l.contains c:=by
 rw[Bool.eq_iff_iff,decide_eq_true_iff,Te];simp
theorem mixed:Tryz.prog.follows .mixedOrders=true:=by kernel_rfl
theorem rf_all(f:FuncId)(s:RSpec)(h:UZ f=some s):(f=U0/\s=insR 4 56)\/(f=S5/\s=A0I 5 64)\/(f=Z5/\s=A0E 4 56 true)\/(f=Q1/\s=repR):=by
 unfold UZ at h;split at h
 .rename_i hf;cases h;exact .inl ⟨hf,rfl⟩
 .split at h
  .rename_i hf;cases h;exact .inr (.inl ⟨hf,rfl⟩)
  .split at h
   .rename_i hf;cases h;exact .inr (.inr (.inl ⟨hf,rfl⟩))
   .split at h
    .rename_i hf;cases h;exact .inr (.inr (.inr ⟨hf,rfl⟩))
    .cases h
theorem QS:CfgS Tryz.prog Q:=by
 refine⟨λf rf h=>?_,λf s hs args r hr=>?_,mixed,λf s hs O hP args h r h' he=>?_⟩
 .have h1:L3 f=some rf:=(HM f).symm.trans h;unfold L3 at h1;split at h1
  .cases h1
  .exact h1
 rotate_left 1
 .have hs':UZ f=some s:=hs;rcases rf_all f s hs' with ⟨rfl,rfl⟩|⟨rfl,rfl⟩|⟨rfl,rfl⟩|⟨rfl,rfl⟩
  .exact wK Tryz.insLaw O args h r h' he
  .exact oM Tryz.insLawP O args h r h' he
  .exact oD Tryz.growLaw O args h r h' he
  .exact xV Tryz.repLaw O args h r h' he
 have hs':Lo f=some s:=(IU f).symm.trans hs;unfold Lo at hs';split at hs'
 .rename_i hf;subst hf;cases hs';unfold iS at hr;split at hr
  .rename_i a b;cases hr;refine⟨by kernel_rfl,λw ok0 vs _ _ hv=>?_⟩;have Ki:vs=#[.string a,.string b]:=by
    simp only[DV,PV]at hv;obtain⟨u,us,h1,rfl,u',us',rfl,rfl,rfl⟩:=hv;cases vs
    simp_all
   subst Ki;refine(Tryz.cmpString a b w).mono λe w' ⟨he,hw⟩=>?_;subst hw;exact⟨_,he,Bl.refl _ _,by simp[PV,jg]⟩
  .cases hr
 .split at hs'
  .rename_i hf;subst hf;cases hs';unfold uL at hr;split at hr
   .rename_i a b;split at hr
    .rename_i c hb;cases hr;refine⟨by kernel_rfl,λw ok0 vs _ _ hv=>?_⟩;have hb':b=⟨#[c]⟩:=by
      obtain⟨⟨l⟩⟩:=b;simp at hb;rw[hb]
     subst hb';have Ki:vs=#[.string a,.string ⟨#[c]⟩]:=by
      simp only[DV,PV]at hv;obtain⟨u,us,h1,rfl,u',us',rfl,rfl,rfl⟩:=hv;cases vs
      simp_all
     subst Ki;refine(Tryz.stringsContainsOne a c w).mono λe w' ⟨he,hw⟩=>?_;subst hw;exact⟨_,he,Bl.refl _ _,by simp[PV,cp]⟩
    .cases hr
   .cases hr
  .split at hs'
   .rename_i hf;subst hf;cases hs';unfold A1X at hr;split at hr
    .rename_i a c;cases hr;refine⟨by kernel_rfl,λw ok0 vs _ _ hv=>?_⟩;have Ki:vs=#[.string a,.int .u8 c]:=by
      simp only[DV,PV]at hv;obtain⟨u,us,h1,rfl,u',us',rfl,rfl,rfl⟩:=hv;cases vs
      simp_all
     subst Ki;refine(Tryz.sliteIndexByte a c w).mono λe w' ⟨he,hw⟩=>?_;subst hw;exact⟨_,he,Bl.refl _ _,by simp[PV]⟩
    .cases hr
   .split at hs'
    .rename_i hf;subst hf;cases hs';unfold A1Y at hr;split at hr
     .rename_i a b;split at hr
      .rename_i c hb;cases hr;refine⟨by kernel_rfl,λw ok0 vs _ _ hv=>?_⟩;have hb':b=⟨#[c]⟩:=by
        obtain⟨⟨l⟩⟩:=b;simp at hb;rw[hb]
       subst hb';have Ki:vs=#[.string a,.string ⟨#[c]⟩]:=by
        simp only[DV,PV]at hv;obtain⟨u,us,h1,rfl,u',us',rfl,rfl,rfl⟩:=hv;cases vs
        simp_all
       subst Ki;refine(Tryz.stringsIndexOne a c w).mono λe w' ⟨he,hw⟩=>?_;subst hw;exact⟨_,he,Bl.refl _ _,by simp[PV]⟩
      .cases hr
     .cases hr
    .split at hs'
     .rename_i hf;subst hf;cases hs';unfold WU at hr;split at hr
      .rename_i a b;split at hr
       .rename_i hb;obtain⟨hb1,rfl⟩:=hb;cases hr;refine⟨by kernel_rfl,λw ok0 vs _ _ hv=>?_⟩;have Ki:vs=#[.string a,.string (bs [48,49,50,51,52,53,54,55,56,57])]:=by
         simp only[DV,PV]at hv;obtain⟨u,us,h1,rfl,u',us',rfl,rfl,rfl⟩:=hv;cases vs
         simp_all
        subst Ki;refine(Tryz.trim a w (by omega)).mono λe w' ⟨he,hw⟩=>?_;exact⟨_,he,⟨hw,λh=>absurd h (by decide)⟩,by simp only[PV];rfl⟩
       .cases hr
      .cases hr
     .cases hs'
end Go.Abs.Q
namespace Go.Abs.Q
attribute [local simp] E5 E6 fin J4 H8
theorem tQ:∀(n:Nat) (t:Tm),t.size<=n->t.size<=1099511627776->pc Q Oq [I8 t]=some (.int .i64 t.size):=by
 intro n
 induction n with
 |zero=>intro t h;have:=t.size_pos;omega
 |succ n ih =>
  intro t hn hb;obtain⟨k,nm,s,m,kids⟩:=t;have X9:Tm.size (.mk k nm s m kids)=1+Tm.sizes kids:=rfl;refine J0 YU λfr hl h0=>?_;simp[YU,I8]at hl h0 ⊢;simp[*];refine(dM (Ψ:=λe fr h=>e=.exit 0/\B2 fr 3=.int .i64 (1+Tm.sizes kids:Nat)/\fr.length=19) kids
   (λdone fr h=>fr.length=19/\B2 fr 3=.int .i64 (1+Tm.sizes done:Nat)/\B2 fr 7=sl m 4 (C4 kids)/\B2 fr 8=.int .i64 kids.length/\B2 fr 9=.int .i64 done.length) ?_ ?_ _ _ ?_).mono ?_
  .rintro fr h ⟨hl,h3,h7,h8,h9⟩;simp[Pg, *]
  .rintro done t rest he fr h ⟨hl,h3,h7,h8,h9⟩;have hget:KW (C4 kids) done.length=some (I8 t):=Ep (by rw[←he];simp);have C2:done.length<kids.length:=by rw[←he];simp
   have hts:t.size<=Tm.sizes kids:=Tm.size_le (by rw[←he];simp);have hT:=ih t (by omega) (by omega);have D6:=Tm.length_le kids;have hsum:Tm.sizes done+(t.size+Tm.sizes rest)=Tm.sizes kids:=by rw[←he,Tm.sizes_append];rfl
   have hw1:IntKind.i64.wrap (1+(Tm.sizes done:Int)+(t.size:Int))=1+(Tm.sizes (done++[t]):Int):=by
    rw[Tm.sizes_append,Y8 (by omega) (by omega)];simp only[Tm.sizes];omega
   have hw2:IntKind.i64.wrap ((done.length:Int)+1)=((done++[t]).length:Nat):=by
    rw[Y8 (by omega) (by omega)];simp
   obtain⟨tk,tn,ts,tm,tl⟩:=t;simp only[I8]at hT hget;simp[Pg, *]
  .simp[*,Tm.sizes,b5]
  .rintro e fr h ⟨rfl,h3,hl⟩;simp[*]
theorem US:∀(n:Nat) (t:Tm),t.size<=n->t.size<=1099511627776->pc Q Ml [I8 t]=some (.int .i64 t.size):=by
 intro n
 induction n with
 |zero=>intro t h;have:=t.size_pos;omega
 |succ n ih =>
  intro t hn hb;obtain⟨k,nm,s,m,kids⟩:=t;have X9:Tm.size (.mk k nm s m kids)=1+Tm.sizes kids:=rfl;refine J0 Wf λfr hl h0=>?_;simp[Wf,I8]at hl h0 ⊢;simp[h0];refine(dM (Ψ:=λe fr h=>e=.exit 0/\B2 fr 3=.int .i64 (1+Tm.sizes kids:Nat)/\fr.length=21) kids
   (λdone fr h=>fr.length=21/\B2 fr 1=.ptr 0 0/\h=⟨[[.int .i64 k,.str nm,.int .i64 s,sl m 4 (C4 kids)]],[]⟩/\B2 fr 3=.int .i64 (1+Tm.sizes done:Nat)/\B2 fr 4=.int .i64 done.length) ?_ ?_ _ _ ?_).mono ?_
  .rintro fr h ⟨hl,h1,rfl,h3,h4⟩;simp[Nv,b5, *]
  .rintro done t rest he fr h ⟨hl,h1,rfl,h3,h4⟩;have hget:KW (C4 kids) done.length=some (I8 t):=Ep (by rw[←he];simp);have C2:done.length<kids.length:=by rw[←he];simp
   have hts:t.size<=Tm.sizes kids:=Tm.size_le (by rw[←he];simp);have hT:=ih t (by omega) (by omega);have D6:=Tm.length_le kids;have hsum:Tm.sizes done+(t.size+Tm.sizes rest)=Tm.sizes kids:=by rw[←he,Tm.sizes_append];rfl
   have hw1:IntKind.i64.wrap (1+(Tm.sizes done:Int)+(t.size:Int))=1+(Tm.sizes (done++[t]):Int):=by
    rw[Tm.sizes_append,Y8 (by omega) (by omega)];simp only[Tm.sizes];omega
   have hw2:IntKind.i64.wrap ((done.length:Int)+1)=((done++[t]).length:Nat):=by
    rw[Y8 (by omega) (by omega)];simp
   obtain⟨tk,tn,ts,tm,tl⟩:=t;simp only[I8]at hT hget;simp[Nv, *]
  .simp[*,Tm.sizes]
  .rintro e fr h ⟨rfl,h3,hl⟩;simp[*]
theorem NJ(a b:Al):pc Q HE [.str a,.str b]=some (.int .i64 (AE a b)):=by
 refine j5 PG λfr hl h0 h1=>?_;simp[PG]at hl h0 h1 ⊢;simp[*,pc_cmp]
def nz(a b:Int):Int:=if a=0 then b else a
mutual
def Lu:Tm->Tm->Int
 | .mk k n s _ l,.mk k' n' s' _ l'=>nz (KU (1+Tm.sizes l:Nat) (1+Tm.sizes l':Nat)) (nz (KU k k') (nz (AE n n') (nz (KU s s') (nz (KU l.length l'.length) (MV l l')))))
def MV:List Tm->List Tm->Int
 |t::l,t'::l'=>nz (Lu t t') (MV l l')
 |_,_=>0
end
theorem jh{a b:Nat}(h:KU (a:Int) (b:Int)=0):a=b:=by
 unfold KU at h;split at h
 .omega
 .split at h<;>omega
theorem Wx(l:Be):MV [] l=0:=by cases l<;>rfl
theorem aW:∀(n:Nat) (t t':Tm),t.size<=n->t.size<=1099511627776->t'.size<=1099511627776->pc Q DH [I8 t,I8 t']=some (.int .i64 (Lu t t')):=by
 intro n
 induction n with
 |zero=>intro t t' h;have:=t.size_pos;omega
 |succ n ih =>
  intro t t' hn hb hb';have hS:=tQ _ t (zf2z _) hb;have hS':=tQ _ t' (zf2z _) hb';obtain⟨k,nm,s,m,l⟩:=t;obtain⟨k',nm',s',m',l'⟩:=t';have X9:Tm.size (.mk k nm s m l)=1+Tm.sizes l:=rfl;have hsz':Tm.size (.mk k' nm' s' m' l')=1+Tm.sizes l':=rfl;have D6:=Tm.length_le l;simp only[I8,X9,hsz']at hS hS';have loop:∀(fr:Fr) (c:Int),fr.length=65->B2 fr 2=.ptr 0 0->B2 fr 3=.ptr 1 0->B2 fr 5=.int .i64 c->B2 fr 6=.int .i64 0->(c=0->l.length=l'.length) ->
    D7 (lp (A8 (m6 Q) (B1 DH) FD) (fr,⟨[[.int .i64 k,.str nm,.int .i64 s,sl m 4 (C4 l)],[.int .i64 k',.str nm',.int .i64 s',sl m' 4 (C4 l')]],[]⟩))
     λe B8 _=>e=.exit 0/\B8.length=65/\B2 B8 5=.int .i64 (nz c (MV l l')):=by
   intro fr c hl h2 h3 h5 h6 hc;refine Sq (λn fr h=>∃i c',i+n=l.length/\fr.length=65/\B2 fr 2=.ptr 0 0/\B2 fr 3=.ptr 1 0/\B2 fr 5=.int .i64 c'/\B2 fr 6=.int .i64 (i:Nat)/\(c'=0->l.length=l'.length) /\
    nz c' (MV (l.drop i) (l'.drop i))=nz c (MV l l')/\h=⟨[[.int .i64 k,.str nm,.int .i64 s,sl m 4 (C4 l)],[.int .i64 k',.str nm',.int .i64 s',sl m' 4 (C4 l')]],[]⟩) ?_ l.length fr _ ⟨0,c,by omega,hl,h2,h3,h5,h6,hc,rfl,rfl⟩
   rintro n fr h ⟨i,c',hi,hl,h2,h3,h5,h6,hc',hr,rfl⟩;by_cases hc0:c'=0
   .subst hc0;have OK:=hc' rfl;by_cases C2:i<l.length
    .have hx:KW (C4 l) i=some (I8 l[i]):=Ep (by simp[C2]);have hx':KW (C4 l') i=some (I8 (l'[i]'(by omega))):=Ep (by simp[show i<l'.length by omega]);have s1:=Tm.size_le (zf6z C2);have s2:=Tm.size_le (zf6z (show i<l'.length by omega));have hT:=ih l[i] (l'[i]'(by omega)) (by omega) (by omega) (by omega);have hw:=J6 i (by omega);rw[zf0z C2,zf0z (show i<l'.length by omega)]at hr;simp only[MV,nz,if_true]at hr;generalize l[i]=t at *
     generalize l'[i]'(by omega)=t' at *
     obtain⟨tk,tn,ts,tm,tl⟩:=t;obtain⟨tk',tn',ts',tm',tl'⟩:=t';simp only[I8]at hT hx hx';clear ih hS hS' hc X9 hsz';simp[FD,hl,h2,h3,h5,h6,C2,hx,hx',hT,hw];exact⟨n-1,by omega,i+1,by omega,by simp,λ_=>OK,hr⟩
    .have h0:l.length<=i:=by omega
     rw[zf3z h0,Wx]at hr;clear ih hS hS' hc X9 hsz' OK hc';simp[FD,hl,h2,h3,h5,h6,C2];exact hr
   .clear ih hS hS' hc X9 hsz';simp[FD, *];simpa[nz,hc0]using hr
  refine gu XY rfl (by simp[OG]) λfr hl ha=>?_;have h0:=ha 0;have h1:=ha 1;clear ha ih;simp[OG,I8]at hl h0 h1 ⊢;by_cases e0:KU (1+(Tm.sizes l:Int)) (1+(Tm.sizes l':Int))=0
  .by_cases e1:KU k k'=0
   .by_cases e2:AE nm nm'=0
    .by_cases e3:KU s s'=0
     .by_cases e4:KU (l.length:Int) (l'.length:Int)=0
      .simp[e0,e1,e2,e3,e4,h0,h1,hl,hS,hS',TD,NJ];refine(loop _ (0) (by simp[hl]) (by simp[hl]) (by simp[hl]) (by simp[hl]) (by simp[hl]) ?_).mono ?_
       .intro hc;exact jh e4
       .rintro e fr h ⟨rfl,hl,h5⟩;simp[hl,h5,Lu,nz,e0,e1,e2,e3,e4]
      .simp[e0,e1,e2,e3,e4,h0,h1,hl,hS,hS',TD,NJ];refine(loop _ (KU (l.length:Int) (l'.length:Int)) (by simp[hl]) (by simp[hl]) (by simp[hl]) (by simp[hl]) (by simp[hl]) ?_).mono ?_
       .intro hc;exact absurd hc e4
       .rintro e fr h ⟨rfl,hl,h5⟩;simp[hl,h5,Lu,nz,e0,e1,e2,e3,e4]
     .simp[e0,e1,e2,e3,h0,h1,hl,hS,hS',TD,NJ];refine(loop _ (KU s s') (by simp[hl]) (by simp[hl]) (by simp[hl]) (by simp[hl]) (by simp[hl]) ?_).mono ?_
      .intro hc;exact absurd hc e3
      .rintro e fr h ⟨rfl,hl,h5⟩;simp[hl,h5,Lu,nz,e0,e1,e2,e3]
    .simp[e0,e1,e2,h0,h1,hl,hS,hS',TD,NJ];refine(loop _ (AE nm nm') (by simp[hl]) (by simp[hl]) (by simp[hl]) (by simp[hl]) (by simp[hl]) ?_).mono ?_
     .intro hc;exact absurd hc e2
     .rintro e fr h ⟨rfl,hl,h5⟩;simp[hl,h5,Lu,nz,e0,e1,e2]
   .simp[e0,e1,h0,h1,hl,hS,hS',TD,NJ];refine(loop _ (KU k k') (by simp[hl]) (by simp[hl]) (by simp[hl]) (by simp[hl]) (by simp[hl]) ?_).mono ?_
    .intro hc;exact absurd hc e1
    .rintro e fr h ⟨rfl,hl,h5⟩;simp[hl,h5,Lu,nz,e0,e1]
  .simp[e0,h0,h1,hl,hS,hS',TD,NJ];refine(loop _ (KU (1+(Tm.sizes l:Int)) (1+(Tm.sizes l':Int))) (by simp[hl]) (by simp[hl]) (by simp[hl]) (by simp[hl]) (by simp[hl]) ?_).mono ?_
   .intro hc;exact absurd hc e0
   .rintro e fr h ⟨rfl,hl,h5⟩;simp[hl,h5,Lu,nz,e0]
theorem dC:∀(n:Nat) (t t':Tm),t.size<=n->t.size<=1099511627776->t'.size<=1099511627776->pc Q DZ [I8 t,I8 t']=some (.int .i64 (Lu t t')):=by
 intro n
 induction n with
 |zero=>intro t t' h;have:=t.size_pos;omega
 |succ n ih =>
  intro t t' hn hb hb';have hS:=US _ t (zf2z _) hb;have hS':=US _ t' (zf2z _) hb';obtain⟨k,nm,s,m,l⟩:=t;obtain⟨k',nm',s',m',l'⟩:=t';have X9:Tm.size (.mk k nm s m l)=1+Tm.sizes l:=rfl;have hsz':Tm.size (.mk k' nm' s' m' l')=1+Tm.sizes l':=rfl;have D6:=Tm.length_le l;simp only[I8,X9,hsz']at hS hS';have loop:∀(fr:Fr),fr.length=76->B2 fr 2=.ptr 0 0->B2 fr 3=.ptr 1 0->B2 fr 9=.int .i64 0->l.length=l'.length ->
    D7 (lp (A8 (m6 Q) (B1 DZ) EA) (fr,⟨[[.int .i64 k,.str nm,.int .i64 s,sl m 4 (C4 l)],[.int .i64 k',.str nm',.int .i64 s',sl m' 4 (C4 l')]],[]⟩))
     λe B8 _=>B8.length=76/\(e=.exit 0/\MV l l'=0\/e=.ret/\B2 B8 4=.int .i64 (MV l l')):=by
   intro fr hl h2 h3 h9 OK;refine Sq (λn fr h=>∃i,i+n=l.length/\fr.length=76/\B2 fr 2=.ptr 0 0/\B2 fr 3=.ptr 1 0/\B2 fr 9=.int .i64 (i:Nat) /\
    MV (l.drop i) (l'.drop i)=MV l l'/\h=⟨[[.int .i64 k,.str nm,.int .i64 s,sl m 4 (C4 l)],[.int .i64 k',.str nm',.int .i64 s',sl m' 4 (C4 l')]],[]⟩) ?_ l.length fr _ ⟨0,by omega,hl,h2,h3,h9,rfl,rfl⟩
   rintro n fr h ⟨i,hi,hl,h2,h3,h9,hr,rfl⟩;by_cases C2:i<l.length
   .have hx:KW (C4 l) i=some (I8 l[i]):=Ep (by simp[C2]);have hx':KW (C4 l') i=some (I8 (l'[i]'(by omega))):=Ep (by simp[show i<l'.length by omega]);have s1:=Tm.size_le (zf6z C2);have s2:=Tm.size_le (zf6z (show i<l'.length by omega));have hT:=ih l[i] (l'[i]'(by omega)) (by omega) (by omega) (by omega);have hw:=J6 i (by omega);rw[zf0z C2,zf0z (show i<l'.length by omega)]at hr;simp only[MV,nz]at hr;generalize l[i]=t at *
    generalize l'[i]'(by omega)=t' at *
    obtain⟨tk,tn,ts,tm,tl⟩:=t;obtain⟨tk',tn',ts',tm',tl'⟩:=t';simp only[I8]at hT hx hx';by_cases hc:Lu (Tm.mk tk tn ts tm tl) (Tm.mk tk' tn' ts' tm' tl')=0
    .rw[if_pos hc]at hr;simp[EA,hl,h2,h3,h9,C2,hx,hx',hT,hw,hc];exact⟨n-1,by omega,i+1,by omega,by simp,hr⟩
    .rw[if_neg hc]at hr;simp[EA,hl,h2,h3,h9,C2,hx,hx',hT,hw,hc];exact hr
   .have h0:l.length<=i:=by omega
    rw[zf3z h0,Wx]at hr;simp[EA,hl,h2,h3,h9,C2];exact hr.symm
  refine gu WP rfl (by simp[MK]) λfr hl ha=>?_;have h0:=ha 0;have h1:=ha 1;clear ha ih;simp[MK,I8]at hl h0 h1 ⊢;by_cases e0:KU (1+(Tm.sizes l:Int)) (1+(Tm.sizes l':Int))=0
  .by_cases e1:KU k k'=0
   .by_cases e2:Op.bytesLess nm.toList nm'.toList=true
    .simp[e0,e1,e2,h0,h1,hl,hS,hS',Kr];simp[Lu,nz,e0,e1,e2,AE]
    .by_cases e3:nm.toList=nm'.toList
     .have e2':=e2;rw[e3]at e2';by_cases e5:KU s s'=0
      .by_cases e4:KU (l.length:Int) (l'.length:Int)=0
       .simp[e0,e1,e2,e2',e3,e5,e4,h0,h1,hl,hS,hS',Kr];refine(loop _ (by simp[hl]) (by simp[hl]) (by simp[hl]) (by simp[hl]) (jh e4)).mono ?_;rintro e fr h ⟨hl,⟨rfl,hz⟩|⟨rfl,h5⟩⟩
        .simp[hl,Lu,nz,e0,e1,e2,e2',e3,e5,e4,AE,hz]
        .simp[hl,h5,Lu,nz,e0,e1,e2,e2',e3,e5,e4,AE]
       .simp[e0,e1,e2,e2',e3,e5,e4,h0,h1,hl,hS,hS',Kr];simp[Lu,nz,e0,e1,e2,e2',e3,e5,e4,AE]
      .simp[e0,e1,e2,e2',e3,e5,h0,h1,hl,hS,hS',Kr];simp[Lu,nz,e0,e1,e2,e2',e3,e5,AE]
     .simp[e0,e1,e2,e3,h0,h1,hl,hS,hS',Kr];simp[Lu,nz,e0,e1,e2,e3,AE]
   .simp[e0,e1,h0,h1,hl,hS,hS',Kr];simp[Lu,nz,e0,e1,AE]
  .simp[e0,h0,h1,hl,hS,hS',Kr];simp[Lu,nz,e0,AE]
def Rr(t t':Tm):Bool:=decide (Lu t t'=0)
theorem IF(t t':Tm)(h:t.size<=1099511627776)(h':t'.size<=1099511627776):pc Q IA [I8 t,I8 t']=some (.bool (Rr t t')):=by
 have hC:=dC _ t t' (zf2z _) h h';refine gu ax rfl (by simp[RJ]) λfr hl ha=>?_;have h0:=ha 0;have h1:=ha 1;clear ha h h';obtain⟨tk,tn,ts,tm,tl⟩:=t;obtain⟨tk',tn',ts',tm',tl'⟩:=t';simp only[I8]at hC;simp[RJ,I8]at hl h0 h1 ⊢;simp[h0,h1,hl,hC,Rr]
end Go.Abs.Q
namespace Go.Abs.Q
mutual
def cL:Tm->Int->Int
 | .mk _ n _ _ l,most=>if most<=0\/(40:Int)<n.size then -1 else UF l (most-1)
def UF:List Tm->Int->Int
 | [],most=>most
 |t::l,most=>if cL t most<0 then -1 else UF l (cL t most)
end
mutual
theorem nP:∀(t:Tm) (m:Int),cL t m<=m\/cL t m=-1
 | .mk _ n _ _ l,m=>by
  simp only[cL];split
  .exact .inr rfl
  .rcases rv l (m-1)with h|h
   .exact .inl (by omega)
   .exact .inr h
theorem rv:∀(l:Be) (m:Int),UF l m<=m\/UF l m=-1
 | [],m=>.inl (zt1z _)
 |t::l,m=>by
  simp only[UF];split
  .exact .inr rfl
  .rename_i hb;rcases nP t m with h|h
   .rcases rv l (cL t m)with h' | h'
    .exact .inl (by omega)
    .exact .inr h'
   .omega
end
def cf:List Tm->Int->Bool
 | [],_=>true
 |t::l,most=>if cL t most<0 then false else cf l (cL t most)
def kD(l:List Tm)(n most:Int):Bool:=if n<l.length then false else cf l most
end Go.Abs.Q
namespace Go.Abs.Q
attribute [local simp] E5 E6 fin J4 H8
def EX{α:Type}(p:α->Bool):Nat->List α->Int
 |_,[]=>-1
 |i,a::r=>if p a=true then (i:Int)else EX p (i+1) r
def idx{α:Type}(p:α->Bool)(l:List α):Int:=EX p 0 l
theorem Qp{α:Type}(p:α->Bool):∀(l:List α) (i:Nat),(0<=EX p i l)↔l.any p=true
 | [],i=>by simp[EX]
 |a::l,i=>by
  simp only[EX,List.any_cons,zg1z];by_cases h:p a=true
  .simp[h]
  .rw[if_neg h,Qp p l (i+1)];simp[h]
theorem LY{p:Prop}[Decidable p](h:p):decide p=true:=by simp[h]
theorem z8{p:Prop}[Decidable p](h:¬p):decide p=false:=by simp[h]
def Qs(c:Nat):Bool:=decide (97<=c/\c<=122)||decide (65<=c/\c<=90)
def fv(c:Nat):Bool:=decide (48<=c/\c<=57)
def Br(c:Nat):Bool:=Qs c||fv c||decide (c=95)||decide (c=35)
theorem qP(c:Nat):c<35\/c=35\/(36<=c/\c<=47)\/(48<=c/\c<=57)\/(58<=c/\c<=64)\/(65<=c/\c<=90)\/(91<=c/\c<=94)\/c=95\/c=96\/(97<=c/\c<=122)\/123<=c:=by omega
theorem tV(c:Nat):pc Q Ot [.int .u8 c]=some (.bool (Br c)):=by
 refine J0 Si λfr hl h0=>?_;simp[Si]at hl h0;rcases qP c with h|h|h|h|h|h|h|h|h|h|h<;>simp(disch:=omega) only[Br,Qs,fv,LY,z8,zg5z,zg4z,zf8z,zg3z]<;>simp(disch:=first|omega|(simp only[zf7z];omega)) [Si,h0,hl,LY,z8]
theorem eG(c:Nat):pc Q Jz [.int .u8 c]=some (.bool (Qs c)):=by
 refine J0 Nw λfr hl h0=>?_;simp[Nw]at hl h0;rcases qP c with h|h|h|h|h|h|h|h|h|h|h<;>simp(disch:=omega) only[Br,Qs,fv,LY,z8,zg5z,zg4z,zf8z,zg3z]<;>simp(disch:=first|omega|(simp only[zf7z];omega)) [Nw,h0,hl,LY,z8]
theorem A0y(c:Nat):pc Q LH [.int .u8 c]=some (.bool (fv c)):=by
 refine J0 Pb λfr hl h0=>?_;simp[Pb]at hl h0;rcases qP c with h|h|h|h|h|h|h|h|h|h|h<;>simp(disch:=omega) only[Br,Qs,fv,LY,z8,zg5z,zg4z,zf8z,zg3z]<;>simp(disch:=first|omega|(simp only[zf7z];omega)) [Pb,h0,hl,LY,z8]
abbrev Ht(s:ByteArray):List UInt8:=s.data.toList
theorem Sv(s:Al)(j:Nat):s[j]?=(Ht s)[j]?:=by
 obtain⟨⟨l⟩⟩:=s;by_cases h:j<l.length
 .have h1:j<zg8z ⟨⟨l⟩⟩:=h;rw[getElem?_pos (⟨⟨l⟩⟩:ByteArray) j h1];simp only[Ht];rw[zf4z h];rfl
 .have h1:¬j<zg8z ⟨⟨l⟩⟩:=h;rw[getElem?_neg (⟨⟨l⟩⟩:ByteArray) j h1];simp only[Ht];rw[List.getElem?_eq_none (by omega)]
theorem Oe(s:Al):(Ht s).length=s.size:=by
 obtain⟨⟨l⟩⟩:=s;rfl
def Bq(s:ByteArray):Bool:=match Ht s with | []=>false|c::r=>decide (s.size<=24)&&Qs c.toNat&&(c::r).all λc=>Br c.toNat
theorem kw(s:Al)(hs:s.size<=24)(fr:Fr)(h:AH)(hl:fr.length=48)(h0:B2 fr 0=.str s)(h38:B2 fr 38=.int .i64 s.size)(h39:B2 fr 39=.int .i64 0) :
  D7 (lp (A8 (m6 Q) (B1 GU) Dj) (fr,h)) λe B8 h'=>Kp Dj.wr fr B8/\(e=.exit 0/\((Ht s).all λc=>Br c.toNat)=true\/e=.ret/\B2 B8 2=.bool false/\((Ht s).all λc=>Br c.toNat)=false):=by
 refine E9 rfl fr (λn fr h=>∃i:Nat,i+n=s.size/\B2 fr 39=.int .i64 (i:Nat)/\(((Ht s).drop i).all λc=>Br c.toNat)=((Ht s).all λc=>Br c.toNat)) ?_ s.size h ⟨0,by omega,h39,rfl⟩;rintro J Φ hJ hΦ n CT AQ K ⟨i,hi,k39,hr⟩;have C6:=K.1.trans hl;have k0:=D4 K 0 h0;have k38:=D4 K 38 h38;have D6:=Oe s;by_cases C2:i<s.size
 .have Hx:i<(Ht s).length:=by omega
  have hx:s[i]?=some (Ht s)[i]:=by rw[Sv,zf4z Hx]
  have hw:=J6 i (by omega);rw[zf0z Hx,zg9z]at hr;generalize (Ht s)[i]=c at *
  have hP:=tV c.toNat;have VV:s[i]'C2=c:=by rw[getElem?_pos s i C2]at hx;exact Option.some.inj hx
  cases hc:Br c.toNat with
  |true =>
   rw[hc]at hP hr;simp[Dj,C6,k0,k38,k39,C2,VV,hw,hP];exact V6 hJ ⟨i+1,by omega,by simp[C6],by simpa using hr⟩
  |false =>
   rw[hc]at hP hr;simp[Dj,C6,k0,k38,k39,C2,VV,hw,hP];exact hΦ _ _ _ (.inr ⟨rfl,by simp[C6],by simpa using hr.symm⟩)
 .rw[zf3z (by omega)]at hr;simp[Dj,C6,k38,k39,C2];exact hΦ _ _ _ (.inl ⟨rfl,by simpa using hr.symm⟩)
theorem rz{s:Al}(h:Ht s=[]):s=bs []:=by
 obtain⟨⟨l⟩⟩:=s;simp[Ht]at h;subst h;rfl
theorem ww(s:Al):pc Q GU [.str s]=some (.bool (Bq s)):=by
 have D6:=Oe s;refine J0 Bb λfr hl h0=>?_;simp[Bb]at hl h0;cases hb:Ht s with
 |nil =>
  have e:=rz hb;subst e;simp[Bb,hl,h0,Bq,hb]
 |cons c r =>
  rw[hb]at D6;simp only[zg7z]at D6;have AS:¬(s.toList=(bs []).toList):=by
   rw[Lib.toList_data,Lib.toList_data,show s.data.toList=c::r from hb];intro e;cases e
  have V5:0<s.size:=by omega
  have hx:s[0]?=some c:=by rw[Sv,hb];rfl
  have VV:s[0]'V5=c:=by rw[getElem?_pos s 0 V5]at hx;exact Option.some.inj hx
  by_cases h24:24<s.size
  .have h24':(24:Int)<(s.size:Int):=by omega
   have h24n:¬s.size<=24:=by omega
   simp[Bb,hl,h0,AS,h24',Bq,hb,h24n]
  .have h24':¬(24:Int)<(s.size:Int):=by omega
   have h24n:s.size<=24:=by omega
   have hP:=tV c.toNat;cases hL:Qs c.toNat with
   |false =>
    have hv:Bq s=false:=by simp[Bq,hb,hL]
    rw[hv];cases hp:Br c.toNat with
    |false =>
     rw[hp]at hP;simp[Bb,hl,h0,AS,h24',V5,VV,hP]
    |true =>
     rw[hp]at hP;have hcc:(48<=c.toNat/\c.toNat<=57)\/c.toNat=95\/c.toNat=35:=by
      simp only[Br,hL,fv,zf8z,zg1z,decide_eq_true_eq]at hp;omega
     generalize hzv:c.toNat=z at *
     rcases hcc with hz|hz|hz<;>simp(disch:=first|omega|(simp only[zf7z];omega)) [Bb,hl,h0,AS,h24',V5,VV,hzv,hP,LY,z8]
   |true =>
    have hp:Br c.toNat=true:=by simp[Br,hL]
    rw[hp]at hP;have hcc:(97<=c.toNat/\c.toNat<=122)\/(65<=c.toNat/\c.toNat<=90):=by
     simp only[Qs,zg1z,decide_eq_true_eq]at hL;exact hL
    have hv:Bq s=(Ht s).all λc=>Br c.toNat:=by simp[Bq,hb,hL,h24n]
    rw[hv];have key:∀b,((Ht s).all λc=>Br c.toNat)=b->D7 (A8 (m6 Q) (B1 GU) Bb.body (fr,⟨[],[]⟩)) (vH Bb.results (.bool b)):=by
     intro b hbv;generalize hzv:c.toNat=z at *
     have q1:¬(z:Int)=95:=by omega
     have q2:¬(z:Int)=35:=by omega
     have q3:¬((z:Int)<=57):=by omega
     have q4:(48:Int)<=(z:Int):=by omega
     simp[Bb,hl,h0,AS,h24',V5,VV,hzv,hP,q1,q2,q3,q4];refine(kw s h24n _ _ (by simp[hl]) (by simp[hl,h0]) (by simp[hl]) (by simp[hl])).mono ?_;rintro e B8 h' ⟨K,⟨rfl,he⟩|⟨rfl,h2,he⟩⟩
     .have hl':B8.length=48:=K.1.trans (by simp[hl]);rw[hbv]at he;simp[hl',he]
     .rw[hbv]at he;simp[h2,he]
    exact key _ rfl
theorem iN(s:Al)(hs:s.size<=24)(fr:Fr)(h:AH)(hl:fr.length=48)(h0:B2 fr 0=.str s)(h3:B2 fr 3=.int .i64 0) :
  D7 (lp (A8 (m6 Q) (B1 Ei) j9) (fr,h)) λe B8 h'=>Kp j9.wr fr B8/\(e=.exit 0/\((Ht s).all λc=>Br c.toNat)=true\/e=.ret/\B2 B8 2=.bool false/\((Ht s).all λc=>Br c.toNat)=false):=by
 refine E9 rfl fr (λn fr h=>∃i:Nat,i+n=s.size/\B2 fr 3=.int .i64 (i:Nat)/\(((Ht s).drop i).all λc=>Br c.toNat)=((Ht s).all λc=>Br c.toNat)) ?_ s.size h ⟨0,by omega,h3,rfl⟩;rintro J Φ hJ hΦ n CT AQ K ⟨i,hi,k3,hr⟩;have C6:=K.1.trans hl;have k0:=D4 K 0 h0;have D6:=Oe s;by_cases C2:i<s.size
 .have Hx:i<(Ht s).length:=by omega
  have hx:s[i]?=some (Ht s)[i]:=by rw[Sv,zf4z Hx]
  have hw:=J6 i (by omega);rw[zf0z Hx,zg9z]at hr;generalize (Ht s)[i]=c at *
  have hL:=eG c.toNat;have hD:=A0y c.toNat;have VV:s[i]'C2=c:=by rw[getElem?_pos s i C2]at hx;exact Option.some.inj hx
  have fwd:Br c.toNat=true->(((Ht s).drop (i+1)).all λc=>Br c.toNat)=((Ht s).all λc=>Br c.toNat):=λhp=>by rw[hp]at hr;simpa using hr
  have bad:Br c.toNat=false->((Ht s).all λc=>Br c.toNat)=false:=λhp=>by rw[hp]at hr;simpa using hr.symm
  clear hr;generalize hz:c.toNat=z at *
  cases hLv:Qs z with
  |true =>
   rw[hLv]at hL;simp[j9,C6,k0,k3,C2,VV,hz,hw,hL];exact V6 hJ ⟨i+1,by omega,by simp[C6],fwd (by simp[Br,hLv])⟩
  |false =>
   rw[hLv]at hL;cases hDv:fv z with
   |true =>
    rw[hDv]at hD;simp[j9,C6,k0,k3,C2,VV,hz,hw,hL,hD];exact V6 hJ ⟨i+1,by omega,by simp[C6],fwd (by simp[Br,hDv])⟩
   |false =>
    rw[hDv]at hD;by_cases h95:z=95
    .subst h95;simp only[zg6z]at hL hD;simp[j9,C6,k0,k3,C2,VV,hz,hw,hL,hD];exact V6 hJ ⟨i+1,by omega,by simp[C6],fwd (by simp[Br])⟩
    .have h95':¬(z:Int)=95:=by omega
     by_cases h35:z=35
     .subst h35;simp only[zg6z]at hL hD;simp[j9,C6,k0,k3,C2,VV,hz,hw,hL,hD];exact V6 hJ ⟨i+1,by omega,by simp[C6],fwd (by simp[Br])⟩
     .have h35':¬(z:Int)=35:=by omega
      simp[j9,C6,k0,k3,C2,VV,hz,hw,hL,hD,h95',h35'];exact hΦ _ _ _ (.inr ⟨rfl,by simp[C6],bad (by simp[Br,hLv,hDv,h95,h35])⟩)
 .rw[zf3z (by omega)]at hr;simp[j9,C6,k0,k3,C2];exact hΦ _ _ _ (.inl ⟨rfl,by simpa using hr.symm⟩)
theorem eF(s:Al):pc Q Ei [.str s]=some (.bool (Bq s)):=by
 have D6:=Oe s;refine J0 Bu λfr hl h0=>?_;simp[Bu]at hl h0;cases hb:Ht s with
 |nil =>
  have e:=rz hb;subst e;simp[Bu,hl,h0,Bq,hb,show (bs []).size=0 from rfl]
 |cons c r =>
  rw[hb]at D6;simp only[zg7z]at D6;have AS:¬(s.size:Int)=0:=by omega
  have hne':¬s.size=0:=by omega
  have V5:0<s.size:=by omega
  have hx:s[0]?=some c:=by rw[Sv,hb];rfl
  have VV:s[0]'V5=c:=by rw[getElem?_pos s 0 V5]at hx;exact Option.some.inj hx
  by_cases h24:24<s.size
  .have h24':(24:Int)<(s.size:Int):=by omega
   have h24n:¬s.size<=24:=by omega
   simp[Bu,hl,h0,AS,hne',h24',Bq,hb,h24n]
  .have h24':¬(24:Int)<(s.size:Int):=by omega
   have h24n:s.size<=24:=by omega
   have hL:=eG c.toNat;cases hLv:Qs c.toNat with
   |false =>
    rw[hLv]at hL;have hv:Bq s=false:=by simp[Bq,hb,hLv]
    rw[hv];simp[Bu,hl,h0,AS,hne',h24',V5,VV,hL]
   |true =>
    rw[hLv]at hL;have hv:Bq s=(Ht s).all λc=>Br c.toNat:=by simp[Bq,hb,hLv,h24n]
    rw[hv];have key:∀b,((Ht s).all λc=>Br c.toNat)=b->D7 (A8 (m6 Q) (B1 Ei) Bu.body (fr,⟨[],[]⟩)) (vH Bu.results (.bool b)):=by
     intro b hbv;simp[Bu,hl,h0,AS,hne',h24',V5,VV,hL];refine(iN s h24n _ _ (by simp[hl]) (by simp[hl,h0]) (by simp[hl])).mono ?_;rintro e B8 h' ⟨K,⟨rfl,he⟩|⟨rfl,h2,he⟩⟩
     .have hl':B8.length=48:=K.1.trans (by simp[hl]);rw[hbv]at he;simp[hl',he]
     .rw[hbv]at he;simp[h2,he]
    exact key _ rfl
end Go.Abs.Q
