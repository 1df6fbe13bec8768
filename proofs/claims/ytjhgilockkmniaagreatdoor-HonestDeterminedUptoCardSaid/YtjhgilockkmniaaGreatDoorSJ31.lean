/- A part of the proof. -/
import Derived.Test.YtjhgilockkmniaaGreatDoorSJ18
import Derived.Test.YtjhgilockkmniaaGreatDoorSJ30
import Derived.LoopTactic
import Derived.Deep.Draws
import Derived.Laws.CopyRow
import Derived.Laws.Externs
import Derived.Deep.AppendSrc
import Derived.Lib.AppendZerosOnto
import Derived.Test.YtjhgilockkmniaaGreatDoorProg
import Derived.ProofKit
import Derived.WalkKit
import Derived.Lib.Walk
import Derived.Lib.SliceRun
import Derived.Shelf.RegionOpenPlain
import Derived.Shelf.Spec.SlicesInsert
import Derived.KernelRfl
set_option linter.all false
open List renaming getElem?_eq_some_iff->zf0z,getElem?_eq_getElem->zf1z,length_append->zf2z,append_assoc->zf3z,getElem?_map->zf4z,length_take->zf6z,getElem?_range->zf8z,length_cons->zf9z,getElem?_drop->zg3z,mem_cons->zg7z,getElem?_take->zg9z,append_nil->zt2z,length_nil->zt3z,mem_range->zt4z,mem_map->zt5z,range->zt8z
open Array renaming getD_eq_getD_getElem?->zf5z
open Nat renaming le_refl->zf7z,min_eq_left->zg0z,zero_le->zg2z,le_trans->zg4z,sub_zero->zg5z,mul_le_mul_right->zg6z,add_assoc->zg8z,add_zero->zt0z,zero_mul->zt1z,add_mul->zt6z,min_def->zt7z
open Option renaming map_some->zg1z
namespace Go.Proofs
open Go.RowKit Go.Abs
theorem LD {w:World} {ok:Nat->Nat->Prop} {k s:Int} {n:ByteArray} {m:Bool×Bool} {l:List Tm} {v:Value} (h:PV w ok (I1 (.mk k n s m l)) v) :
  ∃a len cap,v=.agg #[.int .i64 k,.string n,.int .i64 s,.slice a len cap]/\len=l.length/\(l≠[]->∃b o,a=some ⟨b,o,none⟩/\JS w ok 4 b o (D1 l)):=by
 simp only[I1,PV,W5]at h;obtain⟨⟨us⟩,rfl,h1,v0,r0,e0,rfl,v1,r1,e1,rfl,v2,r2,e2,rfl,v3,r3,e3,hv3,e4⟩:=h;subst e4 e3 e2 e1;simp only at e0;subst e0;simp only[sl,PV]at hv3;obtain⟨a,len,cap,rfl,rfl,_,_,_,_,h6⟩:=hv3;refine⟨a,_,cap,rfl,by rw[j2,List.length_map],λT6=>?_⟩;have hne':D1 l≠[]:=by
  rw[j2];intro e;exact T6 (List.map_eq_nil_iff.1 e)
 obtain⟨b,o,rfl,hz,hp⟩:=h6 hne';have hie:(D1 l).isEmpty=false:=by
  cases hq:D1 l with
  |nil=>exact absurd hq hne'
  |cons _ _=>rfl
 rw[hie]at hp;exact⟨b,o,rfl,hp⟩
theorem Pd:∀(b:Bool) (l l':List Tm),EX b (l++l')=EX b l++EX (b&&l.isEmpty) l'
 |b,[],l'=>by simp[EX]
 |b,t::l,l'=>by
  simp only[List.cons_append,EX,Pd false l l',zf3z,Bool.false_and,List.isEmpty_cons,Bool.and_false]
theorem aL (ts:List Tm) {i:Nat} (hi:i<ts.length):EX true (ts.take (i+1))=EX true (ts.take i)++((if i=0 then []else [44,32])++Sw ts[i]):=by
 rw[List.take_succ_eq_append_getElem hi,Pd];congr 1;simp only[EX,zt2z,Bool.true_and];congr 1;cases i with
 |zero=>simp
 |succ i =>
  have:(ts.take (i+1)).isEmpty=false:=by
   cases h:ts.take (i+1)with
   |nil =>
    have:=congrArg List.length h;rw[zf6z,zt3z]at this;omega
   |cons _ _=>rfl
  simp[this]
theorem iP (ts:List Tm) (i:Nat):(EX true (ts.take i)).length<=(EX true ts).length:=by
 have h:=congrArg (λx=>(EX true x).length) (List.take_append_drop i ts);simp only[Pd,zf2z]at h;omega
set_option maxHeartbeats 8000000 in
set_option maxRecDepth 100000 in
theorem Tryz.write_app (B b:Nat) (l:List UInt8) (k s:Int) (tn:ByteArray) (ts:List Tm) (sa:Option Addr) (cap:Nat) (w:World) (h:Lib.IsBuilder 310 5 B b (Lib.byteCells l) w) (hk1:k≠1) (hk2:k≠2) (C4:l.length+(tn.data.toList++40::(EX true ts++[41])).length+100<=140737488355328) (hBw:B<=w.heap.size) (hW:GV B w) (hN:ts.length<=140737488355328)
  (hE:∀j t,ts[j]?=some t->∃kb ko us,sa=some ⟨kb,ko,none⟩/\kb<B/\us.size=4/\(∀c,c<4->w.cell? ⟨kb,ko+j*4+c,none⟩=us[c]?)/\PV w (λx _=>x<B) (I1 t) (.agg us))
  (IH:∀t∈ts,∀l w vt,Lib.IsBuilder 310 5 B b (Lib.byteCells l) w->PV w (λx _=>x<B) (I1 t) vt->l.length+(Sw t).length+100<=140737488355328->B<=w.heap.size->GV B w ->
   Calls Tryz.prog 253 #[.pointer (some ⟨b,0,none⟩),vt] w λe w'=>e=.returned (.tuple #[])/\(Lib.BuilderAt 310 5 B b (.pointer (some ⟨b,0,none⟩)) (Lib.byteCells (l++Sw t)) w'/\Below B w w'/\P0 5 b w w')) :
  Calls Tryz.prog 253 #[.pointer (some ⟨b,0,none⟩),.agg #[.int .i64 k,.string tn,.int .i64 s,.slice sa ts.length cap]] w λe w'=>e=.returned (.tuple #[])/\(Lib.BuilderAt 310 5 B b (.pointer (some ⟨b,0,none⟩)) (Lib.byteCells (l++(tn.data.toList++40::(EX true ts++[41])))) w'/\Below B w w'/\P0 5 b w w'):=by
 have hbl:b<w.heap.size:=by rcases h with h|h<;>exact h.lt
 have hk1':(k == 1)=false:=by simpa using hk1
 have hk2':(k == 2)=false:=by simpa using hk2
 simp only[zf2z,zf9z,zt3z]at C4;have hll:(Lib.byteCells l).length=l.length:=by simp[Lib.byteCells]
 have hts:tn.data.toList.length=tn.size:=by simp
 have ha:(tn++⟨#[40]⟩:ByteArray).size=tn.size+1:=by rw[ByteArray.size_append];rfl
 have e1:Lib.strCells (tn++⟨#[40]⟩)=Lib.byteCells (tn.data.toList++[40]):=by
  rw[Lib.strCells_eq];congr 1
 go_enter Tryz.func253,Tryz.ntmps253
 go_wp2_with (go_at_call 300;(refine(Tryz.bldWriteString B b _ _ _ (AQ h _) (by omega) (by simp;omega)).mono ?_;rintro e w1 ⟨rfl,h1,hb1,hap⟩;have hc3:=Ce hap (by rcases h with h|h<;>exact h.lt) (by decide) 3))
 rw[e1,←BI]at h1;have hbw1:Below B w w1:=((Below.refl B w).alloc hBw _).trans hb1;have hap1:P0 5 b w w1:=(P0.alloc w _).trans hap;clear h hc3 hap hb1 e1 ha
 go_loopw [47] (λvi wr=>∃(i:Nat),vi=.int .i64 i/\i<=ts.length/\Lib.BuilderAt 310 5 B b (.pointer (some ⟨b,0,none⟩)) (Lib.byteCells (l++(tn.data.toList++[40])++EX true (ts.take i))) wr/\Below B w wr/\P0 5 b w wr)
  (λvi _=>ts.length-(intOf vi).toNat)
 case atStart=>exact⟨0,rfl,by omega,by simpa[EX]using h1,hbw1,hap1⟩
 case round =>
  obtain⟨i,rfl,hi,hbd,hbel,hapt⟩:=hrel;clear h1 hbw1 hap1;by_cases A9:i<ts.length
  .obtain⟨kb,ko,us,rfl,hkb,LH,w8,hpv⟩:=hE i ts[i] (zf1z A9);obtain⟨us⟩:=us;obtain⟨u0,u1,u2,u3,rfl⟩:∃u0 u1 u2 u3,us=[u0,u1,u2,u3]:=by
    match us,LH with
    | [a,b,c,d],_=>exact⟨a,b,c,d,rfl⟩
   have c0:wr.cell? ⟨kb,ko+i*4,none⟩=some u0:=(hbel.cell hkb).trans (w8 0 (by omega));have c1:wr.cell? ⟨kb,ko+i*4+1,none⟩=some u1:=(hbel.cell (p:=⟨kb,ko+i*4+1,none⟩) hkb).trans (w8 1 (by omega));have c2:wr.cell? ⟨kb,ko+i*4+2,none⟩=some u2:=(hbel.cell (p:=⟨kb,ko+i*4+2,none⟩) hkb).trans (w8 2 (by omega));have c3:wr.cell? ⟨kb,ko+i*4+3,none⟩=some u3:=(hbel.cell (p:=⟨kb,ko+i*4+3,none⟩) hkb).trans (w8 3 (by omega));have hpv':=hpv;have hti:=IH ts[i] (List.getElem_mem A9);have htx:EX true (ts.take (i+1))=EX true (ts.take i)++((if i=0 then []else [44,32])++Sw ts[i]):=aL ts A9
   have Fn:(EX true (ts.take (i+1))).length<=(EX true ts).length:=iP ts (i+1);rw[htx]at Fn;simp only[zf2z]at Fn;generalize ts[i]=t at *
   obtain⟨tk,tnm,tso,tm,tl⟩:=t;obtain⟨sva,svn,svc,he,-,-⟩:=LD hpv';have he':[u0,u1,u2,u3]=[.int .i64 tk,.string tnm,.int .i64 tso,.slice sva svn svc]:=by
    have:=congrArg (λv=>match v with | .agg us=>us.toList|_=>[]) he
    exact this
   simp only[List.cons.injEq,and_true]at he';obtain⟨rfl,rfl,rfl,rfl⟩:=he';clear hpv' he;have hBr:B<=wr.heap.size:=zg4z hBw hbel.size;have hbr:b<wr.heap.size:=Nat.lt_of_lt_of_le hbl hbel.size;have hi2:=AQ (.inr hbd) (.cells #[.int .i64 tk,.string tnm,.int .i64 tso,.slice sva svn svc] 41);have hb2:=hbel.alloc hBr (.cells #[.int .i64 tk,.string tnm,.int .i64 tso,.slice sva svn svc] 41);have ha2:=hapt.trans (P0.alloc wr (.cells #[.int .i64 tk,.string tnm,.int .i64 tso,.slice sva svn svc] 41));have hBa:B<=(wr.alloc (.cells #[.int .i64 tk,.string tnm,.int .i64 tso,.slice sva svn svc] 41)).heap.size:=zg4z hBw hb2.size;have hLl:(l++(tn.data.toList++[40])++EX true (ts.take i)).length=l.length+tn.size+1+(EX true (ts.take i)).length:=by simp[hts];omega
   have hpvB:∀w',Below B w w'->PV w' (λx _=>x<B) (I1 (.mk tk tnm tso tm tl)) (.agg #[.int .i64 tk,.string tnm,.int .i64 tso,.slice sva svn svc]):=λw' hb=>Z7 (λx o hx=>⟨hx,hb.cell hx,λes clk he=>by rw[hb.block x hx];exact he⟩) _ _ hpv;clear w8 hpv hE;by_cases h0:i=0
   .subst h0;simp only[zt1z,zt0z]at c0 c1 c2 c3
    go_wp2_with (go_at_call 253;refine(hti _ _ _ hi2 (hpvB _ hb2) (by rw[hLl];omega) hBa (hW.below hb2)).mono ?_;rintro e w3 ⟨rfl,h3,hb3,hap3⟩)
    go_roundw
    case rel=>exact⟨1,by go_num,by omega,by rw[htx,←zf3z];simpa using h3,hb2.trans hb3,ha2.trans hap3⟩
    case measure=>simp[intOf];omega
   .rw[if_neg h0]at Fn;have Fn:(EX true (ts.take i)).length+(2+(Sw (.mk tk tnm tso tm tl)).length)<=(EX true ts).length:=Fn;have G7:(i:Int) > 0:=by omega
    go_wp2_with (first
     |(go_at_call 300;refine(Tryz.bldWriteString B b _ _ _ hi2 (by rw[Lib.byteCells_length,hLl];show _+2<=_;omega) hBa).mono ?_;rintro e w2 ⟨rfl,h2,hbB,hapB⟩;have d0:=Ce hapB hbr (by decide) 0;have d1:=Ce hapB hbr (by decide) 1;have d2:=Ce hapB hbr (by decide) 2;have d3:=Ce hapB hbr (by decide) 3;rw[Lib.strCells_eq,←BI]at h2)
     |(go_at_call 253;refine(hti _ _ _ (.inr h2) (hpvB _ (hb2.trans hbB)) (by rw[zf2z,hLl];show _+2+_+_<=_;omega) (zg4z hBa hbB.size) (hW.below (hb2.trans hbB))).mono ?_;rintro e w3 ⟨rfl,h3,hb3,hap3⟩))
    go_roundw
    case rel=>exact⟨i+1,by go_num,by omega,by rw[htx,←zf3z,if_neg h0,←zf3z];simpa using h3,(hb2.trans hbB).trans hb3,(ha2.trans hapB).trans hap3⟩
    case measure=>simp[intOf];omega
  .have Ph:i=ts.length:=by omega
   subst Ph;rw[List.take_of_length_le (zf7z _)]at hbd;have hLl:(l++(tn.data.toList++[40])++EX true ts).length=l.length+tn.size+1+(EX true ts).length:=by simp[hts];omega
   go_wp2_with (go_at_call 301;refine(Tryz.bldWriteByte B b _ _ _ (.inr hbd) (by rw[Lib.byteCells_length,hLl];omega) (zg4z hBw hbel.size)).mono ?_;rintro e w2 ⟨rfl,h2,hbB,hapB⟩)
   go_end0
   refine⟨rfl,?_,hbel.trans hbB,hapt.trans hapB⟩;have e3:Lib.byteCells (l++(tn.data.toList++[40])++EX true ts)++[Value.int .u8 41]=Lib.byteCells (l++(tn.data.toList++40::(EX true ts++[41]))):=by
    rw[show ([Value.int .u8 41]:List Value)=Lib.byteCells [41] from rfl,←BI];congr 1;simp
   rw[e3]at h2;exact h2
theorem VV {t:Tm}:∀{ts:List Tm},t∈ts->VU ts=true->VT t=true
 |u::ts,h,hw=>by
  simp only[VU,Bool.and_eq_true]at hw;rcases zg7z.1 h with rfl|h
  .exact hw.1
  .exact VV h hw.2
theorem RD {t:Tm}:∀{ts:List Tm},t∈ts->t.size<=Tm.sizes ts
 |u::ts,h=>by
  simp only[Tm.sizes];rcases zg7z.1 h with rfl|h
  .omega
  .have:=RD h;omega
theorem RC:∀ts:List Tm,ts.length<=Tm.sizes ts
 | []=>zg2z _
 |t::ts=>by
  have:=RC ts;have h0:0<t.size:=t.size_pos;simp only[Tm.sizes,zf9z];omega
theorem Yv {w:World} {ok:Nat->Nat->Prop} {b o:Nat} {ts:List Tm} (hp:JS w ok 4 b o (D1 ts)) {j:Nat} {t:Tm} (hj:ts[j]?=some t) :
  ∃us:Array Value,us.size=4/\ok b (o+j*4)/\(∀c,c<4->w.cell? ⟨b,o+j*4+c,none⟩=us[c]?)/\PV w ok (I1 t) (.agg us):=by
 have hj':(D1 ts)[j]?=some (I1 t):=by rw[j2,zf4z,hj];rfl
 obtain⟨p1,p2⟩:=Gz hp hj';obtain⟨k,n,s,m,l⟩:=t;simp only[I1,AV.cells]at p2;obtain⟨u0,a0,b0,c0,d0⟩:=r9 p2 (j:=0) rfl;obtain⟨u1,a1,b1,c1,d1⟩:=r9 p2 (j:=1) rfl;obtain⟨u2,a2,b2,c2,d2⟩:=r9 p2 (j:=2) rfl;obtain⟨u3,a3,b3,c3,d3⟩:=r9 p2 (j:=3) rfl;refine⟨#[u0,u1,u2,u3],rfl,a0,λc hc=>?_,?_⟩
 .match c,hc with
  |0,_=>exact b0
  |1,_=>exact b1
  |2,_=>exact b2
  |3,_=>exact b3
 .simp only[I1,PV,W5];refine⟨_,rfl,λu hu=>?_,u0,_,rfl,by simpa[PV]using d0,u1,_,rfl,by simpa[PV]using d1,u2,_,rfl,by simpa[PV]using d2,u3,_,rfl,d3,rfl⟩;simp only[zg7z,List.not_mem_nil,or_false]at hu;rcases hu with rfl|rfl|rfl|rfl<;>assumption
theorem iO (n:ByteArray) (s:Int) (m:Bool×Bool) (l:List Tm):Sw (.mk 1 n s m l)=63::n.data.toList++(if s=0 then []else 58::j3 s):=by simp[Sw]
theorem eQ (n:ByteArray) (s:Int) (m:Bool×Bool) (l:List Tm):Sw (.mk 2 n s m l)=n.data.toList++58::j3 s:=by simp[Sw]
theorem iN {k:Int} (h1:k≠1) (h2:k≠2) (n:ByteArray) (s:Int) (m:Bool×Bool) (l:List Tm):Sw (.mk k n s m l)=n.data.toList++40::(EX true l++[41]):=by simp[Sw,h1,h2]
theorem Tryz.write_ok (B b:Nat):∀(N:Nat) (t:Tm),t.size<=N->t.size<=1048576->VT t=true->∀(l:List UInt8) (w:World) (vt:Value),Lib.IsBuilder 310 5 B b (Lib.byteCells l) w->PV w (λx _=>x<B) (I1 t) vt->l.length+(Sw t).length+100<=140737488355328->B<=w.heap.size->GV B w ->
  Calls Tryz.prog 253 #[.pointer (some ⟨b,0,none⟩),vt] w λe w'=>e=.returned (.tuple #[])/\(Lib.BuilderAt 310 5 B b (.pointer (some ⟨b,0,none⟩)) (Lib.byteCells (l++Sw t)) w'/\Below B w w'/\P0 5 b w w'):=by
 intro N
 induction N with
 |zero =>
  intro t ht;have:=t.size_pos;omega
 |succ N ih =>
  intro t ht L4 AW l w vt hb hpv C4 hBw hW;obtain⟨k,n,s,m,ts⟩:=t;obtain⟨a,len,cap,rfl,rfl,Jp⟩:=LD hpv;simp only[Tm.size]at ht L4;have hts:n.data.toList.length=n.size:=by simp
  have hbl:(Lib.byteCells l).length=l.length:=Lib.byteCells_length l;by_cases h1:k=1
  .subst h1;have hs:0<=s/\s<=5:=by simpa[VT]using AW
   rw[iO]at C4 ⊢;simp only[zf2z,zf9z]at C4;by_cases h0:s=0
   .subst h0;refine(Tryz.write_var_any B b _ n _ w hb (by omega) hBw).mono ?_;rintro e w' ⟨he,h2,h3,h4⟩;refine⟨he,?_,h3,h4⟩;rw[if_pos rfl,zt2z,BI];rw[show Lib.strCells (⟨#[63]⟩++n)=Lib.byteCells (63::n.data.toList) from by rw[Lib.strCells_eq];congr 1]at h2;exact h2
   .refine(Tryz.write_var B b _ n s _ w hb (by omega) (by omega) hBw hW).mono ?_;rintro e w' ⟨he,h2,h3,h4⟩;refine⟨he,?_,h3,h4⟩;rw[if_neg h0,BI];exact h2
  .by_cases h2:k=2
   .subst h2;have hs:0<=s/\s<=5:=by simpa[VT]using AW
    rw[eQ]at C4 ⊢;simp only[zf2z,zf9z]at C4;have hc:s=0\/s=1\/s=2\/s=3\/s=4\/s=5:=by omega
    rw[BI];rcases hc with rfl|rfl|rfl|rfl|rfl|rfl
    .exact Tryz.write_atom0 B b _ n _ w hb (by omega) hBw hW
    .exact Tryz.write_atom1 B b _ n _ w hb (by omega) hBw hW
    .exact Tryz.write_atom2 B b _ n _ w hb (by omega) hBw hW
    .exact Tryz.write_atom3 B b _ n _ w hb (by omega) hBw hW
    .exact Tryz.write_atom4 B b _ n _ w hb (by omega) hBw hW
    .exact Tryz.write_atom5 B b _ n _ w hb (by omega) hBw hW
   .rw[iN h1 h2]at C4 ⊢;have hoks:VU ts=true:=by simpa[VT,h1,h2]using AW
    refine Tryz.write_app B b l k s n ts a cap w hb h1 h2 C4 hBw hW (by have:=RC ts;omega) (λj t hj=>?_) λt ht' l' w' vt' g1 g2 g3 g4 g5=>?_
    .have T6:ts≠[]:=λe=>by rw[e]at hj;simp at hj
     obtain⟨kb,ko,rfl,hp⟩:=Jp T6;obtain⟨us,q1,q2,q3,q4⟩:=Yv hp hj;exact⟨kb,ko,us,rfl,q2,q1,q3,q4⟩
    .have:=RD ht';exact ih t (by omega) (by omega) (VV ht' hoks) l' w' vt' g1 g2 g3 g4 g5
end Go.Proofs
namespace Go.Abs
open Go.RowKit (Below)
section
variable {P:Program} {E:Env}
theorem We {k:Nat} {f:Fam} (hf:E.h.fams[k]?=some f) (hw:f.wr=true) (hS:SR E) {b o:Nat} (ho:E.ok b o):b≠(E.im k).b:=by
 intro e;rcases ho with ⟨h1,_⟩|⟨_,_,_,h4⟩
 .have:=(hS.fams k f hf).base;omega
 .have:=(h4 k f hf e.symm).1;rw[hw]at this;cases this
theorem JK (w:World) (dT sT ty elem:TypeId) (K g o dLen dCap:Nat) (a:Addr) (sLen sCap n:Nat) (cur:Array Value) (t:TypeId) (cs:List Value)
  (hu:P.underlying dT=some (.slice elem)) (hs:(P.info? elem).map (·.size)=some K)
  (hg:w.heap[g]?=some (.cells cur t (0,0))) (hn:Nat.min sLen dLen=n) (hl:cs.length=n*K)
  (hsrc:∀j v,cs[j]?=some v->w.cell? (a.add j)=some v) (j8:o+cs.length<=cur.size) (h1:∀v∈cs,v.oneCell'=true) :
  (Builtin.copy_ #[dT,sT] ty #[.slice (some ⟨g,o,none⟩) dLen dCap,.slice (some a) sLen sCap]).run P w =
   .ok (goInt n) (w.setRow g (cur.toList.take o++cs++cur.toList.drop (o+cs.length)).toArray):=by
 have hl':=run_loadCells_list (P:=P) w a cs hsrc;have S6:=run_storeCells_at P g o t cs 0 cur w hg (by simpa using j8) h1;cases hq:P.info? elem with
 |none=>simp[hq]at hs
 |some i =>
  have hi:i.size=K:=by simpa[hq]using hs
  simp[Builtin.copy_,run_underlying hu,Builtin.lenOf,Builtin.firstCells,sizeOf,typeInfo,hq,hi,hn,←hl,hl',S6]
theorem PP (t tx ty e ex:TypeId) (i:TypeInfo) (ht:P.underlying t=some (.slice e)) (htx:P.underlying tx=some (.slice ex)) (hi:P.info? e=some i)
  (g q sLen sCap:Nat) (cur:Array Value) (t':TypeId) (w:World) (hg:w.heap[g]?=some (.cells cur t' (0,0)))
  (a:Addr) (m c:Nat) (news:List Value) (hl:news.length=m*i.size) (hnews:∀j u,news[j]?=some u->w.cell? (a.add j)=some u) (h1:∀u∈news,u.oneCell'=true)
  (U0:sLen+m<=sCap) (j8:q+sLen*i.size+news.length<=cur.size) :
  (Builtin.append_ #[t,tx] ty #[.slice (some ⟨g,q,none⟩) sLen sCap,.slice (some a) m c]).run P w =
   .ok (.slice (some ⟨g,q,none⟩) (sLen+m) sCap) (w.setRow g (cur.toList.take (q+sLen*i.size)++news++cur.toList.drop (q+sLen*i.size+news.length)).toArray):=by
 have hf:=run_firstCells_some (P:=P) w i.size m a m c news hl hnews;have S6:=run_storeCells_at P g (q+sLen*i.size) t' news 0 cur w hg (by simpa using j8) h1;simp only[zt0z]at S6;simp[Builtin.append_,run_underlying ht,run_underlying htx,sizeOf,typeInfo,hi,Builtin.lenOf,U0,hf,AP,S6]
theorem MZ (w:World) (tS tS' tR e:TypeId) (ht:P.underlying tS=some (.slice e)) (size:Nat) (hz:∀w,(Go.sizeOf e).run P w=.ok size w)
  (a b:Addr) (la ca lb cb:Nat) (T6:a.block≠b.block) (cur cur':Array Value) (t t':TypeId) (fr:Nat×Nat) (ha:w.heap[a.block]?=some (.cells cur t fr)) (h0:0<cur.size)
  (hb:w.heap[b.block]?=some (.cells cur' t' (0,0))) (h0':0<cur'.size) :
  (Extern.SlicesOverlaps.overlaps #[tS,tS'] #[tR] #[.slice (some a) la ca,.slice (some b) lb cb]).run P w=.ok (.bool false) w:=by
 have hnb:(a.block != b.block)=true:=by simpa using T6
 have hnb':(a.block == b.block)=false:=by simpa using T6
 have hsa:w.shape? a.block=some (t,cur.size):=by simp[World.shape?,ha]
 have hsb:w.shape? b.block=some (t',cur'.size):=by simp[World.shape?,hb]
 have hfb:w.frozen? b=false:=by simp[World.frozen?,hb]
 have hfb':w.frozen? {block:=b.block,off:=cur'.size}=false:=by simp[World.frozen?,hb]
 change Sem.run P (α:=Value) (do
  let some t:=(#[tS,tS']:Array TypeId)[0]? | stuck "slices.overlaps: no parameter types"
  let .slice elem ←underlying t|stuck "slices.overlaps: slice type expected"
  let size ←sizeOf elem
  match (some a:Option Addr),(some b:Option Addr)with
  |some a,some b =>
   if la=0\/lb=0\/size=0 then pure (Value.bool false)
   else if a.block != b.block&&(←frozen a)&&(←frozen b)then unsupported .addressObserved
   else do
    if a.block != b.block then do
     noView a;noView b
     if ←mayBeOne a b then return Value.bool ((←choose (.extern "sameAddr.stringBytes" 2)) == 1)
    pure (Value.bool (a.block == b.block&&a.off<b.off+lb*size&&b.off<a.off+la*size))
  |_,_=>pure (Value.bool false)) w=_
 by_cases hc:la=0\/lb=0\/size=0
 .simp[run_underlying ht,hz,hc]
 .obtain⟨ka,hka⟩:∃k,cur.size=k+1:=⟨cur.size-1,by omega⟩;obtain⟨kb,hkb⟩:∃k,cur'.size=k+1:=⟨cur'.size-1,by omega⟩;rw[hka]at hsa;rw[hkb]at hsb hfb';cases hfa:w.frozen? a<;>cases hfe:w.frozen? {block:=a.block,off:=ka+1}<;>
   simp[run_underlying ht,hz,hc,hnb,hnb',frozen,noView,viewAt,mayBeOne,stringish,shape,Sem.run,hsa,hsb,hfb,hfb',hfa,hfe]
structure InsLaw (P:Program) (f:FuncId) (K bytes:Nat):Prop where
 pos:0<K
 enter:Program.enterable P f=true
 inR:∀(w:World) (blk o n c i vb vo vc:Nat) (cur:Array Value) (t:TypeId) (cs vs:List Value),i<=n->n+1<=c->c<=maxLen->cs.length=n*K->vs.length=K->w.heap[blk]?=some (.cells cur t (0,0))->(∀j,j<n*K->cur[o+j]?=cs[j]?) ->
  o+c*K<=cur.size->(∀j v,vs[j]?=some v->w.cell? ⟨vb,vo+j,none⟩=some v)->vb≠blk->(∀v∈cs,v.oneCell'=true)->(∀v∈vs,v.oneCell'=true) ->
  Calls P f #[.slice (some ⟨blk,o,none⟩) n c,.int .i64 i,.slice (some ⟨vb,vo,none⟩) 1 vc] w λe w'=>e=.returned (.slice (some ⟨blk,o,none⟩) (n+1) c)/\∃(q:Nat) (us:Array Value),w'=(w.drewN q).setRow blk us/\us.size=cur.size /\
   ∀j,j<(n+1)*K->us[o+j]?=(cs.take (i*K)++vs++cs.drop (i*K))[j]?
 newR:∀(w:World) (base:Option Addr) (n c i vb vo vc:Nat) (cs vs:List Value),i<=n->n<=c->c<n+1->n+1<=maxLen->(n+1)*bytes<=I0->cs.length=n*K->vs.length=K->(base=none->n=0) ->
  (∀a,base=some a->(0<n->a.spot=none)/\∀j v,cs[j]?=some v->w.cell? (a.add j)=some v)->(∀j v,vs[j]?=some v->w.cell? ⟨vb,vo+j,none⟩=some v)->(∀v∈cs,v.oneCell'=true)->(∀v∈vs,v.oneCell'=true) ->
  Calls P f #[.slice base n c,.int .i64 i,.slice (some ⟨vb,vo,none⟩) 1 vc] w λe w'=>∃(q G:Nat) (us:Array Value) (t:TypeId),e=.returned (.slice (some ⟨w.heap.size,0,none⟩) (n+1) G)/\w'=(w.drewN q).alloc (.cells us t)/\n+1<=G/\G<=maxLen/\G*K<=us.size /\
   ∀j,j<(n+1)*K->us[j]?=(cs.take (i*K)++vs++cs.drop (i*K))[j]?
theorem De (w:World) (q:Nat):Bl w.heap.size w (w.drewN q):=⟨⟨rfl,rfl,rfl,zf7z _,λ_ _=>rfl⟩,λ_=>Nat.le_add_right _ _⟩
theorem bC {cs vs:List Value} {xs:C6} {x:AV} {K n i:Nat} (hr:DR E cs xs K) (hl:cs.length=n*K) (Nj:xs.length=n) (hv:DR E vs [x] K) (hvl:vs.length=K) (hi:i<=n) :
  DR E (cs.take (i*K)++vs++cs.drop (i*K)) (xs.take i++x::xs.drop i) K:=by
 have h1:DR E (cs.take (i*K)) (xs.take i) K:=by
  intro j y hy;rw[zg9z]at hy;split at hy
  .rename_i hj;obtain⟨g1,g2⟩:=hr j y hy;refine⟨g1,λc z hz=>?_⟩;obtain⟨v,v1,v2⟩:=g2 c z hz;have hc:c<K:=by have:=(zf0z.1 hz).1;omega
   have:=s5 hj hc;exact⟨v,by rw[zg9z,if_pos (by omega)];exact v1,v2⟩
  .cases hy
 have h2:DR E (cs.drop (i*K)) (xs.drop i) K:=by
  intro j y hy;rw[zg3z]at hy;obtain⟨g1,g2⟩:=hr (i+j) y hy;refine⟨g1,λc z hz=>?_⟩;obtain⟨v,v1,v2⟩:=g2 c z hz;refine⟨v,?_,v2⟩;rw[zg3z,←zg8z,←zt6z];exact v1
 have hiK:i*K<=n*K:=zg6z _ hi;have h3:=GB (GB h1 (by rw[zf6z,zf6z,hl,Nj,zg0z hiK,zg0z hi]) hv) (by
  rw[zf2z,zf2z,zf6z,zf6z,hl,Nj,hvl,zg0z hiK,zg0z hi,zt6z];simp) h2
 rw[zf3z (xs.take i)]at h3;exact h3
theorem VS (hS:SR E) {k n:Nat} {f:Fam} {v:Value} (hv:VR E (.sl k n 0 n) v) (hf:E.h.fams[k]?=some f) (hn:f.xs.length=n) (h0:0<n):∃(cur:Array Value) (t:TypeId) (cs:List Value),v=.slice (some ⟨(E.im k).b,(E.im k).o,none⟩) n (E.im k).cap/\(E.im k).lo=0/\n<=(E.im k).cap/\(E.im k).cap<=maxLen /\
  E.w.heap[(E.im k).b]?=some (.cells cur t (0,0))/\(E.im k).o+(E.im k).cap*f.sz<=cur.size/\cs.length=n*f.sz/\(∀j,j<n*f.sz->cur[(E.im k).o+j]?=cs[j]?)/\(∀u∈cs,u.oneCell'=true)/\DR E cs f.xs f.sz:=by
 simp only[VR]at hv;obtain⟨a,cap,f',rfl,hf',⟨_,_⟩,hv⟩:=hv;rw[hf]at hf';cases hf';obtain⟨l1,_,l3,_,l5⟩:=hv hn;have hF:=hS.fams k f hf;have LG:(E.im k).lo=0:=by omega
 have U0:=hF.room;have hcap:cap=(E.im k).cap:=by omega
 have ha:a=some ⟨(E.im k).b,(E.im k).o,none⟩:=by
  have:=l5 (by omega);rw[LG]at this;simpa using this
 subst ha;obtain⟨cur,t,hcur,j8,Jp⟩:=hF.cells;rw[LG]at Jp;have hnK:n*f.sz<=(E.im k).cap*f.sz:=zg6z _ (by omega);refine⟨cur,t,(zt8z (n*f.sz)).map λj=>cur.getD ((E.im k).o+j) undef,by rw[hcap],LG,by omega,hF.cap,hcur,j8,by simp,λj hj=>?_,λu hu=>?_,λj x hx=>?_⟩
 .rw[zf4z,zf8z hj,zg1z,zf5z,Array.getElem?_eq_getElem (by omega)];rfl
 .rw[zt5z]at hu;obtain⟨j,hj,rfl⟩:=hu;rw[zt4z]at hj;obtain⟨q1,q2,q3⟩:=Xa hF.sz hj;obtain⟨g1,g2⟩:=Jp (j / f.sz) _ (zg2z _) (zf1z (by omega));obtain⟨u,u1,u2,_⟩:=g2 (j % f.sz) _ (zf1z (by omega));rw[zg5z,show (E.im k).o+j / f.sz*f.sz+j % f.sz=(E.im k).o+j from by omega]at u1;rw[zf5z,u1];exact u2
 .obtain⟨g1,g2⟩:=Jp j x (zg2z _) hx;refine⟨g1,λc y hy=>?_⟩;obtain⟨u,u1,u2,u3⟩:=g2 c y hy;rw[zg5z]at u1;have hj:j<n:=by have:=(zf0z.1 hx).1;omega
  have hc:c<f.sz:=by have:=(zf0z.1 hy).1;omega
  have A9:=s5 hj hc;refine⟨u,?_,u2,u3⟩;rw[zf4z,zf8z A9,zg1z,zf5z,show (E.im k).o+(j*f.sz+c)=(E.im k).o+j*f.sz+c from by omega,u1];rfl
theorem Qn (hS:SR E) {q:Bool} {z K:Nat} {x:AV} {v:Value} (hz:z=K) (hv:VR E (.vs q z [x]) v):∃(vb vo vc:Nat) (vs:List Value),v=.slice (some ⟨vb,vo,none⟩) 1 vc/\vs.length=K/\(∀j u,vs[j]?=some u->E.w.cell? ⟨vb,vo+j,none⟩=some u/\E.ok vb (vo+j))/\(∀u∈vs,u.oneCell'=true)/\DR E vs [x] K/\0<K:=by
 subst hz;simp only[VR,PV]at hv;obtain⟨a,len,cap,rfl,rfl,_,_,_,_,h6⟩:=hv;obtain⟨b,o,rfl,hz,he⟩:=h6 (by simp);obtain⟨p1,p2⟩:=Gz he (j:=0) (x:=x) rfl;rw[zt1z,zt0z]at p2;have hex:∀c,c<z->∃u y,x.cells[c]?=some y/\E.ok b (o+c)/\E.w.cell? ⟨b,o+c,none⟩=some u/\u.oneCell'=true/\PV E.w E.ok y u:=λc hc=>by
  have A9:c<x.cells.length:=by omega
  obtain⟨u,u1,u2,u3,u4⟩:=r9 p2 (zf1z A9);exact⟨u,_,zf1z A9,u1,u2,u3,u4⟩
 refine⟨b,o,cap,(zt8z z).map λc=>(E.w.cell? ⟨b,o+c,none⟩).getD undef,rfl,by simp,λj u hu=>?_,λu hu=>?_,λj y hy=>?_,hz⟩
 .rw[zf4z]at hu;by_cases hj:j<z
  .rw[zf8z hj,zg1z,Option.some.injEq]at hu;obtain⟨u',_,_,u1,u2,_⟩:=hex j hj;rw[u2]at hu ⊢;cases hu;exact⟨rfl,u1⟩
  .rw[List.getElem?_eq_none (by simpa using hj)]at hu;cases hu
 .rw[zt5z]at hu;obtain⟨j,hj,rfl⟩:=hu;rw[zt4z]at hj;obtain⟨u',_,_,u1,u2,u3,_⟩:=hex j hj;rw[u2];exact u3
 .have hj:j=0:=by
   have:=(zf0z.1 hy).1;simp at this;exact this
  subst hj;simp only[List.getElem?_cons_zero,Option.some.injEq]at hy;subst hy;refine⟨p1,λc y hy=>?_⟩;have hc:c<z:=by have:=(zf0z.1 hy).1;omega
  obtain⟨u,u1,u2,u3,u4⟩:=r9 p2 hy;refine⟨u,?_,u3,u4⟩;rw[zt1z,Nat.zero_add,zf4z,zf8z hc,zg1z,u2];rfl
theorem Yu {f:FuncId} {K bytes:Nat} (L:InsLaw P f K bytes) (O:Orc) (args:C6) (h:AH) (r:AV) (h':AH) (he:(jq K bytes).run O args h=some (r,h')):Program.enterable P f=true /\
  ∀(E:Env) (vs:Array Value),SR E->Cc E.w E.ok->E.h=h->W7 E args vs.toList ->
   Calls P f vs E.w λe w'=>∃u E',e=.returned u/\w'=E'.w/\Ext E E'/\SR E'/\E'.h=h'/\VR E' r u:=by
 refine⟨L.enter,λE avs hS _ hh hv=>?_⟩;subst hh;change Ob K bytes args E.h=some (r,h')at he;unfold Ob at he;split at he
 .rename_i s i q z x;split at he
  .rename_i hc0;obtain⟨hzK,hag⟩:=hc0;obtain⟨avs⟩:=avs;simp only[W7]at hv;obtain⟨v0,_,rfl,hv0,v1,_,rfl,hv1,v2,_,rfl,hv2,rfl⟩:=hv;simp only[VR]at hv1;subst hv1;obtain⟨vb,vo,vc,vs,rfl,hvl,hvc,hv1c,hvr,hK⟩:=Qn hS hzK hv2;have hvc1:∀j u,vs[j]?=some u->E.w.cell? ⟨vb,vo+j,none⟩=some u:=λj u hu=>(hvc j u hu).1;have hv0':∃u,vs[0]?=some u:=⟨_,zf1z (by omega)⟩;split at he
   .rename_i k n off len;split at he
    .rename_i f' hf;split at he
     .rename_i hc;obtain⟨c1,c2,c3,c4,c5,c6,c7,c8,c9,c10⟩:=hc;cases he;subst c2;have c3':=c3.symm;subst c3';obtain⟨cur,t,cs,rfl,LG,hncap,hcapm,hcur,j8,Hn,hcc,hc1,hrow⟩:=VS hS hv0 hf c1 c4;rw[c6]at j8 Hn hcc hrow;have hi0:(i.toNat:Int)=i:=Int.toNat_of_nonneg c7;have Ph:i.toNat<=n:=by omega
      have T6:vb≠(E.im k).b:=by
       obtain⟨u,hu⟩:=hv0';exact We hf c5 hS (hvc 0 u hu).2
      have hrow':∀{E':Env},Ext E E'->DR E' (cs.take (i.toNat*K)++vs++cs.drop (i.toNat*K)) (f'.xs.take i.toNat++x::f'.xs.drop i.toNat) K:=λhx=>Jc hx (bC hrow Hn c1 hvr hvl Ph);have C4:(f'.xs.take i.toNat++x::f'.xs.drop i.toNat).length=n+1:=by simp;omega
      rw[←hi0];by_cases U0:n+1<=(E.im k).cap
      .refine(L.inR E.w (E.im k).b (E.im k).o n (E.im k).cap i.toNat vb vo vc cur t cs vs Ph U0 hcapm Hn hvl hcur hcc j8 hvc1 T6 hc1 hv1c).mono λe w' ⟨h1,q,us,h2,h3,h4⟩=>?_;have x1:=AT hS (De E.w q);have s1:=Dq hS (De E.w q);have hcur1:({E with w:=E.w.drewN q}:Env).w.heap[(({E with w:=E.w.drewN q}:Env).im k).b]?=some (.cells cur t (0,0)):=hcur
       have Fn:f'.xs.length<=(f'.xs.take i.toNat++x::f'.xs.drop i.toNat).length:=by rw[C4];omega
       have x2:=Fg s1 (f':={f' with xs:=f'.xs.take i.toNat++x::f'.xs.drop i.toNat}) (us:=us) hf hcur1 rfl rfl Fn (λhw=>by rw[c5]at hw;cases hw)
       have s2:=Ii s1 (f':={f' with xs:=f'.xs.take i.toNat++x::f'.xs.drop i.toNat}) (us:=us) hf hcur1 rfl rfl Fn (λhw=>by rw[c5]at hw;cases hw)
        (by show (f'.xs.take i.toNat++x::f'.xs.drop i.toNat).length<=(E.im k).lo+(E.im k).cap;omega) h3 (by
         intro j y _ hy;show Kc _ _ ((E.im k).o+(j-(E.im k).lo)*f'.sz) f'.sz y;rw[LG,zg5z,c6];obtain⟨g1,g2⟩:=hrow' x1 j y hy;refine⟨g1,λc y' hy'=>?_⟩;obtain⟨v,v1,v2⟩:=g2 c y' hy';have hjn:j<n+1:=by have:=(zf0z.1 hy).1;rw[←C4];exact this
         have hcK:c<K:=by have:=(zf0z.1 hy').1;omega
         exact⟨v,by rw[zg8z,h4 _ (s5 hjn hcK)];exact v1,v2⟩)
       refine⟨_,({E with w:=E.w.drewN q}:Env).setFam k us {f' with xs:=f'.xs.take i.toNat++x::f'.xs.drop i.toNat},h1,h2,x1.trans x2,s2,rfl,?_⟩
       have Bz:=(zf0z.1 hf).1;simp only[VR,Env.setFam];exact⟨_,_,{f' with xs:=f'.xs.take i.toNat++x::f'.xs.drop i.toNat},rfl,by simp[Bz],⟨by rw[C4];exact zf7z _,λ_=>⟨_,_,rfl⟩⟩,λ_=>⟨by omega,by omega,by omega,(λh=>nomatch h),λ_=>by simp[LG]⟩⟩
      .refine(L.newR E.w (some ⟨(E.im k).b,(E.im k).o,none⟩) n (E.im k).cap i.toNat vb vo vc cs vs Ph hncap (by omega) c10 c9 Hn hvl (λh=>nomatch h) (λa ha=>?_) hvc1 hc1 hv1c).mono λe w' ⟨q,G,us,te,h1,h2,h3,h4,h5,h6⟩=>?_
       .cases ha;refine⟨λ_=>rfl,λj v hj=>?_⟩;have hjn:j<n*K:=by have:=(zf0z.1 hj).1;omega
        rw[AP,cell_of_row _ _ _ _ _ _ hcur,hcc j hjn];exact hj
       have x1:=AT hS (De E.w q);have s1:=Dq hS (De E.w q);have A9:f'.xs.length<(f'.xs.take i.toNat++x::f'.xs.drop i.toNat).length:=by rw[C4];omega
       have x2:=Jr s1 (f':={f' with xs:=f'.xs.take i.toNat++x::f'.xs.drop i.toNat}) hf us te 0 G rfl A9
       have s2:=Oh s1 (f':={f' with xs:=f'.xs.take i.toNat++x::f'.xs.drop i.toNat}) (us:=us) (t:=te) (lo:=0) (cap:=G) hf rfl A9 (zg2z _) (by show (f'.xs.take i.toNat++x::f'.xs.drop i.toNat).length<=0+G;omega) h4 (by rw[c6];exact h5) (by
         intro j y _ hy;rw[zg5z,c6];obtain⟨g1,g2⟩:=hrow' x1 j y hy;refine⟨g1,λc y' hy'=>?_⟩;obtain⟨v,v1,v2⟩:=g2 c y' hy';have hjn:j<n+1:=by have:=(zf0z.1 hy).1;rw[←C4];exact this
         have hcK:c<K:=by have:=(zf0z.1 hy').1;omega
         exact⟨v,by rw[h6 _ (s5 hjn hcK)];exact v1,v2⟩)
       refine⟨_,({E with w:=E.w.drewN q}:Env).moveFam k us te 0 G {f' with xs:=f'.xs.take i.toNat++x::f'.xs.drop i.toNat},h1,h2,x1.trans x2,s2,rfl,?_⟩
       have Bz:=(zf0z.1 hf).1;simp only[VR,Env.moveFam,P7];exact⟨_,_,{f' with xs:=f'.xs.take i.toNat++x::f'.xs.drop i.toNat},rfl,by simp[Bz],⟨by rw[C4];exact zf7z _,λ_=>⟨_,_,rfl⟩⟩,λ_=>⟨zf7z _,by omega,by omega,(λh=>nomatch h),λ_=>by simp⟩⟩
     .cases he
    .cases he
   .rename_i z';split at he
    .rename_i hc;obtain⟨rfl,hb⟩:=hc;cases he;simp only[VR,PV]at hv0;obtain⟨base,len,cap,rfl,rfl,_,_,h4',_,_⟩:=hv0;have hcap:cap=0:=h4' trivial;subst hcap;refine(L.newR E.w base 0 0 0 vb vo vc [] vs (zf7z _) (zf7z _) (by omega) (by unfold maxLen;omega) (by omega) (by simp) hvl (λ_=>rfl) (λa ha=>?_) hvc1 (λ_ h=>nomatch h) hv1c).mono λe w' ⟨q,G,us,te,h1,h2,h3,h4,h5,h6⟩=>?_
     .exact⟨λh=>absurd h (Nat.lt_irrefl 0),λj v hj=>by simp at hj⟩
     have x1:=AT hS (De E.w q);have s1:=Dq hS (De E.w q);refine⟨_,({E with w:=E.w.drewN q}:Env).newFam us te G ⟨[x],K,true⟩,h1,h2,x1.trans (Fd s1 _ _ _ _),Ic s1 hK (by simpa using h3) h4 h5 (λj y hy=>?_),rfl,?_⟩
     .obtain⟨g1,g2⟩:=Jc x1 hvr j y hy;refine⟨g1,λc y' hy'=>?_⟩;obtain⟨v,v1,v2⟩:=g2 c y' hy';have hjn:j<0+1:=by have:=(zf0z.1 hy).1;simpa using this
      have hcK:c<K:=by have:=(zf0z.1 hy').1;omega
      exact⟨v,by rw[h6 _ (s5 hjn hcK)];simpa using v1,v2⟩
     .simp only[VR,Env.newFam,P7];exact⟨_,_,⟨[x],K,true⟩,rfl,by simp,⟨by simp,λ_=>⟨_,_,rfl⟩⟩,λ_=>⟨zg2z _,by simp,by simp,(λh=>nomatch h),λ_=>by simp⟩⟩
    .cases he
   .cases he
  .cases he
 .cases he
end
end Go.Abs
set_option linter.unusedVariables false
set_option linter.unusedSimpArgs false
namespace Go.Proofs
open Go.RowKit Go.Lib Go.Abs
theorem Tryz.setUnd:Tryz.prog.underlying 302=some (.slice 41):=by kernel_rfl
theorem Tryz.termsUnd:Tryz.prog.underlying 39=some (.slice 41):=by kernel_rfl
theorem Tryz.intUnd:Tryz.prog.underlying 3=some (.int .i64):=by kernel_rfl
set_option maxHeartbeats 4000000 in
set_option maxRecDepth 100000 in
theorem Tryz.ins_end_room (blk o n c vb vo vc:Nat) (cur:Array Value) (t:TypeId) (vs:List Value) (w:World) (U0:n+1<=c) (hm:c<=maxLen) (hvl:vs.length=4) (hcur:w.heap[blk]?=some (.cells cur t (0,0))) (j8:o+c*4<=cur.size)
  (HI:∀j v,vs[j]?=some v->w.cell? ⟨vb,vo+j,none⟩=some v) (h1v:∀v∈vs,v.oneCell'=true) (us:Array Value) (LH:us=(cur.toList.take (o+n*4)++vs++cur.toList.drop (o+n*4+vs.length)).toArray) :
  Calls Tryz.prog 345 #[.slice (some ⟨blk,o,none⟩) n c,.int .i64 n,.slice (some ⟨vb,vo,none⟩) 1 vc] w λe w'=>e=.returned (.slice (some ⟨blk,o,none⟩) (n+1) c)/\w'=w.setRow blk us:=by
 obtain⟨i0,hi0,L4⟩:∃i0,Tryz.prog.info? 41=some i0/\i0.size=4:=⟨_,rfl,by kernel_rfl⟩;have hrun:∀ty,(Builtin.append_ #[302,39] ty #[.slice (some ⟨blk,o,none⟩) n c,.slice (some ⟨vb,vo,none⟩) 1 vc]).run Tryz.prog w=_:=λty =>
  PP 302 39 ty 41 41 i0 Tryz.setUnd Tryz.termsUnd hi0 blk o n c cur t w hcur ⟨vb,vo,none⟩ 1 vc vs (by rw[L4,hvl]) (λj v hj=>by rw[Addr.add_lit];exact HI j v hj) h1v U0 (by rw[L4,hvl];omega)
 rw[L4,←LH]at hrun;have oD:maxLen<=9223372036854775807:=by unfold maxLen;omega
 clear LH
 go_enter Tryz.func345,Tryz.ntmps345
 go_wp2_with (at_builtin;refine Lib.wpList_append_run _ rfl _ _ _ _ rfl _ _ rfl rfl _ _ (hrun _) ?_)
 go_ret
 exact⟨rfl,rfl⟩
set_option maxHeartbeats 4000000 in
set_option maxRecDepth 100000 in
theorem Tryz.ins_end_grow (base:Option Addr) (n c vb vo vc:Nat) (cs vs:List Value) (w:World) (i0:TypeInfo) (z:Value) (hi0:Tryz.prog.info? 41=some i0) (hz0:i0.zero=some z) (L4:i0.size=4) (hnc:n<=c) (U0:c<n+1) (hm:n+1<=maxLen) (hbig:(n+1)*i0.bytes<=140737488355328)
  (Hn:cs.length=n*4) (hvl:vs.length=4) (hnil:base=none->n=0) (w8:∀a,base=some a->∀j v,cs[j]?=some v->w.cell? (a.add j)=some v) (HI:∀j v,vs[j]?=some v->w.cell? ⟨vb,vo+j,none⟩=some v) (h1v:∀v∈vs,v.oneCell'=true) :
  Calls Tryz.prog 345 #[.slice base n c,.int .i64 n,.slice (some ⟨vb,vo,none⟩) 1 vc] w λe w'=>e=.returned (.slice (some ⟨w.heap.size,0,none⟩) (n+1) (grownCap w (n+1) c 41)) /\
   w'=w.drew.alloc (.cells ((cs++vs).toArray++Builtin.zeroCells z.cells (grownCap w (n+1) c 41-(n+1))) 41):=by
 have oD:maxLen<=9223372036854775807:=by unfold maxLen;omega
 have hsrc:Src Tryz.prog i0.size 39 (.slice (some ⟨vb,vo,none⟩) 1 vc) 1 vs w:=Src.ofSlice w Tryz.termsUnd ⟨vb,vo,none⟩ 1 vc vs (by rw[L4,hvl]) (λj u hj=>by rw[Addr.add_lit];exact HI j u hj) h1v;have hold:(Builtin.firstCells i0.size n (.slice base n c)).run Tryz.prog w.drew=.ok cs.toArray w.drew:=by
  rw[L4];cases base with
  |none =>
   have h0:=hnil rfl;subst h0;have hc0:cs=[]:=List.length_eq_zero_iff.1 (by simpa using Hn);rw[hc0];exact run_firstCells_none w.drew 4 0 0 c
  |some a=>exact run_firstCells_some w.drew 4 n a n c cs Hn (λj v hj=>w8 a rfl j v hj)
 have hrun:∀ty,(Builtin.append_ #[302,39] ty #[.slice base n c,.slice (some ⟨vb,vo,none⟩) 1 vc]).run Tryz.prog w=_:=λty =>
  run_append_grow_src w 302 39 ty 41 i0 z Tryz.setUnd hi0 hz0 base n c cs hold _ 1 vs hsrc U0 (by omega) (growslice_fits U0 hbig)
 generalize hG:grownCap w (n+1) c 41=G at *
 generalize hR:(cs++vs).toArray++Builtin.zeroCells z.cells (G-(n+1))=R at *
 clear hR hold hsrc hG
 go_enter Tryz.func345,Tryz.ntmps345
 cases base with
 |none =>
  have h0:=hnil rfl;subst h0
  go_wp2_with (at_builtin;refine Lib.wpList_append_run _ rfl _ _ _ _ rfl _ _ rfl rfl _ _ (hrun _) ?_)
  go_ret
  exact⟨rfl,rfl⟩
 |some a =>
  obtain⟨ab,ao,asp⟩:=a
  go_wp2_with (at_builtin;refine Lib.wpList_append_run _ rfl _ _ _ _ rfl _ _ rfl rfl _ _ (hrun _) ?_)
  all_goals (go_ret;exact⟨rfl,rfl⟩)
set_option maxHeartbeats 4000000 in
set_option maxRecDepth 100000 in
theorem Tryz.ins_shift (blk o n c i vb vo vc:Nat) (cur us1 us2:Array Value) (t:TypeId) (cs vs:List Value) (w:World) (hi:i<n) (U0:n+1<=c) (hm:c<=maxLen) (Hn:cs.length=n*4) (hvl:vs.length=4) (T6:vb≠blk)
  (hcur:w.heap[blk]?=some (.cells cur t (0,0))) (j8:o+c*4<=cur.size) (hcc:∀j,j<n*4->cur[o+j]?=cs[j]?) (HI:∀j v,vs[j]?=some v->w.cell? ⟨vb,vo+j,none⟩=some v) (h1c:∀v∈cs,v.oneCell'=true) (h1v:∀v∈vs,v.oneCell'=true)
  (hu1:us1=(cur.toList.take (o+(i+1)*4)++cs.drop (i*4)++cur.toList.drop (o+(i+1)*4+(cs.drop (i*4)).length)).toArray) (hu2:us2=(us1.toList.take (o+i*4)++vs++us1.toList.drop (o+i*4+vs.length)).toArray) :
  Calls Tryz.prog 345 #[.slice (some ⟨blk,o,none⟩) n c,.int .i64 i,.slice (some ⟨vb,vo,none⟩) 1 vc] w λe w'=>e=.returned (.slice (some ⟨blk,o,none⟩) (n+1) c)/\w'=(w.drew.setRow blk us1).setRow blk us2:=by
 have oD:maxLen<=9223372036854775807:=by unfold maxLen;omega
 have hz2:¬((i:Int)=(n:Int)):=by omega
 have L4:(Tryz.prog.info? 41).map (·.size)=some 4:=by kernel_rfl
 have zz:∀w,(Go.sizeOf 41).run Tryz.prog w=.ok 4 w:=λw=>by
  cases hq:Tryz.prog.info? 41 with
  |none=>simp[hq]at L4
  |some i=>simp[hq]at L4;simp[Go.sizeOf,typeInfo,hq,L4]
 have hcs0:0<cur.size:=by omega
 have hv0:w.cell? ⟨vb,vo+0,none⟩=some vs[0]:=HI 0 _ (zf1z (by omega));obtain⟨curv,tv,frv,hcv,hcv0⟩:∃curv tv frv,w.heap[vb]?=some (.cells curv tv frv)/\0<curv.size:=by
  unfold World.cell? at hv0;split at hv0
  .rename_i a b c' h;refine⟨a,b,c',h,?_⟩;simp only[Option.isSome_none,Bool.false_eq_true,if_false]at hv0;have:=(Array.getElem?_eq_some_iff.1 hv0).1;omega
  .cases hv0
 have hov:∀x lb cb,(callFunc 375 #[.slice (some ⟨vb,vo,none⟩) 1 vc,.slice (some ⟨blk,x,none⟩) lb cb]).run Tryz.prog w=.ok (.value (.bool false)) w:=λx lb cb=>by
  rw[run_callFunc_extern Tryz.func375 (by kernel_rfl) (by kernel_rfl) (by kernel_rfl) (e:=Extern.SlicesOverlaps.overlaps #[39,39] #[4]) (by kernel_rfl),
   MZ w 39 39 4 41 Tryz.termsUnd 4 zz ⟨vb,vo,none⟩ ⟨blk,x,none⟩ 1 vc lb cb T6 curv cur tv t frv hcv hcv0 hcur hcs0]
  rfl
 have Gr:(cs.drop (i*4)).length=(n-i)*4:=by rw[List.length_drop,Hn,Nat.sub_mul]
 have hcur':w.drew.heap[blk]?=some (.cells cur t (0,0)):=hcur;have hcp1:∀ty dc sc,(Builtin.copy_ #[302,302] ty #[.slice (some ⟨blk,o+(i+1)*4,none⟩) (n-i) dc,.slice (some ⟨blk,o+i*4,none⟩) (n+1-i) sc]).run Tryz.prog w.drew=.ok (goInt (n-i:Nat)) (w.drew.setRow blk us1):=λty dc sc=>by
  rw[hu1];exact JK w.drew _ _ ty 41 4 blk (o+(i+1)*4) (n-i) dc ⟨blk,o+i*4,none⟩ (n+1-i) sc (n-i) cur t (cs.drop (i*4)) Tryz.setUnd L4 hcur' (by simp only[zt7z];split<;>omega) Gr
   (λj v hj=>by
    rw[Addr.add_lit,cell_of_row _ _ _ _ _ _ hcur'];rw[zg3z]at hj;have hjn:i*4+j<n*4:=by have:=(zf0z.1 hj).1;omega
    rw[zg8z,hcc _ hjn];exact hj) (by rw[Gr];omega) (λv hv=>h1c v (List.mem_of_mem_drop hv))
 have hs1:us1.size=cur.size:=by rw[hu1];simp;omega
 have hW1:(w.drew.setRow blk us1).heap[blk]?=some (.cells us1 t (0,0)):=setRow_heap _ _ _ _ _ _ hcur';have hcp2:∀ty dc,(Builtin.copy_ #[302,39] ty #[.slice (some ⟨blk,o+i*4,none⟩) (n+1-i) dc,.slice (some ⟨vb,vo,none⟩) 1 vc]).run Tryz.prog (w.drew.setRow blk us1)=.ok (goInt (1:Nat)) ((w.drew.setRow blk us1).setRow blk us2):=λty dc=>by
  rw[hu2];exact JK (w.drew.setRow blk us1) _ _ ty 41 4 blk (o+i*4) (n+1-i) dc ⟨vb,vo,none⟩ 1 vc 1 us1 t vs Tryz.setUnd L4 hW1 (by simp only[zt7z];split<;>omega) (by rw[hvl])
   (λj v hj=>by
    rw[Addr.add_lit,World.cell?_of_block (a:=⟨vb,vo+j,none⟩) (setRow_other _ _ _ _ T6)];exact HI j v hj) (by rw[hvl,hs1];omega) h1v
 have mixed:Tryz.prog.follows Departure.mixedOrders=true:=by kernel_rfl
 have hw1:IntKind.i64.wrap ((i:Int)+1)=(i:Int)+1:=by rw[IntKind.wrap_i64];omega
 have hw2:IntKind.i64.wrap ((n:Int)+1)=(n:Int)+1:=by rw[IntKind.wrap_i64];omega
 have hb1:(0:Int)<=(i:Int)+1:=by omega
 have Ph:i<=n:=by omega
 have htn:((i:Int)+1).toNat=i+1:=by omega
 have htn2:((n:Int)+1).toNat=n+1:=by omega
 have hb2:¬(c=i+1):=by omega
 have hb3:(i:Int)<=(n:Int)+1:=by omega
 have hb4:¬(c=i):=by omega
 clear hu1 hu2 hv0 hcc h1c h1v HI hcv hW1 Gr
 go_enter Tryz.func345,Tryz.ntmps345
 go_wp2_with (simp only[hov])
 go_region_law_o (refine step_copy_runI rfl _ _ 302 302 rfl _ _ (by simp[Act.eval,Act.put]) (by simp[Act.eval,Act.put]) (hcp1 _ _ _) ?_)
 go_wp2_with (at_builtin;refine wpList_copy_runI _ rfl _ _ 302 39 rfl _ _ rfl rfl (hcp2 _ _) ?_)
 go_ret
 exact⟨rfl,rfl⟩
end Go.Proofs
