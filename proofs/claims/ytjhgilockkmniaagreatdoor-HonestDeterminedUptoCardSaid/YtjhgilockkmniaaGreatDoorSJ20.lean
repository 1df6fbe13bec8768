/- A part of the proof. -/
import Derived.Test.YtjhgilockkmniaaGreatDoorSJ19
set_option linter.all false
open List renaming length_set->zf0z,getElem?_eq_getElem->zf1z,drop_eq_getElem_cons->zf3z,drop_eq_nil_of_le->zf4z,mem_append->zf9z,length->zg0z
open Option renaming bind_some->zf2z
open Nat renaming le_refl->zf5z
open Bool renaming and_false->zf6z,false_and->zf7z,or_eq_true->zf8z
namespace Go.Abs.Q
open Go.Proofs
attribute [local simp] C8 D5 fin H6 G0
def EY (sz:Nat) (L5:List AV) (v:AV) (h:AH):Prop:=(L5=[]/\v=.vs true 0 [])\/(L5≠[]/\∃k,v=.sl k L5.length 0 L5.length/\h.fams[k]?=some ⟨L5,sz,false⟩)
theorem Fk (sz:Nat) (h:AH):EY sz [] (.vs true 0 []) h:=.inl ⟨rfl,rfl⟩
theorem Cd {sz:Nat} {L5:C6} {v:AV} {h h':AH} (hg:EY sz L5 v h) (e:h'.fams=h.fams):EY sz L5 v h':=by
 rcases hg with hg|⟨h1,k,h2,h3⟩
 .exact .inl hg
 .exact .inr ⟨h1,k,h2,by rw[e];exact h3⟩
theorem Nb {c:Ctx} {sz bytes:Nat} {L5 ys:C6} {v x:AV} {h:AH} (hg:EY sz L5 v h) (hm:c.mutApp=false) (hx:elems h sz x=some ys)
  (hb:(L5.length+ys.length)*bytes<=I0/\L5.length+ys.length<=maxLen):∃v' h',N7 c h sz bytes v x=some (v',h')/\EY sz (L5++ys) v' h'/\h'.boxes=h.boxes:=by
 rcases hg with ⟨rfl,rfl⟩|⟨T6,k,rfl,hk⟩
 .rw[LO,hx,zf2z];by_cases hy:ys.length=0
  .rw[if_pos hy];have:ys=[]:=List.eq_nil_of_length_eq_zero hy;subst this;exact⟨_,_,rfl,.inl ⟨rfl,rfl⟩,rfl⟩
  .rw[if_neg hy,if_pos (by simpa using hb),hm];refine⟨_,_,rfl,.inr ⟨λe=>hy (by simpa using congrArg zg0z e),_,rfl,?_⟩,rfl⟩;simp
 .rw[Jd,hx,zf2z,hk,zf2z];rw[if_pos ⟨rfl,rfl,by omega,hb⟩];have Bz:k<h.fams.length:=by
   rw[List.getElem?_eq_some_iff]at hk;exact hk.1
  refine⟨_,_,rfl,.inr ⟨by simp[T6],k,by simp,?_⟩,rfl⟩;simp[Bz]
theorem Eb {c:Ctx} {sz bytes:Nat} {L5:C6} {v x:AV} {h:AH} (hg:EY sz L5 v h) (hm:c.mutApp=false) (m:U8)
  (hb:(L5.length+1)*bytes<=140737488355328) (hb':L5.length<=1099511627776):∃v' h',N7 c h sz bytes v (sl m sz [x])=some (v',h')/\EY sz (L5++[x]) v' h'/\h'.boxes=h.boxes :=
 Nb hg hm (Ad h m sz [x]) (by simp only[I0,maxLen,List.length_singleton];omega)
theorem Nc {sz:Nat} {L5:C6} {v:AV} {h:AH} (hg:EY sz L5 v h):∃m,frz h true v=some (sl m sz L5):=by
 rcases hg with ⟨rfl,rfl⟩|⟨T6,k,rfl,hk⟩
 .exact⟨(true,false),by rw[Rj];exact congrArg some (EC _ rfl _ _)⟩
 .refine⟨(false,true),?_⟩;rw[Jo,EM,hk,zf2z,if_pos ⟨rfl,by omega,rfl⟩];simp
theorem Nu {sz:Nat} {L5:C6} {v:AV} {h:AH} (hg:EY sz L5 v h):∃m,Cg h v=some (sl m sz L5):=by
 rcases hg with ⟨rfl,rfl⟩|⟨T6,k,rfl,hk⟩
 .exact⟨(true,false),by rw[KD sz];rfl⟩
 .refine⟨(false,true),?_⟩;rw[show Cg h (.sl k L5.length 0 L5.length)=AS h true (.sl k L5.length 0 L5.length) from rfl];rw[EM,hk,zf2z,if_pos ⟨rfl,by omega,rfl⟩];simp
theorem YP {sz:Nat} {L5:C6} {v:AV} {h:AH} (hg:EY sz L5 v h):elems h sz v=some L5:=by
 rcases hg with ⟨rfl,rfl⟩|⟨T6,k,rfl,hk⟩
 .simp[elems]
 .simp[elems,hk]
theorem TJ:∀{L5:C6},(∀x∈L5,∃n,x=.int .u8 n)->∃ns,HD L5=some ns
 | [],_=>⟨[],rfl⟩
 |x::L5,h=>by
  obtain⟨n,rfl⟩:=h _ List.mem_cons_self;obtain⟨ns,hn⟩:=TJ λy hy=>h y (List.mem_cons_of_mem _ hy);exact⟨n::ns,by simp[HD,hn]⟩
theorem Ry (s f:R7) (hs:0<s.size) (hf:f.size=8) (fr:Fr) (h:AH) (hl:fr.length=68) (h0:A2 fr 0=.str s) (h4:A2 fr 4=.str f) (h5:A2 fr 5=.int .i64 0) :
  C3 (lp (A4 (N5 Q) (B9 BO) o9) (fr,h)) λe fr' h'=>Kp o9.wr fr fr'/\(e=.exit 0\/e=.ret/\(∃c,A2 fr' 2=.int .u8 c)/\A2 fr' 3=.int .i64 1):=by
 refine C1 rfl fr (λn fr h=>∃i:Nat,i+n=8/\i % 2=0/\A2 fr 5=.int .i64 (i:Nat)) ?_ 8 h ⟨0,by omega,rfl,h5⟩;rintro J Φ hJ hΦ n E4 X7 K ⟨i,hi,hm,k5⟩;have A6:=K.1.trans hl;have k0:=B8 K 0 h0;have k4:=B8 K 4 h4;by_cases A9:i<8
 .have hw:=Sr i (by omega);have hw2:IntKind.i64.wrap ((i:Int)+2)=((i+2:Nat):Int):=R0 (by omega) (by omega);have i1:i<f.size:=by omega
  have i2:i+1<f.size:=by omega
  have i2':i+1<8:=by omega
  have p1:(0:Int)<=(i:Int)+1:=by omega
  have U2:(i:Int)<8:=by omega
  by_cases hc:((s[0]'hs).toNat:Int)=((f[i]'i1).toNat:Int)
  .have e2:f[i+1]?=some (f[i+1]'i2):=getElem?_pos f (i+1) i2;simp[o9,A6,k0,k4,k5,A9,U2,hw,hf,hs,i1,A7 hc,i2,i2',p1];exact hΦ _ _ _ (.inr ⟨rfl,⟨_,by simp[A6];rfl⟩,by simp[A6]⟩)
  .simp[o9,A6,k0,k4,k5,A9,U2,hw2,hf,hs,i1,A0 hc];exact⟨n-2,by omega,hJ _ _ _ ⟨i+2,by omega,by omega,by simp[A6]⟩⟩
 .have U2:¬(i:Int)<8:=by omega
  simp[o9,A6,k4,k5,A9,U2,hf];exact hΦ _ _ _ (.inl rfl)
theorem Rx (s f:R7) (hs:2<s.size) (hf:f.size=16) (fr:Fr) (h:AH) (hl:fr.length=68) (h0:A2 fr 0=.str s) (h6:A2 fr 6=.str f) (h9:A2 fr 9=.int .i64 0) (h7:A2 fr 7=.int .i64 (-1)) (h8:A2 fr 8=.int .i64 (-1)) :
  C3 (lp (A4 (N5 Q) (B9 BO) S2) (fr,h)) λe fr' h'=>Kp S2.wr fr fr'/\e=.exit 2/\(∃c,A2 fr' 7=.int .i64 c)/\(∃c,A2 fr' 8=.int .i64 c):=by
 refine C1 rfl fr (λn fr h=>∃i:Nat,i+n=16/\A2 fr 9=.int .i64 (i:Nat)/\(∃c,A2 fr 7=.int .i64 c)/\(∃c,A2 fr 8=.int .i64 c)) ?_ 16 h ⟨0,by omega,h9,⟨_,h7⟩,⟨_,h8⟩⟩;rintro J Φ hJ hΦ n E4 X7 K ⟨i,hi,k9,⟨c7,k7⟩,⟨c8,k8⟩⟩;have A6:=K.1.trans hl;have k0:=B8 K 0 h0;have k6:=B8 K 6 h6;by_cases A9:i<16
 .have hw:=Sr i (by omega);have i1:i<f.size:=by omega
  have s1:1<s.size:=by omega
  have U2:(i:Int)<16:=by omega
  by_cases hc:((s[1]'s1).toNat:Int)=((f[i]'i1).toNat:Int)
  .by_cases hd:((s[2]'hs).toNat:Int)=((f[i]'i1).toNat:Int)
   .simp[S2,A6,k0,k6,k9,k7,k8,A9,U2,hw,hf,hs,s1,i1,A7 hc,A7 hd];exact H0 hJ ⟨i+1,by omega,by simp[A6],⟨_,by simp[A6];rfl⟩,⟨_,by simp[A6];rfl⟩⟩
   .simp[S2,A6,k0,k6,k9,k7,k8,A9,U2,hw,hf,hs,s1,i1,A7 hc,A0 hd];exact H0 hJ ⟨i+1,by omega,by simp[A6],⟨_,by simp[A6];rfl⟩,⟨_,by simp[A6,k8];rfl⟩⟩
  .by_cases hd:((s[2]'hs).toNat:Int)=((f[i]'i1).toNat:Int)
   .simp[S2,A6,k0,k6,k9,k7,k8,A9,U2,hw,hf,hs,s1,i1,A0 hc,A7 hd];exact H0 hJ ⟨i+1,by omega,by simp[A6],⟨_,by simp[A6,k7];rfl⟩,⟨_,by simp[A6];rfl⟩⟩
   .simp[S2,A6,k0,k6,k9,k7,k8,A9,U2,hw,hf,hs,s1,i1,A0 hc,A0 hd];exact H0 hJ ⟨i+1,by omega,by simp[A6],⟨_,by simp[A6,k7];rfl⟩,⟨_,by simp[A6,k8];rfl⟩⟩
 .have U2:¬(i:Int)<16:=by omega
  simp[S2,A6,k6,k9,A9,U2,hf];exact hΦ _ _ _ ⟨rfl,⟨_,by simp[A6,k7];rfl⟩,⟨_,by simp[A6,k8];rfl⟩⟩
theorem Zg (s:R7):∃r,pc Q BO [.str s]=some r/\∃(c:Int) (n:Nat),r=.tup [.int .u8 c,.int .i64 n]/\(n=0\/(1<=n/\n<=s.size)):=by
 refine Ka FE λΨ hΨ fr hl h0=>?_;simp[FE]at hl h0;by_cases hs:s.size=0
 .simp[FE,hl,h0,hs];exact hΨ _ ⟨0,0,rfl,.inl rfl⟩
 have hs':¬(s.size:Int)=0:=by omega
 have hs1:0<s.size:=by omega
 simp[FE,hl,h0,hs];refine(Ry s (bs [110,10,116,9,34,34,92,92]) hs1 rfl _ _ (by simp[hl]) (by simp[hl,h0]) (by simp[hl]) (by simp[hl])).mono ?_;rintro e E4 h1 ⟨K,rfl|⟨rfl,⟨c,k2⟩,k3⟩⟩
 .have A6:E4.length=68:=K.1.trans (by simp[hl]);have k0:A2 E4 0=.str s:=B8 K 0 (by simp[hl,h0]);clear K;by_cases hx:((s[0]'hs1).toNat:Int)=120
  .by_cases h3:(s.size:Int)<3
   .simp[A6,k0,hs1,A7 hx,A7 h3];exact hΨ _ ⟨0,0,rfl,.inl rfl⟩
   .simp[A6,k0,hs1,A7 hx,A0 h3];refine(Rx s (bs [48,49,50,51,52,53,54,55,56,57,97,98,99,100,101,102]) (by omega) rfl _ _ (by simp[A6]) (by simp[A6,k0]) (by simp[A6]) (by simp[A6]) (by simp[A6]) (by simp[A6])).mono ?_;rintro e T9 h2 ⟨K,rfl,⟨c7,k7⟩,⟨c8,k8⟩⟩;have FN:T9.length=68:=K.1.trans (by simp[A6]);clear K;by_cases g7:c7<0
    .simp[FN,k7,k8,A7 g7];exact hΨ _ ⟨0,0,rfl,.inl rfl⟩
    .by_cases g8:c8<0
     .simp[FN,k7,k8,A0 g7,A7 g8];exact hΨ _ ⟨0,0,rfl,.inl rfl⟩
     .simp[FN,k7,k8,A0 g7,A0 g8,E9];exact hΨ _ ⟨_,3,rfl,.inr (by omega)⟩
  .simp[A6,k0,hs1,A0 hx];exact hΨ _ ⟨0,0,rfl,.inl rfl⟩
 .simp[k2,k3];exact hΨ _ ⟨c,1,rfl,.inr (by omega)⟩
theorem Rz (s:R7) (hs:s.size<=1099511627776) (h1:1<=s.size) (fr:Fr) (h:AH) (hl:fr.length=62) (h0:A2 fr 0=.str s) (h4:A2 fr 4=.vs true 0 []) (h5:A2 fr 5=.int .i64 1) :
  C3 (lp (A4 (N5 Q) (B9 i5) K4) (fr,h)) λe fr' h'=>Kp K4.wr fr fr'/\(e=.exit 0\/e=.ret/\(∃v,A2 fr' 2=.str v)/\∃n:Nat,A2 fr' 3=.int .i64 n/\n<=s.size):=by
 refine C1 rfl fr (λn fr h=>∃(i:Nat) (L5:List AV),i+n=s.size+1/\1<=i/\L5.length<=i/\A2 fr 5=.int .i64 (i:Nat)/\EY 1 L5 (A2 fr 4) h/\∀x∈L5,∃n,x=.int .u8 n) ?_ s.size h ⟨1,[],by omega,by omega,by simp,h5,by rw[h4];exact Fk _ _,by simp⟩;rintro J Φ hJ hΦ n E4 X7 K ⟨i,L5,hi,hi1,hal,k5,hg,hb⟩;have A6:=K.1.trans hl;have k0:=B8 K 0 h0;by_cases A9:i<s.size
 .have hw:=Sr i (by omega);obtain⟨c,hc⟩:∃c,s[i]'A9=c:=⟨_,rfl⟩;by_cases h34:(c.toNat:Int)=34
  .obtain⟨ns,rL⟩:=TJ hb;have nv:LQ X7 (A2 E4 4)=some (.str (YI ns),X7):=by
    unfold LQ;rw[YP hg];simp[rL]
   simp[K4,A6,k0,k5,A9,hc,A7 h34,nv,hw];exact hΦ _ _ _ (.inr ⟨rfl,⟨_,by simp[A6];rfl⟩,i+1,by simp[A6],by omega⟩)
  .by_cases h92:(c.toNat:Int)=92
   .have Fn:(i:Int)+1<=(s.size:Int):=by omega
    have p1:(0:Int)<=(i:Int)+1:=by omega
    obtain⟨r,hE,ce,ne,rfl,T6⟩:=Zg (s.extract (i+1) s.size);rw[Cu _ (zf5z _)]at T6;rcases T6 with rfl|T6
    .simp[K4,A6,k0,k5,A9,hc,A0 h34,A7 h92,hw,F0,Fn,p1,hE];exact hΦ _ _ _ (.inr ⟨rfl,⟨_,by simp[A6];rfl⟩,0,by simp[A6],by omega⟩)
    .have hne0:¬ne=0:=by omega
     have hw2:IntKind.i64.wrap ((i:Int)+(ne:Int))=((i+ne:Nat):Int):=R0 (by omega) (by omega);have hw3:IntKind.i64.wrap ((i:Int)+(ne:Int)+1)=((i+ne+1:Nat):Int):=R0 (by omega) (by omega);obtain⟨v',h',ha,Ch,-⟩:=Eb (c:=B9 i5) (bytes:=1) (x:=.int .u8 ce) hg rfl (true,true) (by omega) (by omega);simp[K4,A6,k0,k5,A9,hc,A0 h34,A7 h92,hw,F0,Fn,p1,hE,hne0,B5,ha,hw2,hw3];refine⟨n-1-ne,by omega,hJ _ _ _ ⟨i+ne+1,L5++[.int .u8 ce],by omega,by omega,by simp;omega,by simp[A6],by simp[A6];exact Ch,?_⟩⟩;intro x hx;rcases zf9z.1 hx with hx|hx
     .exact hb x hx
     .exact⟨ce,by simpa using hx⟩
   .by_cases h32:(c.toNat:Int)<32
    .simp[K4,A6,k0,k5,A9,hc,A0 h34,A0 h92,A7 h32];exact hΦ _ _ _ (.inr ⟨rfl,⟨_,by simp[A6];rfl⟩,0,by simp[A6],by omega⟩)
    .by_cases h126:126<(c.toNat:Int)
     .simp[K4,A6,k0,k5,A9,hc,A0 h34,A0 h92,A0 h32,A7 h126];exact hΦ _ _ _ (.inr ⟨rfl,⟨_,by simp[A6];rfl⟩,0,by simp[A6],by omega⟩)
     .obtain⟨v',h',ha,Ch,-⟩:=Eb (c:=B9 i5) (bytes:=1) (x:=.int .u8 c.toNat) hg rfl (true,true) (by omega) (by omega);simp[K4,A6,k0,k5,A9,hc,A0 h34,A0 h92,A0 h32,A0 h126,B5,ha,hw];refine⟨n-1,by omega,hJ _ _ _ ⟨i+1,L5++[.int .u8 c.toNat],by omega,by omega,by simp;omega,by simp[A6],by simp[A6];exact Ch,?_⟩⟩;intro x hx;rcases zf9z.1 hx with hx|hx
      .exact hb x hx
      .exact⟨c.toNat,by simpa using hx⟩
 .simp[K4,A6,k0,k5,A9];exact hΦ _ _ _ (.inl rfl)
theorem Wl (s:R7) (hs:s.size<=1099511627776) (h1:1<=s.size):∃r,pc Q i5 [.str s]=some r/\∃(v:R7) (n:Nat),r=.tup [.str v,.int .i64 n]/\n<=s.size:=by
 refine Ka GU λΨ hΨ fr hl h0=>?_;simp[GU]at hl h0;simp[GU,hl];refine(Rz s hs h1 _ _ (by simp[hl]) (by simp[hl,h0]) (by simp[hl]) (by simp[hl])).mono ?_;rintro e E4 h1 ⟨K,rfl|⟨rfl,⟨c,k2⟩,n,k3,hn⟩⟩
 .have A6:E4.length=62:=K.1.trans (by simp[hl]);simp[A6];exact hΨ _ ⟨_,0,rfl,by omega⟩
 .simp[k2,k3];exact hΨ _ ⟨_,n,rfl,hn⟩
theorem WN (c:UInt8) (f:R7) (hf:I4 f=Pb) (fr:Fr) (h:AH) (hl:fr.length=56) (h0:A2 fr 0=.int .u8 c.toNat) (h3:A2 fr 3=.str f) (h4:A2 fr 4=.int .i64 0) :
  C3 (lp (A4 (N5 Q) (B9 Q4) AA) (fr,h)) λe fr' h'=>Kp AA.wr fr fr'/\(e=.exit 1/\c∉Pb\/e=.ret/\A2 fr' 2=.int .i64 4/\c∈Pb):=by
 have hfs:f.size=18:=by rw[←G9,hf];rfl
 refine C1 rfl fr (λn fr h=>∃i:Nat,i+n=18/\A2 fr 4=.int .i64 (i:Nat)/\(c∈Pb.drop i↔c∈Pb)) ?_ 18 h ⟨0,by omega,h4,Iff.rfl⟩;rintro J Φ hJ hΦ n E4 X7 K ⟨i,hi,k4,hr⟩;have A6:=K.1.trans hl;have k0:=B8 K 0 h0;have k3:=B8 K 3 h3;by_cases A9:i<18
 .have hw:=Sr i (by omega);have i1:i<f.size:=by omega
  have U2:(i:Int)<18:=by omega
  have hls:i<Pb.length:=A9;have hx:f[i]'i1=Pb[i]'hls:=by
   have:=CW f i;rw[getElem?_pos f i i1,hf,zf1z hls]at this;exact Option.some.inj this
  rw[zf3z hls,List.mem_cons]at hr;generalize Pb[i]'hls=d at *
  by_cases hc:(d.toNat:Int)=(c.toNat:Int)
  .have e:c=d:=UInt8.toNat_inj.1 (by omega);simp[AA,A6,k0,k3,k4,A9,U2,hfs,i1,hx,A7 hc];exact hΦ _ _ _ (.inr ⟨rfl,by simp[A6],hr.1 (.inl e)⟩)
  .have e:¬c=d:=λk=>hc (by rw[k]);simp[AA,A6,k0,k3,k4,A9,U2,hfs,i1,hx,A0 hc,hw];exact H0 hJ ⟨i+1,by omega,by simp[A6],⟨λk=>hr.1 (.inr k),λk=>(hr.2 k).resolve_left e⟩⟩
 .have U2:¬(i:Int)<18:=by omega
  rw[zf4z (by simp[Pb];omega)]at hr;simp[AA,A6,k3,k4,A9,U2,hfs];exact hΦ _ _ _ (.inl ⟨rfl,λk=>by simpa using hr.2 k⟩)
set_option maxHeartbeats 2000000 in
theorem Lj (c:UInt8):pc Q Q4 [.int .u8 c.toNat]=some (.int .i64 (Jf c)):=by
 refine Bu I3 λfr hl h0=>?_;simp[I3]at hl h0;generalize hv:Jf c=v;have hLc:=WN c;generalize hz:c.toNat=z at *
 by_cases w1:z=32
 .have:v=1:=by rw[←hv,Jf,hz,if_pos (by omega)]
  subst this;simp(disch:=first|omega|(simp only[zf0z];omega)) [I3,h0,hl,A7,A0]
 by_cases w2:z=9
 .have:v=1:=by rw[←hv,Jf,hz,if_pos (by omega)]
  subst this;simp(disch:=first|omega|(simp only[zf0z];omega)) [I3,h0,hl,A7,A0]
 by_cases w3:z=10
 .have:v=1:=by rw[←hv,Jf,hz,if_pos (by omega)]
  subst this;simp(disch:=first|omega|(simp only[zf0z];omega)) [I3,h0,hl,A7,A0]
 by_cases w4:z=13
 .have:v=1:=by rw[←hv,Jf,hz,if_pos (by omega)]
  subst this;simp(disch:=first|omega|(simp only[zf0z];omega)) [I3,h0,hl,A7,A0]
 have e1:v=if Df z=true then 2 else if Ga z=true then 3 else if z=34 then 5 else if c∈Pb then 4 else 0:=by rw[←hv,Jf,hz,if_neg (by omega)]
 clear hv;by_cases l1:97<=z/\z<=122
 .have:Df z=true:=by simp[Df,l1]
  rw[if_pos this]at e1;subst e1;simp(disch:=first|omega|(simp only[zf0z];omega)) [I3,h0,hl,A7,A0]
 by_cases l2:65<=z/\z<=90
 .have:Df z=true:=by simp[Df,l2]
  rw[if_pos this]at e1;subst e1;simp(disch:=first|omega|(simp only[zf0z];omega)) [I3,h0,hl,A7,A0]
 rw[if_neg (by simp[Df];omega)]at e1;by_cases d1:48<=z/\z<=57
 .have:Ga z=true:=by simp[Ga,d1]
  rw[if_pos this]at e1;subst e1;simp(disch:=first|omega|(simp only[zf0z];omega)) [I3,h0,hl,A7,A0]
 rw[if_neg (by simp[Ga];omega)]at e1;by_cases q1:z=34
 .rw[if_pos q1]at e1;subst e1;simp(disch:=first|omega|(simp only[zf0z];omega)) [I3,h0,hl,A7,A0]
 rw[if_neg q1]at e1;have key:C3 (A4 (N5 Q) (B9 Q4) I3.body (fr,⟨[],[]⟩)) (Vh I3.results (.int .i64 v)):=by
  have f1:decide ((z:Int)=32)=false:=A0 (by omega);have f2:decide ((z:Int)=9)=false:=A0 (by omega);have f3:decide ((z:Int)=10)=false:=A0 (by omega);have f4:decide ((z:Int)=13)=false:=A0 (by omega);have f5:decide ((z:Int)=34)=false:=A0 (by omega);have go:∀b1 b2 b3 b4 b5 b6:Bool,decide ((97:Int)<=(z:Int))=b1->decide ((z:Int)<=122)=b2->decide ((65:Int)<=(z:Int))=b3->decide ((z:Int)<=90)=b4->decide ((48:Int)<=(z:Int))=b5->decide ((z:Int)<=57)=b6 ->
    (b1&&b2)=false->(b3&&b4)=false->(b5&&b6)=false->C3 (A4 (N5 Q) (B9 Q4) I3.body (fr,⟨[],[]⟩)) (Vh I3.results (.int .i64 v)):=by
   clear w1 w2 w3 w4 l1 l2 d1 q1;intro b1 b2 b3 b4 b5 b6 g1 g2 g3 g4 g5 g6 a1 a2 a3;cases b1<;>cases b2<;>cases b3<;>cases b4<;>cases b5<;>cases b6<;>first|exact absurd a1 (by decide)|exact absurd a2 (by decide)|exact absurd a3 (by decide)|skip
   all_goals
    simp[I3,h0,hl,f1,f2,f3,f4,f5,g1,g2,g3,g4,g5,g6];refine C3.mono (hLc (bs [40,41,123,125,91,93,44,59,58,61,46,45,62,60,63,124,38,42]) rfl _ _ ?_ ?_ ?_ ?_) ?_<;>first|(simp[hl];done)|(simp[hl,h0];done)|skip
    rintro e E4 h1 ⟨K,⟨rfl,hm⟩|⟨rfl,k2,hm⟩⟩
    .have A6:E4.length=56:=K.1.trans (by simp[hl]);rw[if_neg hm]at e1;simp[A6,e1]
    .rw[if_pos hm]at e1;simp[k2,e1]
  refine go _ _ _ _ _ _ rfl rfl rfl rfl rfl rfl ?_ ?_ ?_
  .by_cases q:(97:Int)<=(z:Int)
   .rw[A0 (p:=(z:Int)<=122) (by omega),zf6z]
   .rw[A0 q,zf7z]
  .by_cases q:(65:Int)<=(z:Int)
   .rw[A0 (p:=(z:Int)<=90) (by omega),zf6z]
   .rw[A0 q,zf7z]
  .by_cases q:(48:Int)<=(z:Int)
   .rw[A0 (p:=(z:Int)<=57) (by omega),zf6z]
   .rw[A0 q,zf7z]
 exact key
theorem jT (c:UInt8):Jf c=2↔Df c.toNat=true:=by
 unfold Jf;by_cases w:c.toNat=32\/c.toNat=9\/c.toNat=10\/c.toNat=13
 .rw[if_pos w];have:Df c.toNat=false:=by rcases w with w|w|w|w<;>rw[w]<;>rfl
  simp[this]
 .rw[if_neg w];cases Df c.toNat with
  |true=>simp
  |false =>
   simp;split
   .omega
   .split
    .omega
    .split<;>omega
theorem jU (c:UInt8):Jf c=3↔Ga c.toNat=true:=by
 unfold Jf;by_cases w:c.toNat=32\/c.toNat=9\/c.toNat=10\/c.toNat=13
 .rw[if_pos w];have:Ga c.toNat=false:=by rcases w with w|w|w|w<;>rw[w]<;>rfl
  simp[this]
 .rw[if_neg w];cases hL:Df c.toNat with
  |true =>
   have:Ga c.toNat=false:=by
    simp only[Df,zf8z,decide_eq_true_eq]at hL;simp only[Ga];apply A0;omega
   simp[this]
  |false =>
   cases Ga c.toNat with
   |true=>simp
   |false =>
    simp;split
    .omega
    .split<;>omega
def NK:List UInt8->Nat
 | []=>0
 |c::r=>if Q8 c.toNat=true then NK r+1 else 0
theorem XL:∀l:List UInt8,NK l<=l.length
 | []=>zf5z _
 |c::r=>by
  have:=XL r;simp only[NK];split
  .simp;omega
  .simp
theorem Sq:∀{l:List UInt8},l.all (λc=>Q8 c.toNat)=true->NK l=l.length
 | [],_=>rfl
 |c::r,h=>by
  simp only[List.all_cons,Bool.and_eq_true]at h;simp[NK,h.1,Sq h.2]
theorem ZR (s:R7) (hs:s.size<=1099511627776) (fr:Fr) (h:AH) (hl:fr.length=39) (h0:A2 fr 0=.str s) (h3:A2 fr 3=.int .i64 0) :
  C3 (lp (A4 (N5 Q) (B9 En) T5) (fr,h)) λe fr' h'=>Kp T5.wr fr fr'/\e=.exit 0/\A2 fr' 3=.int .i64 (NK (I4 s):Nat):=by
 refine C1 rfl fr (λn fr h=>∃i:Nat,i+n=s.size/\A2 fr 3=.int .i64 (i:Nat)/\i+NK ((I4 s).drop i)=NK (I4 s)) ?_ s.size h ⟨0,by omega,h3,by simp⟩;rintro J Φ hJ hΦ n E4 X7 K ⟨i,hi,k3,hr⟩;have A6:=K.1.trans hl;have k0:=B8 K 0 h0;have C4:=G9 s;by_cases A9:i<s.size
 .have U2:i<(I4 s).length:=by omega
  have hx:s[i]?=some (I4 s)[i]:=by rw[CW,zf1z U2]
  have hw:=C9 i (by omega);rw[zf3z U2]at hr;generalize (I4 s)[i]=c at *
  have hC:=Lj c;have Cy:s[i]'A9=c:=by rw[getElem?_pos s i A9]at hx;exact Option.some.inj hx
  simp only[NK]at hr;have stop:¬Q8 c.toNat=true->i=NK (I4 s):=λhp=>by
   rw[if_neg hp]at hr;exact hr
  have fwd:Q8 c.toNat=true->i+1+NK ((I4 s).drop (i+1))=NK (I4 s):=λhp=>by
   rw[if_pos hp]at hr;omega
  clear hr;have g2:=jT c;have g3:=jU c;generalize hv:Jf c=v at *
  generalize hz:c.toNat=z at *
  by_cases v2:v=2
  .simp[T5,A6,k0,k3,A9,Cy,hz,hw,hC,A7 v2];exact H0 hJ ⟨i+1,by omega,by simp[A6],fwd (by simp[Q8,g2.1 v2])⟩
  .by_cases v3:v=3
   .simp[T5,A6,k0,k3,A9,Cy,hz,hw,hC,A0 v2,A7 v3];exact H0 hJ ⟨i+1,by omega,by simp[A6],fwd (by simp[Q8,g3.1 v3])⟩
   .by_cases h95:(z:Int)=95
    .simp[T5,A6,k0,k3,A9,Cy,hz,hw,hC,A0 v2,A0 v3,A7 h95];exact H0 hJ ⟨i+1,by omega,by simp[A6],fwd (by simp[Q8,show z=95 by omega])⟩
    .by_cases h35:(z:Int)=35
     .simp[T5,A6,k0,k3,A9,Cy,hz,hw,hC,A0 v2,A0 v3,A0 h95,A7 h35];exact H0 hJ ⟨i+1,by omega,by simp[A6],fwd (by simp[Q8,show z=35 by omega])⟩
     .have st:=stop (by
       intro k;simp only[Q8,zf8z,decide_eq_true_eq]at k;rcases k with ((k|k)|k)|k
       .exact v2 (g2.2 k)
       .exact v3 (g3.2 k)
       .omega
       .omega)
      simp[T5,A6,k0,k3,A9,Cy,hz,hw,hC,A0 v2,A0 v3,A0 h95,A0 h35];exact hΦ _ _ _ ⟨rfl,by rw[←st];simp[A6,k3]⟩
 .rw[zf4z (by omega)]at hr;have hr':i=NK (I4 s):=by simpa[NK]using hr
  simp[T5,A6,k0,k3,A9];exact hΦ _ _ _ ⟨rfl,by rw[←hr'];simp[A6,k3]⟩
theorem gQ (s:R7) (hs:s.size<=1099511627776):pc Q En [.str s]=some (.str (s.extract 0 (NK (I4 s)))):=by
 have Fn:=XL (I4 s);rw[G9]at Fn;refine Bu JP λfr hl h0=>?_;simp[JP]at hl h0;generalize hk:NK (I4 s)=k at *
 simp[JP,hl];refine(ZR s hs _ _ (by simp[hl]) (by simp[hl,h0]) (by simp[hl])).mono ?_;rintro e fr' h' ⟨K,rfl,he⟩;have hl':fr'.length=39:=K.1.trans (by simp[hl]);have k0:A2 fr' 0=.str s:=B8 K 0 (by simp[hl,h0]);have hle':(k:Int)<=(s.size:Int):=by omega
 rw[hk]at he;simp[hl',he,k0,F0,hle']
theorem XT (k:IntKind) (a b:Int):E9 .mul (.int k a) (.int k b)=some (.int k (k.wrap (a*b))):=by simp[E9]
theorem QJ (k:IntKind) (a:Int):E9 .quo (.int k a) (.int k 10)=some (.int k (k.wrap (a.tdiv 10))):=by simp[E9]
theorem UG (s:R7) (hs:s.size<=1099511627776) (hd:∃c r,I4 s=c::r/\Ga c.toNat=true) (fr:Fr) (h:AH) (hl:fr.length=39) (h0:A2 fr 0=.str s) (h5:A2 fr 5=.int .i64 0) (h6:A2 fr 6=.int .i64 0) :
  C3 (lp (A4 (N5 Q) (B9 Cp) W0) (fr,h)) λe fr' h'=>Kp W0.wr fr fr'/\(e=.exit 0/\(∃n:Nat,A2 fr' 5=.int .i64 n/\1<=n/\n<=s.size)/\(∃v,A2 fr' 6=.int .i64 v)\/e=.ret/\A2 fr' 2=.str (bs [])/\A2 fr' 3=.int .i64 0/\A2 fr' 4=.bool false):=by
 refine C1 rfl fr (λn fr h=>∃(i:Nat) (v:Int),i+n=s.size/\A2 fr 5=.int .i64 (i:Nat)/\A2 fr 6=.int .i64 v) ?_ s.size h ⟨0,0,by omega,h5,h6⟩;rintro J Φ hJ hΦ n E4 X7 K ⟨i,v,hi,k5,k6⟩;have A6:=K.1.trans hl;have k0:=B8 K 0 h0;have C4:=G9 s;by_cases A9:i<s.size
 .have U2:i<(I4 s).length:=by omega
  have hx:s[i]?=some (I4 s)[i]:=by rw[CW,zf1z U2]
  have hw:=C9 i (by omega);have hone:Jf ((I4 s)[i])=3\/1<=i:=by
   by_cases hi0:i=0
   .subst hi0;obtain⟨c,r,e,hc⟩:=hd;left;rw[jU];simp only[e,List.getElem_cons_zero];exact hc
   .right;omega
  generalize (I4 s)[i]=c at *
  have hC:=Lj c;have Cy:s[i]'A9=c:=by rw[getElem?_pos s i A9]at hx;exact Option.some.inj hx
  generalize hv:Jf c=k at *
  generalize hz:c.toNat=z at *
  by_cases v3:k=3
  .obtain⟨q,hq⟩:∃q,IntKind.i64.wrap (IntKind.u8.wrap ((z:Int)-48))=q:=⟨_,rfl⟩;obtain⟨p,hp⟩:∃p,IntKind.i64.wrap ((IntKind.i64.wrap (9223372036854775807-q)).tdiv 10)=p:=⟨_,rfl⟩;by_cases hg:p<v
   .simp[W0,A6,k0,k5,k6,A9,Cy,hz,hw,hC,A7 v3,XT,QJ,hq,hp,A7 hg];exact hΦ _ _ _ (.inr ⟨rfl,by simp[A6],by simp[A6],by simp[A6]⟩)
   .simp[W0,A6,k0,k5,k6,A9,Cy,hz,hw,hC,A7 v3,XT,QJ,hq,hp,A0 hg];exact H0 hJ ⟨i+1,_,by omega,by simp[A6],by simp[A6];rfl⟩
  .simp[W0,A6,k0,k5,k6,A9,Cy,hz,hw,hC,A0 v3];exact hΦ _ _ _ (.inl ⟨rfl,⟨i,by simp[A6,k5],by omega,by omega⟩,⟨v,by simp[A6,k6]⟩⟩)
 .have T6:1<=s.size:=by
   obtain⟨c,r,e,hc⟩:=hd;rw[←G9,e];simp
  simp[W0,A6,k0,k5,A9];exact hΦ _ _ _ (.inl ⟨rfl,⟨i,by simp[A6,k5],by omega,by omega⟩,⟨v,by simp[A6,k6]⟩⟩)
theorem SS (s:R7) (hs:s.size<=1099511627776) (hd:∃c r,I4 s=c::r/\Ga c.toNat=true):∃r,pc Q Cp [.str s]=some r/\∃(w:R7) (v:Int) (b:Bool),r=.tup [.str w,.int .i64 v,.bool b]/\(b=true->1<=w.size/\w.size<=s.size):=by
 refine Ka Hd λΨ hΨ fr hl h0=>?_;simp[Hd]at hl h0;simp[Hd,hl];refine(UG s hs hd _ _ (by simp[hl]) (by simp[hl,h0]) (by simp[hl]) (by simp[hl])).mono ?_;rintro e E4 h1 ⟨K,⟨rfl,⟨n,k5,n1,n2⟩,v,k6⟩|⟨rfl,k2,k3,k4⟩⟩
 .have A6:E4.length=39:=K.1.trans (by simp[hl]);have k0:A2 E4 0=.str s:=B8 K 0 (by simp[hl,h0]);have hle':(n:Int)<=(s.size:Int):=by omega
  simp[A6,k0,k5,k6,F0,hle'];exact hΨ _ ⟨_,v,true,rfl,λ_=>by rw[Cu _ n2];omega⟩
 .simp[k2,k3,k4];exact hΨ _ ⟨_,_,false,rfl,λh=>by cases h⟩
structure Tk where
 kind:Int
 text:ByteArray
 num:Int
 str:ByteArray
 line:Int
def an (t:Tk):AV:=.agg [.int .i64 t.kind,.str t.text,.int .i64 t.num,.str t.str,.int .i64 t.line]
theorem dJ (s:R7) (ln:Int) (hs:s.size<=1099511627776) (c:UInt8) (r:List UInt8) (hb:I4 s=c::r):∃v,pc Q Ft [.str s,.int .i64 ln]=some v/\∃(t:Tk) (n:Nat) (e:Int),v=.tup [an t,.int .i64 n,.int .i64 e]/\(e=0->1<=n/\n<=s.size) /\
  (Df c.toNat=true->NK (I4 s)<=24->t=⟨1,s.extract 0 (NK (I4 s)),0,bs [],ln⟩/\n=NK (I4 s)/\e=0):=by
 have C4:=G9 s;have Fn:=XL (I4 s);rw[hb]at C4;simp only[List.length_cons]at C4;have G7:0<s.size:=by omega
 have hx:s[0]?=some c:=by rw[CW,hb];rfl
 have Cy:s[0]'G7=c:=by rw[getElem?_pos s 0 G7]at hx;exact Option.some.inj hx
 have hC:=Lj c;have hW:=gQ s hs;have g2:=jT c;have g3:=jU c;have L4:(s.extract 0 (NK (I4 s))).size=NK (I4 s):=by rw[Cu _ (by rw[←G9];exact Fn)];omega
 refine Ud S8 λΨ hΨ fr hl h0 h1=>?_;simp[S8]at hl h0 h1;generalize hv:Jf c=v at *
 by_cases v2:v=2
 .subst v2;have hpar:Q8 c.toNat=true:=by simp[Q8,g2.1 rfl]
  have hw1:1<=NK (I4 s):=by rw[hb];simp[NK,hpar]
  generalize hw:NK (I4 s)=w at *
  generalize s.extract 0 w=u at *
  by_cases h24:24<(w:Int)
  .simp[S8,hl,h0,h1,G7,Cy,hC,hW,L4,A7 h24,F8,Q3];exact hΨ _ ⟨⟨0,bs [],0,bs [],0⟩,0,3,rfl,λk=>by omega,λ_ k=>by omega⟩
  .simp[S8,hl,h0,h1,G7,Cy,hC,hW,L4,A0 h24,F8,Q3];rw[G9]at Fn;exact hΨ _ ⟨⟨1,u,0,bs [],ln⟩,w,0,rfl,λ_=>⟨hw1,Fn⟩,λ_ _=>⟨rfl,rfl,rfl⟩⟩
 have nl:¬Df c.toNat=true:=λk=>v2 (g2.2 k);by_cases v3:v=3
 .subst v3;obtain⟨rr,hN,w,x,b,rfl,hn⟩:=SS s hs ⟨c,r,hb,g3.1 rfl⟩;cases b with
  |false =>
   simp[S8,hl,h0,h1,G7,Cy,hC,hN,F8,Q3];exact hΨ _ ⟨⟨0,bs [],0,bs [],0⟩,0,7,rfl,λk=>by omega,λk=>absurd k nl⟩
  |true =>
   simp[S8,hl,h0,h1,G7,Cy,hC,hN,F8,Q3];exact hΨ _ ⟨⟨2,bs [],x,bs [],ln⟩,w.size,0,rfl,λ_=>hn rfl,λk=>absurd k nl⟩
 by_cases v5:v=5
 .subst v5;obtain⟨rr,hN,w,n,rfl,hn⟩:=Wl s hs (by omega);by_cases hn0:n=0
  .subst hn0;simp[S8,hl,h0,h1,G7,Cy,hC,hN,F8,Q3];exact hΨ _ ⟨⟨0,bs [],0,bs [],0⟩,0,2,rfl,λk=>by omega,λk=>absurd k nl⟩
  .have hn1:0<n:=by omega
   simp[S8,hl,h0,h1,G7,Cy,hC,hN,hn1,F8,Q3];exact hΨ _ ⟨⟨3,bs [],0,w,ln⟩,n,0,rfl,λ_=>⟨hn1,hn⟩,λk=>absurd k nl⟩
 by_cases v4:v=4
 .subst v4;have h1s:(1:Int)<=(s.size:Int):=by omega
  simp[S8,hl,h0,h1,G7,Cy,hC,F0,h1s,F8,Q3];exact hΨ _ ⟨⟨4,s.extract 0 1,0,bs [],ln⟩,1,0,rfl,λ_=>⟨by omega,by omega⟩,λk=>absurd k nl⟩
 .simp[S8,hl,h0,h1,G7,Cy,hC,A0 v2,A0 v3,A0 v5,A0 v4,F8,Q3];exact hΨ _ ⟨⟨0,bs [],0,bs [],0⟩,0,2,rfl,λk=>by omega,λk=>absurd k nl⟩
def Ee:List UInt8->Nat
 | []=>0
 |c::r=>if IF (c::r)=true then 0 else Ee r+1
theorem XZ:∀l:List UInt8,Ee l<=l.length
 | []=>zf5z _
 |c::r=>by
  have:=XZ r;simp only[Ee];split
  .omega
  .simp;omega
theorem TQ:∀l:List UInt8,Ee l=l.length↔LT l=false
 | []=>by simp[Ee,LT]
 |c::r=>by
  have:=TQ r;simp only[Ee,LT,Bool.or_eq_false_iff];cases h:IF (c::r)with
  |true=>simp
  |false=>simp[this]
def JF (l:List UInt8):Prop:=l.all (λc=>Q8 c.toNat)=true
theorem UU {l:List UInt8} (h:JF l) {i:Nat} (hi:i<l.length):Q8 (l[i]).toNat=true:=by
 unfold JF at h;rw[List.all_eq_true]at h;exact h _ (List.getElem_mem hi)
theorem Xp {c:Nat} (h:Q8 c=true):c≠34/\c≠92/\c≠10:=by
 refine⟨?_,?_,?_⟩<;>(rintro rfl;exact absurd h (by decide))
theorem iK (s:R7) (i:Nat) (hi:i+2<=s.size):decide ((s.extract i (i+2)).toList=(bs [35,35]).toList)=IF ((I4 s).drop i):=by
 have e:(s.extract i (i+2)).toList=((I4 s).drop i).take 2:=by
  rw[Fw,GY,List.drop_take];congr 1;omega
 rw[e,Fw];rfl
theorem iJ (s:R7) (i:Nat) (hi:s.size<=i+1):IF ((I4 s).drop i)=false:=by
 unfold IF;apply A0;intro k;have:=congrArg zg0z k;simp at this;omega
theorem ZE (s:R7) (hs:s.size<=1099511627776) (fr:Fr) (h:AH) (hl:fr.length=47) (h0:A2 fr 0=.str s) (h3:A2 fr 3=.bool false) (h4:A2 fr 4=.int .i64 0) :
  C3 (lp (A4 (N5 Q) (B9 DB) I2) (fr,h)) λe fr' h'=>Kp I2.wr fr fr'/\(e=.exit 0/\(JF (I4 s)->Ee (I4 s)=s.size)\/e=.ret/\∃k,k<=s.size/\A2 fr' 2=.str (s.extract 0 k)/\(JF (I4 s)->k=Ee (I4 s))):=by
 refine C1 rfl fr (λn fr h=>∃(i:Nat) (b:Bool),i+n=s.size+2/\A2 fr 4=.int .i64 (i:Nat)/\A2 fr 3=.bool b/\(JF (I4 s)->b=false/\i<=s.size/\i+Ee ((I4 s).drop i)=Ee (I4 s))) ?_ (s.size+2) h ⟨0,false,by omega,h4,h3,λ_=>⟨rfl,by omega,by simp⟩⟩;rintro J Φ hJ hΦ n E4 X7 K ⟨i,b,hi,k4,k3,hr⟩;have A6:=K.1.trans hl;have k0:=B8 K 0 h0;have C4:=G9 s;by_cases A9:i<s.size
 .have U2:i<(I4 s).length:=by omega
  have hx:s[i]?=some (I4 s)[i]:=by rw[CW,zf1z U2]
  have hw:=C9 i (by omega);have hw2:IntKind.i64.wrap ((i:Int)+2)=(i:Int)+2:=R0 (by omega) (by omega);have hw3:IntKind.i64.wrap ((i:Int)+1+1)=(i:Int)+2:=R0 (by omega) (by omega);have hP:JF (I4 s)->Q8 ((I4 s)[i]).toNat=true:=λp=>UU p U2;have hT1:=λq=>iK s i q;have hT2:=λq=>iJ s i q;rw[zf3z U2]at hr hT1 hT2;generalize (I4 s)[i]=c at *
  have Cy:s[i]'A9=c:=by rw[getElem?_pos s i A9]at hx;exact Option.some.inj hx
  have fwd:(JF (I4 s)->IF (c::(I4 s).drop (i+1))=false)->JF (I4 s)->i+1<=s.size/\i+1+Ee ((I4 s).drop (i+1))=Ee (I4 s):=λht p=>by
   have:=hr p;simp only[Ee]at this;rw[if_neg (by simp[ht p])]at this;omega
  have stp:IF (c::(I4 s).drop (i+1))=true->JF (I4 s)->i=Ee (I4 s):=λht p=>by
   have:=hr p;simp only[Ee]at this;rw[if_pos ht]at this;omega
  have hbf:JF (I4 s)->b=false:=λp=>(hr p).1;clear hr;generalize hz:c.toNat=z at *
  by_cases nv:b=true/\(z:Int)=92
  .obtain⟨rfl,h92⟩:=nv;simp[I2,A6,k0,k3,k4,A9,Cy,hz,hw,hw3,A7 h92];exact⟨n-2,by omega,hJ _ _ _ ⟨i+2,true,by omega,by simp[A6],by simp[A6,k3],λp=>absurd (hbf p) (by simp)⟩⟩
  ·-- the flag behind this byte
   have main:∀b':Bool,(JF (I4 s)->b'=false)->((z:Int)=34/\b'=!b\/¬(z:Int)=34/\b'=b) ->
     C3 (A4 (N5 Q) (B9 DB) I2 (E4,X7)) λe fr' h'=>(e=.normal/\∃m,m<n/\J m fr' h')\/(e≠.normal/\Φ e fr' h'):=by
    intro b' hb' hq;have ig:(b&&decide ((z:Int)=92))=false:=by
     cases b with
     |false=>rfl
     |true =>
      rw[Bool.true_and];exact A0 λk=>nv ⟨rfl,k⟩
    cases b' with
    |true =>
     rcases hq with ⟨h34,hb⟩|⟨h34,hb⟩
     .have:b=false:=by
       cases b with
       |false=>rfl
       |true=>exact absurd hb (by decide)
      subst this;have n92:¬(z:Int)=92:=by omega
      simp[I2,A6,k0,k3,k4,A9,Cy,hz,hw,A7 h34];exact H0 hJ ⟨i+1,true,by omega,by simp[A6],by simp[A6],λp=>absurd (hb' p) (by simp)⟩
     .subst hb;have n92:¬(z:Int)=92:=λk=>nv ⟨rfl,k⟩;simp[I2,A6,k0,k3,k4,A9,Cy,hz,hw,A0 h34,A0 n92];exact H0 hJ ⟨i+1,true,by omega,by simp[A6],by simp[A6,k3],λp=>absurd (hb' p) (by simp)⟩
    |false =>
     by_cases h2:i+2<=s.size
     .have hT:=hT1 h2;have h1lt:((i:Int)+1)<(s.size:Int):=by omega
      have h2le:(i:Int)+2<=(s.size:Int):=by omega
      have hile:(i:Int)<=(i:Int)+2:=by omega
      have p2:(0:Int)<=(i:Int)+2:=by omega
      have tn:((i:Int)+2).toNat=i+2:=by omega
      have hil:(i:Int)<=(s.size:Int):=by omega
      cases ht:IF (c::(I4 s).drop (i+1))with
      |true =>
       rw[ht]at hT;rcases hq with ⟨h34,hb⟩|⟨h34,hb⟩
       .have:b=true:=by
         cases b with
         |true=>rfl
         |false=>exact absurd hb (by decide)
        subst this;have n92:¬(z:Int)=92:=by omega
        simp[I2,A6,k0,k3,k4,A9,Cy,hz,hw,hw2,A7 h34,A0 n92,h1lt,F0,h2le,hile,hil,tn,hT];exact hΦ _ _ _ (.inr ⟨rfl,i,by omega,by simp[A6],stp ht⟩)
       .subst hb;simp[I2,A6,k0,k3,k4,A9,Cy,hz,hw,hw2,A0 h34,h1lt,F0,h2le,hile,hil,tn,hT];exact hΦ _ _ _ (.inr ⟨rfl,i,by omega,by simp[A6],stp ht⟩)
      |false =>
       rw[ht]at hT;rcases hq with ⟨h34,hb⟩|⟨h34,hb⟩
       .have:b=true:=by
         cases b with
         |true=>rfl
         |false=>exact absurd hb (by decide)
        subst this;have n92:¬(z:Int)=92:=by omega
        simp[I2,A6,k0,k3,k4,A9,Cy,hz,hw,hw2,A7 h34,A0 n92,h1lt,F0,h2le,hile,hil,tn,hT];exact H0 hJ ⟨i+1,false,by omega,by simp[A6],by simp[A6],λp=>⟨rfl,fwd (λ_=>ht) p⟩⟩
       .subst hb;simp[I2,A6,k0,k3,k4,A9,Cy,hz,hw,hw2,A0 h34,h1lt,F0,h2le,hile,hil,tn,hT];exact H0 hJ ⟨i+1,false,by omega,by simp[A6],by simp[A6,k3],λp=>⟨rfl,fwd (λ_=>ht) p⟩⟩
     .have ht:=hT2 (by omega);have h1lt:¬((i:Int)+1)<(s.size:Int):=by omega
      rcases hq with ⟨h34,hb⟩|⟨h34,hb⟩
      .have:b=true:=by
        cases b with
        |true=>rfl
        |false=>exact absurd hb (by decide)
       subst this;have n92:¬(z:Int)=92:=by omega
       simp[I2,A6,k0,k3,k4,A9,Cy,hz,hw,hw2,A7 h34,A0 n92,A0 h1lt];exact H0 hJ ⟨i+1,false,by omega,by simp[A6],by simp[A6],λp=>⟨rfl,fwd (λ_=>ht) p⟩⟩
      .subst hb;simp[I2,A6,k0,k3,k4,A9,Cy,hz,hw,hw2,A0 h34,A0 h1lt];exact H0 hJ ⟨i+1,false,by omega,by simp[A6],by simp[A6,k3],λp=>⟨rfl,fwd (λ_=>ht) p⟩⟩
   by_cases h34:(z:Int)=34
   .refine main (!b) (λp=>absurd (hP p) (λk=>?_)) (.inl ⟨h34,rfl⟩);have:=(Xp k).1;omega
   .exact main b hbf (.inr ⟨h34,rfl⟩)
 .have hd:(I4 s).drop i=[]:=zf4z (by omega);rw[hd]at hr;have U2:¬(i:Int)<(s.size:Int):=by omega
  simp[I2,A6,k0,k4,A9,U2];exact hΦ _ _ _ (.inl ⟨rfl,λp=>by have:=hr p;simp only[Ee]at this;omega⟩)
theorem gK (s:R7) (hs:s.size<=1099511627776):∃r,pc Q DB [.str s]=some r/\∃k,k<=s.size/\r=.str (s.extract 0 k)/\(JF (I4 s)->k=Ee (I4 s)):=by
 refine Ka JO λΨ hΨ fr hl h0=>?_;simp[JO]at hl h0;simp[JO,hl];refine(ZE s hs _ _ (by simp[hl]) (by simp[hl,h0]) (by simp[hl]) (by simp[hl])).mono ?_;rintro e E4 h1 ⟨K,⟨rfl,hc⟩|⟨rfl,k,hk,k2,hc⟩⟩
 .have A6:E4.length=47:=K.1.trans (by simp[hl]);have k0:A2 E4 0=.str s:=B8 K 0 (by simp[hl,h0]);simp[A6,k0];refine hΨ _ ⟨s.size,by omega,?_,λp=>(hc p).symm⟩;congr 1;apply OD;rw[GY,List.drop_zero,List.take_of_length_le (by rw[G9];exact zf5z _)]
 .simp[k2];exact hΨ _ ⟨k,hk,rfl,hc⟩
end Go.Abs.Q
