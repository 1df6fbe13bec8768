/- A part of the proof. -/
import Derived.Test.YtnnjamknplefbaaGreatDoorTN28
set_option linter.all false
open List renaming getElem?_eq_getElem->zf0z,drop_eq_nil_of_le->zf2z,drop_eq_getElem_cons->zf5z,getElem_mem->zf6z,drop_zero->zf9z,dropWhile_cons->zg1z,mem_reverse->zg3z
open Bool renaming true_and->zf1z,and_eq_true->zf3z,eq_iff_iff->zf4z,or_eq_false_iff->zg0z,not_eq_true->zg2z
open Option renaming bind_some->zf7z,bind_none->zg4z,map_map->zg5z
open ByteArray renaming size_extract->zf8z
set_option linter.all false
namespace Go.Abs.Q
open Go.Proofs
attribute [local simp] E5 E6 fin J4 H8 Q3 S6
theorem sJ{α:Type}(p:α->Bool):∀(l:List α) (a:α) (r:List α),l.dropWhile p=a::r->p a=false
 | [],_,_,h=>by cases h
 |b::l,a,r,h=>by
  rw[zg1z]at h;split at h
  .exact sJ p l a r h
  .rename_i hb;cases h;simpa using hb
theorem fy{α:Type}(p:α->Bool):∀l:List α,l.dropWhile p=[]↔∀a∈l,p a=true
 | []=>by simp
 |b::l=>by
  rw[zg1z];by_cases hb:p b=true
  .rw[if_pos hb,fy p l];simp[hb]
  .rw[if_neg hb];simp[hb]
theorem xj(l cs:List UInt8):Lib.trimS l cs=[]↔∀b∈l,cs.contains b=true:=by
 unfold Lib.trimS Lib.trimLeftS Lib.trimRightS;rw[fy];constructor
 .intro h;cases hd:l.reverse.dropWhile (cs.contains ·)with
  |nil =>
   rw[fy]at hd;exact λb hb=>hd b (zg3z.2 hb)
  |cons a r =>
   have h1:=sJ _ _ _ _ hd;have h2:=h a (by rw[hd];simp);rw[h1]at h2;cases h2
 .intro h;have hd:l.reverse.dropWhile (cs.contains ·)=[]:=by
   rw[fy];exact λb hb=>h b (zg3z.1 hb)
  rw[hd];simp
set_option maxRecDepth 100000 in
theorem dig_mem(b:UInt8):(bs [48,49,50,51,52,53,54,55,56,57]).data.toList.contains b=decide (48<=b.toNat/\b.toNat<=57):=by
 have h:∀n:Fin 256,((bs [48,49,50,51,52,53,54,55,56,57]).data.toList.contains (UInt8.ofNat n.1))=decide (48<=n.1/\n.1<=57):=by decide
 have h2:=h ⟨b.toNat,b.toNat_lt⟩;simpa using h2
theorem qC(s:Al)(hs:s.size<=1000000):pc Q FU [.str s]=some (.bool (vn s)):=by
 have hT:pc Q KH [.str s,.str (bs [48,49,50,51,52,53,54,55,56,57])]=some (.str ⟨(Lib.trimS s.data.toList (bs [48,49,50,51,52,53,54,55,56,57]).data.toList).toArray⟩) :=
  tY (s:=WU) rfl (by simp only[WU];rw[if_pos ⟨a_,trivial⟩])
 have hE:(⟨(Lib.trimS s.data.toList (bs [48,49,50,51,52,53,54,55,56,57]).data.toList).toArray⟩:ByteArray)=bs []↔(s.data.toList.all λb=>decide (48<=b.toNat/\b.toNat<=57))=true:=by
  have e1:(⟨(Lib.trimS s.data.toList (bs [48,49,50,51,52,53,54,55,56,57]).data.toList).toArray⟩:ByteArray)=bs []↔Lib.trimS s.data.toList (bs [48,49,50,51,52,53,54,55,56,57]).data.toList=[]:=by
   constructor
   .intro h;have:=congrArg (λx:ByteArray=>x.data.toList) h;simpa[bs]using this
   .intro h;rw[h];rfl
  rw[e1,xj,List.all_eq_true];simp only[dig_mem]
 generalize (⟨(Lib.trimS s.data.toList (bs [48,49,50,51,52,53,54,55,56,57]).data.toList).toArray⟩:ByteArray)=T at hT hE;by_cases hs0:s=bs []
 .subst hs0;have hd:vn (bs [])=false:=rfl;rw[hd];refine J0 U9 λfr hl h0=>?_;simp[U9]at hl h0;simp[U9,hl,h0]
 .have hz:s.size≠0:=λh=>hs0 (by
   obtain⟨d⟩:=s;have:d=#[]:=Array.size_eq_zero_iff.1 h;rw[this];rfl)
  unfold vn;rw[decide_eq_true hz,zf1z];by_cases hc:T=bs []
  .rw[hE.1 hc];refine J0 U9 λfr hl h0=>?_;simp[U9]at hl h0;simp[U9,hl,h0,hs0,hT,hc]
  .rw[show (s.data.toList.all λb=>decide (48<=b.toNat/\b.toNat<=57))=false by
    rw[←zg2z];exact λh=>hc (hE.2 h)]
   refine J0 U9 λfr hl h0=>?_;simp[U9]at hl h0;simp[U9,hl,h0,hs0,hT,hc]
def zE(s:ByteArray):AV:=if TO s (bs [101,35])=true then .tup [.str (s.extract 2 s.size),.bool true]else .tup [.str s,.bool false]
theorem tpc_Cut(s:Al):pc Q EZ [.str s,.str (bs [101,35])]=some (zE s):=by
 have hP:=dA s (bs [101,35]);have hL:pc Q CD [.str s,.str (bs [101,35])]=some (zE s):=by
  unfold zE;cases hc:TO s (bs [101,35])with
  |false =>
   rw[hc]at hP;refine j5 Y5 λfr hl h0 h1=>?_;simp[Y5]at hl h0 h1;simp[Y5,hl,h0,h1,hP]
  |true =>
   rw[hc]at hP;have h2:2<=s.size:=by
    unfold TO at hc;simp only[zf3z,decide_eq_true_eq]at hc;exact hc.1
   have h2':(2:Int)<=(s.size:Int):=by omega
   refine j5 Y5 λfr hl h0 h1=>?_;simp[Y5]at hl h0 h1;simp[Y5,hl,h0,h1,hP,h2',h2,AA,show (bs [101,35]).size=2 from rfl]
 unfold zE at hL ⊢;by_cases hc:TO s (bs [101,35])=true
 .rw[if_pos hc]at hL ⊢;refine j5 Ai λfr hl h0 h1=>?_;simp[Ai]at hl h0 h1;simp[Ai,hl,h0,h1,hL]
 .rw[if_neg hc]at hL ⊢;refine j5 Ai λfr hl h0 h1=>?_;simp[Ai]at hl h0 h1;simp[Ai,hl,h0,h1,hL]
theorem tpc_is(t:Tm)(m:Gg)(l:List ByteArray)(D6:l.length<=1048576):pc Q Jw [I8 t,bO m l]=some (.bool (decide (t.kind=3)&&l.any (Zm t.name))):=by
 have hC:=aX m l t.name a_;simp only[bO]at hC ⊢;by_cases hk:t.kind=3
 .refine j5 Ev λfr hl h0 h1=>?_;simp[Ev]at hl h0 h1;simp[Ev,hl,h0,h1,hk,hC]
 .refine j5 Ev λfr hl h0 h1=>?_;simp[Ev]at hl h0 h1;simp[Ev,hl,h0,h1,hk]
theorem pt(t:Tm)(hn:t.name.size<=1000000):pc Q AB [I8 t]=some (.bool (UU t)):=by
 unfold UU;by_cases hk:t.kind=3
 .have hag:AV.agg [.int .i64 3,.str t.name,.int .i64 t.sort,sl t.cm 4 (C4 t.kids)]=I8 t:=by rw[←hk];exact G9 t
  have hI:=tpc_is t (true,true) [bs [122,101,114,111],bs [111,110,101]] f9;have e:([bs [122,101,114,111],bs [111,110,101]].any (Zm t.name))=decide (t.name=bs [122,101,114,111]\/t.name=bs [111,110,101]):=by
   rw[zf4z,List.any_eq_true,decide_eq_true_iff];simp[Mg]
  rw[e,decide_eq_true hk,zf1z]at hI;simp only[bO,List.map_cons,List.map_nil]at hI;have e2:decide (t.kids.length=0)=decide ((t.kids.length:Int)=0):=by
   rw[zf4z,decide_eq_true_iff,decide_eq_true_iff];omega
  rw[if_pos hk,e2];generalize decide (t.name=bs [122,101,114,111]\/t.name=bs [111,110,101])=B at hI;generalize hL:(t.kids.length:Int)=L;cases B with
  |false =>
   refine J0 B3 λfr hl h0=>?_;simp[B3]at hl h0;simp[B3,hl,h0,hk,hag,hI,A9]
  |true =>
   refine J0 B3 λfr hl h0=>?_;simp[B3]at hl h0;simp[B3,hl,h0,hk,hag,hI,A9,hL]
 .rw[if_neg hk];by_cases hk2:t.kind=2
  .rw[decide_eq_true hk2,zf1z];have hC:=tpc_Cut t.name;unfold wj;unfold zE at hC;have hz:(t.name.extract 2 t.name.size).size<=1000000:=by
    rw[zf8z];omega
   have hD:=qC _ hz;cases hp:TO t.name (bs [101,35])with
   |false =>
    rw[hp]at hC;simp only[Bool.false_eq_true,if_false]at hC;clear hD hz;by_cases s1:t.sort=1
    .refine J0 B3 λfr hl h0=>?_;simp[B3]at hl h0;simp[B3,hl,h0,hk,hk2,hC,s1]
    .by_cases s5:t.sort=5
     .refine J0 B3 λfr hl h0=>?_;simp[B3]at hl h0;simp[B3,hl,h0,hk,hk2,hC,s1,s5]
     .by_cases s4:t.sort=4
      .by_cases hg:t.name=bs [103]
       .refine J0 B3 λfr hl h0=>?_;simp[B3]at hl h0;simp[B3,hl,h0,hk,hk2,hC,s1,s5,s4,hg];simp[hg]at hC;simp[B3,hl,h0,hC]
       .refine J0 B3 λfr hl h0=>?_;simp[B3]at hl h0;simp[B3,hl,h0,hk,hk2,hC,s1,s5,s4,hg]
      .by_cases s0:t.sort=0
       .refine J0 B3 λfr hl h0=>?_;simp[B3]at hl h0;simp[B3,hl,h0,hk,hk2,hC,s1,s5,s4,s0]
       .by_cases s2:t.sort=2
        .refine J0 B3 λfr hl h0=>?_;simp[B3]at hl h0;simp[B3,hl,h0,hk,hk2,hC,s1,s5,s4,s0,s2]
        .by_cases s3:t.sort=3
         .refine J0 B3 λfr hl h0=>?_;simp[B3]at hl h0;simp[B3,hl,h0,hk,hk2,hC,s1,s5,s4,s0,s2,s3]
         .refine J0 B3 λfr hl h0=>?_;simp[B3]at hl h0;simp[B3,hl,h0,hk,hk2,hC,s1,s5,s4,s0,s2,s3]
   |true =>
    rw[hp]at hC;simp only[if_true]at hC;have hg:t.name≠bs [103]:=λe=>by
     rw[e]at hp;revert hp;decide
    generalize t.name.extract 2 t.name.size=R at hC hD;generalize hE:vn R=E at hD;clear hz;by_cases s1:t.sort=1
    .refine J0 B3 λfr hl h0=>?_;simp[B3]at hl h0;simp[B3,hl,h0,hk,hk2,hC,s1]
    .by_cases s5:t.sort=5
     .refine J0 B3 λfr hl h0=>?_;simp[B3]at hl h0;simp[B3,hl,h0,hk,hk2,hC,s1,s5]
     .by_cases s4:t.sort=4
      .refine J0 B3 λfr hl h0=>?_;simp[B3]at hl h0;simp[B3,hl,h0,hk,hk2,hC,hD,hE,s1,s5,s4,hg]
      .by_cases s0:t.sort=0
       .refine J0 B3 λfr hl h0=>?_;simp[B3]at hl h0;simp[B3,hl,h0,hk,hk2,hC,hD,hE,s1,s5,s4,s0]
       .by_cases s2:t.sort=2
        .refine J0 B3 λfr hl h0=>?_;simp[B3]at hl h0;simp[B3,hl,h0,hk,hk2,hC,hD,hE,s1,s5,s4,s0,s2]
        .by_cases s3:t.sort=3
         .refine J0 B3 λfr hl h0=>?_;simp[B3]at hl h0;simp[B3,hl,h0,hk,hk2,hC,hD,hE,s1,s5,s4,s0,s2,s3]
         .refine J0 B3 λfr hl h0=>?_;simp[B3]at hl h0;simp[B3,hl,h0,hk,hk2,hC,s1,s5,s4,s0,s2,s3]
  .refine J0 B3 λfr hl h0=>?_;simp[B3]at hl h0;simp[B3,hl,h0,hk,hk2]
theorem cc(c:Nat):c<48\/(48<=c/\c<=57)\/58<=c:=by omega
def nX(b:UInt8):Bool:=decide (48<=b.toNat/\b.toNat<=57)
theorem wY(s:Al)(hs:s.size<=1000000)(h2:2<=s.size)(fr:Fr)(h:AH)(hl:fr.length=28)(h0:B2 fr 0=.str s)(h3:B2 fr 3=.int .i64 2) :
  D7 (lp (A8 (m6 Q) (B1 Lh) EQ) (fr,h)) λe B8 h'=>Kp EQ.wr fr B8/\(e=.exit 0/\((Ht s).drop 2).all nX=true\/e=.ret/\B2 B8 2=.bool false/\((Ht s).drop 2).all nX=false):=by
 refine E9 rfl fr (λn fr h=>∃i:Nat,2<=i/\i+n=s.size/\B2 fr 3=.int .i64 (i:Nat)/\((Ht s).drop i).all nX=((Ht s).drop 2).all nX) ?_ (s.size-2) h ⟨2,a_,a_,h3,rfl⟩;rintro J Φ hJ hΦ n CT AQ K ⟨i,hi2,hi,k3,hr⟩;have C6:=K.1.trans hl;have k0:=D4 K 0 h0;clear K;have D6:=Oe s;by_cases C2:i<s.size
 .have Hx:i<(Ht s).length:=by omega
  have hx:s[i]?=some (Ht s)[i]:=by rw[Sv,zf0z Hx]
  have hw:=J6 i a_;rw[zf5z Hx,List.all_cons]at hr;generalize (Ht s)[i]=c at *
  have VV:s[i]'C2=c:=by rw[getElem?_pos s i C2]at hx;exact Option.some.inj hx
  have hd:nX c=decide (48<=c.toNat/\c.toNat<=57):=rfl;rw[hd]at hr;generalize hz:c.toNat=z at *
  rcases cc z with h|h|h
  .have e:decide (48<=z/\z<=57)=false:=decide_eq_false a_;have c1:(z:Int)<48:=by omega
   rw[e]at hr;simp[EQ,C6,k0,k3,C2,hx,VV,hz,hw,h,c1];exact hΦ _ _ _ (.inr ⟨rfl,d_,f_⟩)
  .have e:decide (48<=z/\z<=57)=true:=decide_eq_true h;have c1:¬(z:Int)<48:=by omega
   have c2:¬(57:Int)<(z:Int):=by omega
   have c3:¬z<48:=by omega
   have c4:¬57<z:=by omega
   rw[e,zf1z]at hr;simp[EQ,C6,k0,k3,C2,hx,VV,hz,hw,c1,c2,c3,c4];exact V6 hJ ⟨i+1,a_,a_,d_,hr⟩
  .have e:decide (48<=z/\z<=57)=false:=decide_eq_false a_;have c1:¬(z:Int)<48:=by omega
   have c2:(57:Int)<(z:Int):=by omega
   have c3:¬z<48:=by omega
   have c4:57<z:=by omega
   rw[e]at hr;simp[EQ,C6,k0,k3,C2,hx,VV,hz,hw,c1,c2,c3,c4];exact hΦ _ _ _ (.inr ⟨rfl,d_,f_⟩)
 .have BR:¬(i:Int)<(s.size:Int):=by omega
  rw[zf2z a_]at hr;simp[EQ,C6,k0,k3,C2,BR];exact hΦ _ _ _ (.inl ⟨rfl,hr.symm⟩)
theorem ownS_eq(s:Al):wj s=(decide (2<s.size)&&TO s (bs [101,35])&&((Ht s).drop 2).all nX):=by
 unfold wj vn;by_cases hp:TO s (bs [101,35])=true
 .have h2:2<=s.size:=by
   unfold TO at hp;simp only[zf3z,decide_eq_true_eq]at hp;exact hp.1
  rw[hp,zf1z,Bool.and_true];have e1:(s.extract 2 s.size).size=s.size-2:=by rw[zf8z];omega
  have e2:(s.extract 2 s.size).data.toList=(Ht s).drop 2:=by
   have:=Yt s 2 s.size;rw[List.take_of_length_le (by rw[Oe];exact Nat.le_refl _)]at this;exact this
  rw[e1,e2];congr 1;rw[zf4z,decide_eq_true_iff,decide_eq_true_iff];omega
 .have hp':TO s (bs [101,35])=false:=by simpa using hp
  rw[hp'];simp
theorem pc_rown(s:Al)(hz:s.size<=1000000):pc Q Lh [.str s]=some (.bool (wj s)):=by
 rw[ownS_eq];by_cases hs:s.size<3
 .have hs':(s.size:Int)<3:=by omega
  rw[decide_eq_false a_];refine J0 EB λfr hl h0=>?_;simp[EB]at hl h0;simp[EB,hl,h0,hs']
 .have hs':¬(s.size:Int)<3:=by omega
  have OK:(2:Int)<=(s.size:Int):=by omega
  have hE:(s.extract 0 2=bs [101,35])↔TO s (bs [101,35])=true:=by
   have e1:(bs [101,35]).size=2:=by decide
   unfold TO;rw[e1];simp only[zf3z,decide_eq_true_eq];constructor
   .intro h;refine⟨a_,?_⟩;rw[←h,Yt,zf9z]
   .intro h;have h1:=h.2;rw[show (Ht s).take 2=Ht (s.extract 0 2) by rw[Yt,zf9z]]at h1;exact nQ h1.symm.symm
  rw[decide_eq_true (by omega:2<s.size),zf1z];cases hp:TO s (bs [101,35])with
  |false =>
   have AS:s.extract 0 2≠bs [101,35]:=λh=>by rw[hE.1 h]at hp;cases hp
   refine J0 EB λfr hl h0=>?_;simp[EB]at hl h0;simp[EB,hl,h0,hs',OK,AS]
  |true =>
   have heq:s.extract 0 2=bs [101,35]:=hE.2 hp;rw[zf1z];have Eg:=wY s hz a_;generalize ((Ht s).drop 2).all nX=A at Eg;refine J0 EB λfr hl h0=>?_;simp[EB]at hl h0;simp[EB,hl,h0,hs',OK,heq];refine D7.mono (Eg _ _ ?_ ?_ ?_) ?_<;>first|(simp[hl,h0];done)|skip
   rintro e B8 h' ⟨K,⟨rfl,he⟩|⟨rfl,h4,he⟩⟩
   .have hl':B8.length=28:=K.1.trans c_;rw[he];simp[hl']
   .rw[he];simp[h4]
theorem aa(t:Tm)(hn:t.name.size<=1000000):pc Q Hd [I8 t]=some (.bool (UU t)):=by
 have hO:=pc_rown t.name hn;unfold UU;by_cases hk:t.kind=3
 .rw[if_pos hk];have e2:decide (t.kids.length=0)=decide ((t.kids.length:Int)=0):=by
   rw[zf4z,decide_eq_true_iff,decide_eq_true_iff];omega
  rw[e2];generalize hL:(t.kids.length:Int)=L;by_cases c1:t.name=bs [122,101,114,111]
  .refine J0 C1 λfr hl h0=>?_;simp[C1]at hl h0;simp[C1,hl,h0,hk,c1,hL]
  .by_cases c2:t.name=bs [111,110,101]
   .refine J0 C1 λfr hl h0=>?_;simp[C1]at hl h0;simp[C1,hl,h0,hk,c1,eq_true c2,hL]
   .refine J0 C1 λfr hl h0=>?_;simp[C1]at hl h0;simp[C1,hl,h0,hk,c1,c2]
 .rw[if_neg hk];by_cases hk2:t.kind=2
  .generalize wj t.name=W at hO;by_cases s1:t.sort=1
   .refine J0 C1 λfr hl h0=>?_;simp[C1]at hl h0;simp[C1,hl,h0,hk,hk2,hO,s1]
   .by_cases s5:t.sort=5
    .refine J0 C1 λfr hl h0=>?_;simp[C1]at hl h0;simp[C1,hl,h0,hk,hk2,hO,s1,s5]
    .by_cases s4:t.sort=4
     .by_cases hg:t.name=bs [103]
      .refine J0 C1 λfr hl h0=>?_;simp[C1]at hl h0;simp[C1,hl,h0,hk,hk2,hO,s1,s5,s4,hg]
      .refine J0 C1 λfr hl h0=>?_;simp[C1]at hl h0;simp[C1,hl,h0,hk,hk2,hO,s1,s5,s4,hg]
     .by_cases s0:t.sort=0
      .by_cases hg:t.name=bs [103]
       .rw[hg]at hO;refine J0 C1 λfr hl h0=>?_;simp[C1]at hl h0;simp[C1,hl,h0,hk,hk2,hO,s1,s5,s4,s0,hg]
       .refine J0 C1 λfr hl h0=>?_;simp[C1]at hl h0;simp[C1,hl,h0,hk,hk2,hO,s1,s5,s4,s0,hg]
      .by_cases s2:t.sort=2
       .by_cases hg:t.name=bs [103]
        .rw[hg]at hO;refine J0 C1 λfr hl h0=>?_;simp[C1]at hl h0;simp[C1,hl,h0,hk,hk2,hO,s1,s5,s4,s0,s2,hg]
        .refine J0 C1 λfr hl h0=>?_;simp[C1]at hl h0;simp[C1,hl,h0,hk,hk2,hO,s1,s5,s4,s0,s2,hg]
       .by_cases s3:t.sort=3
        .by_cases hg:t.name=bs [103]
         .rw[hg]at hO;refine J0 C1 λfr hl h0=>?_;simp[C1]at hl h0;simp[C1,hl,h0,hk,hk2,hO,s1,s5,s4,s0,s2,s3,hg]
         .refine J0 C1 λfr hl h0=>?_;simp[C1]at hl h0;simp[C1,hl,h0,hk,hk2,hO,s1,s5,s4,s0,s2,s3,hg]
        .by_cases hg:t.name=bs [103]
         .refine J0 C1 λfr hl h0=>?_;simp[C1]at hl h0;simp[C1,hl,h0,hk,hk2,hO,s1,s5,s4,s0,s2,s3,hg]
         .refine J0 C1 λfr hl h0=>?_;simp[C1]at hl h0;simp[C1,hl,h0,hk,hk2,hO,s1,s5,s4,s0,s2,s3,hg]
  .refine J0 C1 λfr hl h0=>?_;simp[C1]at hl h0;simp[C1,hl,h0,hk,hk2]
theorem kz(m m':Gg)(l r:Be)(D6:l.length<=1099511627776)(hlr:l.length=r.length)(hs:∀t∈l,t.size<=1099511627776)(hs':∀t∈r,t.size<=1099511627776)(fr:Fr)(h:AH)(hl:fr.length=27)(h0:B2 fr 0=sl m 4 (C4 l))(h1:B2 fr 1=sl m' 4 (C4 r))(h5:B2 fr 5=.int .i64 0) :
  D7 (lp (A8 (m6 Q) (B1 It) Df) (fr,h)) λe B8 h'=>Kp Df.wr fr B8/\(e=.exit 0/\BD Rr l r=true\/e=.ret/\B2 B8 4=.bool false/\BD Rr l r=false):=by
 refine E9 rfl fr (λn fr h'=>∃(i:Nat),i+n=l.length/\B2 fr 5=.int .i64 (i:Nat)/\(BD Rr (l.drop i) (r.drop i)=BD Rr l r)) ?_ l.length h ⟨0,a_,h5,rfl⟩;rintro J Φ hJ hΦ n CT H1 K ⟨i,hi,k5,hr⟩;have C6:=K.1.trans hl;have k0:=D4 K 0 h0;have k1:=D4 K 1 h1;clear K;by_cases C2:i<l.length
 .have L4:=J6 i a_;have Hx:i<r.length:=by omega
  have hx:=Gk C2;have hy:=Gk Hx;have hT:=IF l[i] r[i] (hs _ (zf6z C2)) (hs' _ (zf6z Hx));rw[Pl _ C2 Hx]at hr;generalize l[i]=a at *
  generalize r[i]=b at *
  have ha:=G9 a;have hb:=G9 b;have hca:=I7 a;have hcb:=I7 b;cases hc:Rr a b with
  |true =>
   rw[hc]at hr hT;simp[Df,C6,k0,k1,k5,C2,L4,hx,hy,ha,hb,hT];exact V6 hJ ⟨i+1,a_,d_,h_⟩
  |false =>
   rw[hc]at hr hT;simp[Df,C6,k0,k1,k5,C2,L4,hx,hy,ha,hb,hT];exact hΦ _ _ _ (.inr ⟨rfl,d_,f_⟩)
 .rw[zf2z a_,zf2z a_]at hr;simp[Df,C6,k0,k1,k5,C2];exact hΦ _ _ _ (.inl ⟨rfl,hr.symm⟩)
theorem wy(m m':Gg)(l r:Be)(h:Tm.sizes l<=1099511627776)(h':Tm.sizes r<=1099511627776):pc Q It [sl m 4 (C4 l),sl m' 4 (C4 r)]=some (.bool (BD Rr l r)):=by
 have D6:=Tm.length_le l;refine j5 LU λfr hl h0 h1=>?_;simp[LU]at hl h0 h1;by_cases he:l.length=r.length
 .simp[LU,hl,h0,h1,he];refine D7.mono (kz m m' l r a_ he (λt ht=>by have:=Tm.size_le ht;omega) (λt ht=>by have:=Tm.size_le ht;omega) _ _ ?_ ?_ ?_ ?_) ?_<;>first|(simp[hl,h0,h1,he];done)|skip
  rintro e B8 h' ⟨K,⟨rfl,he⟩|⟨rfl,h4,he⟩⟩
  .have hl':B8.length=27:=K.1.trans c_;simp[hl',he]
  .simp[h4,he]
 .have hf:BD Rr l r=false:=by
   cases h:BD Rr l r with
   |false=>rfl
   |true=>exact absurd (Pm _ h) he
  have he':¬(l.length:Int)=(r.length:Int):=by omega
  simp[LU,hl,h0,h1,he,he',hf]
theorem Qw(f g:Fa)(hf:Tm.sizes f.terms<=1099511627776)(hg:Tm.sizes g.terms<=1099511627776):pc Q Ej [Dp f,Dp g]=some (.bool (Ii f g)):=by
 have hE:=wy f.fm g.fm f.terms g.terms hf hg;unfold Ii;refine j5 FB λfr hl h0 h1=>?_;simp[FB]at hl h0 h1;by_cases c1:f.kind=g.kind
 .by_cases c2:f.goal=g.goal
  .simp[FB,hl,h0,h1,c1,c2,hE]
  .simp[FB,hl,h0,h1,c1,c2]
 .simp[FB,hl,h0,h1,c1]
theorem pc_rtag(q:Tm)(hq:RE q=0):pc Q On [I8 q]=some (WZ (Mz q)):=by
 have hI:=JS q (bs [112,97,105,114]);have htc:=G9 q;unfold Mz;cases hp:OI q (bs [112,97,105,114])with
 |false =>
  rw[hp]at hI;rw[if_neg e_];unfold WZ;refine J0 As λfr hl h0=>?_;simp[As]at hl h0;simp[As,hl,h0,hI,htc]
 |true =>
  rw[hp]at hI;rw[if_pos rfl];obtain⟨a,b,e,ea,eb⟩:=Kq hq hp;rw[e];simp only;have n0:KW (C4 q.kids) 0=some (I8 a):=by rw[e];rfl
  have hk:q.kids.length=2:=by rw[e];rfl
  have hca:=I7 a;by_cases c1:a.kind=2
  .by_cases c2:a.sort=5
   .rw[if_pos ⟨c1,c2⟩];unfold WZ;refine J0 As λfr hl h0=>?_;simp[As]at hl h0;simp[As,hl,h0,hI,htc,n0,hk,c1,c2]
   .rw[if_neg (λh=>c2 h.2)];unfold WZ;refine J0 As λfr hl h0=>?_;simp[As]at hl h0;simp[As,hl,h0,hI,htc,n0,hk,c1,c2]
  .rw[if_neg (λh=>c1 h.1)];unfold WZ;refine J0 As λfr hl h0=>?_;simp[As]at hl h0;simp[As,hl,h0,hI,htc,n0,hk,c1]
theorem aj:∀(n:Nat) (t:Tm),n<=1000000->RE t=0->∃r,pc Q Ek [I8 t,.int .i64 ((n+1:Nat):Int)]=some r/\((∃m l,r=.tup [sl m 4 (C4 l),.bool true]/\Pp n t=some l)\/(∃m l,r=.tup [sl m 4 (C4 l),.bool false]/\l.length<=n/\Pp n t=none))
 |0,t,_,ht=>by
  have htc:=G9 t;refine Bs W2 λΨ hΨ fr hl h0 h1=>?_;simp[W2]at hl h0 h1;simp[W2,hl,h0,h1,htc,A9];exact hΨ _ (.inl ⟨(true,true),[t],rfl,rfl⟩)
 |n+1,t,hn,ht=>by
  have hI:=JS t (bs [112,97,105,114]);have htc:=G9 t;have AS:¬((n+1+1:Nat):Int)=1:=by omega
  have hw:IntKind.i64.wrap (((n+1+1:Nat):Int)-1)=((n+1:Nat):Int):=by rw[Y8 a_ a_];omega
  cases hp:OI t (bs [112,97,105,114])with
  |false =>
   rw[hp]at hI;have hd:Pp (n+1) t=none:=by rw[Pp,hp];rfl
   generalize ((n+1+1:Nat):Int)=N at *
   refine Bs W2 λΨ hΨ fr hl h0 h1=>?_;simp[W2]at hl h0 h1;simp[W2,hl,h0,h1,htc,hI,AS];exact hΨ _ (.inr ⟨(true,false),[],rfl,e_,hd⟩)
  |true =>
   rw[hp]at hI;obtain⟨a,b,e,ea,eb⟩:=Kq ht hp;have n0:KW (C4 t.kids) 0=some (I8 a):=by rw[e];rfl
   have n1:KW (C4 t.kids) 1=some (I8 b):=by rw[e];rfl
   have hk:t.kids.length=2:=by rw[e];rfl
   have hd:Pp (n+1) t=(Pp n b).map (a::·):=by rw[Pp,hp,if_pos rfl,e]
   have hag:=G9 a;have hbg:=G9 b;have hca:=I7 a;have hcb:=I7 b;obtain⟨r,hr,hres⟩:=aj n b a_ eb;have app:∀(m:Bool×Bool) (l:List Tm),l.length<=n+1->∃v F',N0 (B1 Ek) ⟨[[.int .i64 t.kind,.str t.name,.int .i64 t.sort,sl t.cm 4 (C4 t.kids)]],[]⟩ 4 56 (sl (true,true) 4 [I8 a]) (sl m 4 (C4 l))=some (v,⟨[[.int .i64 t.kind,.str t.name,.int .i64 t.sort,sl t.cm 4 (C4 t.kids)]],F'⟩)/\v.isTup=false/\v.cells=[v]/\BE [v]=false/\∃m',∀B,Gj ⟨B,F'⟩ v=some (sl m' 4 (C4 (a::l)))/\frz ⟨B,F'⟩ true v=some (sl m' 4 (C4 (a::l)))/\Cr ⟨B,F'⟩ true v=some (sl m' 4 (C4 (a::l))):=λm l hl=>by
    obtain⟨v,F',a1,l1,-⟩:=OX (c:=B1 Ek) (sz:=4) (bytes:=56) (xs:=[I8 a]) (ys:=C4 l) (x:=sl m 4 (C4 l)) (h:=⟨[[.int .i64 t.kind,.str t.name,.int .i64 t.sort,sl t.cm 4 (C4 t.kids)]],[]⟩) (ZL _ _ _ true _) (W0 _ _ _ _) (by simp only[Z9,List.length_cons,List.length_nil,K7,maxLen];omega);obtain⟨c1,c2,c3,-⟩:=L5 l1;obtain⟨m1,z1⟩:=VB l1;obtain⟨m2,z2⟩:=CS l1;have e:[I8 a]++C4 l=C4 (a::l):=by rw[C4];rfl
    rw[e]at z1 z2;refine⟨v,F',a1,c1,c2,c3,m2,λB=>⟨?_,(z2 B true rfl).1,(z2 B true rfl).2⟩⟩;have:=(z2 B true rfl).1;rcases l1 with ⟨b,rfl⟩|⟨_,k,rfl,_⟩<;>exact this
   generalize ((n+1+1:Nat):Int)=N at *
   generalize hM:((n+1:Nat):Int)=M at *
   rcases hres with ⟨m,l,rfl,hl'⟩|⟨m,l,rfl,hll,hl'⟩
   .obtain⟨v,F',a1,q1,q2,q3,m',z⟩:=app m l (by rw[nY hl'];omega);have zr:=λB=>(z B).1;have zf:=λB=>(z B).2.1;have z1:=λB=>(z B).2.2;refine Bs W2 λΨ hΨ fr hl h0 h1=>?_;simp[W2]at hl h0 h1;simp[W2,hl,h0,h1,htc,hI,AS,hw,n0,n1,hk,hag,hbg,hr,A9,a1,q1,q2,q3,zr,zf,z1];exact hΨ _ (.inl ⟨m',a::l,rfl,by rw[hd,hl'];rfl⟩)
   .obtain⟨v,F',a1,q1,q2,q3,m',z⟩:=app m l a_;have zr:=λB=>(z B).1;have zf:=λB=>(z B).2.1;have z1:=λB=>(z B).2.2;refine Bs W2 λΨ hΨ fr hl h0 h1=>?_;simp[W2]at hl h0 h1;simp[W2,hl,h0,h1,htc,hI,AS,hw,n0,n1,hk,hag,hbg,hr,A9,a1,q1,q2,q3,zr,zf,z1];exact hΨ _ (.inr ⟨m',a::l,rfl,f8,by rw[hd,hl'];rfl⟩)
def yP(o:Option (Pyl×List Tm))(r:AV):Prop :=
 match o with
 |some (p,l)=>∃m,r=.tup [Bc p,sl m 4 (C4 l),.bool true]
 |none=>∃x m l,r=.tup [Bc x,sl m 4 (C4 l),.bool false]
theorem A0k{p:Pyl}(h:TN p=true):1<=p.parts.length/\p.parts.length<=6/\p.data.length<=8/\-1<=p.goal/\p.goal<=7/\∀d∈p.data,0<=d/\d<=(p.parts.length:Int)+1:=by
 unfold TN at h;simp only[zf3z,Bool.not_eq_true',zg0z,decide_eq_false_iff_not,List.any_eq_false,zg2z]at h;refine⟨a_,a_,a_,a_,a_,λd hd=>?_⟩;have:=h.2.2 d hd
 try simp only[zg0z,decide_eq_false_iff_not]at this
 omega
theorem lh(u:Typ)(q:Tm)(hu:V7 u)(hv:KT u=0)(hq:RE q=0):∃r,pc Q Mp [Hn u,I8 q]=some r/\yP (Rw u q) r:=by
 have hT:=pc_rtag q hq;have htc:=G9 q;have huc:=Ax u;have hz:AV.agg [.str (bs []),sl (true,false) 1 [],.int .i64 0,sl (true,false) 1 []]=Bc zPy:=rfl;have hz0:AV.agg [.str (bs []),.vs true 0 [],.int .i64 0,.vs true 0 []]=Bc zPy:=rfl;unfold Rw;cases hc:Mz q with
 |none =>
  rw[hc]at hT;unfold WZ at hT;simp only[zg4z,yP];refine Bs x9 λΨ hΨ fr hl h0 h1=>?_;simp[x9]at hl h0 h1;simp[x9,hl,h0,h1,htc,huc,hT,B5,C0,hz];exact hΨ _ ⟨_,(true,false),[],rfl⟩
 |some nm =>
  rw[hc]at hT;unfold WZ at hT;simp only[zf7z];have hp:OI q (bs [112,97,105,114])=true:=by
   unfold Mz at hc;split at hc
   .assumption
   .cases hc
  obtain⟨a,b,e,ea,eb⟩:=Kq hq hp;rw[e];simp only;have hF:=A1B u nm hu.1;cases hf:VQ u nm with
  |none =>
   rw[hf]at hF;unfold TZ at hF;simp only[zg4z,yP];refine Bs x9 λΨ hΨ fr hl h0 h1=>?_;simp[x9]at hl h0 h1;simp[x9,hl,h0,h1,htc,huc,hT,hF,B5,C0,hz];exact hΨ _ ⟨_,(true,false),[],rfl⟩
  |some p =>
   rw[hf]at hF;unfold TZ at hF;simp only[zf7z];have hpm:p∈u.ps:=List.mem_of_find?_eq_some hf;have hnp:=A0k (Wc hv p hpm);obtain⟨r,hD,hres⟩:=aj (p.parts.length-1) b a_ eb;have hpl:((p.parts.length-1+1:Nat):Int)=(p.parts.length:Int):=by omega
   rw[hpl]at hD;have n1:KW (C4 q.kids) 1=some (I8 b):=by rw[e];rfl
   have hk:q.kids.length=2:=by rw[e];rfl
   have hbg:=G9 b;have hcb:=I7 b;rcases hres with ⟨m,l,rfl,hd⟩|⟨m,l,rfl,-,hd⟩
   .rw[hd];simp only[Option.map_some,yP];refine Bs x9 λΨ hΨ fr hl h0 h1=>?_;simp[x9]at hl h0 h1;simp[x9,hl,h0,h1,htc,huc,hT,hF,hD,n1,hk,hbg];exact hΨ _ ⟨_,rfl⟩
   .rw[hd];simp only[Option.map_none,yP];refine Bs x9 λΨ hΨ fr hl h0 h1=>?_;simp[x9]at hl h0 h1;simp[x9,hl,h0,h1,htc,huc,hT,hF,hD,n1,hk,hbg];exact hΨ _ ⟨_,m,l,rfl⟩
theorem wX(md:Gg)(l:List Int)(D6:l.length<=1000000)(hl0:∀d∈l,0<=d/\d<=1000000)(mo mp:Gg)(own ps:Be)(ho:own=[]\/own.length=2)(hps:ps.length<=1000000)(a0 a1 a2:AV)(b0 b1 b2:b9)(hb0:b0=[a0,a1,a2,sl md 1 (l.map (AV.int .i64))])(hb2:b2=[.int .i64 0,.int .i64 0,.vs true 0 []])(k0 g0:AV)(hk0:k0.cells=[k0]/\Cr ⟨[],[]⟩ true k0=some k0)(fr:Fr)(h:AH)(hB:h.boxes=[b0,b1,b2,[k0,g0,.vs true 0 []]])(hl:fr.length=79)(h1:B2 fr 1=sl mp 4 (C4 ps))(h3:B2 fr 3=.ptr 0 0)(h6:B2 fr 6=.ptr 2 0)(h8:B2 fr 8=sl mo 4 (C4 own))(h9:B2 fr 9=.ptr 3 0)(h10:B2 fr 10=.int .i64 0) :
  D7 (lp (A8 (m6 Q) (B1 Bm) AO) (fr,h)) λe B8 h'=>Kp AO.wr fr B8/\(e=.exit 0/\(∃Y7 v,h'.boxes=[b0,b1,b2,[k0,g0,v]]/\TU 4 (C4 Y7) v h'/\DA own ps l=some Y7)\/e=.ret/\(∃b3,h'.boxes=[b0,b1,b2,b3])/\B2 B8 7=.bool false/\DA own ps l=none):=by
 refine E9 rfl fr (λn fr h'=>∃(i:Nat),i+n=l.length/\B2 fr 10=.int .i64 (i:Nat)/\(∃Y7 v,h'.boxes=[b0,b1,b2,[k0,g0,v]]/\TU 4 (C4 Y7) v h'/\Y7.length=i/\DA own ps l=(DA own ps (l.drop i)).map (Y7++·))) ?_ l.length h ⟨0,a_,h10,⟨[],_,hB,VA 4 _,rfl,e_⟩⟩;rintro J Φ hJ hΦ n CT H1 K ⟨i,hi,k10,hr⟩;have C6:=K.1.trans hl;have k1:=D4 K 1 h1;have k3:=D4 K 3 h3;have k6:=D4 K 6 h6;have k8:=D4 K 8 h8;have k9:=D4 K 9 h9;clear K;by_cases C2:i<l.length
 .have L4:=J6 i a_;obtain⟨Y7,v,hb,hg,ha,hr⟩:=hr;obtain⟨bx,fams⟩:=H1;simp only at hb;subst hb;have hx:=J5 (f:=AV.int .i64) (zf0z C2);have hd0:=hl0 l[i] (zf6z C2);rw[zf5z C2]at hr;generalize l[i]=d at *
  subst hb2;subst hb0;have hwd:IntKind.i64.wrap (d-2)=d-2:=Y8 a_ a_;have app:∀t:Tm,∃v' F',N0 (B1 Bm) ⟨[[a0,a1,a2,sl md 1 (l.map (AV.int .i64))],b1,[.int .i64 0,.int .i64 0,.vs true 0 []],[k0,g0,v]],fams⟩ 4 56 v (sl (true,true) 4 [I8 t])=some (v',⟨[[a0,a1,a2,sl md 1 (l.map (AV.int .i64))],b1,[.int .i64 0,.int .i64 0,.vs true 0 []],[k0,g0,v]],F'⟩)/\v'.isTup=false/\v'.cells=[v']/\∀B,TU 4 (C4 (Y7++[t])) v' ⟨B,F'⟩:=by
   intro t;obtain⟨v',⟨B',F'⟩,hap,Jj,hB'⟩:=Sr (c:=B1 Bm) (bytes:=56) (x:=I8 t) hg rfl (true,true) oG oG;simp only at hB';subst hB';have hmv:C4 Y7++[I8 t]=C4 (Y7++[t]):=by rw[b5,b5];simp
   rw[hmv]at Jj;obtain⟨q1,q2,q3⟩:=GL Jj;exact⟨v',F',hap,q1,q2,λB=>Uz Jj rfl⟩
  obtain⟨g1,g2,g3⟩:=GL hg;have hk0c:=hk0.1;by_cases c1:d<2
  .by_cases c2:own=[]
   .have he:DA own ps l=none:=by rw[hr];simp[DA,c1,c2]
    subst c2;simp[AO,C6,k1,k3,k6,k8,k9,k10,C2,L4,hx,c1,B5,C0];exact hΦ _ _ _ (.inr ⟨rfl,⟨_,rfl⟩,d_,he⟩)
   .have hol:own.length=2:=ho.resolve_left c2;have c3:¬(ps.length:Int)<=d-2:=by omega
    have hdn:d.toNat<own.length:=by omega
    obtain⟨o,hoo⟩:∃o,own[d.toNat]?=some o:=⟨_,zf0z hdn⟩;have hn:=Ep hoo;have he:DA own ps l=(DA own ps (l.drop (i+1))).map ((Y7++[o])++·):=by
     rw[hr];simp only[DA,c2,c3,and_false,or_self,if_false,if_pos c1,hoo,zg5z];congr 1;funext x;simp
    obtain⟨v',F',hap,q1,q2,Jj⟩:=app o;have hz:(AV.vs true 0 []:AV).cells=[.vs true 0 []]:=rfl;simp[AO,C6,k1,k3,k6,k8,k9,k10,C2,L4,hx,c1,hol,c3,hwd,hd0.1,hn,A9,g1,g2,g3,hap,q1,q2];exact V6 hJ ⟨i+1,a_,d_,Y7++[o],v',rfl,Jj _,by simp[ha],he⟩
  .by_cases c3:(ps.length:Int)<=d-2
   .have he:DA own ps l=none:=by rw[hr];simp[DA,c3]
    simp[AO,C6,k1,k3,k6,k8,k9,k10,C2,L4,hx,c1,c3,hwd,B5,C0];exact hΦ _ _ _ (.inr ⟨rfl,⟨_,rfl⟩,d_,he⟩)
   .have hdn:(d-2).toNat<ps.length:=by omega
    obtain⟨o,hoo⟩:∃o,ps[(d-2).toNat]?=some o:=⟨_,zf0z hdn⟩;have hn:=Ep hoo;have hd2:2<=d:=by omega
    have he:DA own ps l=(DA own ps (l.drop (i+1))).map ((Y7++[o])++·):=by
     rw[hr];simp only[DA,c1,c3,false_and,or_self,if_false,hoo,zg5z];congr 1;funext x;simp
    obtain⟨v',F',hap,q1,q2,Jj⟩:=app o;simp[AO,C6,k1,k3,k6,k8,k9,k10,C2,L4,hx,c1,c3,hwd,hd2,hn,A9,g1,g2,g3,hap,q1,q2];exact V6 hJ ⟨i+1,a_,d_,Y7++[o],v',rfl,Jj _,by simp[ha],he⟩
 .obtain⟨Y7,v,hb,hg,ha,hr⟩:=hr;obtain⟨bx,fams⟩:=H1;simp only at hb;subst hb;subst hb0;rw[zf2z a_]at hr;simp[AO,C6,k1,k3,k6,k8,k9,k10,C2];exact hΦ _ _ _ (.inl ⟨rfl,Y7,v,rfl,hg,by simpa[DA]using hr⟩)
theorem ak(p:Pyl)(mp:Gg)(l:Be)(key:Tm)(hk:RE key=0)(hl:l.length<=1000000)(hd:p.data.length<=1000000)(hd0:∀d∈p.data,0<=d/\d<=1000000) :
  ∃r,pc Q Bm [Bc p,sl mp 4 (C4 l),I8 key]=some r/\yM p.goal (cd p l key) r:=by
 have i1:=JS key (bs [115,104,107]);have i2:=JS key (bs [115,107]);have ho:=tK hk;have Eg:=λmo own (ho':own=[]\/own.length=2)=>wX p.dm p.data hd hd0 mo mp own l ho' hl (.str p.tag) (sl p.pm 1 (p.parts.map (AV.int .i64))) (.int .i64 p.goal) (Bc p).cells (I8 key).cells [.int .i64 0,.int .i64 0,.vs true 0 []] rfl rfl (.int .i64 2) (.int .i64 p.goal) ⟨rfl,rfl⟩;rw[DI,I7]at Eg;have fz:∀{Y7:List AV} {v:AV} {h:AH},TU 4 Y7 v h->∃m,∀B,Cr ⟨B,h.fams⟩ true v=some (sl m 4 Y7):=by
  intro Y7 v h hg;rcases hg with ⟨rfl,rfl⟩|⟨AS,k,rfl,hk⟩
  .exact⟨(true,false),λB=>rfl⟩
  .refine⟨(false,true),λB=>?_⟩;rw[Sw];simp only[hk,zf7z];rw[if_pos ⟨trivial,a_,e_⟩,zf9z,List.take_length]
 unfold cd;have tail:∀(own:List Tm),KX key=own->∀(Ψ:AV->Prop),(∀r,yM p.goal (DA (KX key) l p.data) r->Ψ r)->∀(e:Ex) (B8:Fr) (h':AH),B8.length=79->B2 B8 9=.ptr 3 0->B2 B8 6=.ptr 2 0 ->
   (e=.exit 0/\(∃Y7 v,h'.boxes=[[.str p.tag,sl p.pm 1 (p.parts.map (AV.int .i64)),.int .i64 p.goal,sl p.dm 1 (p.data.map (AV.int .i64))],[.int .i64 key.kind,.str key.name,.int .i64 key.sort,sl key.cm 4 (C4 key.kids)],[.int .i64 0,.int .i64 0,.vs true 0 []],[.int .i64 2,.int .i64 p.goal,v]]/\TU 4 (C4 Y7) v h'/\DA own l p.data=some Y7)) ->
   D7 (A8 (m6 Q) (B1 Bm) (.seq (rG [A 78 3 9,oW 3 6 78,C 7 (.bool true)]) .ret) (B8,h')) (cO [UB.cell 6 true 3,UB.tmp 7] Ψ):=by
  rintro own hw Ψ hΨ e B8 h' hl' k9 k6 ⟨rfl,Y7,v,hb,hg,he⟩;obtain⟨bx,fams⟩:=h';simp only at hb;subst hb;obtain⟨g1,g2,g3⟩:=GL hg;obtain⟨m,hm⟩:=fz hg;simp only at hm;rw[hw,he]at hΨ;simp[hl',k9,k6,hm];exact hΨ _ ⟨m,rfl⟩
 cases c1:OI key (bs [115,104,107])with
 |true =>
  have hw:KX key=key.kids:=by unfold KX;rw[if_pos c1]
  have ho':=ho;rw[hw]at ho';rw[c1]at i1;have c2:OI key (bs [115,107])=false:=by
   obtain⟨_,hn⟩:=Dq.1 c1;unfold OI;rw[decide_eq_false_iff_not];rintro⟨_,h⟩;rw[hn]at h;revert h;decide
  rw[c2]at i2;have htc:=G9 key;refine XT Af λΨ hΨ fr hl h0 h1 h2=>?_;simp[Af]at hl h0 h1 h2;simp[Af,hl,h0,h1,h2,htc,i1,i2,B5,C0];refine D7.mono (Eg key.cm key.kids ho' _ _ ?_ ?_ ?_ ?_ ?_ ?_ ?_ ?_) ?_<;>first|(simp[hl,h0,h1,h2];done)|skip
  rintro e B8 h' ⟨K,hq⟩;have hl':B8.length=79:=K.1.trans c_;have k9:B2 B8 9=.ptr 3 0:=D4 K 9 c_;have k6:B2 B8 6=.ptr 2 0:=D4 K 6 c_;rcases hq with ⟨rfl,hq⟩|⟨rfl,⟨b3,hb⟩,h7,he⟩
  .have:=tail _ hw Ψ hΨ _ B8 h' hl' k9 k6 ⟨rfl,hq⟩;simpa using this
  .rw[hw,he]at hΨ;simp[hl',k6,hb,h7];exact hΨ _ ⟨⟨0,0,(true,false),[]⟩,rfl⟩
 |false =>
  rw[c1]at i1;cases c2:OI key (bs [115,107])with
  |true =>
   obtain⟨hk3,hkn⟩:=Dq.1 c2;obtain⟨f1,_,_⟩:=MJ hk hk3;obtain⟨a,ea⟩:=SP (.inr (.inr hkn)) f1;have hw:KX key=[a,a]:=by unfold KX;rw[if_neg (by rw[c1];simp),if_pos c2,ea]
   have n0:KW (C4 key.kids) 0=some (I8 a):=by rw[ea];rfl
   rw[c2]at i2;have dv:sl (true,true) 4 (C4 [a,a])=sl (true,true) 4 [I8 a,I8 a]:=rfl;have htc:=G9 key;refine XT Af λΨ hΨ fr hl h0 h1 h2=>?_;simp[Af]at hl h0 h1 h2;simp[Af,hl,h0,h1,h2,htc,i1,i2,n0,B5,C0,A9];refine D7.mono (Eg (true,true) [a,a] (.inr rfl) _ _ ?_ ?_ ?_ ?_ ?_ ?_ ?_ ?_) ?_<;>first|(simp[hl,h0,h1,h2,dv];done)|skip
   rintro e B8 h' ⟨K,hq⟩;have hl':B8.length=79:=K.1.trans c_;have k9:B2 B8 9=.ptr 3 0:=D4 K 9 c_;have k6:B2 B8 6=.ptr 2 0:=D4 K 6 c_;rcases hq with ⟨rfl,hq⟩|⟨rfl,⟨b3,hb⟩,h7,he⟩
   .have:=tail _ hw Ψ hΨ _ B8 h' hl' k9 k6 ⟨rfl,hq⟩;simpa using this
   .rw[hw,he]at hΨ;simp[hl',k6,hb,h7];exact hΨ _ ⟨⟨0,0,(true,false),[]⟩,rfl⟩
  |false =>
   have hw:KX key=[]:=by unfold KX;rw[if_neg (by rw[c1];simp),if_neg (by rw[c2];simp)]
   rw[c2]at i2;have dv:sl (true,false) 4 (C4 [])=.vs true 0 []:=rfl;have htc:=G9 key;refine XT Af λΨ hΨ fr hl h0 h1 h2=>?_;simp[Af]at hl h0 h1 h2;simp[Af,hl,h0,h1,h2,htc,i1,i2,B5,C0];refine D7.mono (Eg (true,false) [] (.inl rfl) _ _ ?_ ?_ ?_ ?_ ?_ ?_ ?_ ?_) ?_<;>first|(simp[hl,h0,h1,h2,dv];done)|skip
   rintro e B8 h' ⟨K,hq⟩;have hl':B8.length=79:=K.1.trans c_;have k9:B2 B8 9=.ptr 3 0:=D4 K 9 c_;have k6:B2 B8 6=.ptr 2 0:=D4 K 6 c_;rcases hq with ⟨rfl,hq⟩|⟨rfl,⟨b3,hb⟩,h7,he⟩
   .have:=tail _ hw Ψ hΨ _ B8 h' hl' k9 k6 ⟨rfl,hq⟩;simpa using this
   .rw[hw,he]at hΨ;simp[hl',k6,hb,h7];exact hΨ _ ⟨⟨0,0,(true,false),[]⟩,rfl⟩
end Go.Abs.Q
