/- A part of the proof. -/
import Derived.Test.YtnnjamknplefbaaGreatDoorTN37
import Derived.KernelRfl
set_option linter.all false
open List renaming not_mem_nil->zf0z,mem_cons->zf1z
set_option linter.all false
set_option maxRecDepth 100000
namespace Go.Abs.Q
def d59:ToldR:=⟨104,rJ,hp43,(.agg uz),hp44⟩
theorem told_59:rc Qr d59.f d59.args d59.h=some (d59.r,d59.h'):=by
 refine T4 (K:=Dr [] [] i8) (S3 ?_ ?_ Q4) 3000 d59 ?_
 .intro x hx;cases hx
 .intro x hx;cases hx
 .kernel_rfl
def d60:ToldR:=⟨283,[(.ptr 781 0),fQ],hp45,(.bool false),hp46⟩
theorem told_60:rc Qr d60.f d60.args d60.h=some (d60.r,d60.h'):=by
 refine T4 (K:=Dr [] [] i8) (S3 ?_ ?_ Q4) 3000 d60 ?_
 .intro x hx;cases hx
 .intro x hx;cases hx
 .kernel_rfl
def d61:ToldR:=⟨40,A2q,hp47,(.tup [r_,r_,(.bool false)]),hp46⟩
theorem told_61:rc Qr d61.f d61.args d61.h=some (d61.r,d61.h'):=by
 refine T4 (K:=Dr [] [d59,d60] i8) (S3 ?_ ?_ Q4) 3000 d61 ?_
 .intro x hx;cases hx
 .simp only[zf1z,zf0z,or_false];rintro x (rfl|rfl)
  .exact told_59
  .exact told_60
 .kernel_rfl
def d11:Told:=⟨262,A2Y,(.agg [(I 3),(S [101,110,99]),(I 0),yv355])⟩
theorem told_11:pc Qf d11.f d11.args=some d11.r:=by
 refine K9 (K:=AY [] i8) (K8 ?_ zA) 3000 ?_
 .intro x hx;cases hx
 .kernel_rfl
def d12:Told:=⟨262,yvl92,yv85⟩
theorem told_12:pc Qf d12.f d12.args=some d12.r:=by
 refine K9 (K:=AY [] i8) (K8 ?_ zA) 3000 ?_
 .intro x hx;cases hx
 .kernel_rfl
def yD:Told:=⟨185,[bu],(.agg [(S [80]),qn,qp,(.vs false 1 [(S [116])]),ur,yv305])⟩
theorem told_13:pc W yD.f yD.args=some yD.r:=by
 refine K9 (K:=AY [d12,d11] noK) (K8 ?_ noK_ok) 3000 ?_
 .simp only[zf1z,zf0z,or_false];rintro x (rfl|rfl)
  .exact ofQf rfl told_12
  .exact ofQf rfl told_11
 .kernel_rfl
theorem Wy:pc Qr yD.f yD.args=some yD.r:=conR rfl told_13
def d14:Told:=⟨252,[yv468,(I 1),(I 1)],(.vs false 4 [yv144,fL,fM,fO,fN,Sn])⟩
theorem ZH:pc Qr d14.f d14.args=some d14.r:=by
 refine K9 (K:=AY [] i8) (K8 ?_ Q4) 3000 ?_
 .intro x hx;cases hx
 .kernel_rfl
def d19:Told:=⟨388,[yv465,YW],(.bool false)⟩
theorem told_19:pc Qr d19.f d19.args=some d19.r:=by
 refine K9 (K:=AY [] i8) (K8 ?_ Q4) 3000 ?_
 .intro x hx;cases hx
 .kernel_rfl
def d18:Told:=⟨388,[(.vs false 4 [bv,bz,qo,Rb,Sk,Sl,Qb,Sm,Sn]),YW],(.bool false)⟩
theorem told_18:pc Qr d18.f d18.args=some d18.r:=by
 refine K9 (K:=AY [] i8) (K8 ?_ Q4) 3000 ?_
 .intro x hx;cases hx
 .kernel_rfl
def d17:Told:=⟨388,[(.vs false 4 [bv,bz,Rb,Sk,Sl,Qb,Sm,Sn]),TS],(.bool false)⟩
theorem told_17:pc Qr d17.f d17.args=some d17.r:=by
 refine K9 (K:=AY [] i8) (K8 ?_ Q4) 3000 ?_
 .intro x hx;cases hx
 .kernel_rfl
def d20:Told:=⟨327,[(.vs false 4 [Rb,Sk,Sl,Qb,Sm,Sn]),mv],yv465⟩
theorem ZI:pc Qr d20.f d20.args=some d20.r:=by
 refine K9 (K:=AY [d19,d18,d17] i8) (K8 ?_ Q4) 3000 ?_
 .simp only[zf1z,zf0z,or_false];rintro x (rfl|rfl|rfl)
  .exact told_19
  .exact told_18
  .exact told_17
 .kernel_rfl
def d30:Told:=⟨255,A2m,mv⟩
theorem iZ:pc Qr d30.f d30.args=some d30.r:=by
 refine K9 (K:=AY [] i8) (K8 ?_ Q4) 3000 ?_
 .intro x hx;cases hx
 .kernel_rfl
def d4:Told:=⟨424,A2Y,(I 0)⟩
theorem ql:pc Qr d4.f d4.args=some d4.r:=by
 refine K9 (K:=AY [] i8) (K8 ?_ Q4) 3000 ?_
 .intro x hx;cases hx
 .kernel_rfl
def d29:Told:=⟨384,A2m,(I 0)⟩
theorem iY:pc Qr d29.f d29.args=some d29.r:=by
 refine K9 (K:=AY [d4] i8) (K8 ?_ Q4) 3000 ?_
 .simp only[zf1z,zf0z,or_false];rintro x rfl
  .exact ql
 .kernel_rfl
def d32:Told:=⟨265,[bu,yv169,(I 1),(I 1)],OH⟩
theorem told_32:pc Qr d32.f d32.args=some d32.r:=by
 refine K9 (K:=AY [yD,d14,d20,d30,d29] i8) (K8 ?_ Q4) 3000 ?_
 .simp only[zf1z,zf0z,or_false];rintro x (rfl|rfl|rfl|rfl|rfl)
  .exact Wy
  .exact ZH
  .exact ZI
  .exact iZ
  .exact iY
 .kernel_rfl
def d31:Told:=⟨265,[bu,yv164,(I 1),(I 1)],YV⟩
theorem told_31:pc Qr d31.f d31.args=some d31.r:=by
 refine K9 (K:=AY [yD,d14,d20,d30,d29] i8) (K8 ?_ Q4) 3000 ?_
 .simp only[zf1z,zf0z,or_false];rintro x (rfl|rfl|rfl|rfl|rfl)
  .exact Wy
  .exact ZH
  .exact ZI
  .exact iZ
  .exact iY
 .kernel_rfl
end Go.Abs.Q
