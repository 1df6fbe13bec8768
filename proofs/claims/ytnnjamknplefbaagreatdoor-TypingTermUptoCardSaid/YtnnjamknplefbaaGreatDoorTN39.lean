/- A part of the proof. -/
import Derived.Test.YtnnjamknplefbaaGreatDoorTN38
import Derived.KernelRfl
set_option linter.all false
open List renaming not_mem_nil->zf0z,mem_cons->zf1z
set_option linter.all false
set_option maxRecDepth 100000
namespace Go.Abs.Q
def d16:Told:=⟨255,A2l,mv⟩
theorem told_16:pc Qr d16.f d16.args=some d16.r:=by
 refine K9 (K:=AY [] i8) (K8 ?_ Q4) 3000 ?_
 .intro x hx;cases hx
 .kernel_rfl
def d15:Told:=⟨384,A2l,(I 0)⟩
theorem told_15:pc Qr d15.f d15.args=some d15.r:=by
 refine K9 (K:=AY [d4] i8) (K8 ?_ Q4) 3000 ?_
 .simp only[zf1z,zf0z,or_false];rintro x rfl
  .exact ql
 .kernel_rfl
def d21:Told:=⟨93,[bu,(I 1),(I 1),ua],(.bool true)⟩
theorem uP:pc Qr d21.f d21.args=some d21.r:=by
 refine K9 (K:=AY [yD,d14,d20,d16,d15] i8) (K8 ?_ Q4) 3000 ?_
 .simp only[zf1z,zf0z,or_false];rintro x (rfl|rfl|rfl|rfl|rfl)
  .exact Wy
  .exact ZH
  .exact ZI
  .exact told_16
  .exact told_15
 .kernel_rfl
def d33:Told:=⟨97,[bu,(I 1)],mu⟩
theorem told_33:pc Qr d33.f d33.args=some d33.r:=by
 refine K9 (K:=AY [yD,d14,d20,d30,d29,d32,d31,d21] i8) (K8 ?_ Q4) 3000 ?_
 .simp only[zf1z,zf0z,or_false];rintro x (rfl|rfl|rfl|rfl|rfl|rfl|rfl|rfl)
  .exact Wy
  .exact ZH
  .exact ZI
  .exact iZ
  .exact iY
  .exact told_32
  .exact told_31
  .exact uP
 .kernel_rfl
def d22:Told:=⟨252,[yv468,(I 0),(I 0)],yv420⟩
theorem uQ:pc Qr d22.f d22.args=some d22.r:=by
 refine K9 (K:=AY [] i8) (K8 ?_ Q4) 3000 ?_
 .intro x hx;cases hx
 .kernel_rfl
def d25:Told:=⟨388,[yv436,Rb],(.bool false)⟩
theorem told_25:pc Qr d25.f d25.args=some d25.r:=by
 refine K9 (K:=AY [] i8) (K8 ?_ Q4) 3000 ?_
 .intro x hx;cases hx
 .kernel_rfl
def d26:Told:=⟨327,[(.vs false 4 [TS,YW,Sk,Sl,Qb,Sm]),yv442],yv436⟩
theorem told_26:pc Qr d26.f d26.args=some d26.r:=by
 refine K9 (K:=AY [d25] i8) (K8 ?_ Q4) 3000 ?_
 .simp only[zf1z,zf0z,or_false];rintro x rfl
  .exact told_25
 .kernel_rfl
def d24:Told:=⟨255,A2j,yv442⟩
theorem told_24:pc Qr d24.f d24.args=some d24.r:=by
 refine K9 (K:=AY [] i8) (K8 ?_ Q4) 3000 ?_
 .intro x hx;cases hx
 .kernel_rfl
def d23:Told:=⟨384,A2j,(I 0)⟩
theorem told_23:pc Qr d23.f d23.args=some d23.r:=by
 refine K9 (K:=AY [] i8) (K8 ?_ Q4) 3000 ?_
 .intro x hx;cases hx
 .kernel_rfl
def d27:Told:=⟨93,[bu,(I 0),(I 0),ua],(.bool true)⟩
theorem uR:pc Qr d27.f d27.args=some d27.r:=by
 refine K9 (K:=AY [yD,d22,d26,d24,d23] i8) (K8 ?_ Q4) 3000 ?_
 .simp only[zf1z,zf0z,or_false];rintro x (rfl|rfl|rfl|rfl|rfl)
  .exact Wy
  .exact uQ
  .exact told_26
  .exact told_24
  .exact told_23
 .kernel_rfl
def d28:Told:=⟨97,[bu,(I 0)],A19⟩
theorem told_28:pc Qr d28.f d28.args=some d28.r:=by
 refine K9 (K:=AY [yD,d27,d22] i8) (K8 ?_ Q4) 3000 ?_
 .simp only[zf1z,zf0z,or_false];rintro x (rfl|rfl|rfl)
  .exact Wy
  .exact uR
  .exact uQ
 .kernel_rfl
def d3:Told:=⟨252,[(.agg [(S [80]),qn,qp,(.vs false 1 [(S [116])]),A15,A11,(S [80]),qn,qp,(.vs false 1 [(S [116])]),ur,um]),(I 0),(I 0)],yv420⟩
theorem told_3:pc Qr d3.f d3.args=some d3.r:=by
 refine K9 (K:=AY [] i8) (K8 ?_ Q4) 3000 ?_
 .intro x hx;cases hx
 .kernel_rfl
def d8:Told:=⟨388,[yv464,Rb],(.bool false)⟩
theorem told_8:pc Qr d8.f d8.args=some d8.r:=by
 refine K9 (K:=AY [] i8) (K8 ?_ Q4) 3000 ?_
 .intro x hx;cases hx
 .kernel_rfl
def d7:Told:=⟨388,[(.vs false 4 [bv,bz,TS,qo,fJ,fL,fM,fN,fO]),Rb],(.bool false)⟩
theorem told_7:pc Qr d7.f d7.args=some d7.r:=by
 refine K9 (K:=AY [] i8) (K8 ?_ Q4) 3000 ?_
 .intro x hx;cases hx
 .kernel_rfl
def d9:Told:=⟨327,[(.vs false 4 [TS,fJ,fL,fM,fN,fO]),mv],yv464⟩
theorem told_9:pc Qr d9.f d9.args=some d9.r:=by
 refine K9 (K:=AY [d8,d7] i8) (K8 ?_ Q4) 3000 ?_
 .simp only[zf1z,zf0z,or_false];rintro x (rfl|rfl)
  .exact told_8
  .exact told_7
 .kernel_rfl
def d6:Told:=⟨255,A2k,mv⟩
theorem told_6:pc Qr d6.f d6.args=some d6.r:=by
 refine K9 (K:=AY [] i8) (K8 ?_ Q4) 3000 ?_
 .intro x hx;cases hx
 .kernel_rfl
end Go.Abs.Q
