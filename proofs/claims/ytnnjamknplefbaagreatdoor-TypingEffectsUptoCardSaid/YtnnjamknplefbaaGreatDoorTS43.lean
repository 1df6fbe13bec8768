/- A part of the proof. -/
import Derived.Test.YtnnjamknplefbaaGreatDoorTS42
import Derived.KernelRfl
set_option linter.all false
open List renaming not_mem_nil->zf0z,mem_cons->zf1z
set_option linter.all false
set_option maxRecDepth 100000
namespace Go.Abs.Q
def d32:Told:=⟨265,[Tf,A0F,(I 1),(I 1)],It⟩
theorem yJ:pc Qr d32.f d32.args=some d32.r:=by
 refine L7 (K:=j9 [mt,d14,d20,d30,d29] X6) (L6 ?_ Q4) 3000 ?_
 .simp only[zf1z,zf0z,or_false];rintro x (rfl|rfl|rfl|rfl|rfl)
  .exact PN
  .exact RX
  .exact RY
  .exact Yc
  .exact Yb
 .kernel_rfl
def d31:Told:=⟨265,[Tf,A0E,(I 1),(I 1)],Qd⟩
theorem yI:pc Qr d31.f d31.args=some d31.r:=by
 refine L7 (K:=j9 [mt,d14,d20,d30,d29] X6) (L6 ?_ Q4) 3000 ?_
 .simp only[zf1z,zf0z,or_false];rintro x (rfl|rfl|rfl|rfl|rfl)
  .exact PN
  .exact RX
  .exact RY
  .exact Yc
  .exact Yb
 .kernel_rfl
def d16:Told:=⟨255,uj,cf⟩
theorem xz:pc Qr d16.f d16.args=some d16.r:=by
 refine L7 (K:=j9 [] X6) (L6 ?_ Q4) 3000 ?_
 .intro x hx;cases hx
 .kernel_rfl
def d15:Told:=⟨384,uj,(I 0)⟩
theorem xy:pc Qr d15.f d15.args=some d15.r:=by
 refine L7 (K:=j9 [d4] X6) (L6 ?_ Q4) 3000 ?_
 .simp only[zf1z,zf0z,or_false];rintro x rfl
  .exact fQ
 .kernel_rfl
def d21:Told:=⟨93,[Tf,(I 1),(I 1),jb],(.bool true)⟩
theorem jQ:pc Qr d21.f d21.args=some d21.r:=by
 refine L7 (K:=j9 [mt,d14,d20,d16,d15] X6) (L6 ?_ Q4) 3000 ?_
 .simp only[zf1z,zf0z,or_false];rintro x (rfl|rfl|rfl|rfl|rfl)
  .exact PN
  .exact RX
  .exact RY
  .exact xz
  .exact xy
 .kernel_rfl
def d33:Told:=⟨97,[Tf,(I 1)],ce⟩
theorem yK:pc Qr d33.f d33.args=some d33.r:=by
 refine L7 (K:=j9 [mt,d14,d20,d30,d29,d32,d31,d21] X6) (L6 ?_ Q4) 3000 ?_
 .simp only[zf1z,zf0z,or_false];rintro x (rfl|rfl|rfl|rfl|rfl|rfl|rfl|rfl)
  .exact PN
  .exact RX
  .exact RY
  .exact Yc
  .exact Yb
  .exact yJ
  .exact yI
  .exact jQ
 .kernel_rfl
def d22:Told:=⟨252,[A0e,(I 0),(I 0)],A0Z⟩
theorem jR:pc Qr d22.f d22.args=some d22.r:=by
 refine L7 (K:=j9 [] X6) (L6 ?_ Q4) 3000 ?_
 .intro x hx;cases hx
 .kernel_rfl
def d25:Told:=⟨388,[A0a,Ku],(.bool false)⟩
theorem yF:pc Qr d25.f d25.args=some d25.r:=by
 refine L7 (K:=j9 [] X6) (L6 ?_ Q4) 3000 ?_
 .intro x hx;cases hx
 .kernel_rfl
def d26:Told:=⟨327,[(.vs false 4 [MR,Qe,Lm,Ln,KR,Lo]),A0b],A0a⟩
theorem yG:pc Qr d26.f d26.args=some d26.r:=by
 refine L7 (K:=j9 [d25] X6) (L6 ?_ Q4) 3000 ?_
 .simp only[zf1z,zf0z,or_false];rintro x rfl
  .exact yF
 .kernel_rfl
def d24:Told:=⟨255,uh,A0b⟩
theorem yE:pc Qr d24.f d24.args=some d24.r:=by
 refine L7 (K:=j9 [] X6) (L6 ?_ Q4) 3000 ?_
 .intro x hx;cases hx
 .kernel_rfl
def d23:Told:=⟨384,uh,(I 0)⟩
theorem yD:pc Qr d23.f d23.args=some d23.r:=by
 refine L7 (K:=j9 [] X6) (L6 ?_ Q4) 3000 ?_
 .intro x hx;cases hx
 .kernel_rfl
def d27:Told:=⟨93,[Tf,(I 0),(I 0),jb],(.bool true)⟩
theorem jS:pc Qr d27.f d27.args=some d27.r:=by
 refine L7 (K:=j9 [mt,d22,d26,d24,d23] X6) (L6 ?_ Q4) 3000 ?_
 .simp only[zf1z,zf0z,or_false];rintro x (rfl|rfl|rfl|rfl|rfl)
  .exact PN
  .exact jR
  .exact yG
  .exact yE
  .exact yD
 .kernel_rfl
end Go.Abs.Q
