/- A part of the proof. -/
import Derived.Test.YtnnjamknplefbaaGreatDoorTS45
import Derived.KernelRfl
set_option linter.all false
open List renaming not_mem_nil->zf0z,mem_cons->zf1z
set_option linter.all false
set_option maxRecDepth 100000
namespace Go.Abs.Q
def d41:ToldR:=⟨104,uf,hp10,(.agg Ti),hp11⟩
theorem yR:rc Qr d41.f d41.args d41.h=some (d41.r,d41.h'):=by
 refine S4 (K:=Bp [] [] X6) (R5 ?_ ?_ Q4) 3000 d41 ?_
 .intro x hx;cases hx
 .intro x hx;cases hx
 .kernel_rfl
def d39:ToldR:=⟨104,ue,hp6,(.agg gE),hp7⟩
theorem yP:rc Qr d39.f d39.args d39.h=some (d39.r,d39.h'):=by
 refine S4 (K:=Bp [] [] X6) (R5 ?_ ?_ Q4) 3000 d39 ?_
 .intro x hx;cases hx
 .intro x hx;cases hx
 .kernel_rfl
def d37:ToldR:=⟨104,ft,hp2,(.agg gD),hp3⟩
theorem yN:rc Qr d37.f d37.args d37.h=some (d37.r,d37.h'):=by
 refine S4 (K:=Bp [] [] X6) (R5 ?_ ?_ Q4) 3000 d37 ?_
 .intro x hx;cases hx
 .intro x hx;cases hx
 .kernel_rfl
def d38:ToldR:=⟨283,[(.ptr 40 0),Wl],hp4,(.bool true),hp5⟩
theorem yO:rc Qr d38.f d38.args d38.h=some (d38.r,d38.h'):=by
 refine S4 (K:=Bp [] [] X6) (R5 ?_ ?_ Q4) 3000 d38 ?_
 .intro x hx;cases hx
 .intro x hx;cases hx
 .kernel_rfl
def d40:ToldR:=⟨283,[(.ptr 118 0),Wl],hp8,(.bool true),hp9⟩
theorem yQ:rc Qr d40.f d40.args d40.h=some (d40.r,d40.h'):=by
 refine S4 (K:=Bp [] [] X6) (R5 ?_ ?_ Q4) 3000 d40 ?_
 .intro x hx;cases hx
 .intro x hx;cases hx
 .kernel_rfl
def d42:ToldR:=⟨280,[(.ptr 200 0),(I 0)],hp12,(.bool true),hp13⟩
theorem yS:rc Qr d42.f d42.args d42.h=some (d42.r,d42.h'):=by
 refine S4 (K:=Bp [] [] X6) (R5 ?_ ?_ Q4) 3000 d42 ?_
 .intro x hx;cases hx
 .intro x hx;cases hx
 .kernel_rfl
def d45:ToldR:=⟨280,[(.ptr 307 0),(I 0)],hp18,(.bool true),hp19⟩
theorem yV:rc Qr d45.f d45.args d45.h=some (d45.r,d45.h'):=by
 refine S4 (K:=Bp [] [] X6) (R5 ?_ ?_ Q4) 3000 d45 ?_
 .intro x hx;cases hx
 .intro x hx;cases hx
 .kernel_rfl
def d46:ToldR:=⟨40,uq,hp20,(.tup [(.sl 9 27 0 27),(.vs true 0 []),(.bool true)]),wX⟩
theorem yW:rc Qr d46.f d46.args d46.h=some (d46.r,d46.h'):=by
 refine S4 (K:=Bp [] [d44,d43,d41,d39,d37,d38,d40,d42,d45] X6) (R5 ?_ ?_ Q4) 3000 d46 ?_
 .intro x hx;cases hx
 .simp only[zf1z,zf0z,or_false];rintro x (rfl|rfl|rfl|rfl|rfl|rfl|rfl|rfl|rfl)
  .exact yU
  .exact yT
  .exact yR
  .exact yP
  .exact yN
  .exact yO
  .exact yQ
  .exact yS
  .exact yV
 .kernel_rfl
def d47:ToldR:=⟨14,fq,hp22,(.tup [(.vs true 0 []),(I 0)]),wX⟩
theorem yX:rc Qr d47.f d47.args d47.h=some (d47.r,d47.h'):=by
 refine S4 (K:=Bp [d36] [d46] X6) (R5 ?_ ?_ Q4) 3000 d47 ?_
 .simp only[zf1z,zf0z,or_false];rintro x rfl
  .exact Yd
 .simp only[zf1z,zf0z,or_false];rintro x rfl
  .exact yW
 .kernel_rfl
def d1:Told:=⟨90,fp,(I 0)⟩
theorem told_1:pc Qr d1.f d1.args=some d1.r:=by
 refine L7 (K:=j9 [] X6) (L6 ?_ Q4) 3000 ?_
 .intro x hx;cases hx
 .kernel_rfl
end Go.Abs.Q
