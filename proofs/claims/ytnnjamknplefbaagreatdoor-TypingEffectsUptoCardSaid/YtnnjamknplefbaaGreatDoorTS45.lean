/- A part of the proof. -/
import Derived.Test.YtnnjamknplefbaaGreatDoorTS44
import Derived.KernelRfl
set_option linter.all false
open List renaming not_mem_nil->zf0z,mem_cons->zf1z
set_option linter.all false
set_option maxRecDepth 100000
namespace Go.Abs.Q
def d54:ToldR:=⟨106,[(.ptr 571 0),ce,jk],hp35,(.vs true 0 []),hp36⟩
theorem ye:rc Qr d54.f d54.args d54.h=some (d54.r,d54.h'):=by
 refine S4 (K:=Bp [] [] X6) (R5 ?_ ?_ Q4) 3000 d54 ?_
 .intro x hx;cases hx
 .intro x hx;cases hx
 .kernel_rfl
def d52:ToldR:=⟨104,uf,hp31,(.agg ju),hp32⟩
theorem yc:rc Qr d52.f d52.args d52.h=some (d52.r,d52.h'):=by
 refine S4 (K:=Bp [] [] X6) (R5 ?_ ?_ Q4) 3000 d52 ?_
 .intro x hx;cases hx
 .intro x hx;cases hx
 .kernel_rfl
def d50:ToldR:=⟨104,ue,hp27,(.agg jt),hp28⟩
theorem ya:rc Qr d50.f d50.args d50.h=some (d50.r,d50.h'):=by
 refine S4 (K:=Bp [] [] X6) (R5 ?_ ?_ Q4) 3000 d50 ?_
 .intro x hx;cases hx
 .intro x hx;cases hx
 .kernel_rfl
def d48:ToldR:=⟨104,ft,hp23,(.agg jr),hp24⟩
theorem yY:rc Qr d48.f d48.args d48.h=some (d48.r,d48.h'):=by
 refine S4 (K:=Bp [] [] X6) (R5 ?_ ?_ Q4) 3000 d48 ?_
 .intro x hx;cases hx
 .intro x hx;cases hx
 .kernel_rfl
def d49:ToldR:=⟨283,[(.ptr 411 0),Wl],hp25,(.bool true),hp26⟩
theorem yZ:rc Qr d49.f d49.args d49.h=some (d49.r,d49.h'):=by
 refine S4 (K:=Bp [] [] X6) (R5 ?_ ?_ Q4) 3000 d49 ?_
 .intro x hx;cases hx
 .intro x hx;cases hx
 .kernel_rfl
def d51:ToldR:=⟨283,[(.ptr 489 0),Wl],hp29,(.bool true),hp30⟩
theorem yb:rc Qr d51.f d51.args d51.h=some (d51.r,d51.h'):=by
 refine S4 (K:=Bp [] [] X6) (R5 ?_ ?_ Q4) 3000 d51 ?_
 .intro x hx;cases hx
 .intro x hx;cases hx
 .kernel_rfl
def d53:ToldR:=⟨280,[(.ptr 571 0),(I 0)],hp33,(.bool true),hp34⟩
theorem yd:rc Qr d53.f d53.args d53.h=some (d53.r,d53.h'):=by
 refine S4 (K:=Bp [] [] X6) (R5 ?_ ?_ Q4) 3000 d53 ?_
 .intro x hx;cases hx
 .intro x hx;cases hx
 .kernel_rfl
def d56:ToldR:=⟨280,[(.ptr 678 0),(I 0)],hp39,(.bool true),hp40⟩
theorem yg:rc Qr d56.f d56.args d56.h=some (d56.r,d56.h'):=by
 refine S4 (K:=Bp [] [] X6) (R5 ?_ ?_ Q4) 3000 d56 ?_
 .intro x hx;cases hx
 .intro x hx;cases hx
 .kernel_rfl
def d57:ToldR:=⟨40,[Oo,tz,cZ,(I 1)],hp41,(.tup [(.sl 51 27 0 27),(.vs true 0 []),(.bool true)]),qf⟩
theorem yh:rc Qr d57.f d57.args d57.h=some (d57.r,d57.h'):=by
 refine S4 (K:=Bp [] [d55,d54,d52,d50,d48,d49,d51,d53,d56] X6) (R5 ?_ ?_ Q4) 3000 d57 ?_
 .intro x hx;cases hx
 .simp only[zf1z,zf0z,or_false];rintro x (rfl|rfl|rfl|rfl|rfl|rfl|rfl|rfl|rfl)
  .exact yf
  .exact ye
  .exact yc
  .exact ya
  .exact yY
  .exact yZ
  .exact yb
  .exact yd
  .exact yg
 .kernel_rfl
def d58:ToldR:=⟨15,[Oo,(.agg fW),cZ],wX,(.tup [(.sl 51 27 0 27),(I 0)]),qf⟩
theorem yi:rc Qr d58.f d58.args d58.h=some (d58.r,d58.h'):=by
 refine S4 (K:=Bp [d36] [d57] X6) (R5 ?_ ?_ Q4) 3000 d58 ?_
 .simp only[zf1z,zf0z,or_false];rintro x rfl
  .exact Yd
 .simp only[zf1z,zf0z,or_false];rintro x rfl
  .exact yh
 .kernel_rfl
def d44:ToldR:=⟨104,ug,hp16,(.agg Tj),hp17⟩
theorem yU:rc Qr d44.f d44.args d44.h=some (d44.r,d44.h'):=by
 refine S4 (K:=Bp [] [] X6) (R5 ?_ ?_ Q4) 3000 d44 ?_
 .intro x hx;cases hx
 .intro x hx;cases hx
 .kernel_rfl
def d43:ToldR:=⟨106,[(.ptr 200 0),ce,jk],hp14,(.vs true 0 []),hp15⟩
theorem yT:rc Qr d43.f d43.args d43.h=some (d43.r,d43.h'):=by
 refine S4 (K:=Bp [] [] X6) (R5 ?_ ?_ Q4) 3000 d43 ?_
 .intro x hx;cases hx
 .intro x hx;cases hx
 .kernel_rfl
end Go.Abs.Q
