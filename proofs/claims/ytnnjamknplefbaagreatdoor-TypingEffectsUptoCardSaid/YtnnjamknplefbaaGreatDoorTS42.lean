/- A part of the proof. -/
import Derived.Test.YtnnjamknplefbaaGreatDoorTS41
import Derived.KernelRfl
set_option linter.all false
open List renaming not_mem_nil->zf0z,mem_cons->zf1z
set_option linter.all false
set_option maxRecDepth 100000
namespace Go.Abs.Q
def d59:ToldR:=⟨104,ft,hp43,(.agg jw),hp44⟩
theorem yj:rc Qr d59.f d59.args d59.h=some (d59.r,d59.h'):=by
 refine S4 (K:=Bp [] [] X6) (R5 ?_ ?_ Q4) 3000 d59 ?_
 .intro x hx;cases hx
 .intro x hx;cases hx
 .kernel_rfl
def d60:ToldR:=⟨283,[(.ptr 781 0),Wl],hp45,(.bool false),hp46⟩
theorem yk:rc Qr d60.f d60.args d60.h=some (d60.r,d60.h'):=by
 refine S4 (K:=Bp [] [] X6) (R5 ?_ ?_ Q4) 3000 d60 ?_
 .intro x hx;cases hx
 .intro x hx;cases hx
 .kernel_rfl
def d61:ToldR:=⟨40,uq,hp47,(.tup [(.vs true 0 []),(.vs true 0 []),(.bool false)]),hp46⟩
theorem yl:rc Qr d61.f d61.args d61.h=some (d61.r,d61.h'):=by
 refine S4 (K:=Bp [] [d59,d60] X6) (R5 ?_ ?_ Q4) 3000 d61 ?_
 .intro x hx;cases hx
 .simp only[zf1z,zf0z,or_false];rintro x (rfl|rfl)
  .exact yj
  .exact yk
 .kernel_rfl
def d11:Told:=⟨262,uW,(.agg [(I 3),(S [101,110,99]),(I 0),A0W])⟩
theorem xr:pc Qf d11.f d11.args=some d11.r:=by
 refine L7 (K:=j9 [] X6) (L6 ?_ oh) 3000 ?_
 .intro x hx;cases hx
 .kernel_rfl
def d12:Told:=⟨262,A0i,yv85⟩
theorem xt:pc Qf d12.f d12.args=some d12.r:=by
 refine L7 (K:=j9 [] X6) (L6 ?_ oh) 3000 ?_
 .intro x hx;cases hx
 .kernel_rfl
def mt:Told:=⟨185,[Tf],(.agg [(S [80]),fR,fV,(.vs false 1 [(S [116])]),jo,A0P])⟩
theorem xw:pc W mt.f mt.args=some mt.r:=by
 refine L7 (K:=j9 [d12,d11] noK) (L6 ?_ noK_ok) 3000 ?_
 .simp only[zf1z,zf0z,or_false];rintro x (rfl|rfl)
  .exact ofQf rfl xt
  .exact ofQf rfl xr
 .kernel_rfl
theorem PN:pc Qr mt.f mt.args=some mt.r:=conR rfl xw
def d14:Told:=⟨252,[A0e,(I 1),(I 1)],(.vs false 4 [A0D,Wg,Wh,Wj,Wi,Lp])⟩
theorem RX:pc Qr d14.f d14.args=some d14.r:=by
 refine L7 (K:=j9 [] X6) (L6 ?_ Q4) 3000 ?_
 .intro x hx;cases hx
 .kernel_rfl
def d19:Told:=⟨388,[A0d,Qe],(.bool false)⟩
theorem yC:pc Qr d19.f d19.args=some d19.r:=by
 refine L7 (K:=j9 [] X6) (L6 ?_ Q4) 3000 ?_
 .intro x hx;cases hx
 .kernel_rfl
def d18:Told:=⟨388,[(.vs false 4 [Tg,Th,fS,Ku,Lm,Ln,KR,Lo,Lp]),Qe],(.bool false)⟩
theorem yB:pc Qr d18.f d18.args=some d18.r:=by
 refine L7 (K:=j9 [] X6) (L6 ?_ Q4) 3000 ?_
 .intro x hx;cases hx
 .kernel_rfl
def d17:Told:=⟨388,[(.vs false 4 [Tg,Th,Ku,Lm,Ln,KR,Lo,Lp]),MR],(.bool false)⟩
theorem yA:pc Qr d17.f d17.args=some d17.r:=by
 refine L7 (K:=j9 [] X6) (L6 ?_ Q4) 3000 ?_
 .intro x hx;cases hx
 .kernel_rfl
def d20:Told:=⟨327,[(.vs false 4 [Ku,Lm,Ln,KR,Lo,Lp]),cf],A0d⟩
theorem RY:pc Qr d20.f d20.args=some d20.r:=by
 refine L7 (K:=j9 [d19,d18,d17] X6) (L6 ?_ Q4) 3000 ?_
 .simp only[zf1z,zf0z,or_false];rintro x (rfl|rfl|rfl)
  .exact yC
  .exact yB
  .exact yA
 .kernel_rfl
def d30:Told:=⟨255,uk,cf⟩
theorem Yc:pc Qr d30.f d30.args=some d30.r:=by
 refine L7 (K:=j9 [] X6) (L6 ?_ Q4) 3000 ?_
 .intro x hx;cases hx
 .kernel_rfl
def d4:Told:=⟨424,uW,(I 0)⟩
theorem fQ:pc Qr d4.f d4.args=some d4.r:=by
 refine L7 (K:=j9 [] X6) (L6 ?_ Q4) 3000 ?_
 .intro x hx;cases hx
 .kernel_rfl
def d29:Told:=⟨384,uk,(I 0)⟩
theorem Yb:pc Qr d29.f d29.args=some d29.r:=by
 refine L7 (K:=j9 [d4] X6) (L6 ?_ Q4) 3000 ?_
 .simp only[zf1z,zf0z,or_false];rintro x rfl
  .exact fQ
 .kernel_rfl
end Go.Abs.Q
