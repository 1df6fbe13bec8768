/- A part of the proof. -/
import Derived.Test.YtnnjamknplefbaaGreatDoorTS43
import Derived.KernelRfl
set_option linter.all false
open List renaming not_mem_nil->zf0z,mem_cons->zf1z
set_option linter.all false
set_option maxRecDepth 100000
namespace Go.Abs.Q
def d28:Told:=⟨97,[Tf,(I 0)],tu⟩
theorem yH:pc Qr d28.f d28.args=some d28.r:=by
 refine L7 (K:=j9 [mt,d27,d22] X6) (L6 ?_ Q4) 3000 ?_
 .simp only[zf1z,zf0z,or_false];rintro x (rfl|rfl|rfl)
  .exact PN
  .exact jS
  .exact jR
 .kernel_rfl
def d3:Told:=⟨252,[(.agg [(S [80]),fR,fV,(.vs false 1 [(S [116])]),tj,tc,(S [80]),fR,fV,(.vs false 1 [(S [116])]),jo,jk]),(I 0),(I 0)],A0Z⟩
theorem told_3:pc Qr d3.f d3.args=some d3.r:=by
 refine L7 (K:=j9 [] X6) (L6 ?_ Q4) 3000 ?_
 .intro x hx;cases hx
 .kernel_rfl
def d8:Told:=⟨388,[A0c,Ku],(.bool false)⟩
theorem told_8:pc Qr d8.f d8.args=some d8.r:=by
 refine L7 (K:=j9 [] X6) (L6 ?_ Q4) 3000 ?_
 .intro x hx;cases hx
 .kernel_rfl
def d7:Told:=⟨388,[(.vs false 4 [Tg,Th,MR,fS,We,Wg,Wh,Wi,Wj]),Ku],(.bool false)⟩
theorem told_7:pc Qr d7.f d7.args=some d7.r:=by
 refine L7 (K:=j9 [] X6) (L6 ?_ Q4) 3000 ?_
 .intro x hx;cases hx
 .kernel_rfl
def d9:Told:=⟨327,[(.vs false 4 [MR,We,Wg,Wh,Wi,Wj]),cf],A0c⟩
theorem told_9:pc Qr d9.f d9.args=some d9.r:=by
 refine L7 (K:=j9 [d8,d7] X6) (L6 ?_ Q4) 3000 ?_
 .simp only[zf1z,zf0z,or_false];rintro x (rfl|rfl)
  .exact told_8
  .exact told_7
 .kernel_rfl
def d6:Told:=⟨255,ui,cf⟩
theorem told_6:pc Qr d6.f d6.args=some d6.r:=by
 refine L7 (K:=j9 [] X6) (L6 ?_ Q4) 3000 ?_
 .intro x hx;cases hx
 .kernel_rfl
def d5:Told:=⟨384,ui,(I 0)⟩
theorem told_5:pc Qr d5.f d5.args=some d5.r:=by
 refine L7 (K:=j9 [d4] X6) (L6 ?_ Q4) 3000 ?_
 .simp only[zf1z,zf0z,or_false];rintro x rfl
  .exact fQ
 .kernel_rfl
def d10:Told:=⟨179,fp,(.tup [(I 0),(.agg [(I 0),(S []),(I 0),(.vs true 0 [])]),(I 0)])⟩
theorem xq:pc Qr d10.f d10.args=some d10.r:=by
 refine L7 (K:=j9 [d3,d9,d6,d5] X6) (L6 ?_ Q4) 3000 ?_
 .simp only[zf1z,zf0z,or_false];rintro x (rfl|rfl|rfl|rfl)
  .exact told_3
  .exact told_9
  .exact told_6
  .exact told_5
 .kernel_rfl
def d34:Told:=⟨194,[tu,(I 1)],A0N⟩
theorem yL:pc Qr d34.f d34.args=some d34.r:=by
 refine L7 (K:=j9 [] X6) (L6 ?_ Q4) 3000 ?_
 .intro x hx;cases hx
 .kernel_rfl
def d35:Told:=⟨194,[ce,(I 2)],A0N⟩
theorem yM:pc Qr d35.f d35.args=some d35.r:=by
 refine L7 (K:=j9 [] X6) (L6 ?_ Q4) 3000 ?_
 .intro x hx;cases hx
 .kernel_rfl
def d36:Told:=⟨38,fp,(.tup [tz,(I 0)])⟩
theorem Yd:pc Qr d36.f d36.args=some d36.r:=by
 refine L7 (K:=j9 [d33,d28,d21,d10,d27,d34,d35] X6) (L6 ?_ Q4) 3000 ?_
 .simp only[zf1z,zf0z,or_false];rintro x (rfl|rfl|rfl|rfl|rfl|rfl|rfl)
  .exact yK
  .exact yH
  .exact jQ
  .exact xq
  .exact jS
  .exact yL
  .exact yM
 .kernel_rfl
def d62:ToldR:=⟨14,fq,hp48,(.tup [(.sl 91 2 0 2),(I 0)]),hp49⟩
theorem ym:rc Qr d62.f d62.args d62.h=some (d62.r,d62.h'):=by
 refine S4 (K:=Bp [d36] [d61] X6) (R5 ?_ ?_ Q4) 3000 d62 ?_
 .simp only[zf1z,zf0z,or_false];rintro x rfl
  .exact Yd
 .simp only[zf1z,zf0z,or_false];rintro x rfl
  .exact yl
 .kernel_rfl
def d55:ToldR:=⟨104,ug,hp37,(.agg jv),hp38⟩
theorem yf:rc Qr d55.f d55.args d55.h=some (d55.r,d55.h'):=by
 refine S4 (K:=Bp [] [] X6) (R5 ?_ ?_ Q4) 3000 d55 ?_
 .intro x hx;cases hx
 .intro x hx;cases hx
 .kernel_rfl
end Go.Abs.Q
