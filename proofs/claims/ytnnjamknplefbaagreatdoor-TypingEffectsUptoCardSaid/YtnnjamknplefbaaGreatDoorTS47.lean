/- A part of the proof. -/
import Derived.Test.YtnnjamknplefbaaGreatDoorTS46
import Derived.KernelRfl
set_option linter.all false
open List renaming not_mem_nil->zf0z,mem_cons->zf1z
set_option linter.all false
set_option maxRecDepth 100000
namespace Go.Abs.Q
def d0:Told:=⟨83,[A0Y],(.tup [(.vs false 5 [(.agg [(I 1),(S [112,114,111,116,111,99,111,108]),(I 0),(S []),(I 1)]),(.agg [(I 1),(S [80]),(I 0),(S []),(I 1)]),(.agg [(I 4),(S [123]),(I 0),(S []),(I 1)]),(.agg [(I 1),(S [114,111,108,101]),(I 0),(S []),(I 1)]),tw,zE,uA,mq,(.agg [(I 1),(S [102,114,101,115,104]),(I 0),(S []),(I 1)]),tw,zF,zG,(.agg [(I 1),(S [110,111,110,99,101]),(I 0),(S []),(I 1)]),mq,(.agg [(I 1),(S [116,97,103]),(I 0),(S []),(I 1)]),yv59,mq,(.agg [(I 1),(S [109,101,115,115,97,103,101]),(I 0),(S []),(I 1)]),tw,(.agg [(I 4),(S [45]),(I 0),(S []),(I 1)]),yv51,uA,zF,(.agg [(I 1),(S [101,110,99]),(I 0),(S []),(I 1)]),yv52,(.agg [(I 4),(S [60]),(I 0),(S []),(I 1)]),yv59,zE,zG,yv51,zE,(.agg [(I 1),(S [115,104,107]),(I 0),(S []),(I 1)]),yv52,tw,zE,uA,yv53,yv53,mq,yv97,(.agg [(I 1),yv8,(I 0),(S []),(I 1)]),uA,zF,zG,mq,yv97,(.agg [(I 1),(S [97,103,114,101,101]),(I 0),(S []),(I 1)]),uA,tw,zF,zG,mq,(.agg [(I 4),(S [125]),(I 0),(S []),(I 1)])]),(I 0),(I 0)])⟩
theorem told_0:pc Qr d0.f d0.args=some d0.r:=by
 refine L7 (K:=j9 [] X6) (L6 ?_ Q4) 3000 ?_
 .intro x hx;cases hx
 .kernel_rfl
def d2:ToldR:=⟨13,[(.int .u8 0)],hp0,(.tup fq),hp1⟩
theorem told_2:rc Qr d2.f d2.args d2.h=some (d2.r,d2.h'):=by
 refine S4 (K:=Bp [d1,d0] [] X6) (R5 ?_ ?_ Q4) 3000 d2 ?_
 .simp only[zf1z,zf0z,or_false];rintro x (rfl|rfl)
  .exact told_1
  .exact told_0
 .intro x hx;cases hx
 .kernel_rfl
def d63:Told:=⟨5,[],(.bool true)⟩
theorem yn:pc Qr d63.f d63.args=some d63.r:=by
 refine rd (K:=Bp [] [d62,d58,d47,d2] X6) (R5 ?_ ?_ Q4) 3000 d63 ?_
 .intro x hx;cases hx
 .simp only[zf1z,zf0z,or_false];rintro x (rfl|rfl|rfl|rfl)
  .exact ym
  .exact yi
  .exact yX
  .exact told_2
 .kernel_rfl
end Go.Abs.Q
