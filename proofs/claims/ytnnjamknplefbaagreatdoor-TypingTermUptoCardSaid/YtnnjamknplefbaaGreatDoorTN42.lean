/- A part of the proof. -/
import Derived.Test.YtnnjamknplefbaaGreatDoorTN41
import Derived.KernelRfl
set_option linter.all false
open List renaming not_mem_nil->zf0z,mem_cons->zf1z
set_option linter.all false
set_option maxRecDepth 100000
namespace Go.Abs.Q
def d0:Told:=⟨83,[yv410],(.tup [(.vs false 5 [(.agg [(I 1),(S [112,114,111,116,111,99,111,108]),(I 0),(S []),(I 1)]),(.agg [(I 1),(S [80]),(I 0),(S []),(I 1)]),(.agg [(I 4),(S [123]),(I 0),(S []),(I 1)]),(.agg [(I 1),(S [114,111,108,101]),(I 0),(S []),(I 1)]),A2A,yv47,A2C,xz,(.agg [(I 1),(S [102,114,101,115,104]),(I 0),(S []),(I 1)]),A2A,yv50,yv80,(.agg [(I 1),(S [110,111,110,99,101]),(I 0),(S []),(I 1)]),xz,(.agg [(I 1),(S [116,97,103]),(I 0),(S []),(I 1)]),yv59,xz,(.agg [(I 1),(S [109,101,115,115,97,103,101]),(I 0),(S []),(I 1)]),A2A,(.agg [(I 4),(S [45]),(I 0),(S []),(I 1)]),yv51,A2C,yv50,(.agg [(I 1),(S [101,110,99]),(I 0),(S []),(I 1)]),yv52,(.agg [(I 4),(S [60]),(I 0),(S []),(I 1)]),yv59,yv47,yv80,yv51,yv47,(.agg [(I 1),(S [115,104,107]),(I 0),(S []),(I 1)]),yv52,A2A,yv47,A2C,yv53,yv53,xz,yv97,(.agg [(I 1),yv8,(I 0),(S []),(I 1)]),A2C,yv50,yv80,xz,yv97,(.agg [(I 1),(S [97,103,114,101,101]),(I 0),(S []),(I 1)]),A2C,A2A,yv50,yv80,xz,(.agg [(I 4),(S [125]),(I 0),(S []),(I 1)])]),(I 0),(I 0)])⟩
theorem told_0:pc Qr d0.f d0.args=some d0.r:=by
 refine K9 (K:=AY [] i8) (K8 ?_ Q4) 3000 ?_
 .intro x hx;cases hx
 .kernel_rfl
def d2:ToldR:=⟨13,[(.int .u8 0)],hp0,(.tup rI),hp1⟩
theorem told_2:rc Qr d2.f d2.args d2.h=some (d2.r,d2.h'):=by
 refine T4 (K:=Dr [d1,d0] [] i8) (S3 ?_ ?_ Q4) 3000 d2 ?_
 .simp only[zf1z,zf0z,or_false];rintro x (rfl|rfl)
  .exact told_1
  .exact told_0
 .intro x hx;cases hx
 .kernel_rfl
def d63:Told:=⟨5,[],(.bool true)⟩
theorem told_63:pc Qr d63.f d63.args=some d63.r:=by
 refine A1E (K:=Dr [] [d62,d58,d47,d2] i8) (S3 ?_ ?_ Q4) 3000 d63 ?_
 .intro x hx;cases hx
 .simp only[zf1z,zf0z,or_false];rintro x (rfl|rfl|rfl|rfl)
  .exact told_62
  .exact told_58
  .exact told_47
  .exact told_2
 .kernel_rfl
end Go.Abs.Q
