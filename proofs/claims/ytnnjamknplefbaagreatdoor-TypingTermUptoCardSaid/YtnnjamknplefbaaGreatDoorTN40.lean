/- A part of the proof. -/
import Derived.Test.YtnnjamknplefbaaGreatDoorTN39
import Derived.KernelRfl
set_option linter.all false
open List renaming not_mem_nil->zf0z,mem_cons->zf1z
set_option linter.all false
set_option maxRecDepth 100000
namespace Go.Abs.Q
def d5:Told:=⟨384,A2k,(I 0)⟩
theorem told_5:pc Qr d5.f d5.args=some d5.r:=by
 refine K9 (K:=AY [d4] i8) (K8 ?_ Q4) 3000 ?_
 .simp only[zf1z,zf0z,or_false];rintro x rfl
  .exact ql
 .kernel_rfl
def d10:Told:=⟨179,rH,(.tup [(I 0),(.agg [(I 0),(S []),(I 0),(.vs true 0 [])]),(I 0)])⟩
theorem told_10:pc Qr d10.f d10.args=some d10.r:=by
 refine K9 (K:=AY [d3,d9,d6,d5] i8) (K8 ?_ Q4) 3000 ?_
 .simp only[zf1z,zf0z,or_false];rintro x (rfl|rfl|rfl|rfl)
  .exact told_3
  .exact told_9
  .exact told_6
  .exact told_5
 .kernel_rfl
def d34:Told:=⟨194,[A19,(I 1)],yv285⟩
theorem told_34:pc Qr d34.f d34.args=some d34.r:=by
 refine K9 (K:=AY [] i8) (K8 ?_ Q4) 3000 ?_
 .intro x hx;cases hx
 .kernel_rfl
def d35:Told:=⟨194,[mu,(I 2)],yv285⟩
theorem told_35:pc Qr d35.f d35.args=some d35.r:=by
 refine K9 (K:=AY [] i8) (K8 ?_ Q4) 3000 ?_
 .intro x hx;cases hx
 .kernel_rfl
def d36:Told:=⟨38,rH,(.tup [A2B,(I 0)])⟩
theorem ia:pc Qr d36.f d36.args=some d36.r:=by
 refine K9 (K:=AY [d33,d28,d21,d10,d27,d34,d35] i8) (K8 ?_ Q4) 3000 ?_
 .simp only[zf1z,zf0z,or_false];rintro x (rfl|rfl|rfl|rfl|rfl|rfl|rfl)
  .exact told_33
  .exact told_28
  .exact uP
  .exact told_10
  .exact uR
  .exact told_34
  .exact told_35
 .kernel_rfl
def d62:ToldR:=⟨14,rI,hp48,(.tup [(.sl 91 2 0 2),q_]),hp49⟩
theorem told_62:rc Qr d62.f d62.args d62.h=some (d62.r,d62.h'):=by
 refine T4 (K:=Dr [d36] [d61] i8) (S3 ?_ ?_ Q4) 3000 d62 ?_
 .simp only[zf1z,zf0z,or_false];rintro x rfl
  .exact ia
 .simp only[zf1z,zf0z,or_false];rintro x rfl
  .exact told_61
 .kernel_rfl
def d55:ToldR:=⟨104,A2i,hp37,(.agg uy),hp38⟩
theorem told_55:rc Qr d55.f d55.args d55.h=some (d55.r,d55.h'):=by
 refine T4 (K:=Dr [] [] i8) (S3 ?_ ?_ Q4) 3000 d55 ?_
 .intro x hx;cases hx
 .intro x hx;cases hx
 .kernel_rfl
def d54:ToldR:=⟨106,[(.ptr 571 0),mu,um],hp35,r_,hp36⟩
theorem told_54:rc Qr d54.f d54.args d54.h=some (d54.r,d54.h'):=by
 refine T4 (K:=Dr [] [] i8) (S3 ?_ ?_ Q4) 3000 d54 ?_
 .intro x hx;cases hx
 .intro x hx;cases hx
 .kernel_rfl
def d52:ToldR:=⟨104,A2h,hp31,(.agg ux),hp32⟩
theorem told_52:rc Qr d52.f d52.args d52.h=some (d52.r,d52.h'):=by
 refine T4 (K:=Dr [] [] i8) (S3 ?_ ?_ Q4) 3000 d52 ?_
 .intro x hx;cases hx
 .intro x hx;cases hx
 .kernel_rfl
def d50:ToldR:=⟨104,A2g,hp27,(.agg uw),hp28⟩
theorem told_50:rc Qr d50.f d50.args d50.h=some (d50.r,d50.h'):=by
 refine T4 (K:=Dr [] [] i8) (S3 ?_ ?_ Q4) 3000 d50 ?_
 .intro x hx;cases hx
 .intro x hx;cases hx
 .kernel_rfl
def d48:ToldR:=⟨104,rJ,hp23,(.agg uv),hp24⟩
theorem told_48:rc Qr d48.f d48.args d48.h=some (d48.r,d48.h'):=by
 refine T4 (K:=Dr [] [] i8) (S3 ?_ ?_ Q4) 3000 d48 ?_
 .intro x hx;cases hx
 .intro x hx;cases hx
 .kernel_rfl
def d49:ToldR:=⟨283,[(.ptr 411 0),fQ],hp25,(.bool true),hp26⟩
theorem told_49:rc Qr d49.f d49.args d49.h=some (d49.r,d49.h'):=by
 refine T4 (K:=Dr [] [] i8) (S3 ?_ ?_ Q4) 3000 d49 ?_
 .intro x hx;cases hx
 .intro x hx;cases hx
 .kernel_rfl
def d51:ToldR:=⟨283,[(.ptr 489 0),fQ],hp29,(.bool true),hp30⟩
theorem told_51:rc Qr d51.f d51.args d51.h=some (d51.r,d51.h'):=by
 refine T4 (K:=Dr [] [] i8) (S3 ?_ ?_ Q4) 3000 d51 ?_
 .intro x hx;cases hx
 .intro x hx;cases hx
 .kernel_rfl
def d53:ToldR:=⟨280,[(.ptr 571 0),q_],hp33,(.bool true),hp34⟩
theorem told_53:rc Qr d53.f d53.args d53.h=some (d53.r,d53.h'):=by
 refine T4 (K:=Dr [] [] i8) (S3 ?_ ?_ Q4) 3000 d53 ?_
 .intro x hx;cases hx
 .intro x hx;cases hx
 .kernel_rfl
def d56:ToldR:=⟨280,[(.ptr 678 0),q_],hp39,(.bool true),hp40⟩
theorem told_56:rc Qr d56.f d56.args d56.h=some (d56.r,d56.h'):=by
 refine T4 (K:=Dr [] [] i8) (S3 ?_ ?_ Q4) 3000 d56 ?_
 .intro x hx;cases hx
 .intro x hx;cases hx
 .kernel_rfl
end Go.Abs.Q
