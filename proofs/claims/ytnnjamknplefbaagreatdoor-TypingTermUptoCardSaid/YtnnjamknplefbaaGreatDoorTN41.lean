/- A part of the proof. -/
import Derived.Test.YtnnjamknplefbaaGreatDoorTN40
import Derived.KernelRfl
set_option linter.all false
open List renaming not_mem_nil->zf0z,mem_cons->zf1z
set_option linter.all false
set_option maxRecDepth 100000
namespace Go.Abs.Q
def d57:ToldR:=⟨40,[Wh,A2B,mr,so],hp41,(.tup [(.sl 51 27 0 27),r_,(.bool true)]),A0G⟩
theorem told_57:rc Qr d57.f d57.args d57.h=some (d57.r,d57.h'):=by
 refine T4 (K:=Dr [] [d55,d54,d52,d50,d48,d49,d51,d53,d56] i8) (S3 ?_ ?_ Q4) 3000 d57 ?_
 .intro x hx;cases hx
 .simp only[zf1z,zf0z,or_false];rintro x (rfl|rfl|rfl|rfl|rfl|rfl|rfl|rfl|rfl)
  .exact told_55
  .exact told_54
  .exact told_52
  .exact told_50
  .exact told_48
  .exact told_49
  .exact told_51
  .exact told_53
  .exact told_56
 .kernel_rfl
def d58:ToldR:=⟨15,[Wh,(.agg qr),mr],hp21,(.tup [(.sl 51 27 0 27),q_]),A0G⟩
theorem told_58:rc Qr d58.f d58.args d58.h=some (d58.r,d58.h'):=by
 refine T4 (K:=Dr [d36] [d57] i8) (S3 ?_ ?_ Q4) 3000 d58 ?_
 .simp only[zf1z,zf0z,or_false];rintro x rfl
  .exact ia
 .simp only[zf1z,zf0z,or_false];rintro x rfl
  .exact told_57
 .kernel_rfl
def d44:ToldR:=⟨104,A2i,hp16,(.agg cC),hp17⟩
theorem told_44:rc Qr d44.f d44.args d44.h=some (d44.r,d44.h'):=by
 refine T4 (K:=Dr [] [] i8) (S3 ?_ ?_ Q4) 3000 d44 ?_
 .intro x hx;cases hx
 .intro x hx;cases hx
 .kernel_rfl
def d43:ToldR:=⟨106,[(.ptr 200 0),mu,um],hp14,r_,hp15⟩
theorem told_43:rc Qr d43.f d43.args d43.h=some (d43.r,d43.h'):=by
 refine T4 (K:=Dr [] [] i8) (S3 ?_ ?_ Q4) 3000 d43 ?_
 .intro x hx;cases hx
 .intro x hx;cases hx
 .kernel_rfl
def d41:ToldR:=⟨104,A2h,hp10,(.agg cA),hp11⟩
theorem told_41:rc Qr d41.f d41.args d41.h=some (d41.r,d41.h'):=by
 refine T4 (K:=Dr [] [] i8) (S3 ?_ ?_ Q4) 3000 d41 ?_
 .intro x hx;cases hx
 .intro x hx;cases hx
 .kernel_rfl
def d39:ToldR:=⟨104,A2g,hp6,(.agg rR),hp7⟩
theorem told_39:rc Qr d39.f d39.args d39.h=some (d39.r,d39.h'):=by
 refine T4 (K:=Dr [] [] i8) (S3 ?_ ?_ Q4) 3000 d39 ?_
 .intro x hx;cases hx
 .intro x hx;cases hx
 .kernel_rfl
def d37:ToldR:=⟨104,rJ,hp2,(.agg rQ),hp3⟩
theorem told_37:rc Qr d37.f d37.args d37.h=some (d37.r,d37.h'):=by
 refine T4 (K:=Dr [] [] i8) (S3 ?_ ?_ Q4) 3000 d37 ?_
 .intro x hx;cases hx
 .intro x hx;cases hx
 .kernel_rfl
def d38:ToldR:=⟨283,[(.ptr 40 0),fQ],hp4,(.bool true),hp5⟩
theorem told_38:rc Qr d38.f d38.args d38.h=some (d38.r,d38.h'):=by
 refine T4 (K:=Dr [] [] i8) (S3 ?_ ?_ Q4) 3000 d38 ?_
 .intro x hx;cases hx
 .intro x hx;cases hx
 .kernel_rfl
def d40:ToldR:=⟨283,[(.ptr 118 0),fQ],hp8,(.bool true),hp9⟩
theorem told_40:rc Qr d40.f d40.args d40.h=some (d40.r,d40.h'):=by
 refine T4 (K:=Dr [] [] i8) (S3 ?_ ?_ Q4) 3000 d40 ?_
 .intro x hx;cases hx
 .intro x hx;cases hx
 .kernel_rfl
def d42:ToldR:=⟨280,[(.ptr 200 0),q_],hp12,(.bool true),hp13⟩
theorem told_42:rc Qr d42.f d42.args d42.h=some (d42.r,d42.h'):=by
 refine T4 (K:=Dr [] [] i8) (S3 ?_ ?_ Q4) 3000 d42 ?_
 .intro x hx;cases hx
 .intro x hx;cases hx
 .kernel_rfl
def d45:ToldR:=⟨280,[(.ptr 307 0),q_],hp18,(.bool true),hp19⟩
theorem told_45:rc Qr d45.f d45.args d45.h=some (d45.r,d45.h'):=by
 refine T4 (K:=Dr [] [] i8) (S3 ?_ ?_ Q4) 3000 d45 ?_
 .intro x hx;cases hx
 .intro x hx;cases hx
 .kernel_rfl
def d46:ToldR:=⟨40,A2q,hp20,(.tup [(.sl 9 27 0 27),r_,(.bool true)]),hp21⟩
theorem told_46:rc Qr d46.f d46.args d46.h=some (d46.r,d46.h'):=by
 refine T4 (K:=Dr [] [d44,d43,d41,d39,d37,d38,d40,d42,d45] i8) (S3 ?_ ?_ Q4) 3000 d46 ?_
 .intro x hx;cases hx
 .simp only[zf1z,zf0z,or_false];rintro x (rfl|rfl|rfl|rfl|rfl|rfl|rfl|rfl|rfl)
  .exact told_44
  .exact told_43
  .exact told_41
  .exact told_39
  .exact told_37
  .exact told_38
  .exact told_40
  .exact told_42
  .exact told_45
 .kernel_rfl
def d47:ToldR:=⟨14,rI,hp22,(.tup [r_,q_]),hp21⟩
theorem told_47:rc Qr d47.f d47.args d47.h=some (d47.r,d47.h'):=by
 refine T4 (K:=Dr [d36] [d46] i8) (S3 ?_ ?_ Q4) 3000 d47 ?_
 .simp only[zf1z,zf0z,or_false];rintro x rfl
  .exact ia
 .simp only[zf1z,zf0z,or_false];rintro x rfl
  .exact told_46
 .kernel_rfl
def d1:Told:=⟨90,rH,(I 0)⟩
theorem told_1:pc Qr d1.f d1.args=some d1.r:=by
 refine K9 (K:=AY [] i8) (K8 ?_ Q4) 3000 ?_
 .intro x hx;cases hx
 .kernel_rfl
end Go.Abs.Q
