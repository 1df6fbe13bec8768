/- A part of the proof. -/
import Derived.Test.YtnnjamknplefbaaGreatDoorTN26
set_option linter.all false
open Array renaming mem_of_getElem?->zf0z
open List renaming all_eq_true->zf1z
set_option linter.all false
namespace Go.Proofs.YtnnjamknplefbaaGreatDoor
set_option maxHeartbeats 100000000 in
theorem noGo:(Tryz.pinned.checked.prog.funcs.toList.all λfn=>!fn.goes)=true:=by kernel_rfl
theorem goes_no(c:OpenClaim)(h:c.start=.entering):false=c.goesBy Tryz.pinned.checked.prog:=by
 have key:∀g:FuncId,(Tryz.pinned.checked.prog.funcs[g]?).any Func.goes=false:=by
  intro g;cases h:Tryz.pinned.checked.prog.funcs[g]? with
  |none=>rfl
  |some fn =>
   have:=zf1z.1 noGo fn (Array.mem_toList_iff.2 (zf0z h));simpa using this
 have any:Tryz.pinned.checked.prog.funcs.any Func.goes=false:=by
  rw[←Array.any_toList,List.any_eq_false];intro fn hf;have:=zf1z.1 noGo fn hf;simpa using this
 have hp:∀f,Tryz.pinned.checked.prog.goes f=false:=by
  intro f;unfold Program.goes;rw[any,Bool.and_false,Bool.or_false];simp only[key];simp
 unfold OpenClaim.goesBy Program.goesAt Program.goesFrom;rw[h];cases Tryz.pinned.checked.prog.funcNamed c.func with
 |none=>rfl
 |some f=>simp[hp]
end Go.Proofs.YtnnjamknplefbaaGreatDoor
namespace Go.Proofs.YtnnjamknplefbaaGreatDoor.typingTerm
open Go.ChangeShapes Go.WideShapes Go.ChangeAt Go.RowKit Go.Abs Go.Abs.Q
theorem plain(f:FuncId)(fn:Func) (hf:Tryz.pinned.checked.prog.funcNamed "sealring/sealringlaw50.TypingTerm"=some f) (hfn:Tryz.pinned.checked.prog.funcs[f]?=some fn) :
  false=Tryz.pinned.checked.prog.looks []/\∀(j:Nat) t,fn.params[j]?=some t->Tryz.pinned.checked.prog.wantsStandIn t=false:=by
 obtain rfl:f=3:=Option.some.inj ((show Tryz.prog.funcNamed "sealring/sealringlaw50.TypingTerm"=some 3 by kernel_rfl).symm.trans hf) |>.symm;obtain rfl:fn=Tryz.f3:=(Option.some.inj (Tryz.func3.symm.trans hfn)).symm;refine⟨by kernel_rfl,λj t ht=>?_⟩;rw[Tryz.params3]at ht;have ht':=zf0z ht;simp only[List.mem_toArray,List.mem_cons,List.mem_nil_iff,or_false]at ht';rcases ht' with rfl|rfl
 .exact(show Tryz.prog.wantsStandIn 25=false by kernel_rfl)
 .exact(show Tryz.prog.wantsStandIn 28=false by kernel_rfl)
theorem card(over:Rows.TypingTermUptoSaid):Rows.TypingTermUptoCardSaid :=
 Claim7.holds_tied_plain_at .later [] _ _ _ _ over (λ_ h=>by cases h) (by as_aux_lemma=>kernel_rfl) (λ_ h=>by cases h) typingTermUpto_row_tie rfl ⟨rfl,rfl⟩ (by as_aux_lemma=>kernel_rfl) rfl plain (goes_no _ rfl)
end Go.Proofs.YtnnjamknplefbaaGreatDoor.typingTerm
