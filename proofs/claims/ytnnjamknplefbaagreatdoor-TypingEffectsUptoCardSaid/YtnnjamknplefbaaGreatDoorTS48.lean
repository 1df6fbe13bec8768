/- A part of the proof. -/
import Derived.Test.YtnnjamknplefbaaGreatDoorTS47
set_option linter.all false
set_option linter.all false
namespace Go.Abs.Q
theorem OT(g:Tyg)(B:TygB g)(t:Tm)(ht:t.size<=1048576)(f:Fa)(hf:Tm.sizes f.terms<=1048576):pc Qr U8 [Li g,U6 t,Cl f]=some (.bool true) :=
 Pi yn g B t ht f hf
end Go.Abs.Q
