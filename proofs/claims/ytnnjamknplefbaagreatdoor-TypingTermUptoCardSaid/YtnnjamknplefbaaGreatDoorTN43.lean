/- A part of the proof. -/
import Derived.Test.YtnnjamknplefbaaGreatDoorTN34
import Derived.Test.YtnnjamknplefbaaGreatDoorTN42
set_option linter.all false
namespace Go.Abs.Q
theorem aY(g:Tyg)(B:TygB g)(t:Tm)(ht:t.size<=1048576):pc Qr FV [EO g,I8 t]=some (.bool true) :=
 cz told_63 g B t ht
end Go.Abs.Q
