import Derived.Test.YtagdhpkdbdilaaaGreatDoorIBG
set_option linter.all false
section
set_option maxRecDepth 100000
namespace Go.Proofs
open Go.Tev
theorem aKl:aB (aC pgS (aD jN) 400) 805 X5=some Q3:=by kernel_rfl
end Go.Proofs
end
