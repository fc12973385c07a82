import Derived.Test.YtagdhpkdbdilaaaGreatDoorSBI
set_option linter.all false
section
set_option maxRecDepth 100000
namespace Go.Proofs
open Go.Tev
theorem aMv:aB (aC pgS (aD kJ) 400) 805 aAO=some UK:=by kernel_rfl
end Go.Proofs
end
