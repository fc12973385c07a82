import Derived.Test.YtagdhpkdbdilaaaGreatDoorSBI
set_option linter.all false
section
set_option maxRecDepth 100000
namespace Go.Proofs
open Go.Tev
theorem aOV:aB (aC pgS (aD kJ) 400) 805 aDo=some YH:=by kernel_rfl
end Go.Proofs
end
