import Derived.Test.YtagdhpkdbdilaaaGreatDoorIBG
set_option linter.all false
section
set_option maxRecDepth 100000
namespace Go.Proofs
open Go.Tev
theorem aKw:aB (aC pgS (aD jN) 400) 805 YG=some RE:=by kernel_rfl
end Go.Proofs
end
