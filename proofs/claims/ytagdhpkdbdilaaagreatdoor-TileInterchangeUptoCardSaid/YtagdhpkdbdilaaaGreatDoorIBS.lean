import Derived.Test.YtagdhpkdbdilaaaGreatDoorIBG
set_option linter.all false
section
set_option maxRecDepth 100000
namespace Go.Proofs
open Go.Tev
theorem aJY:aB (aC pgS (aD jN) 400) 805 XN=some QQ:=by kernel_rfl
end Go.Proofs
end
