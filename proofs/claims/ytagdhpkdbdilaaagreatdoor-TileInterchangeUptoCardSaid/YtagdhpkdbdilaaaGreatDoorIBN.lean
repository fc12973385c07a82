import Derived.Test.YtagdhpkdbdilaaaGreatDoorIBG
set_option linter.all false
section
set_option maxRecDepth 100000
namespace Go.Proofs
open Go.Tev
theorem aLc:aB (aC pgS (aD jN) 400) 805 ZC=some SA:=by kernel_rfl
end Go.Proofs
end
