import Derived.Test.YtmcpinidcecmoaaGreatDoorTA
set_option linter.all false
section
set_option maxRecDepth 100000
namespace Go.Proofs
open Go.Tev
theorem awake_run:callP (callE pgS nomemo 400) 7 []=some (.bool true):=by kernel_rfl
theorem awakeS:Ret pgS 7 [] (.bool true):=
 ⟨0+400,callP_mono (callE_sub pgS (memo:=nomemo) (m:=0) (fun _ _ _ _ _ h=>by cases h) 400) awake_run⟩
end Go.Proofs
end
