import Derived.Test.YtapbonkiigealaaGreatDoorOAN
import Derived.Test.YtapbonkiigealaaGreatDoorOAK
set_option linter.all false
section
set_option maxRecDepth 100000
namespace Go.Proofs
open Go.Tev
def noMemo:Nat→List AV→Option AV:=fun _ _=>none
theorem awake_run:callP (callE pgS noMemo 400) 555 []=some (.bool true):=by kernel_rfl
theorem awakeS:Ret pgS 555 [] (.bool true):=⟨0+400,(callE_sub pgS (memo:=noMemo) (m:=0) (fun _ _ _ h=>by cases h) 400).at0 _ _ _ awake_run⟩
end Go.Proofs
end
