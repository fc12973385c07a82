import Derived.Test.YtplehelpidcobaaGreatDoorCards
import Derived.Test.YtplehelpidcobaaGreatDoorTie
import Derived.WalkKit
import Derived.ProofKit
import Derived.OpenShut
import Derived.Deep.DeepHandedRow
import Derived.Deep.DeepWitnessRowRef
import Derived.Lay
set_option linter.all false
section
namespace Go.Proofs.YtplehelpidcobaaGreatDoor.make47
open Go.ChangeShapes Go.WideShapes Go.ChangeAt Go.RowKit
def PN:Value:=.agg #[.slice none 0 0,.slice none 0 0,.int .i64 0,.slice none 0 0,.slice none 0 0,.slice none 0 0]
theorem own:ownKnob Tryz.prog.godebug=none:=by kernel_rfl
theorem JA (W:World):laidMetH Tryz.prog Rows.planMakeUptoRow.laid W=laidMet Tryz.prog Rows.planMakeUptoRow.laid W:=by
 have e:(Rows.planMakeUptoRow.laid.filter fun x=>x.2.handleName?.isSome)=[]:=by kernel_rfl
 unfold laidMetH
 rw [e]
theorem L4 (os:Os):laidMetH Tryz.prog Rows.planMakeUptoRow.laid ((World.laidAll Tryz.prog os Rows.planMakeUptoRow.laid).forCall (fun _ _=>0) ⟨#[],#[PN,.slice none 0 0],[]⟩).memory:=by
 rw [JA]
 exact laidMet_laidAll _ (by kernel_rfl) (by kernel_rfl)
theorem TX (os:Os) {H:Type} (enc:TypeId × Value->H):∃ places,DataW.whole enc Tryz.prog ((World.laidAll Tryz.prog os Rows.planMakeUptoRow.laid).forCall (fun _ _=>0) ⟨#[],#[PN,.slice none 0 0],[]⟩).memory Tryz.f3.params.toList Rows.planMakeSpec.vars false #[PN,.slice none 0 0].toList 8=some ([.agg [.nil,.nil,.lit (.int .i64 0),.nil,.nil,.nil],.nil],[],places):=
 ⟨[],by kernel_rfl⟩
set_option maxRecDepth 100000 in
theorem OE (os:Os) {H:Type} (enc:TypeId × Value->H) :
  ∃ (w:World) (tape:Tape) (i:Input),w.os=os/\(w.forCall tape i).Shaped Tryz.checked.prog/\i.vars=[]/\Input.okWide Tryz.checked.prog (w.forCall tape i) .any w.heap.size 3 i /\
   (Rows.OpenSpec.upto Rows.planMakeSpec).preRow enc Tryz.checked.prog Tryz.f3 Rows.planMakeUptoRow.domain false Rows.planMakeUptoRow.laid (w.forCall tape i).memory i.args /\
   ({modest:=false}:Assume).holds Tryz.checked.prog (lone (Frame.enter Tryz.checked.prog 3 i.args .normal) [] (w.forCall tape i)):=by
 obtain ⟨places,hx⟩:=TX os enc
 exact witness_row_atRef (enc:=enc) (C:=Tryz.checked) (fn:=Tryz.f3) (s:=Rows.OpenSpec.upto Rows.planMakeSpec) false (World.laidAll Tryz.prog os Rows.planMakeUptoRow.laid) #[PN,.slice none 0 0] (World.laidAll_os _ _ _) (by kernel_rfl) (by kernel_rfl) (by kernel_rfl)
   (OpenSpec.preRow_of_cond 8 hx (by kernel_rfl) (fun k hk=>by cases hk;kernel_rfl) (by kernel_rfl) (L4 os))
end Go.Proofs.YtplehelpidcobaaGreatDoor.make47
end
