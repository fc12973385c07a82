import Derived.Test.YtplehelpidcobaaGreatDoorCards
import Derived.Test.YtplehelpidcobaaGreatDoorTie
import Derived.WalkKit
import Derived.ProofKit
import Derived.OpenShut
import Derived.Deep.DeepHandedRow
import Derived.Deep.DeepWitnessRowRef
import Derived.Lay
set_option linter.all false
section
namespace Go.Proofs.YtplehelpidcobaaGreatDoor.peak47
open Go.ChangeShapes Go.WideShapes Go.ChangeAt Go.RowKit
def QS:Value:=.agg #[.slice none 0 0,.slice none 0 0,.int .i64 0,.slice none 0 0,.slice none 0 0,.slice none 0 0]
theorem own:ownKnob Tryz.prog.godebug=none:=by kernel_rfl
theorem J2 (W:World):laidMetH Tryz.prog Rows.planPeakUptoRow.laid W=laidMet Tryz.prog Rows.planPeakUptoRow.laid W:=by
 have e:(Rows.planPeakUptoRow.laid.filter fun x=>x.2.handleName?.isSome)=[]:=by kernel_rfl
 unfold laidMetH
 rw [e]
theorem M0 (os:Os):laidMetH Tryz.prog Rows.planPeakUptoRow.laid ((World.laidAll Tryz.prog os Rows.planPeakUptoRow.laid).forCall (fun _ _=>0) ⟨#[],#[QS,.slice none 0 0],[]⟩).memory:=by
 rw [J2]
 exact laidMet_laidAll _ (by kernel_rfl) (by kernel_rfl)
theorem VG (os:Os) {H:Type} (enc:TypeId × Value->H):∃ places,DataW.whole enc Tryz.prog ((World.laidAll Tryz.prog os Rows.planPeakUptoRow.laid).forCall (fun _ _=>0) ⟨#[],#[QS,.slice none 0 0],[]⟩).memory Tryz.f4.params.toList Rows.planPeakSpec.vars false #[QS,.slice none 0 0].toList 8=some ([.agg [.nil,.nil,.lit (.int .i64 0),.nil,.nil,.nil],.nil],[],places):=
 ⟨[],by kernel_rfl⟩
set_option maxRecDepth 100000 in
theorem PE (os:Os) {H:Type} (enc:TypeId × Value->H) :
  ∃ (w:World) (tape:Tape) (i:Input),w.os=os/\(w.forCall tape i).Shaped Tryz.checked.prog/\i.vars=[]/\Input.okWide Tryz.checked.prog (w.forCall tape i) .any w.heap.size 4 i /\
   (Rows.OpenSpec.upto Rows.planPeakSpec).preRow enc Tryz.checked.prog Tryz.f4 Rows.planPeakUptoRow.domain false Rows.planPeakUptoRow.laid (w.forCall tape i).memory i.args /\
   ({modest:=false}:Assume).holds Tryz.checked.prog (lone (Frame.enter Tryz.checked.prog 4 i.args .normal) [] (w.forCall tape i)):=by
 obtain ⟨places,hx⟩:=VG os enc
 exact witness_row_atRef (enc:=enc) (C:=Tryz.checked) (fn:=Tryz.f4) (s:=Rows.OpenSpec.upto Rows.planPeakSpec) false (World.laidAll Tryz.prog os Rows.planPeakUptoRow.laid) #[QS,.slice none 0 0] (World.laidAll_os _ _ _) (by kernel_rfl) (by kernel_rfl) (by kernel_rfl)
   (OpenSpec.preRow_of_cond 8 hx (by kernel_rfl) (fun k hk=>by cases hk;kernel_rfl) (by kernel_rfl) (M0 os))
end Go.Proofs.YtplehelpidcobaaGreatDoor.peak47
end
