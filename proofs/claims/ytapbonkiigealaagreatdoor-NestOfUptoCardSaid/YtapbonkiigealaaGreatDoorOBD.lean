import Derived.Test.YtapbonkiigealaaGreatDoorCards
import Derived.Test.YtapbonkiigealaaGreatDoorTie
import Derived.WalkKit
import Derived.ProofKit
import Derived.OpenShut
import Derived.Deep.DeepHandedRow
import Derived.Deep.DeepWitnessRowRef
import Derived.Lay
set_option linter.all false
section
namespace Go.Proofs.YtapbonkiigealaaGreatDoor.of49
open Go.ChangeShapes Go.WideShapes Go.ChangeAt Go.RowKit
def arg0:Value:=.agg #[.slice none 0 0,.slice none 0 0,.int .i64 0,.slice none 0 0,.slice none 0 0,.slice none 0 0]
theorem own:ownKnob Tryz.prog.godebug=none:=by kernel_rfl
theorem plainLaid (W:World):laidMetH Tryz.prog Rows.nestOfUptoRow.laid W=laidMet Tryz.prog Rows.nestOfUptoRow.laid W:=by
 have e:(Rows.nestOfUptoRow.laid.filter fun x=>x.2.handleName?.isSome)=[]:=by kernel_rfl
 unfold laidMetH
 rw [e]
theorem laid_met (os:Os):laidMetH Tryz.prog Rows.nestOfUptoRow.laid ((World.laidAll Tryz.prog os Rows.nestOfUptoRow.laid).forCall (fun _ _=>0) ⟨#[],#[arg0,.int .i64 0,.bool false],[]⟩).memory:=by
 rw [plainLaid]
 exact laidMet_laidAll _ (by kernel_rfl) (by kernel_rfl)
theorem reads (os:Os) {H:Type} (enc:TypeId × Value→H):∃ places,DataW.whole enc Tryz.prog ((World.laidAll Tryz.prog os Rows.nestOfUptoRow.laid).forCall (fun _ _=>0) ⟨#[],#[arg0,.int .i64 0,.bool false],[]⟩).memory Tryz.f4.params.toList Rows.nestOfSpec.vars false #[arg0,.int .i64 0,.bool false].toList 8=some ([.agg [.nil,.nil,.lit (.int .i64 0),.nil,.nil,.nil],.lit (.int .i64 0),.lit (.bool false)],[],places):=
 ⟨[],by kernel_rfl⟩
set_option maxRecDepth 100000 in
theorem witness (os:Os) {H:Type} (enc:TypeId × Value→H) :
  ∃ (w:World) (tape:Tape) (i:Input),w.os=os∧(w.forCall tape i).Shaped Tryz.checked.prog∧i.vars=[]∧Input.okWide Tryz.checked.prog (w.forCall tape i) .any w.heap.size 4 i ∧
   (Rows.OpenSpec.upto Rows.nestOfSpec).preRow enc Tryz.checked.prog Tryz.f4 Rows.nestOfUptoRow.domain false Rows.nestOfUptoRow.laid (w.forCall tape i).memory i.args ∧
   ({modest:=false}:Assume).holds Tryz.checked.prog (lone (Frame.enter Tryz.checked.prog 4 i.args .normal) [] (w.forCall tape i)):=by
 obtain ⟨places,hx⟩:=reads os enc
 exact witness_row_atRef (enc:=enc) (C:=Tryz.checked) (fn:=Tryz.f4) (s:=Rows.OpenSpec.upto Rows.nestOfSpec) false (World.laidAll Tryz.prog os Rows.nestOfUptoRow.laid) #[arg0,.int .i64 0,.bool false] (World.laidAll_os _ _ _) (by kernel_rfl) (by kernel_rfl) (by kernel_rfl)
   (OpenSpec.preRow_of_cond 8 hx (by kernel_rfl) (fun k hk=>by cases hk;kernel_rfl) (by kernel_rfl) (laid_met os))
end Go.Proofs.YtapbonkiigealaaGreatDoor.of49
end
