import Derived.Test.YtilkdbbkkcnocaaGreatDoorCards
import Derived.Test.YtilkdbbkkcnocaaGreatDoorTie
import Derived.WalkKit
import Derived.ProofKit
import Derived.OpenShut
import Derived.Deep.DeepHandedRow
import Derived.Deep.DeepWitnessRowRef
import Derived.Lay
import Derived.Carry
set_option linter.all false
section
namespace Go.Proofs.YtilkdbbkkcnocaaGreatDoor.scaled56
open Go.ChangeShapes Go.WideShapes Go.ChangeAt Go.RowKit
def aBA:Value:=.agg #[.slice none 0 0,.int .i64 0,.slice none 0 0,.bool false,.string ⟨#[]⟩,.int .i64 0,.int .i64 0,.string ⟨#[]⟩,.slice none 0 0,.bool false,.int .i64 0,.slice none 0 0,.slice none 0 0,.int .i64 0,.string ⟨#[]⟩,.int .i64 0,.int .i64 0,.string ⟨#[]⟩,.slice none 0 0,.bool false,.int .i64 0,.slice none 0 0,.slice none 0 0,.slice none 0 0,.slice none 0 0]
theorem own:ownKnob Tryz.prog.godebug=none:=by kernel_rfl
theorem Q7(W:World):laidMetH Tryz.prog Rows.costScaledUptoRow.laid W=laidMet Tryz.prog Rows.costScaledUptoRow.laid W:=by
 have e:(Rows.costScaledUptoRow.laid.filter λx=>x.2.handleName?.isSome)=[]:=by kernel_rfl
 unfold laidMetH;rw[e]
theorem UN(os:Os):laidMetH Tryz.prog Rows.costScaledUptoRow.laid ((World.laidAll Tryz.prog os Rows.costScaledUptoRow.laid).forCall (λ_ _=>0) ⟨#[],#[aBA,.int .u8 0],[]⟩).memory:=by rw[Q7];exact laidMet_laidAll _ (by kernel_rfl) (by kernel_rfl)
theorem aIz(os:Os){H:Type}(enc:TypeId×Value->H):∃places,DataW.whole enc Tryz.prog ((World.laidAll Tryz.prog os Rows.costScaledUptoRow.laid).forCall (λ_ _=>0) ⟨#[],#[aBA,.int .u8 0],[]⟩).memory Tryz.f3.params.toList Rows.costScaledSpec.vars false #[aBA,.int .u8 0].toList 8=some ([.agg [.agg [.nil,.agg [.lit (.int .i64 0),.nil,.lit (.bool false)],.agg [.lit (.string []),.lit (.int .i64 0),.lit (.int .i64 0),.lit (.string []),.nil,.lit (.bool false),.lit (.int .i64 0),.nil,.nil],.lit (.int .i64 0),.agg [.lit (.string []),.lit (.int .i64 0),.lit (.int .i64 0),.lit (.string []),.nil,.lit (.bool false),.lit (.int .i64 0),.nil,.nil]],.nil,.nil],.lit (.int .u8 0)],[],places):=
 ⟨[],by kernel_rfl⟩
set_option maxRecDepth 100000 in
theorem X9(os:Os){H:Type}(enc:TypeId×Value->H) :
  ∃(w:World)(tape:Tape)(i:Input),w.os=os/\(w.forCall tape i).Shaped Tryz.checked.prog/\i.vars=[]/\Input.okWide Tryz.checked.prog (w.forCall tape i) .any w.heap.size 3 i /\
   (Rows.OpenSpec.upto Rows.costScaledSpec).preRow enc Tryz.checked.prog Tryz.f3 Rows.costScaledUptoRow.domain false Rows.costScaledUptoRow.laid (w.forCall tape i).memory i.args /\
   ({modest:=false}:Assume).holds Tryz.checked.prog (lone (Frame.enter Tryz.checked.prog 3 i.args .normal) [] (w.forCall tape i)):=by
 obtain⟨places,hx⟩:=aIz os enc
 exact witness_row_atRef (enc:=enc) (C:=Tryz.checked) (fn:=Tryz.f3) (s:=Rows.OpenSpec.upto Rows.costScaledSpec) false (World.laidAll Tryz.prog os Rows.costScaledUptoRow.laid) #[aBA,.int .u8 0] (World.laidAll_os _ _ _) (by kernel_rfl) (by kernel_rfl) (by kernel_rfl)
   (OpenSpec.preRow_of_cond 8 hx (by kernel_rfl) (λk hk=>by cases hk;kernel_rfl) (by kernel_rfl) (UN os))
set_option maxHeartbeats 8000000 in
theorem ZL:joinedFacts Tryz.pinned.checked.prog 3 Tryz.f3 (Rows.OpenSpec.upto Rows.costScaledSpec).bare Rows.costScaledUptoRow=true:=by
 unfold joinedFacts;simp only[Bool.and_eq_true]
 repeat' (refine And.intro ?_ ?_)
 all_goals (as_aux_lemma=>kernel_rfl)
theorem aKw:Tryz.f3.isInstance Tryz.pinned.checked.prog Rows.costScaledUptoRow.origin Rows.costScaledUptoRow.targs:=of_decide_eq_true (by kernel_rfl)
theorem aIr:Tryz.f3.isWrapper Tryz.pinned.checked.prog Rows.costScaledUptoRow.wrapper Rows.costScaledUptoRow.mainSum:=by unfold Func.isWrapper;first|(rw[if_pos (by decide +kernel)];kernel_rfl)|(rw[if_neg (by decide +kernel)];exact⟨rfl,rfl⟩)
theorem aGn:Tryz.pinned.checked.prog.funcNamed Rows.costScaledUptoRow.func=some 3:=by kernel_rfl
end Go.Proofs.YtilkdbbkkcnocaaGreatDoor.scaled56
end
