import Derived.Test.YtdegpppbhhjlhaaGreatDoorCards
import Derived.Test.YtdegpppbhhjlhaaGreatDoorTie
import Derived.WalkKit
import Derived.ProofKit
import Derived.OpenShut
import Derived.Deep.DeepHandedRow
import Derived.Deep.DeepWitnessRowRef
import Derived.Lay
import Derived.Carry
set_option linter.all false
section
namespace Go.Proofs.YtdegpppbhhjlhaaGreatDoor.pull56
open Go.ChangeShapes Go.WideShapes Go.ChangeAt Go.RowKit
def aBa:Value:=.agg #[.string ⟨#[]⟩,.int .i64 0,.int .i64 0,.string ⟨#[]⟩,.slice none 0 0,.bool false,.int .i64 0,.slice none 0 0,.slice none 0 0]
theorem own:ownKnob Tryz.prog.godebug=none:=by kernel_rfl
theorem QU(W:World):laidMetH Tryz.prog Rows.costPullUptoRow.laid W=laidMet Tryz.prog Rows.costPullUptoRow.laid W:=by
 have e:(Rows.costPullUptoRow.laid.filter λx=>x.2.handleName?.isSome)=[]:=by kernel_rfl
 unfold laidMetH;rw[e]
theorem TZ(os:Os):laidMetH Tryz.prog Rows.costPullUptoRow.laid ((World.laidAll Tryz.prog os Rows.costPullUptoRow.laid).forCall (λ_ _=>0) ⟨#[],#[aBa,.slice none 0 0,.slice none 0 0],[]⟩).memory:=by rw[QU];exact laidMet_laidAll _ (by kernel_rfl) (by kernel_rfl)
theorem aHX(os:Os){H:Type}(enc:TypeId×Value->H):∃places,DataW.whole enc Tryz.prog ((World.laidAll Tryz.prog os Rows.costPullUptoRow.laid).forCall (λ_ _=>0) ⟨#[],#[aBa,.slice none 0 0,.slice none 0 0],[]⟩).memory Tryz.f3.params.toList Rows.costPullSpec.vars false #[aBa,.slice none 0 0,.slice none 0 0].toList 8=some ([.agg [.lit (.string []),.lit (.int .i64 0),.lit (.int .i64 0),.lit (.string []),.nil,.lit (.bool false),.lit (.int .i64 0),.nil,.nil],.nil,.nil],[],places):=
 ⟨[],by kernel_rfl⟩
set_option maxRecDepth 100000 in
theorem W7(os:Os){H:Type}(enc:TypeId×Value->H) :
  ∃(w:World)(tape:Tape)(i:Input),w.os=os/\(w.forCall tape i).Shaped Tryz.checked.prog/\i.vars=[]/\Input.okWide Tryz.checked.prog (w.forCall tape i) .any w.heap.size 3 i /\
   (Rows.OpenSpec.upto Rows.costPullSpec).preRow enc Tryz.checked.prog Tryz.f3 Rows.costPullUptoRow.domain false Rows.costPullUptoRow.laid (w.forCall tape i).memory i.args /\
   ({modest:=false}:Assume).holds Tryz.checked.prog (lone (Frame.enter Tryz.checked.prog 3 i.args .normal) [] (w.forCall tape i)):=by
 obtain⟨places,hx⟩:=aHX os enc
 exact witness_row_atRef (enc:=enc) (C:=Tryz.checked) (fn:=Tryz.f3) (s:=Rows.OpenSpec.upto Rows.costPullSpec) false (World.laidAll Tryz.prog os Rows.costPullUptoRow.laid) #[aBa,.slice none 0 0,.slice none 0 0] (World.laidAll_os _ _ _) (by kernel_rfl) (by kernel_rfl) (by kernel_rfl)
   (OpenSpec.preRow_of_cond 8 hx (by kernel_rfl) (λk hk=>by cases hk;kernel_rfl) (by kernel_rfl) (TZ os))
set_option maxHeartbeats 8000000 in
theorem YO:joinedFacts Tryz.pinned.checked.prog 3 Tryz.f3 (Rows.OpenSpec.upto Rows.costPullSpec).bare Rows.costPullUptoRow=true:=by
 unfold joinedFacts;simp only[Bool.and_eq_true]
 repeat' (refine And.intro ?_ ?_)
 all_goals (as_aux_lemma=>kernel_rfl)
theorem aJM:Tryz.f3.isInstance Tryz.pinned.checked.prog Rows.costPullUptoRow.origin Rows.costPullUptoRow.targs:=of_decide_eq_true (by kernel_rfl)
theorem aHR:Tryz.f3.isWrapper Tryz.pinned.checked.prog Rows.costPullUptoRow.wrapper Rows.costPullUptoRow.mainSum:=by unfold Func.isWrapper;first|(rw[if_pos (by decide +kernel)];kernel_rfl)|(rw[if_neg (by decide +kernel)];exact⟨rfl,rfl⟩)
theorem aFQ:Tryz.pinned.checked.prog.funcNamed Rows.costPullUptoRow.func=some 3:=by kernel_rfl
end Go.Proofs.YtdegpppbhhjlhaaGreatDoor.pull56
end
