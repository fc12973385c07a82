import Derived.Test.YtmcadllokkmeiaaGreatDoorCards
import Derived.Test.YtmcadllokkmeiaaGreatDoorTie
import Derived.WalkKit
import Derived.ProofKit
import Derived.OpenShut
import Derived.Deep.DeepHandedRow
import Derived.Deep.DeepWitnessRowRef
import Derived.Lay
import Derived.Carry
set_option linter.all false
section
namespace Go.Proofs.YtmcadllokkmeiaaGreatDoor.bound48
open Go.ChangeShapes Go.WideShapes Go.ChangeAt Go.RowKit
def aGU:Value:=.agg #[.slice none 0 0,.slice none 0 0,.int .i64 0,.slice none 0 0,.slice none 0 0,.slice none 0 0]
theorem own:ownKnob Tryz.prog.godebug=none:=by kernel_rfl
theorem Z1(W:World):laidMetH Tryz.prog Rows.auditBoundUptoRow.laid W=laidMet Tryz.prog Rows.auditBoundUptoRow.laid W:=by
 have e:(Rows.auditBoundUptoRow.laid.filter λx=>x.2.handleName?.isSome)=[]:=by kernel_rfl
 unfold laidMetH;rw[e]
theorem aCk(os:Os):laidMetH Tryz.prog Rows.auditBoundUptoRow.laid ((World.laidAll Tryz.prog os Rows.auditBoundUptoRow.laid).forCall (λ_ _=>0) ⟨#[],#[aGU,.agg #[.slice none 0 0,.slice none 0 0,.int .i64 0],.slice none 0 0],[]⟩).memory:=by rw[Z1];exact laidMet_laidAll _ (by kernel_rfl) (by kernel_rfl)
theorem aKY(os:Os){H:Type}(enc:TypeId×Value->H):∃places,DataW.whole enc Tryz.prog ((World.laidAll Tryz.prog os Rows.auditBoundUptoRow.laid).forCall (λ_ _=>0) ⟨#[],#[aGU,.agg #[.slice none 0 0,.slice none 0 0,.int .i64 0],.slice none 0 0],[]⟩).memory Tryz.f6.params.toList Rows.auditBoundSpec.vars false #[aGU,.agg #[.slice none 0 0,.slice none 0 0,.int .i64 0],.slice none 0 0].toList 8=some ([.agg [.nil,.nil,.lit (.int .i64 0),.nil,.nil,.nil],.agg [.nil,.nil,.lit (.int .i64 0)],.nil],[],places):=
 ⟨[],by kernel_rfl⟩
set_option maxRecDepth 100000 in
theorem aEU(os:Os){H:Type}(enc:TypeId×Value->H) :
  ∃(w:World)(tape:Tape)(i:Input),w.os=os/\(w.forCall tape i).Shaped Tryz.checked.prog/\i.vars=[]/\Input.okWide Tryz.checked.prog (w.forCall tape i) .any w.heap.size 6 i /\
   (Rows.OpenSpec.upto Rows.auditBoundSpec).preRow enc Tryz.checked.prog Tryz.f6 Rows.auditBoundUptoRow.domain false Rows.auditBoundUptoRow.laid (w.forCall tape i).memory i.args /\
   ({modest:=false}:Assume).holds Tryz.checked.prog (lone (Frame.enter Tryz.checked.prog 6 i.args .normal) [] (w.forCall tape i)):=by
 obtain⟨places,hx⟩:=aKY os enc
 exact witness_row_atRef (enc:=enc) (C:=Tryz.checked) (fn:=Tryz.f6) (s:=Rows.OpenSpec.upto Rows.auditBoundSpec) false (World.laidAll Tryz.prog os Rows.auditBoundUptoRow.laid) #[aGU,.agg #[.slice none 0 0,.slice none 0 0,.int .i64 0],.slice none 0 0] (World.laidAll_os _ _ _) (by kernel_rfl) (by kernel_rfl) (by kernel_rfl)
   (OpenSpec.preRow_of_cond 8 hx (by kernel_rfl) (λk hk=>by cases hk;kernel_rfl) (by kernel_rfl) (aCk os))
set_option maxHeartbeats 8000000 in
theorem aFP:joinedFacts Tryz.pinned.checked.prog 6 Tryz.f6 (Rows.OpenSpec.upto Rows.auditBoundSpec).bare Rows.auditBoundUptoRow=true:=by
 unfold joinedFacts;simp only[Bool.and_eq_true]
 repeat' (refine And.intro ?_ ?_)
 all_goals (as_aux_lemma=>kernel_rfl)
theorem aLI:Tryz.f6.isInstance Tryz.pinned.checked.prog Rows.auditBoundUptoRow.origin Rows.auditBoundUptoRow.targs:=of_decide_eq_true (by kernel_rfl)
theorem aKT:Tryz.f6.isWrapper Tryz.pinned.checked.prog Rows.auditBoundUptoRow.wrapper Rows.auditBoundUptoRow.mainSum:=by unfold Func.isWrapper;first|(rw[if_pos (by decide +kernel)];kernel_rfl)|(rw[if_neg (by decide +kernel)];exact⟨rfl,rfl⟩)
theorem aJy:Tryz.pinned.checked.prog.funcNamed Rows.auditBoundUptoRow.func=some 6:=by kernel_rfl
end Go.Proofs.YtmcadllokkmeiaaGreatDoor.bound48
end
