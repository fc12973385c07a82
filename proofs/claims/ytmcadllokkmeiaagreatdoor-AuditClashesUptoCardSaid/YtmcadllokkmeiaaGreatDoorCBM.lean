import Derived.Test.YtmcadllokkmeiaaGreatDoorCards
import Derived.Test.YtmcadllokkmeiaaGreatDoorTie
import Derived.WalkKit
import Derived.ProofKit
import Derived.OpenShut
import Derived.Deep.DeepHandedRow
import Derived.Deep.DeepWitnessRowRef
import Derived.Lay
import Derived.Carry
set_option linter.all false
section
namespace Go.Proofs.YtmcadllokkmeiaaGreatDoor.clashes48
open Go.ChangeShapes Go.WideShapes Go.ChangeAt Go.RowKit
def aEj:Value:=.agg #[.slice none 0 0,.slice none 0 0,.int .i64 0,.slice none 0 0,.slice none 0 0,.slice none 0 0]
theorem own:ownKnob Tryz.prog.godebug=none:=by kernel_rfl
theorem VZ(W:World):laidMetH Tryz.prog Rows.auditClashesUptoRow.laid W=laidMet Tryz.prog Rows.auditClashesUptoRow.laid W:=by
 have e:(Rows.auditClashesUptoRow.laid.filter λx=>x.2.handleName?.isSome)=[]:=by kernel_rfl
 unfold laidMetH;rw[e]
theorem ZJ(os:Os):laidMetH Tryz.prog Rows.auditClashesUptoRow.laid ((World.laidAll Tryz.prog os Rows.auditClashesUptoRow.laid).forCall (λ_ _=>0) ⟨#[],#[aEj,.agg #[.slice none 0 0,.slice none 0 0,.int .i64 0],.slice none 0 0],[]⟩).memory:=by rw[VZ];exact laidMet_laidAll _ (by kernel_rfl) (by kernel_rfl)
theorem aID(os:Os){H:Type}(enc:TypeId×Value->H):∃places,DataW.whole enc Tryz.prog ((World.laidAll Tryz.prog os Rows.auditClashesUptoRow.laid).forCall (λ_ _=>0) ⟨#[],#[aEj,.agg #[.slice none 0 0,.slice none 0 0,.int .i64 0],.slice none 0 0],[]⟩).memory Tryz.f5.params.toList Rows.auditClashesSpec.vars false #[aEj,.agg #[.slice none 0 0,.slice none 0 0,.int .i64 0],.slice none 0 0].toList 8=some ([.agg [.nil,.nil,.lit (.int .i64 0),.nil,.nil,.nil],.agg [.nil,.nil,.lit (.int .i64 0)],.nil],[],places):=
 ⟨[],by kernel_rfl⟩
set_option maxRecDepth 100000 in
theorem aCk(os:Os){H:Type}(enc:TypeId×Value->H) :
  ∃(w:World)(tape:Tape)(i:Input),w.os=os/\(w.forCall tape i).Shaped Tryz.checked.prog/\i.vars=[]/\Input.okWide Tryz.checked.prog (w.forCall tape i) .any w.heap.size 5 i /\
   (Rows.OpenSpec.upto Rows.auditClashesSpec).preRow enc Tryz.checked.prog Tryz.f5 Rows.auditClashesUptoRow.domain false Rows.auditClashesUptoRow.laid (w.forCall tape i).memory i.args /\
   ({modest:=false}:Assume).holds Tryz.checked.prog (lone (Frame.enter Tryz.checked.prog 5 i.args .normal) [] (w.forCall tape i)):=by
 obtain⟨places,hx⟩:=aID os enc
 exact witness_row_atRef (enc:=enc) (C:=Tryz.checked) (fn:=Tryz.f5) (s:=Rows.OpenSpec.upto Rows.auditClashesSpec) false (World.laidAll Tryz.prog os Rows.auditClashesUptoRow.laid) #[aEj,.agg #[.slice none 0 0,.slice none 0 0,.int .i64 0],.slice none 0 0] (World.laidAll_os _ _ _) (by kernel_rfl) (by kernel_rfl) (by kernel_rfl)
   (OpenSpec.preRow_of_cond 8 hx (by kernel_rfl) (λk hk=>by cases hk;kernel_rfl) (by kernel_rfl) (ZJ os))
set_option maxHeartbeats 8000000 in
theorem aDc:joinedFacts Tryz.pinned.checked.prog 5 Tryz.f5 (Rows.OpenSpec.upto Rows.auditClashesSpec).bare Rows.auditClashesUptoRow=true:=by
 unfold joinedFacts;simp only[Bool.and_eq_true]
 repeat' (refine And.intro ?_ ?_)
 all_goals (as_aux_lemma=>kernel_rfl)
theorem aJq:Tryz.f5.isInstance Tryz.pinned.checked.prog Rows.auditClashesUptoRow.origin Rows.auditClashesUptoRow.targs:=of_decide_eq_true (by kernel_rfl)
theorem aIx:Tryz.f5.isWrapper Tryz.pinned.checked.prog Rows.auditClashesUptoRow.wrapper Rows.auditClashesUptoRow.mainSum:=by unfold Func.isWrapper;first|(rw[if_pos (by decide +kernel)];kernel_rfl)|(rw[if_neg (by decide +kernel)];exact⟨rfl,rfl⟩)
theorem aGS:Tryz.pinned.checked.prog.funcNamed Rows.auditClashesUptoRow.func=some 5:=by kernel_rfl
end Go.Proofs.YtmcadllokkmeiaaGreatDoor.clashes48
end
