import Derived.Test.YtmcadllokkmeiaaGreatDoorCards
import Derived.Test.YtmcadllokkmeiaaGreatDoorTie
import Derived.WalkKit
import Derived.ProofKit
import Derived.OpenShut
import Derived.Deep.DeepHandedRow
import Derived.Deep.DeepWitnessRowRef
import Derived.Lay
import Derived.Carry
set_option linter.all false
section
namespace Go.Proofs.YtmcadllokkmeiaaGreatDoor.moving48
open Go.ChangeShapes Go.WideShapes Go.ChangeAt Go.RowKit
def LA:Value:=.agg #[.slice none 0 0,.slice none 0 0,.int .i64 0,.slice none 0 0,.slice none 0 0,.slice none 0 0]
theorem own:ownKnob Tryz.prog.godebug=none:=by kernel_rfl
theorem ES(W:World):laidMetH Tryz.prog Rows.auditMovingUptoRow.laid W=laidMet Tryz.prog Rows.auditMovingUptoRow.laid W:=by
 have e:(Rows.auditMovingUptoRow.laid.filter fun x=>x.2.handleName?.isSome)=[]:=by kernel_rfl
 unfold laidMetH
 rw[e]
theorem HH(os:Os):laidMetH Tryz.prog Rows.auditMovingUptoRow.laid ((World.laidAll Tryz.prog os Rows.auditMovingUptoRow.laid).forCall (fun _ _=>0) ⟨#[],#[LA,.agg #[.slice none 0 0,.slice none 0 0,.int .i64 0],.slice none 0 0],[]⟩).memory:=by
 rw[ES]
 exact laidMet_laidAll _ (by kernel_rfl) (by kernel_rfl)
theorem P6(os:Os){H:Type}(enc:TypeId×Value->H):∃places,DataW.whole enc Tryz.prog ((World.laidAll Tryz.prog os Rows.auditMovingUptoRow.laid).forCall (fun _ _=>0) ⟨#[],#[LA,.agg #[.slice none 0 0,.slice none 0 0,.int .i64 0],.slice none 0 0],[]⟩).memory Tryz.f4.params.toList Rows.auditMovingSpec.vars false #[LA,.agg #[.slice none 0 0,.slice none 0 0,.int .i64 0],.slice none 0 0].toList 8=some ([.agg [.nil,.nil,.lit (.int .i64 0),.nil,.nil,.nil],.agg [.nil,.nil,.lit (.int .i64 0)],.nil],[],places):=
 ⟨[],by kernel_rfl⟩
set_option maxRecDepth 100000 in
theorem J0(os:Os){H:Type}(enc:TypeId×Value->H) :
  ∃(w:World)(tape:Tape)(i:Input),w.os=os/\(w.forCall tape i).Shaped Tryz.checked.prog/\i.vars=[]/\Input.okWide Tryz.checked.prog (w.forCall tape i) .any w.heap.size 4 i /\
   (Rows.OpenSpec.upto Rows.auditMovingSpec).preRow enc Tryz.checked.prog Tryz.f4 Rows.auditMovingUptoRow.domain false Rows.auditMovingUptoRow.laid (w.forCall tape i).memory i.args /\
   ({modest:=false}:Assume).holds Tryz.checked.prog (lone (Frame.enter Tryz.checked.prog 4 i.args .normal) [] (w.forCall tape i)):=by
 obtain⟨places,hx⟩:=P6 os enc
 exact witness_row_atRef (enc:=enc) (C:=Tryz.checked) (fn:=Tryz.f4) (s:=Rows.OpenSpec.upto Rows.auditMovingSpec) false (World.laidAll Tryz.prog os Rows.auditMovingUptoRow.laid) #[LA,.agg #[.slice none 0 0,.slice none 0 0,.int .i64 0],.slice none 0 0] (World.laidAll_os _ _ _) (by kernel_rfl) (by kernel_rfl) (by kernel_rfl)
   (OpenSpec.preRow_of_cond 8 hx (by kernel_rfl) (fun k hk=>by cases hk;kernel_rfl) (by kernel_rfl) (HH os))
set_option maxHeartbeats 8000000 in
theorem K6:joinedFacts Tryz.pinned.checked.prog 4 Tryz.f4 (Rows.OpenSpec.upto Rows.auditMovingSpec).bare Rows.auditMovingUptoRow=true:=by
 unfold joinedFacts
 simp only[Bool.and_eq_true]
 repeat' (refine And.intro ?_ ?_)
 all_goals (as_aux_lemma=>kernel_rfl)
theorem RA:Tryz.f4.isInstance Tryz.pinned.checked.prog Rows.auditMovingUptoRow.origin Rows.auditMovingUptoRow.targs:=of_decide_eq_true (by kernel_rfl)
theorem PZ:Tryz.f4.isWrapper Tryz.pinned.checked.prog Rows.auditMovingUptoRow.wrapper Rows.auditMovingUptoRow.mainSum:=by unfold Func.isWrapper;first|(rw[if_pos (by decide +kernel)];kernel_rfl)|(rw[if_neg (by decide +kernel)];exact⟨rfl,rfl⟩)
theorem NO:Tryz.pinned.checked.prog.funcNamed Rows.auditMovingUptoRow.func=some 4:=by kernel_rfl
end Go.Proofs.YtmcadllokkmeiaaGreatDoor.moving48
end
