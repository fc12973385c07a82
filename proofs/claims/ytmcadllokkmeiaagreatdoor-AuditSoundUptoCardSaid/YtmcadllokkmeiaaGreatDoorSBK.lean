import Derived.Test.YtmcadllokkmeiaaGreatDoorCards
import Derived.Test.YtmcadllokkmeiaaGreatDoorTie
import Derived.WalkKit
import Derived.ProofKit
import Derived.OpenShut
import Derived.Deep.DeepHandedRow
import Derived.Deep.DeepWitnessRowRef
import Derived.Lay
import Derived.Carry
set_option linter.all false
section
namespace Go.Proofs.YtmcadllokkmeiaaGreatDoor.sound48
open Go.ChangeShapes Go.WideShapes Go.ChangeAt Go.RowKit
def OU:Value:=.agg #[.slice none 0 0,.slice none 0 0,.int .i64 0,.slice none 0 0,.slice none 0 0,.slice none 0 0]
theorem own:ownKnob Tryz.prog.godebug=none:=by kernel_rfl
theorem ID(W:World):laidMetH Tryz.prog Rows.auditSoundUptoRow.laid W=laidMet Tryz.prog Rows.auditSoundUptoRow.laid W:=by
 have e:(Rows.auditSoundUptoRow.laid.filter fun x=>x.2.handleName?.isSome)=[]:=by kernel_rfl
 unfold laidMetH
 rw[e]
theorem K6(os:Os):laidMetH Tryz.prog Rows.auditSoundUptoRow.laid ((World.laidAll Tryz.prog os Rows.auditSoundUptoRow.laid).forCall (fun _ _=>0) ⟨#[],#[OU,.agg #[.slice none 0 0,.slice none 0 0,.int .i64 0],.slice none 0 0],[]⟩).memory:=by
 rw[ID]
 exact laidMet_laidAll _ (by kernel_rfl) (by kernel_rfl)
theorem TP(os:Os){H:Type}(enc:TypeId×Value->H):∃places,DataW.whole enc Tryz.prog ((World.laidAll Tryz.prog os Rows.auditSoundUptoRow.laid).forCall (fun _ _=>0) ⟨#[],#[OU,.agg #[.slice none 0 0,.slice none 0 0,.int .i64 0],.slice none 0 0],[]⟩).memory Tryz.f3.params.toList Rows.auditSoundSpec.vars false #[OU,.agg #[.slice none 0 0,.slice none 0 0,.int .i64 0],.slice none 0 0].toList 8=some ([.agg [.nil,.nil,.lit (.int .i64 0),.nil,.nil,.nil],.agg [.nil,.nil,.lit (.int .i64 0)],.nil],[],places):=
 ⟨[],by kernel_rfl⟩
set_option maxRecDepth 100000 in
theorem NH(os:Os){H:Type}(enc:TypeId×Value->H) :
  ∃(w:World)(tape:Tape)(i:Input),w.os=os/\(w.forCall tape i).Shaped Tryz.checked.prog/\i.vars=[]/\Input.okWide Tryz.checked.prog (w.forCall tape i) .any w.heap.size 3 i /\
   (Rows.OpenSpec.upto Rows.auditSoundSpec).preRow enc Tryz.checked.prog Tryz.f3 Rows.auditSoundUptoRow.domain false Rows.auditSoundUptoRow.laid (w.forCall tape i).memory i.args /\
   ({modest:=false}:Assume).holds Tryz.checked.prog (lone (Frame.enter Tryz.checked.prog 3 i.args .normal) [] (w.forCall tape i)):=by
 obtain⟨places,hx⟩:=TP os enc
 exact witness_row_atRef (enc:=enc) (C:=Tryz.checked) (fn:=Tryz.f3) (s:=Rows.OpenSpec.upto Rows.auditSoundSpec) false (World.laidAll Tryz.prog os Rows.auditSoundUptoRow.laid) #[OU,.agg #[.slice none 0 0,.slice none 0 0,.int .i64 0],.slice none 0 0] (World.laidAll_os _ _ _) (by kernel_rfl) (by kernel_rfl) (by kernel_rfl)
   (OpenSpec.preRow_of_cond 8 hx (by kernel_rfl) (fun k hk=>by cases hk;kernel_rfl) (by kernel_rfl) (K6 os))
set_option maxHeartbeats 8000000 in
theorem OP:joinedFacts Tryz.pinned.checked.prog 3 Tryz.f3 (Rows.OpenSpec.upto Rows.auditSoundSpec).bare Rows.auditSoundUptoRow=true:=by
 unfold joinedFacts
 simp only[Bool.and_eq_true]
 repeat' (refine And.intro ?_ ?_)
 all_goals (as_aux_lemma=>kernel_rfl)
theorem UY:Tryz.f3.isInstance Tryz.pinned.checked.prog Rows.auditSoundUptoRow.origin Rows.auditSoundUptoRow.targs:=of_decide_eq_true (by kernel_rfl)
theorem TJ:Tryz.f3.isWrapper Tryz.pinned.checked.prog Rows.auditSoundUptoRow.wrapper Rows.auditSoundUptoRow.mainSum:=by unfold Func.isWrapper;first|(rw[if_pos (by decide +kernel)];kernel_rfl)|(rw[if_neg (by decide +kernel)];exact⟨rfl,rfl⟩)
theorem RD:Tryz.pinned.checked.prog.funcNamed Rows.auditSoundUptoRow.func=some 3:=by kernel_rfl
end Go.Proofs.YtmcadllokkmeiaaGreatDoor.sound48
end
