import Derived.Test.YtplehelpidcobaaGreatDoorCards
import Derived.Test.YtplehelpidcobaaGreatDoorTie
import Derived.WalkKit
import Derived.ProofKit
import Derived.OpenShut
import Derived.Deep.DeepHandedRow
import Derived.Deep.DeepWitnessRowRef
import Derived.Lay
import Derived.Carry
set_option linter.all false
section
namespace Go.Proofs.YtplehelpidcobaaGreatDoor.sound47
open Go.ChangeShapes Go.WideShapes Go.ChangeAt Go.RowKit
def Q2:Value:=.agg #[.slice none 0 0,.slice none 0 0,.int .i64 0,.slice none 0 0,.slice none 0 0,.slice none 0 0]
theorem own:ownKnob Tryz.prog.godebug=none:=by kernel_rfl
theorem KI(W:World):laidMetH Tryz.prog Rows.planSoundUptoRow.laid W=laidMet Tryz.prog Rows.planSoundUptoRow.laid W:=by
 have e:(Rows.planSoundUptoRow.laid.filter fun x=>x.2.handleName?.isSome)=[]:=by kernel_rfl
 unfold laidMetH
 rw[e]
theorem NH(os:Os):laidMetH Tryz.prog Rows.planSoundUptoRow.laid ((World.laidAll Tryz.prog os Rows.planSoundUptoRow.laid).forCall (fun _ _=>0) ⟨#[],#[Q2,.slice none 0 0,.agg #[.slice none 0 0,.slice none 0 0,.int .i64 0,.slice none 0 0,.slice none 0 0,.int .i64 0]],[]⟩).memory:=by
 rw[KI]
 exact laidMet_laidAll _ (by kernel_rfl) (by kernel_rfl)
theorem VP(os:Os){H:Type}(enc:TypeId×Value->H):∃places,DataW.whole enc Tryz.prog ((World.laidAll Tryz.prog os Rows.planSoundUptoRow.laid).forCall (fun _ _=>0) ⟨#[],#[Q2,.slice none 0 0,.agg #[.slice none 0 0,.slice none 0 0,.int .i64 0,.slice none 0 0,.slice none 0 0,.int .i64 0]],[]⟩).memory Tryz.f5.params.toList Rows.planSoundSpec.vars false #[Q2,.slice none 0 0,.agg #[.slice none 0 0,.slice none 0 0,.int .i64 0,.slice none 0 0,.slice none 0 0,.int .i64 0]].toList 8=some ([.agg [.nil,.nil,.lit (.int .i64 0),.nil,.nil,.nil],.nil,.agg [.agg [.nil,.nil,.lit (.int .i64 0)],.agg [.nil,.nil,.lit (.int .i64 0)]]],[],places):=
 ⟨[],by kernel_rfl⟩
set_option maxRecDepth 100000 in
theorem PW(os:Os){H:Type}(enc:TypeId×Value->H) :
  ∃(w:World)(tape:Tape)(i:Input),w.os=os/\(w.forCall tape i).Shaped Tryz.checked.prog/\i.vars=[]/\Input.okWide Tryz.checked.prog (w.forCall tape i) .any w.heap.size 5 i /\
   (Rows.OpenSpec.upto Rows.planSoundSpec).preRow enc Tryz.checked.prog Tryz.f5 Rows.planSoundUptoRow.domain false Rows.planSoundUptoRow.laid (w.forCall tape i).memory i.args /\
   ({modest:=false}:Assume).holds Tryz.checked.prog (lone (Frame.enter Tryz.checked.prog 5 i.args .normal) [] (w.forCall tape i)):=by
 obtain⟨places,hx⟩:=VP os enc
 exact witness_row_atRef (enc:=enc) (C:=Tryz.checked) (fn:=Tryz.f5) (s:=Rows.OpenSpec.upto Rows.planSoundSpec) false (World.laidAll Tryz.prog os Rows.planSoundUptoRow.laid) #[Q2,.slice none 0 0,.agg #[.slice none 0 0,.slice none 0 0,.int .i64 0,.slice none 0 0,.slice none 0 0,.int .i64 0]] (World.laidAll_os _ _ _) (by kernel_rfl) (by kernel_rfl) (by kernel_rfl)
   (OpenSpec.preRow_of_cond 8 hx (by kernel_rfl) (fun k hk=>by cases hk;kernel_rfl) (by kernel_rfl) (NH os))
set_option maxHeartbeats 8000000 in
theorem QY:joinedFacts Tryz.pinned.checked.prog 5 Tryz.f5 (Rows.OpenSpec.upto Rows.planSoundSpec).bare Rows.planSoundUptoRow=true:=by
 unfold joinedFacts
 simp only[Bool.and_eq_true]
 repeat' (refine And.intro ?_ ?_)
 all_goals (as_aux_lemma=>kernel_rfl)
theorem V1:Tryz.f5.isInstance Tryz.pinned.checked.prog Rows.planSoundUptoRow.origin Rows.planSoundUptoRow.targs:=of_decide_eq_true (by kernel_rfl)
theorem VK:Tryz.f5.isWrapper Tryz.pinned.checked.prog Rows.planSoundUptoRow.wrapper Rows.planSoundUptoRow.mainSum:=by unfold Func.isWrapper;first|(rw[if_pos (by decide +kernel)];kernel_rfl)|(rw[if_neg (by decide +kernel)];exact⟨rfl,rfl⟩)
theorem TD:Tryz.pinned.checked.prog.funcNamed Rows.planSoundUptoRow.func=some 5:=by kernel_rfl
end Go.Proofs.YtplehelpidcobaaGreatDoor.sound47
end
