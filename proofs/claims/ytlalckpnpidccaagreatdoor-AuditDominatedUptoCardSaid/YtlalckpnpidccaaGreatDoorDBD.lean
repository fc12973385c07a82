import Derived.Test.YtlalckpnpidccaaGreatDoorCards
import Derived.Test.YtlalckpnpidccaaGreatDoorTie
import Derived.WalkKit
import Derived.ProofKit
import Derived.OpenShut
import Derived.Deep.DeepHandedRow
import Derived.Deep.DeepWitnessRowRef
import Derived.Lay
import Derived.Carry
set_option linter.all false
section
namespace Go.Proofs.YtlalckpnpidccaaGreatDoor.dominated48
open Go.ChangeShapes Go.WideShapes Go.ChangeAt Go.RowKit
def NY:Value:=.slice none 0 0
theorem own:ownKnob Tryz.prog.godebug=none:=by kernel_rfl
theorem D6(W:World):laidMetH Tryz.prog Rows.auditDominatedUptoRow.laid W=laidMet Tryz.prog Rows.auditDominatedUptoRow.laid W:=by
 have e:(Rows.auditDominatedUptoRow.laid.filter λx=>x.2.handleName?.isSome)=[]:=by kernel_rfl
 unfold laidMetH;rw[e]
theorem GQ(os:Os):laidMetH Tryz.prog Rows.auditDominatedUptoRow.laid ((World.laidAll Tryz.prog os Rows.auditDominatedUptoRow.laid).forCall (λ_ _=>0) ⟨#[],#[NY,.slice none 0 0,.agg #[.int .u8 0,.int .u8 0,.int .u8 0,.int .u8 0]],[]⟩).memory:=by rw[D6];exact laidMet_laidAll _ (by kernel_rfl) (by kernel_rfl)
theorem X3(os:Os){H:Type}(enc:TypeId×Value->H):∃places,DataW.whole enc Tryz.prog ((World.laidAll Tryz.prog os Rows.auditDominatedUptoRow.laid).forCall (λ_ _=>0) ⟨#[],#[NY,.slice none 0 0,.agg #[.int .u8 0,.int .u8 0,.int .u8 0,.int .u8 0]],[]⟩).memory Tryz.f3.params.toList Rows.auditDominatedSpec.vars false #[NY,.slice none 0 0,.agg #[.int .u8 0,.int .u8 0,.int .u8 0,.int .u8 0]].toList 8=some ([.nil,.nil,.agg [.lit (.int .u8 0),.lit (.int .u8 0),.lit (.int .u8 0),.lit (.int .u8 0)]],[],places):=
 ⟨[],by kernel_rfl⟩
set_option maxRecDepth 100000 in
theorem JT(os:Os){H:Type}(enc:TypeId×Value->H) :
  ∃(w:World)(tape:Tape)(i:Input),w.os=os/\(w.forCall tape i).Shaped Tryz.checked.prog/\i.vars=[]/\Input.okWide Tryz.checked.prog (w.forCall tape i) .any w.heap.size 3 i /\
   (Rows.OpenSpec.upto Rows.auditDominatedSpec).preRow enc Tryz.checked.prog Tryz.f3 Rows.auditDominatedUptoRow.domain false Rows.auditDominatedUptoRow.laid (w.forCall tape i).memory i.args /\
   ({modest:=false}:Assume).holds Tryz.checked.prog (lone (Frame.enter Tryz.checked.prog 3 i.args .normal) [] (w.forCall tape i)):=by
 obtain⟨places,hx⟩:=X3 os enc
 exact witness_row_atRef (enc:=enc) (C:=Tryz.checked) (fn:=Tryz.f3) (s:=Rows.OpenSpec.upto Rows.auditDominatedSpec) false (World.laidAll Tryz.prog os Rows.auditDominatedUptoRow.laid) #[NY,.slice none 0 0,.agg #[.int .u8 0,.int .u8 0,.int .u8 0,.int .u8 0]] (World.laidAll_os _ _ _) (by kernel_rfl) (by kernel_rfl) (by kernel_rfl)
   (OpenSpec.preRow_of_cond 8 hx (by kernel_rfl) (λk hk=>by cases hk;kernel_rfl) (by kernel_rfl) (GQ os))
set_option maxHeartbeats 8000000 in
theorem KV:joinedFacts Tryz.pinned.checked.prog 3 Tryz.f3 (Rows.OpenSpec.upto Rows.auditDominatedSpec).bare Rows.auditDominatedUptoRow=true:=by
 unfold joinedFacts;simp only[Bool.and_eq_true]
 repeat' (refine And.intro ?_ ?_)
 all_goals (as_aux_lemma=>kernel_rfl)
theorem ZD:Tryz.f3.isInstance Tryz.pinned.checked.prog Rows.auditDominatedUptoRow.origin Rows.auditDominatedUptoRow.targs:=of_decide_eq_true (by kernel_rfl)
theorem XW:Tryz.f3.isWrapper Tryz.pinned.checked.prog Rows.auditDominatedUptoRow.wrapper Rows.auditDominatedUptoRow.mainSum:=by unfold Func.isWrapper;first|(rw[if_pos (by decide +kernel)];kernel_rfl)|(rw[if_neg (by decide +kernel)];exact⟨rfl,rfl⟩)
theorem UM:Tryz.pinned.checked.prog.funcNamed Rows.auditDominatedUptoRow.func=some 3:=by kernel_rfl
end Go.Proofs.YtlalckpnpidccaaGreatDoor.dominated48
end
