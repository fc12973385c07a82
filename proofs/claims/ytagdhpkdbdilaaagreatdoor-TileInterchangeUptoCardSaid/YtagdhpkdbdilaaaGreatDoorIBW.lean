import Derived.Test.YtagdhpkdbdilaaaGreatDoorIBH
import Derived.Test.YtagdhpkdbdilaaaGreatDoorIBI
import Derived.Test.YtagdhpkdbdilaaaGreatDoorIBJ
import Derived.Test.YtagdhpkdbdilaaaGreatDoorIBK
import Derived.Test.YtagdhpkdbdilaaaGreatDoorIBL
import Derived.Test.YtagdhpkdbdilaaaGreatDoorIBM
import Derived.Test.YtagdhpkdbdilaaaGreatDoorIBN
import Derived.Test.YtagdhpkdbdilaaaGreatDoorIBO
import Derived.Test.YtagdhpkdbdilaaaGreatDoorIBP
import Derived.Test.YtagdhpkdbdilaaaGreatDoorIBQ
import Derived.Test.YtagdhpkdbdilaaaGreatDoorIBR
import Derived.Test.YtagdhpkdbdilaaaGreatDoorIBS
import Derived.Test.YtagdhpkdbdilaaaGreatDoorIBT
import Derived.Test.YtagdhpkdbdilaaaGreatDoorIBU
import Derived.Test.YtagdhpkdbdilaaaGreatDoorIBV
import Derived.Test.YtagdhpkdbdilaaaGreatDoorCards
import Derived.Test.YtagdhpkdbdilaaaGreatDoorTie
import Derived.WalkKit
import Derived.ProofKit
import Derived.OpenShut
import Derived.Deep.DeepHandedRow
import Derived.Deep.DeepWitnessRowRef
import Derived.Lay
import Derived.Carry
set_option linter.all false
section
set_option maxRecDepth 100000
namespace Go.Proofs
open Go.Tev
theorem B5:gK ([]) 51 400 wK:=
 aA (by kernel_rfl) mE0 <|
 aA (by kernel_rfl) mE1 <|
 aA (by kernel_rfl) mE2 <|
 aA (by kernel_rfl) mE3 <|
 aA (by kernel_rfl) mE4 <|
 aA (by kernel_rfl) mE6 <|
 aA (by kernel_rfl) mE9 <|
 aA (by kernel_rfl) aWr <|
 aA (by kernel_rfl) aWo <|
 aA (by kernel_rfl) aWm <|
 aA (by kernel_rfl) aWk <|
 aA (by kernel_rfl) aWj <|
 aA (by kernel_rfl) aWh <|
 aA (by kernel_rfl) aWg <|
 aA (by kernel_rfl) aWd <|
 aA (by kernel_rfl) aWb <|
 aA (by kernel_rfl) aVY <|
 aA (by kernel_rfl) aVX <|
 aA (by kernel_rfl) aVT <|
 aA (by kernel_rfl) aVR <|
 aA (by kernel_rfl) aVP <|
 aA (by kernel_rfl) aVO <|
 aA (by kernel_rfl) aVL <|
 aA (by kernel_rfl) aVJ <|
 aA (by kernel_rfl) aVF <|
 aA (by kernel_rfl) aVA <|
 aA (by kernel_rfl) aVx <|
 aA (by kernel_rfl) aVu <|
 aA (by kernel_rfl) aVs <|
 aA (by kernel_rfl) aNt <|
 aA (by kernel_rfl) aNj <|
 aA (by kernel_rfl) aNh <|
 aA (by kernel_rfl) aNe <|
 aA (by kernel_rfl) aNc <|
 aA (by kernel_rfl) aMV <|
 aA (by kernel_rfl) aMM <|
 aA (by kernel_rfl) aMG <|
 aA (by kernel_rfl) aMv <|
 aA (by kernel_rfl) aMd <|
 aA (by kernel_rfl) aMb <|
 aA (by kernel_rfl) aLY <|
 aA (by kernel_rfl) aLW <|
 aA (by kernel_rfl) aLt <|
 aA (by kernel_rfl) aLa <|
 cF
theorem B4:gK ([]) 96 400 wJ:=
 aA (by kernel_rfl) mE5 <|
 aA (by kernel_rfl) mE7 <|
 aA (by kernel_rfl) aVq <|
 aA (by kernel_rfl) aVp <|
 aA (by kernel_rfl) aVo <|
 aA (by kernel_rfl) aVn <|
 aA (by kernel_rfl) aVm <|
 aA (by kernel_rfl) aVl <|
 aA (by kernel_rfl) aVk <|
 aA (by kernel_rfl) aVj <|
 aA (by kernel_rfl) aVi <|
 aA (by kernel_rfl) aVh <|
 aA (by kernel_rfl) aVg <|
 aA (by kernel_rfl) aVf <|
 aA (by kernel_rfl) aMZ <|
 aA (by kernel_rfl) aMY <|
 aA (by kernel_rfl) aLT <|
 aA (by kernel_rfl) aLS <|
 aA (by kernel_rfl) aKW <|
 aA (by kernel_rfl) aKC <|
 cF
theorem zR:gK ([]) 715 400 rL:=
 aA (by kernel_rfl) aVb <|
 aA (by kernel_rfl) aVa <|
 aA (by kernel_rfl) aUZ <|
 aA (by kernel_rfl) aUY <|
 aA (by kernel_rfl) aUX <|
 aA (by kernel_rfl) aUW <|
 cF
theorem zM:gK ([]) 826 400 rG:=
 aA (by kernel_rfl) aVd <|
 cF
theorem zL:gK ([]) 828 400 rF:=
 aA (by kernel_rfl) aVc <|
 aA (by kernel_rfl) aUJ <|
 aA (by kernel_rfl) aMW <|
 aA (by kernel_rfl) aMH <|
 aA (by kernel_rfl) aMt <|
 aA (by kernel_rfl) aMs <|
 aA (by kernel_rfl) aMr <|
 aA (by kernel_rfl) aMq <|
 aA (by kernel_rfl) aMp <|
 aA (by kernel_rfl) aMo <|
 aA (by kernel_rfl) aMn <|
 aA (by kernel_rfl) aMm <|
 aA (by kernel_rfl) aMl <|
 aA (by kernel_rfl) aMk <|
 aA (by kernel_rfl) aMj <|
 aA (by kernel_rfl) aMi <|
 aA (by kernel_rfl) aLQ <|
 aA (by kernel_rfl) aLD <|
 aA (by kernel_rfl) aLq <|
 aA (by kernel_rfl) aLp <|
 aA (by kernel_rfl) aLo <|
 aA (by kernel_rfl) aLn <|
 aA (by kernel_rfl) aLm <|
 aA (by kernel_rfl) aLl <|
 aA (by kernel_rfl) aLk <|
 aA (by kernel_rfl) aLj <|
 aA (by kernel_rfl) aLi <|
 aA (by kernel_rfl) aLh <|
 aA (by kernel_rfl) aLg <|
 aA (by kernel_rfl) aLf <|
 aA (by kernel_rfl) aKr <|
 aA (by kernel_rfl) aKq <|
 aA (by kernel_rfl) aKp <|
 aA (by kernel_rfl) aKo <|
 aA (by kernel_rfl) aKe <|
 aA (by kernel_rfl) aKd <|
 aA (by kernel_rfl) aKc <|
 aA (by kernel_rfl) aKb <|
 cF
theorem zJ:gK ([]) 837 400 rD:=
 aA (by kernel_rfl) aNr <|
 aA (by kernel_rfl) aNq <|
 aA (by kernel_rfl) aNp <|
 aA (by kernel_rfl) aNo <|
 aA (by kernel_rfl) aKJ <|
 aA (by kernel_rfl) aKI <|
 aA (by kernel_rfl) aKH <|
 aA (by kernel_rfl) aKG <|
 aA (by kernel_rfl) aJL <|
 aA (by kernel_rfl) aJK <|
 aA (by kernel_rfl) aJJ <|
 aA (by kernel_rfl) aJI <|
 cF
theorem HH:jG aH (0+400):=eP (B3 0) (q:=[(51,wK),(96,wJ),(715,rL),(826,rG),(828,rF),(837,rD)]) (by
 intro x hx;simp only[List.mem_cons,List.not_mem_nil,or_false]at hx;rcases hx with rfl|rfl|rfl|rfl|rfl|rfl;exact B5;exact B4;exact zR;exact zM;exact zL;exact zJ
 )
theorem zT:gK (aH) 475 400 rN:=
 aA (by kernel_rfl) mE8 <|
 aA (by kernel_rfl) aWn <|
 aA (by kernel_rfl) aVZ <|
 aA (by kernel_rfl) aVU <|
 aA (by kernel_rfl) aVH <|
 aA (by kernel_rfl) aVG <|
 aA (by kernel_rfl) aVC <|
 aA (by kernel_rfl) aVB <|
 aA (by kernel_rfl) aUV <|
 aA (by kernel_rfl) aUU <|
 aA (by kernel_rfl) aUT <|
 aA (by kernel_rfl) aUS <|
 aA (by kernel_rfl) aUR <|
 aA (by kernel_rfl) aUQ <|
 aA (by kernel_rfl) aUP <|
 aA (by kernel_rfl) aUO <|
 aA (by kernel_rfl) aUN <|
 aA (by kernel_rfl) aUM <|
 aA (by kernel_rfl) aUL <|
 aA (by kernel_rfl) aUK <|
 aA (by kernel_rfl) aUI <|
 aA (by kernel_rfl) aUH <|
 aA (by kernel_rfl) aUG <|
 aA (by kernel_rfl) aNy <|
 aA (by kernel_rfl) aNx <|
 aA (by kernel_rfl) aNw <|
 aA (by kernel_rfl) aNv <|
 aA (by kernel_rfl) aNu <|
 aA (by kernel_rfl) aNs <|
 aA (by kernel_rfl) aNi <|
 aA (by kernel_rfl) aNd <|
 aA (by kernel_rfl) aMU <|
 aA (by kernel_rfl) aMT <|
 aA (by kernel_rfl) aMS <|
 aA (by kernel_rfl) aMR <|
 aA (by kernel_rfl) aMQ <|
 aA (by kernel_rfl) aMP <|
 aA (by kernel_rfl) aMO <|
 aA (by kernel_rfl) aMN <|
 aA (by kernel_rfl) aML <|
 aA (by kernel_rfl) aMK <|
 aA (by kernel_rfl) aMJ <|
 aA (by kernel_rfl) aMI <|
 aA (by kernel_rfl) aMF <|
 aA (by kernel_rfl) aME <|
 aA (by kernel_rfl) aMD <|
 aA (by kernel_rfl) aMC <|
 aA (by kernel_rfl) aMB <|
 aA (by kernel_rfl) aMA <|
 aA (by kernel_rfl) aMz <|
 aA (by kernel_rfl) aMy <|
 aA (by kernel_rfl) aMx <|
 aA (by kernel_rfl) aMw <|
 aA (by kernel_rfl) aMu <|
 aA (by kernel_rfl) aMc <|
 aA (by kernel_rfl) aLX <|
 aA (by kernel_rfl) aLP <|
 aA (by kernel_rfl) aLO <|
 aA (by kernel_rfl) aLN <|
 aA (by kernel_rfl) aLM <|
 aA (by kernel_rfl) aLL <|
 aA (by kernel_rfl) aLK <|
 aA (by kernel_rfl) aLJ <|
 aA (by kernel_rfl) aLI <|
 aA (by kernel_rfl) aLH <|
 aA (by kernel_rfl) aLG <|
 aA (by kernel_rfl) aLF <|
 aA (by kernel_rfl) aLE <|
 aA (by kernel_rfl) aLC <|
 aA (by kernel_rfl) aLB <|
 aA (by kernel_rfl) aLA <|
 aA (by kernel_rfl) aLz <|
 aA (by kernel_rfl) aLy <|
 aA (by kernel_rfl) aLx <|
 aA (by kernel_rfl) aLw <|
 aA (by kernel_rfl) aLv <|
 aA (by kernel_rfl) aLu <|
 aA (by kernel_rfl) aLs <|
 aA (by kernel_rfl) aLr <|
 aA (by kernel_rfl) aKU <|
 aA (by kernel_rfl) aKT <|
 aA (by kernel_rfl) aKS <|
 aA (by kernel_rfl) aKR <|
 aA (by kernel_rfl) aKL <|
 aA (by kernel_rfl) aKK <|
 aA (by kernel_rfl) aKA <|
 aA (by kernel_rfl) aKz <|
 aA (by kernel_rfl) aKt <|
 aA (by kernel_rfl) aKs <|
 aA (by kernel_rfl) aKi <|
 aA (by kernel_rfl) aKh <|
 aA (by kernel_rfl) aKg <|
 aA (by kernel_rfl) aKf <|
 cF
theorem zS:gK (aH) 492 400 rM:=
 aA (by kernel_rfl) aWq <|
 aA (by kernel_rfl) aWp <|
 aA (by kernel_rfl) aWl <|
 aA (by kernel_rfl) aWi <|
 aA (by kernel_rfl) aWf <|
 aA (by kernel_rfl) aWe <|
 aA (by kernel_rfl) aWc <|
 aA (by kernel_rfl) aWa <|
 aA (by kernel_rfl) aVW <|
 aA (by kernel_rfl) aVV <|
 aA (by kernel_rfl) aVS <|
 aA (by kernel_rfl) aVQ <|
 aA (by kernel_rfl) aVN <|
 aA (by kernel_rfl) aVM <|
 aA (by kernel_rfl) aVK <|
 aA (by kernel_rfl) aVI <|
 aA (by kernel_rfl) aVE <|
 aA (by kernel_rfl) aVD <|
 aA (by kernel_rfl) aVz <|
 aA (by kernel_rfl) aVy <|
 aA (by kernel_rfl) aVw <|
 aA (by kernel_rfl) aVv <|
 aA (by kernel_rfl) aVt <|
 aA (by kernel_rfl) aVr <|
 aA (by kernel_rfl) aNg <|
 aA (by kernel_rfl) aNf <|
 aA (by kernel_rfl) aNb <|
 aA (by kernel_rfl) aNa <|
 aA (by kernel_rfl) aMa <|
 aA (by kernel_rfl) aLZ <|
 aA (by kernel_rfl) aLV <|
 aA (by kernel_rfl) aLU <|
 aA (by kernel_rfl) aKZ <|
 aA (by kernel_rfl) aKY <|
 aA (by kernel_rfl) aKX <|
 aA (by kernel_rfl) aKD <|
 cF
theorem zN:gK (aH) 812 400 rH:=
 aA (by kernel_rfl) aVe <|
 aA (by kernel_rfl) aMX <|
 aA (by kernel_rfl) aLR <|
 aA (by kernel_rfl) aKV <|
 aA (by kernel_rfl) aKM <|
 aA (by kernel_rfl) aKB <|
 aA (by kernel_rfl) aKu <|
 aA (by kernel_rfl) aKj <|
 aA (by kernel_rfl) aJW <|
 aA (by kernel_rfl) aJR <|
 aA (by kernel_rfl) aJM <|
 cF
theorem HG:jG kC (0+400+400):=eP HH (q:=[(475,rN),(492,rM),(812,rH)]) (by
 intro x hx;simp only[List.mem_cons,List.not_mem_nil,or_false]at hx;rcases hx with rfl|rfl|rfl;exact zT;exact zS;exact zN
 )
theorem zI:gK (kC) 860 400 rC:=
 aA (by kernel_rfl) aNn <|
 aA (by kernel_rfl) aMh <|
 aA (by kernel_rfl) aLe <|
 aA (by kernel_rfl) aKQ <|
 aA (by kernel_rfl) aKy <|
 aA (by kernel_rfl) aKn <|
 aA (by kernel_rfl) aKa <|
 aA (by kernel_rfl) aJV <|
 aA (by kernel_rfl) aJQ <|
 aA (by kernel_rfl) aJH <|
 cF
theorem HF:jG kB (0+400+400+400):=eP HG (q:=[(860,rC)]) (by
 intro x hx;simp only[List.mem_cons,List.not_mem_nil,or_false]at hx;subst hx;exact zI
 )
theorem zK:gK (kB) 834 400 rE:=
 aA (by kernel_rfl) aNm <|
 aA (by kernel_rfl) aMg <|
 aA (by kernel_rfl) aLd <|
 aA (by kernel_rfl) aKP <|
 aA (by kernel_rfl) aKx <|
 aA (by kernel_rfl) aKm <|
 aA (by kernel_rfl) aJZ <|
 aA (by kernel_rfl) aJU <|
 aA (by kernel_rfl) aJP <|
 aA (by kernel_rfl) aJG <|
 cF
theorem HE:jG jN (0+400+400+400+400):=eP HF (q:=[(834,rE)]) (by
 intro x hx;simp only[List.mem_cons,List.not_mem_nil,or_false]at hx;subst hx;exact zK
 )
theorem zO:gK (jN) 805 400 rI:=
 aA (by kernel_rfl) aNl <|
 aA (by kernel_rfl) aMf <|
 aA (by kernel_rfl) aLc <|
 aA (by kernel_rfl) aKO <|
 aA (by kernel_rfl) aKF <|
 aA (by kernel_rfl) aKw <|
 aA (by kernel_rfl) aKl <|
 aA (by kernel_rfl) aJY <|
 aA (by kernel_rfl) aJT <|
 aA (by kernel_rfl) aJO <|
 aA (by kernel_rfl) aJF <|
 cF
theorem HD:jG jM (0+400+400+400+400+400):=eP HE (q:=[(805,rI)]) (by
 intro x hx;simp only[List.mem_cons,List.not_mem_nil,or_false]at hx;subst hx;exact zO
 )
theorem zP:gK (jM) 791 400 rJ:=
 aA (by kernel_rfl) aNk <|
 aA (by kernel_rfl) aMe <|
 aA (by kernel_rfl) aLb <|
 aA (by kernel_rfl) aKN <|
 aA (by kernel_rfl) aKE <|
 aA (by kernel_rfl) aKv <|
 aA (by kernel_rfl) aKk <|
 aA (by kernel_rfl) aJX <|
 aA (by kernel_rfl) aJS <|
 aA (by kernel_rfl) aJN <|
 aA (by kernel_rfl) aJE <|
 cF
theorem HC:jG D1 (0+400+400+400+400+400+400):=eP HD (q:=[(791,rJ)]) (by
 intro x hx;simp only[List.mem_cons,List.not_mem_nil,or_false]at hx;subst hx;exact zP
 )
theorem zQ:gK (D1) 751 400 rK:=
 aA (by kernel_rfl) aJD <|
 cF
theorem HB:jG P4 (0+400+400+400+400+400+400+400):=eP HC (q:=[(751,rK)]) (by
 intro x hx;simp only[List.mem_cons,List.not_mem_nil,or_false]at hx;subst hx;exact zQ
 )
theorem aGh:Ret pgS 743 [] (.bool true):=⟨0+400+400+400+400+400+400+400+400,zH HB F9⟩
end Go.Proofs
end
section
namespace Go.Proofs.YtagdhpkdbdilaaaGreatDoor.inter51
open Go.ChangeShapes Go.WideShapes Go.ChangeAt Go.RowKit
def PE:Value:=.agg #[.slice none 0 0,.int .i64 0,.slice none 0 0,.bool false,.string ⟨#[]⟩,.int .i64 0,.int .i64 0,.string ⟨#[]⟩,.slice none 0 0,.bool false,.int .i64 0,.slice none 0 0,.slice none 0 0,.int .i64 0,.string ⟨#[]⟩,.int .i64 0,.int .i64 0,.string ⟨#[]⟩,.slice none 0 0,.bool false,.int .i64 0,.slice none 0 0,.slice none 0 0]
theorem own:ownKnob Tryz.prog.godebug=none:=by kernel_rfl
theorem E2(W:World):laidMetH Tryz.prog Rows.tileInterchangeUptoRow.laid W=laidMet Tryz.prog Rows.tileInterchangeUptoRow.laid W:=by
 have e:(Rows.tileInterchangeUptoRow.laid.filter λx=>x.2.handleName?.isSome)=[]:=by kernel_rfl
 unfold laidMetH;rw[e]
theorem HQ(os:Os):laidMetH Tryz.prog Rows.tileInterchangeUptoRow.laid ((World.laidAll Tryz.prog os Rows.tileInterchangeUptoRow.laid).forCall (λ_ _=>0) ⟨#[],#[PE,.slice none 0 0,.slice none 0 0],[]⟩).memory:=by rw[E2];exact laidMet_laidAll _ (by kernel_rfl) (by kernel_rfl)
theorem aHd(os:Os){H:Type}(enc:TypeId×Value->H):∃places,DataW.whole enc Tryz.prog ((World.laidAll Tryz.prog os Rows.tileInterchangeUptoRow.laid).forCall (λ_ _=>0) ⟨#[],#[PE,.slice none 0 0,.slice none 0 0],[]⟩).memory Tryz.f3.params.toList Rows.tileInterchangeSpec.vars false #[PE,.slice none 0 0,.slice none 0 0].toList 8=some ([.agg [.nil,.agg [.lit (.int .i64 0),.nil,.lit (.bool false)],.agg [.lit (.string []),.lit (.int .i64 0),.lit (.int .i64 0),.lit (.string []),.nil,.lit (.bool false),.lit (.int .i64 0),.nil,.nil],.lit (.int .i64 0),.agg [.lit (.string []),.lit (.int .i64 0),.lit (.int .i64 0),.lit (.string []),.nil,.lit (.bool false),.lit (.int .i64 0),.nil,.nil]],.nil,.nil],[],places):=
 ⟨[],by kernel_rfl⟩
set_option maxRecDepth 100000 in
theorem K2(os:Os){H:Type}(enc:TypeId×Value->H) :
  ∃(w:World)(tape:Tape)(i:Input),w.os=os/\(w.forCall tape i).Shaped Tryz.checked.prog/\i.vars=[]/\Input.okWide Tryz.checked.prog (w.forCall tape i) .any w.heap.size 3 i /\
   (Rows.OpenSpec.upto Rows.tileInterchangeSpec).preRow enc Tryz.checked.prog Tryz.f3 Rows.tileInterchangeUptoRow.domain false Rows.tileInterchangeUptoRow.laid (w.forCall tape i).memory i.args /\
   ({modest:=false}:Assume).holds Tryz.checked.prog (lone (Frame.enter Tryz.checked.prog 3 i.args .normal) [] (w.forCall tape i)):=by
 obtain⟨places,hx⟩:=aHd os enc
 exact witness_row_atRef (enc:=enc) (C:=Tryz.checked) (fn:=Tryz.f3) (s:=Rows.OpenSpec.upto Rows.tileInterchangeSpec) false (World.laidAll Tryz.prog os Rows.tileInterchangeUptoRow.laid) #[PE,.slice none 0 0,.slice none 0 0] (World.laidAll_os _ _ _) (by kernel_rfl) (by kernel_rfl) (by kernel_rfl)
   (OpenSpec.preRow_of_cond 8 hx (by kernel_rfl) (λk hk=>by cases hk;kernel_rfl) (by kernel_rfl) (HQ os))
set_option maxHeartbeats 8000000 in
theorem L7:joinedFacts Tryz.pinned.checked.prog 3 Tryz.f3 (Rows.OpenSpec.upto Rows.tileInterchangeSpec).bare Rows.tileInterchangeUptoRow=true:=by
 unfold joinedFacts;simp only[Bool.and_eq_true]
 repeat' (refine And.intro ?_ ?_)
 all_goals (as_aux_lemma=>kernel_rfl)
theorem aPu:Tryz.f3.isInstance Tryz.pinned.checked.prog Rows.tileInterchangeUptoRow.origin Rows.tileInterchangeUptoRow.targs:=of_decide_eq_true (by kernel_rfl)
theorem aHb:Tryz.f3.isWrapper Tryz.pinned.checked.prog Rows.tileInterchangeUptoRow.wrapper Rows.tileInterchangeUptoRow.mainSum:=by unfold Func.isWrapper;first|(rw[if_pos (by decide +kernel)];kernel_rfl)|(rw[if_neg (by decide +kernel)];exact⟨rfl,rfl⟩)
theorem aFn:Tryz.pinned.checked.prog.funcNamed Rows.tileInterchangeUptoRow.func=some 3:=by kernel_rfl
end Go.Proofs.YtagdhpkdbdilaaaGreatDoor.inter51
end
