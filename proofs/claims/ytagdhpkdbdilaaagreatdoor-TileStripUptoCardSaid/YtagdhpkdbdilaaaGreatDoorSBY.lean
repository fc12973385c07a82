import Derived.Test.YtagdhpkdbdilaaaGreatDoorSBJ
import Derived.Test.YtagdhpkdbdilaaaGreatDoorSBK
import Derived.Test.YtagdhpkdbdilaaaGreatDoorSBL
import Derived.Test.YtagdhpkdbdilaaaGreatDoorSBM
import Derived.Test.YtagdhpkdbdilaaaGreatDoorSBN
import Derived.Test.YtagdhpkdbdilaaaGreatDoorSBO
import Derived.Test.YtagdhpkdbdilaaaGreatDoorSBP
import Derived.Test.YtagdhpkdbdilaaaGreatDoorSBQ
import Derived.Test.YtagdhpkdbdilaaaGreatDoorSBR
import Derived.Test.YtagdhpkdbdilaaaGreatDoorSBS
import Derived.Test.YtagdhpkdbdilaaaGreatDoorSBT
import Derived.Test.YtagdhpkdbdilaaaGreatDoorSBU
import Derived.Test.YtagdhpkdbdilaaaGreatDoorSBV
import Derived.Test.YtagdhpkdbdilaaaGreatDoorSBW
import Derived.Test.YtagdhpkdbdilaaaGreatDoorSBX
import Derived.Test.YtagdhpkdbdilaaaGreatDoorCards
import Derived.Test.YtagdhpkdbdilaaaGreatDoorTie
import Derived.WalkKit
import Derived.ProofKit
import Derived.OpenShut
import Derived.Deep.DeepHandedRow
import Derived.Deep.DeepWitnessRowRef
import Derived.Lay
import Derived.Carry
set_option linter.all false
section
set_option maxRecDepth 100000
namespace Go.Proofs
open Go.Tev
theorem E5:iH ([]) 51 400 zP:=
 aA (by kernel_rfl) mE0 <|
 aA (by kernel_rfl) mE1 <|
 aA (by kernel_rfl) mE2 <|
 aA (by kernel_rfl) mE3 <|
 aA (by kernel_rfl) mE4 <|
 aA (by kernel_rfl) mE6 <|
 aA (by kernel_rfl) mE9 <|
 aA (by kernel_rfl) aZv <|
 aA (by kernel_rfl) aZs <|
 aA (by kernel_rfl) aZq <|
 aA (by kernel_rfl) aZo <|
 aA (by kernel_rfl) aZn <|
 aA (by kernel_rfl) aZl <|
 aA (by kernel_rfl) aZk <|
 aA (by kernel_rfl) aZh <|
 aA (by kernel_rfl) aZf <|
 aA (by kernel_rfl) aZc <|
 aA (by kernel_rfl) aZb <|
 aA (by kernel_rfl) aYX <|
 aA (by kernel_rfl) aYV <|
 aA (by kernel_rfl) aYT <|
 aA (by kernel_rfl) aYS <|
 aA (by kernel_rfl) aYP <|
 aA (by kernel_rfl) aYN <|
 aA (by kernel_rfl) aYJ <|
 aA (by kernel_rfl) aYE <|
 aA (by kernel_rfl) aYB <|
 aA (by kernel_rfl) aYy <|
 aA (by kernel_rfl) aYw <|
 aA (by kernel_rfl) aQj <|
 aA (by kernel_rfl) aPZ <|
 aA (by kernel_rfl) aPX <|
 aA (by kernel_rfl) aPU <|
 aA (by kernel_rfl) aPS <|
 aA (by kernel_rfl) aPL <|
 aA (by kernel_rfl) aPC <|
 aA (by kernel_rfl) aPw <|
 aA (by kernel_rfl) aPl <|
 aA (by kernel_rfl) aOT <|
 aA (by kernel_rfl) aOR <|
 aA (by kernel_rfl) aOO <|
 aA (by kernel_rfl) aOM <|
 aA (by kernel_rfl) aOj <|
 aA (by kernel_rfl) aNQ <|
 cR
theorem E4:iH ([]) 96 400 zO:=
 aA (by kernel_rfl) mE5 <|
 aA (by kernel_rfl) mE7 <|
 aA (by kernel_rfl) aYu <|
 aA (by kernel_rfl) aYt <|
 aA (by kernel_rfl) aYs <|
 aA (by kernel_rfl) aYr <|
 aA (by kernel_rfl) aYq <|
 aA (by kernel_rfl) aYp <|
 aA (by kernel_rfl) aYo <|
 aA (by kernel_rfl) aYn <|
 aA (by kernel_rfl) aYm <|
 aA (by kernel_rfl) aYl <|
 aA (by kernel_rfl) aYk <|
 aA (by kernel_rfl) aYj <|
 aA (by kernel_rfl) aPP <|
 aA (by kernel_rfl) aPO <|
 aA (by kernel_rfl) aOJ <|
 aA (by kernel_rfl) aOI <|
 aA (by kernel_rfl) aNM <|
 aA (by kernel_rfl) aNs <|
 cR
theorem CR:iH ([]) 715 400 t8:=
 aA (by kernel_rfl) aYf <|
 aA (by kernel_rfl) aYe <|
 aA (by kernel_rfl) aYd <|
 aA (by kernel_rfl) aYc <|
 aA (by kernel_rfl) aYb <|
 aA (by kernel_rfl) aYa <|
 cR
theorem CM:iH ([]) 826 400 tX:=
 aA (by kernel_rfl) aYh <|
 cR
theorem CL:iH ([]) 828 400 tW:=
 aA (by kernel_rfl) aYg <|
 aA (by kernel_rfl) aXN <|
 aA (by kernel_rfl) aPM <|
 aA (by kernel_rfl) aPx <|
 aA (by kernel_rfl) aPj <|
 aA (by kernel_rfl) aPi <|
 aA (by kernel_rfl) aPh <|
 aA (by kernel_rfl) aPg <|
 aA (by kernel_rfl) aPf <|
 aA (by kernel_rfl) aPe <|
 aA (by kernel_rfl) aPd <|
 aA (by kernel_rfl) aPc <|
 aA (by kernel_rfl) aPb <|
 aA (by kernel_rfl) aPa <|
 aA (by kernel_rfl) aOZ <|
 aA (by kernel_rfl) aOY <|
 aA (by kernel_rfl) aOG <|
 aA (by kernel_rfl) aOt <|
 aA (by kernel_rfl) aOg <|
 aA (by kernel_rfl) aOf <|
 aA (by kernel_rfl) aOe <|
 aA (by kernel_rfl) aOd <|
 aA (by kernel_rfl) aOc <|
 aA (by kernel_rfl) aOb <|
 aA (by kernel_rfl) aOa <|
 aA (by kernel_rfl) aNZ <|
 aA (by kernel_rfl) aNY <|
 aA (by kernel_rfl) aNX <|
 aA (by kernel_rfl) aNW <|
 aA (by kernel_rfl) aNV <|
 aA (by kernel_rfl) aNh <|
 aA (by kernel_rfl) aNg <|
 aA (by kernel_rfl) aNf <|
 aA (by kernel_rfl) aNe <|
 aA (by kernel_rfl) aMU <|
 aA (by kernel_rfl) aMT <|
 aA (by kernel_rfl) aMS <|
 aA (by kernel_rfl) aMR <|
 cR
theorem CJ:iH ([]) 837 400 tU:=
 aA (by kernel_rfl) aQh <|
 aA (by kernel_rfl) aQg <|
 aA (by kernel_rfl) aQf <|
 aA (by kernel_rfl) aQe <|
 aA (by kernel_rfl) aNz <|
 aA (by kernel_rfl) aNy <|
 aA (by kernel_rfl) aNx <|
 aA (by kernel_rfl) aNw <|
 aA (by kernel_rfl) aMB <|
 aA (by kernel_rfl) aMA <|
 aA (by kernel_rfl) aMz <|
 aA (by kernel_rfl) aMy <|
 cR
theorem K4:kC aH (0+400):=fI (E3 0) (q:=[(51,zP),(96,zO),(715,t8),(826,tX),(828,tW),(837,tU)]) (by
 intro x hx;simp only[List.mem_cons,List.not_mem_nil,or_false]at hx;rcases hx with rfl|rfl|rfl|rfl|rfl|rfl;exact E5;exact E4;exact CR;exact CM;exact CL;exact CJ
 )
theorem CT:iH (aH) 475 400 uC:=
 aA (by kernel_rfl) mE8 <|
 aA (by kernel_rfl) aZr <|
 aA (by kernel_rfl) aZd <|
 aA (by kernel_rfl) aYY <|
 aA (by kernel_rfl) aYL <|
 aA (by kernel_rfl) aYK <|
 aA (by kernel_rfl) aYG <|
 aA (by kernel_rfl) aYF <|
 aA (by kernel_rfl) aXZ <|
 aA (by kernel_rfl) aXY <|
 aA (by kernel_rfl) aXX <|
 aA (by kernel_rfl) aXW <|
 aA (by kernel_rfl) aXV <|
 aA (by kernel_rfl) aXU <|
 aA (by kernel_rfl) aXT <|
 aA (by kernel_rfl) aXS <|
 aA (by kernel_rfl) aXR <|
 aA (by kernel_rfl) aXQ <|
 aA (by kernel_rfl) aXP <|
 aA (by kernel_rfl) aXO <|
 aA (by kernel_rfl) aXM <|
 aA (by kernel_rfl) aXL <|
 aA (by kernel_rfl) aXK <|
 aA (by kernel_rfl) aQo <|
 aA (by kernel_rfl) aQn <|
 aA (by kernel_rfl) aQm <|
 aA (by kernel_rfl) aQl <|
 aA (by kernel_rfl) aQk <|
 aA (by kernel_rfl) aQi <|
 aA (by kernel_rfl) aPY <|
 aA (by kernel_rfl) aPT <|
 aA (by kernel_rfl) aPK <|
 aA (by kernel_rfl) aPJ <|
 aA (by kernel_rfl) aPI <|
 aA (by kernel_rfl) aPH <|
 aA (by kernel_rfl) aPG <|
 aA (by kernel_rfl) aPF <|
 aA (by kernel_rfl) aPE <|
 aA (by kernel_rfl) aPD <|
 aA (by kernel_rfl) aPB <|
 aA (by kernel_rfl) aPA <|
 aA (by kernel_rfl) aPz <|
 aA (by kernel_rfl) aPy <|
 aA (by kernel_rfl) aPv <|
 aA (by kernel_rfl) aPu <|
 aA (by kernel_rfl) aPt <|
 aA (by kernel_rfl) aPs <|
 aA (by kernel_rfl) aPr <|
 aA (by kernel_rfl) aPq <|
 aA (by kernel_rfl) aPp <|
 aA (by kernel_rfl) aPo <|
 aA (by kernel_rfl) aPn <|
 aA (by kernel_rfl) aPm <|
 aA (by kernel_rfl) aPk <|
 aA (by kernel_rfl) aOS <|
 aA (by kernel_rfl) aON <|
 aA (by kernel_rfl) aOF <|
 aA (by kernel_rfl) aOE <|
 aA (by kernel_rfl) aOD <|
 aA (by kernel_rfl) aOC <|
 aA (by kernel_rfl) aOB <|
 aA (by kernel_rfl) aOA <|
 aA (by kernel_rfl) aOz <|
 aA (by kernel_rfl) aOy <|
 aA (by kernel_rfl) aOx <|
 aA (by kernel_rfl) aOw <|
 aA (by kernel_rfl) aOv <|
 aA (by kernel_rfl) aOu <|
 aA (by kernel_rfl) aOs <|
 aA (by kernel_rfl) aOr <|
 aA (by kernel_rfl) aOq <|
 aA (by kernel_rfl) aOp <|
 aA (by kernel_rfl) aOo <|
 aA (by kernel_rfl) aOn <|
 aA (by kernel_rfl) aOm <|
 aA (by kernel_rfl) aOl <|
 aA (by kernel_rfl) aOk <|
 aA (by kernel_rfl) aOi <|
 aA (by kernel_rfl) aOh <|
 aA (by kernel_rfl) aNK <|
 aA (by kernel_rfl) aNJ <|
 aA (by kernel_rfl) aNI <|
 aA (by kernel_rfl) aNH <|
 aA (by kernel_rfl) aNB <|
 aA (by kernel_rfl) aNA <|
 aA (by kernel_rfl) aNq <|
 aA (by kernel_rfl) aNp <|
 aA (by kernel_rfl) aNj <|
 aA (by kernel_rfl) aNi <|
 aA (by kernel_rfl) aMY <|
 aA (by kernel_rfl) aMX <|
 aA (by kernel_rfl) aMW <|
 aA (by kernel_rfl) aMV <|
 cR
theorem CS:iH (aH) 492 400 uA:=
 aA (by kernel_rfl) aZu <|
 aA (by kernel_rfl) aZt <|
 aA (by kernel_rfl) aZp <|
 aA (by kernel_rfl) aZm <|
 aA (by kernel_rfl) aZj <|
 aA (by kernel_rfl) aZi <|
 aA (by kernel_rfl) aZg <|
 aA (by kernel_rfl) aZe <|
 aA (by kernel_rfl) aZa <|
 aA (by kernel_rfl) aYZ <|
 aA (by kernel_rfl) aYW <|
 aA (by kernel_rfl) aYU <|
 aA (by kernel_rfl) aYR <|
 aA (by kernel_rfl) aYQ <|
 aA (by kernel_rfl) aYO <|
 aA (by kernel_rfl) aYM <|
 aA (by kernel_rfl) aYI <|
 aA (by kernel_rfl) aYH <|
 aA (by kernel_rfl) aYD <|
 aA (by kernel_rfl) aYC <|
 aA (by kernel_rfl) aYA <|
 aA (by kernel_rfl) aYz <|
 aA (by kernel_rfl) aYx <|
 aA (by kernel_rfl) aYv <|
 aA (by kernel_rfl) aPW <|
 aA (by kernel_rfl) aPV <|
 aA (by kernel_rfl) aPR <|
 aA (by kernel_rfl) aPQ <|
 aA (by kernel_rfl) aOQ <|
 aA (by kernel_rfl) aOP <|
 aA (by kernel_rfl) aOL <|
 aA (by kernel_rfl) aOK <|
 aA (by kernel_rfl) aNP <|
 aA (by kernel_rfl) aNO <|
 aA (by kernel_rfl) aNN <|
 aA (by kernel_rfl) aNt <|
 cR
theorem CN:iH (aH) 812 400 tY:=
 aA (by kernel_rfl) aYi <|
 aA (by kernel_rfl) aPN <|
 aA (by kernel_rfl) aOH <|
 aA (by kernel_rfl) aNL <|
 aA (by kernel_rfl) aNC <|
 aA (by kernel_rfl) aNr <|
 aA (by kernel_rfl) aNk <|
 aA (by kernel_rfl) aMZ <|
 aA (by kernel_rfl) aMM <|
 aA (by kernel_rfl) aMH <|
 aA (by kernel_rfl) aMC <|
 cR
theorem K3:kC lD (0+400+400):=fI K4 (q:=[(475,uC),(492,uA),(812,tY)]) (by
 intro x hx;simp only[List.mem_cons,List.not_mem_nil,or_false]at hx;rcases hx with rfl|rfl|rfl;exact CT;exact CS;exact CN
 )
theorem CI:iH (lD) 860 400 tT:=
 aA (by kernel_rfl) aQd <|
 aA (by kernel_rfl) aOX <|
 aA (by kernel_rfl) aNU <|
 aA (by kernel_rfl) aNG <|
 aA (by kernel_rfl) aNo <|
 aA (by kernel_rfl) aNd <|
 aA (by kernel_rfl) aMQ <|
 aA (by kernel_rfl) aML <|
 aA (by kernel_rfl) aMG <|
 aA (by kernel_rfl) aMx <|
 cR
theorem K2:kC lC (0+400+400+400):=fI K3 (q:=[(860,tT)]) (by
 intro x hx;simp only[List.mem_cons,List.not_mem_nil,or_false]at hx;subst hx;exact CI
 )
theorem CK:iH (lC) 834 400 tV:=
 aA (by kernel_rfl) aQc <|
 aA (by kernel_rfl) aOW <|
 aA (by kernel_rfl) aNT <|
 aA (by kernel_rfl) aNF <|
 aA (by kernel_rfl) aNn <|
 aA (by kernel_rfl) aNc <|
 aA (by kernel_rfl) aMP <|
 aA (by kernel_rfl) aMK <|
 aA (by kernel_rfl) aMF <|
 aA (by kernel_rfl) aMw <|
 cR
theorem K1:kC kJ (0+400+400+400+400):=fI K2 (q:=[(834,tV)]) (by
 intro x hx;simp only[List.mem_cons,List.not_mem_nil,or_false]at hx;subst hx;exact CK
 )
theorem CO:iH (kJ) 805 400 tZ:=
 aA (by kernel_rfl) aQb <|
 aA (by kernel_rfl) aOV <|
 aA (by kernel_rfl) aNS <|
 aA (by kernel_rfl) aNE <|
 aA (by kernel_rfl) aNv <|
 aA (by kernel_rfl) aNm <|
 aA (by kernel_rfl) aNb <|
 aA (by kernel_rfl) aMO <|
 aA (by kernel_rfl) aMJ <|
 aA (by kernel_rfl) aME <|
 aA (by kernel_rfl) aMv <|
 cR
theorem K0:kC kI (0+400+400+400+400+400):=fI K1 (q:=[(805,tZ)]) (by
 intro x hx;simp only[List.mem_cons,List.not_mem_nil,or_false]at hx;subst hx;exact CO
 )
theorem CP:iH (kI) 791 400 t6:=
 aA (by kernel_rfl) aQa <|
 aA (by kernel_rfl) aOU <|
 aA (by kernel_rfl) aNR <|
 aA (by kernel_rfl) aND <|
 aA (by kernel_rfl) aNu <|
 aA (by kernel_rfl) aNl <|
 aA (by kernel_rfl) aNa <|
 aA (by kernel_rfl) aMN <|
 aA (by kernel_rfl) aMI <|
 aA (by kernel_rfl) aMD <|
 aA (by kernel_rfl) aMu <|
 cR
theorem KZ:kC G3 (0+400+400+400+400+400+400):=fI K0 (q:=[(791,t6)]) (by
 intro x hx;simp only[List.mem_cons,List.not_mem_nil,or_false]at hx;subst hx;exact CP
 )
theorem CQ:iH (G3) 751 400 t7:=
 aA (by kernel_rfl) aMt <|
 cR
theorem KY:kC UH (0+400+400+400+400+400+400+400):=fI KZ (q:=[(751,t7)]) (by
 intro x hx;simp only[List.mem_cons,List.not_mem_nil,or_false]at hx;subst hx;exact CQ
 )
theorem aIW:Ret pgS 743 [] (.bool true):=⟨0+400+400+400+400+400+400+400+400,CH KY JU⟩
end Go.Proofs
end
section
namespace Go.Proofs.YtagdhpkdbdilaaaGreatDoor.strip51
open Go.ChangeShapes Go.WideShapes Go.ChangeAt Go.RowKit
def TG:Value:=.agg #[.slice none 0 0,.int .i64 0,.slice none 0 0,.bool false,.string ⟨#[]⟩,.int .i64 0,.int .i64 0,.string ⟨#[]⟩,.slice none 0 0,.bool false,.int .i64 0,.slice none 0 0,.slice none 0 0,.int .i64 0,.string ⟨#[]⟩,.int .i64 0,.int .i64 0,.string ⟨#[]⟩,.slice none 0 0,.bool false,.int .i64 0,.slice none 0 0,.slice none 0 0]
theorem own:ownKnob Tryz.prog.godebug=none:=by kernel_rfl
theorem IH(W:World):laidMetH Tryz.prog Rows.tileStripUptoRow.laid W=laidMet Tryz.prog Rows.tileStripUptoRow.laid W:=by
 have e:(Rows.tileStripUptoRow.laid.filter λx=>x.2.handleName?.isSome)=[]:=by kernel_rfl
 unfold laidMetH;rw[e]
theorem LE(os:Os):laidMetH Tryz.prog Rows.tileStripUptoRow.laid ((World.laidAll Tryz.prog os Rows.tileStripUptoRow.laid).forCall (λ_ _=>0) ⟨#[],#[TG,.slice none 0 0,.agg #[.int .i64 0,.int .i64 0,.string ⟨#[]⟩,.slice none 0 0]],[]⟩).memory:=by rw[IH];exact laidMet_laidAll _ (by kernel_rfl) (by kernel_rfl)
theorem aJU(os:Os){H:Type}(enc:TypeId×Value->H):∃places,DataW.whole enc Tryz.prog ((World.laidAll Tryz.prog os Rows.tileStripUptoRow.laid).forCall (λ_ _=>0) ⟨#[],#[TG,.slice none 0 0,.agg #[.int .i64 0,.int .i64 0,.string ⟨#[]⟩,.slice none 0 0]],[]⟩).memory Tryz.f4.params.toList Rows.tileStripSpec.vars false #[TG,.slice none 0 0,.agg #[.int .i64 0,.int .i64 0,.string ⟨#[]⟩,.slice none 0 0]].toList 8=some ([.agg [.nil,.agg [.lit (.int .i64 0),.nil,.lit (.bool false)],.agg [.lit (.string []),.lit (.int .i64 0),.lit (.int .i64 0),.lit (.string []),.nil,.lit (.bool false),.lit (.int .i64 0),.nil,.nil],.lit (.int .i64 0),.agg [.lit (.string []),.lit (.int .i64 0),.lit (.int .i64 0),.lit (.string []),.nil,.lit (.bool false),.lit (.int .i64 0),.nil,.nil]],.nil,.agg [.lit (.int .i64 0),.lit (.int .i64 0),.lit (.string []),.nil]],[],places):=
 ⟨[],by kernel_rfl⟩
set_option maxRecDepth 100000 in
theorem OZ(os:Os){H:Type}(enc:TypeId×Value->H) :
  ∃(w:World)(tape:Tape)(i:Input),w.os=os/\(w.forCall tape i).Shaped Tryz.checked.prog/\i.vars=[]/\Input.okWide Tryz.checked.prog (w.forCall tape i) .any w.heap.size 4 i /\
   (Rows.OpenSpec.upto Rows.tileStripSpec).preRow enc Tryz.checked.prog Tryz.f4 Rows.tileStripUptoRow.domain false Rows.tileStripUptoRow.laid (w.forCall tape i).memory i.args /\
   ({modest:=false}:Assume).holds Tryz.checked.prog (lone (Frame.enter Tryz.checked.prog 4 i.args .normal) [] (w.forCall tape i)):=by
 obtain⟨places,hx⟩:=aJU os enc
 exact witness_row_atRef (enc:=enc) (C:=Tryz.checked) (fn:=Tryz.f4) (s:=Rows.OpenSpec.upto Rows.tileStripSpec) false (World.laidAll Tryz.prog os Rows.tileStripUptoRow.laid) #[TG,.slice none 0 0,.agg #[.int .i64 0,.int .i64 0,.string ⟨#[]⟩,.slice none 0 0]] (World.laidAll_os _ _ _) (by kernel_rfl) (by kernel_rfl) (by kernel_rfl)
   (OpenSpec.preRow_of_cond 8 hx (by kernel_rfl) (λk hk=>by cases hk;kernel_rfl) (by kernel_rfl) (LE os))
set_option maxHeartbeats 8000000 in
theorem P9:joinedFacts Tryz.pinned.checked.prog 4 Tryz.f4 (Rows.OpenSpec.upto Rows.tileStripSpec).bare Rows.tileStripUptoRow=true:=by
 unfold joinedFacts;simp only[Bool.and_eq_true]
 repeat' (refine And.intro ?_ ?_)
 all_goals (as_aux_lemma=>kernel_rfl)
theorem aSk:Tryz.f4.isInstance Tryz.pinned.checked.prog Rows.tileStripUptoRow.origin Rows.tileStripUptoRow.targs:=of_decide_eq_true (by kernel_rfl)
theorem aJS:Tryz.f4.isWrapper Tryz.pinned.checked.prog Rows.tileStripUptoRow.wrapper Rows.tileStripUptoRow.mainSum:=by unfold Func.isWrapper;first|(rw[if_pos (by decide +kernel)];kernel_rfl)|(rw[if_neg (by decide +kernel)];exact⟨rfl,rfl⟩)
theorem aIg:Tryz.pinned.checked.prog.funcNamed Rows.tileStripUptoRow.func=some 4:=by kernel_rfl
end Go.Proofs.YtagdhpkdbdilaaaGreatDoor.strip51
end
