/- For every reading of the arguments of PlanMake whose bulk is together at most 1048576 (the row's second form), the call returns true and the arguments read behind the call as they read before. Conditions: those of the row (loops, laid, recurses, unfollowed) and the card's tie of the listed package-level variables to the program's text; the copy of the project that the card speaks of is the pruned one. -/
import Derived.Test.YtplehelpidcobaaGreatDoorPAY
import Derived.Test.YtplehelpidcobaaGreatDoorPBF
import Derived.Test.YtplehelpidcobaaGreatDoorPBG
import Derived.Test.YtplehelpidcobaaGreatDoorPBH
import Derived.Carry
set_option linter.all false
section
set_option maxRecDepth 100000
namespace Go.Proofs.YtplehelpidcobaaGreatDoor.make47
open Go.Tev Go.ChangeShapes Go.WideShapes Go.ChangeAt Go.RowKit
theorem US:Go.Tev.Code pgS:=by constructor<;>kernel_rfl
theorem SF:Go.Tev.Code3 pgS:=by constructor<;>kernel_rfl
theorem PJ:Go.Tev.CodePl pgS:=by constructor<;>kernel_rfl
theorem VM:Go.Tev.Ora pgS:=by constructor<;>kernel_rfl
theorem QF (H:Type):FH (Rows.uptoBulk (H:=H)) (Rows.uptoBulkAll (H:=H)) where
 nil:=by simp [Rows.uptoBulkAll]
 cons:=by intro x r;simp [Rows.uptoBulkAll]
 sl:=by intro e s;simp [Rows.uptoBulk]
 agg:=by intro p;simp [Rows.uptoBulk]
 str:=by intro s;simp [Rows.uptoBulk]
 one:=by
  intro d
  cases d with
  | lit l=>cases l<;>simp [Rows.uptoBulk]
  | _=>simp [Rows.uptoBulk]
theorem C2 {v:Value} {n:Nat} (h2:2<=n) (h:v.cells.toList.length=n):∃ vs,v = .agg vs:=by
 cases v<;>first | exact ⟨_,rfl⟩ | (simp [Value.cells] at h;omega)
theorem n4:nm.f 611=3:=by kernel_rfl
theorem HY:laidOutB Tryz.prog=true:=by kernel_rfl
theorem NH (H:Type) (enc:TypeId × Value->H) (W:World) (base:Nat) (args:Array Value) (ds gs:List (DataW H)) (before:List MemPlace)
  (hval:∀ (j:Nat) t v,Tryz.f3.params[j]?=some t->args[j]?=some v->Value.okWide Tryz.prog W .any base t v)
  (hW:DataW.Whole enc Tryz.prog Tryz.f3.params.toList Rows.planMakeSpec.vars false W args.toList ds gs before) (hk:Rows.uptoSmall H (ds++gs)=true)
  (hL:laidMetH Tryz.prog Rows.planMakeUptoRow.laid W) :
  Calls Tryz.prog 3 args W fun e W'=>∃ v,e = .returned v/\Rows.planMakeSpec.post enc Tryz.prog Tryz.f3 false true false false W args v W':=by
 have hW':=hW
 obtain ⟨p,q,hA0,hV,rfl,hfz,hnd⟩:=hW
 have hA:DataW.TrodAll enc Tryz.prog W 0 (fun _=>true) true Tryz.f3.params.toList args.toList ds p:=hA0
 rw [Tryz.params3] at hA hval
 obtain ⟨v0,ws0,d0,ds0,p0,q0,hargs,rfl,rfl,h0,r0⟩:=trodAll_cons hA
 obtain ⟨v1,ws1,d1,ds1,p1,q1,rfl,rfl,rfl,h1,r1⟩:=trodAll_cons r0
 obtain ⟨rfl,rfl,rfl⟩:=trodAll_nil r1
 obtain rfl:args = #[v0,v1]:=by cases args;simp_all
 obtain ⟨rfl,rfl⟩:=trodVars_none hV
 clear hA0 hA r0 r1
 have hb:Rows.uptoBulk d0+Rows.uptoBulk d1<=1048576:=by
  have:Rows.uptoBulkAll [d0,d1]<=1048576:=of_decide_eq_true hk
  simp only [Rows.uptoBulkAll] at this
  omega
 have h0k:=h0
 have h1k:=h1
 obtain ⟨fu0,e0⟩:=h0
 obtain ⟨x0,hrv0,hok0⟩:=LB (num:=nm) (ρ:=fun _ _=>none) (QF H) tyS fu0 fu0 (Nat.le_refl _) _ _ _ e0 (by omega)
 have hlen0:v0.cells.toList.length=6:=by rw [<- hrv0.length];rfl
 obtain ⟨vs0,rfl⟩:=C2 (by omega) hlen0
 have hrx0:Rv nm (fun _ _=>none) W noF x0.av (.agg vs0):=Rv.of_all2_agg hrv0
 obtain ⟨fu1,e1⟩:=h1
 obtain ⟨x1,hrv1,hok1⟩:=OS (num:=nm) (ρ:=fun _ _=>none) (QF H) (tV:=54) (sV:=29) (tS:=9) (tI:=3) Tryz.underlying9 Tryz.underlying3 (by kernel_rfl) (by kernel_rfl) (by kernel_rfl) ⟨_,Tryz.underlying54,by kernel_rfl⟩ Tryz.underlying29 fu1 fu1 (Nat.le_refl _) _ _ _ e1 (by omega)
 obtain ⟨c1,hc1,hrx1⟩:=kD hrv1
 have hv1:v1=c1:=by
  obtain ⟨a1,l1,cp1,rfl⟩:=okWide_slice Tryz.underlying29 (hval 1 29 v1 rfl rfl)
  simpa [Value.cells] using hc1
 subst hv1
 obtain ⟨n,hn⟩:=SM US SF PJ VM (OY (by kernel_rfl) (by kernel_rfl)) SK x0 hok0 x1.nl x1.cl x1.es x1.ok
 obtain ⟨_,hcall⟩:=wH (qT (by kernel_rfl) fitS n).fn hn (Fb:=noF) (fun _ h=>h.elim) (UF hL) (.cons hrx0 (.cons hrx1 .nil))
 rw [n4] at hcall
 refine hcall.mono ?_
 rintro e W' ⟨cv,rfl,ev,hres⟩
 have hcv:cv = .bool true:=by
  have h2:Rv nm (fun _ _=>none) W' noF (.bool true) cv:=hres (fun _ _=>none)
  cases h2
  rfl
 subst hcv
 refine ⟨_,rfl,?_⟩
 have hbelow:Below W.heap.size W W':=⟨ev.os,ev.tape,ev.output,ev.size,fun b hb=>ev.keep b hb (fun h=>h)⟩
 have hlt0:∀ x∈p0,x.block < W.heap.size:=fun x hx=>hW'.lt x (by simp [hx])
 have hlt1:∀ x∈p1,x.block < W.heap.size:=fun x hx=>hW'.lt x (by simp [hx])
 have harg0:=Below.trod HY (by kernel_rfl) (of_decide_eq_true (by kernel_rfl)) h0k hbelow hlt0
 have harg1:=Below.trod HY (by kernel_rfl) (of_decide_eq_true (by kernel_rfl)) h1k hbelow hlt1
 refine ⟨[d0,d1],[],_,[],p0++(p1++[]),[],hW',?_,?_,rfl,Below.frame hbelow _,fun h=>by cases h⟩
 ·exact trodAll_cons_mk (shut_bool Tryz.underlying4 _) trodAll_mk0
 ·rw [Tryz.params3]
  exact trodAll_cons_mk harg0 (trodAll_cons_mk harg1 trodAll_mk0)
theorem RV (os:Os) (started:os.Started) (H:Type) (enc:TypeId × Value->H) (F:Stop.Interp) :
  ReturnsInHanded {} Tryz.checked os 3 .any ((Rows.OpenSpec.upto Rows.planMakeSpec).preRow enc Tryz.prog Tryz.f3 Rows.planMakeUptoRow.domain false Rows.planMakeUptoRow.laid) (((Rows.OpenSpec.upto Rows.planMakeSpec).at F).post enc Tryz.prog Tryz.f3 false true false false):=by
 refine returnsInHanded_of_row (C:=Tryz.checked) (s:=Rows.OpenSpec.upto Rows.planMakeSpec) own started (by kernel_rfl) Tryz.func3 (OE os enc) ?_
 intro W base args ds gs before hval hW _ hk _ hL _ _
 exact NH H enc W base args ds gs before hval hW (hk _ rfl) hL
set_option maxHeartbeats 8000000 in
theorem closedS:joinedFacts Tryz.pinned.checked.prog 3 Tryz.f3 (Rows.OpenSpec.upto Rows.planMakeSpec).bare Rows.planMakeUptoRow=true:=by
 unfold joinedFacts
 simp only [Bool.and_eq_true]
 repeat' (refine And.intro ?_ ?_)
 all_goals (as_aux_lemma=>kernel_rfl)
theorem instS:Tryz.f3.isInstance Tryz.pinned.checked.prog Rows.planMakeUptoRow.origin Rows.planMakeUptoRow.targs:=of_decide_eq_true (by kernel_rfl)
theorem wrapS:Tryz.f3.isWrapper Tryz.pinned.checked.prog Rows.planMakeUptoRow.wrapper Rows.planMakeUptoRow.mainSum:=by unfold Func.isWrapper;first | (rw [if_pos (by decide +kernel)];kernel_rfl) | (rw [if_neg (by decide +kernel)];exact ⟨rfl,rfl⟩)
theorem namedS:Tryz.pinned.checked.prog.funcNamed Rows.planMakeUptoRow.func=some 3:=by kernel_rfl
theorem VL:Rows.PlanMakeUptoSaid:=
 OpenClaim.holds_of_cond 3 Tryz.f3 rfl rfl rfl rfl rfl rfl rfl ⟨rfl,rfl,rfl,rfl,rfl⟩ rfl rfl rfl rfl rfl namedS Tryz.func3 closedS instS wrapS
  (fun os started H enc _ F=>by rw [OpenClaim.pre_eq_preRow];exact RV os started H enc F)
theorem TY (f:FuncId) (fn:Func) (hf:Tryz.pinned.checked.prog.funcNamed Rows.planMakeUptoRow.func=some f) (hfn:Tryz.pinned.checked.prog.funcs[f]?=some fn) :
  true=Tryz.pinned.checked.prog.looks []/\∀ (j:Nat) t,fn.params[j]?=some t->Tryz.pinned.checked.prog.wantsStandIn t=false:=by
 obtain rfl:f=3:=Option.some.inj ((show Tryz.prog.funcNamed Rows.planMakeUptoRow.func=some 3 by kernel_rfl).symm.trans hf) |>.symm
 obtain rfl:fn=Tryz.f3:=(Option.some.inj (Tryz.func3.symm.trans hfn)).symm
 refine ⟨by kernel_rfl,fun j t ht=>?_⟩
 rw [Tryz.params3] at ht
 have w28:Tryz.prog.wantsStandIn 28=false:=by kernel_rfl
 have w29:Tryz.prog.wantsStandIn 29=false:=by kernel_rfl
 have hm:t=28\/t=29:=by
  have:=Array.mem_of_getElem? ht
  simp at this
  omega
 rcases hm with rfl | rfl
 ·exact w28
 ·exact w29
theorem cardUpto:Rows.PlanMakeUptoCardSaid:=
 Claim7.holds_tied_plain_at .later [] _ _ _ _ VL (fun _ h=>by cases h) (by kernel_rfl) (fun _ h=>by cases h) planMakeUpto_row_tie rfl ⟨rfl,rfl⟩ (by kernel_rfl) rfl TY (by kernel_rfl)
#print axioms cardUpto
end Go.Proofs.YtplehelpidcobaaGreatDoor.make47
end
