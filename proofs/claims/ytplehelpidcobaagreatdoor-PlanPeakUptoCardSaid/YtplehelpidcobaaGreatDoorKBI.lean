/- For every reading of the arguments of PlanPeak whose bulk is together at most 1048576 (the row's second form), the call returns true and the arguments read behind the call as they read before. Conditions: those of the row (loops, laid, recurses, unfollowed) and the card's tie of the listed package-level variables to the program's text; the copy of the project that the card speaks of is the pruned one. -/
import Derived.Test.YtplehelpidcobaaGreatDoorKAX
import Derived.Test.YtplehelpidcobaaGreatDoorKBF
import Derived.Test.YtplehelpidcobaaGreatDoorKBG
import Derived.Test.YtplehelpidcobaaGreatDoorKBH
import Derived.Carry
set_option linter.all false
section
set_option maxRecDepth 100000
namespace Go.Proofs.YtplehelpidcobaaGreatDoor.peak47
open Go.Tev Go.ChangeShapes Go.WideShapes Go.ChangeAt Go.RowKit
theorem V8:Go.Tev.Code pgS:=by constructor<;>kernel_rfl
theorem TQ:Go.Tev.Code3 pgS:=by constructor<;>kernel_rfl
theorem QM:Go.Tev.CodePk pgS:=by constructor<;>kernel_rfl
theorem aAY:Go.Tev.Ora pgS:=by constructor<;>kernel_rfl
theorem RI (H:Type):F7 (Rows.uptoBulk (H:=H)) (Rows.uptoBulkAll (H:=H)) where
 nil:=by simp [Rows.uptoBulkAll]
 cons:=by intro x r;simp [Rows.uptoBulkAll]
 sl:=by intro e s;simp [Rows.uptoBulk]
 agg:=by intro p;simp [Rows.uptoBulk]
 str:=by intro s;simp [Rows.uptoBulk]
 one:=by
  intro d
  cases d with
  | lit l=>cases l<;>simp [Rows.uptoBulk]
  | _=>simp [Rows.uptoBulk]
theorem DD {v:Value} {n:Nat} (h2:2<=n) (h:v.cells.toList.length=n):∃ vs,v = .agg vs:=by
 cases v<;>first | exact ⟨_,rfl⟩ | (simp [Value.cells] at h;omega)
theorem n4:nm.f 612=4:=by kernel_rfl
theorem IW:laidOutB Tryz.prog=true:=by kernel_rfl
theorem OC (H:Type) (enc:TypeId × Value->H) (W:World) (base:Nat) (args:Array Value) (ds gs:List (DataW H)) (before:List MemPlace)
  (hval:∀ (j:Nat) t v,Tryz.f4.params[j]?=some t->args[j]?=some v->Value.okWide Tryz.prog W .any base t v)
  (hW:DataW.Whole enc Tryz.prog Tryz.f4.params.toList Rows.planPeakSpec.vars false W args.toList ds gs before) (hk:Rows.uptoSmall H (ds++gs)=true)
  (hL:laidMetH Tryz.prog Rows.planPeakUptoRow.laid W) :
  Calls Tryz.prog 4 args W fun e W'=>∃ v,e = .returned v/\Rows.planPeakSpec.post enc Tryz.prog Tryz.f4 false true false false W args v W':=by
 have hW':=hW
 obtain ⟨p,q,hA0,hV,rfl,hfz,hnd⟩:=hW
 have hA:DataW.TrodAll enc Tryz.prog W 0 (fun _=>true) true Tryz.f4.params.toList args.toList ds p:=hA0
 rw [Tryz.params4] at hA hval
 obtain ⟨v0,ws0,d0,ds0,p0,q0,hargs,rfl,rfl,h0,r0⟩:=trodAll_cons hA
 obtain ⟨v1,ws1,d1,ds1,p1,q1,rfl,rfl,rfl,h1,r1⟩:=trodAll_cons r0
 obtain ⟨rfl,rfl,rfl⟩:=trodAll_nil r1
 obtain rfl:args = #[v0,v1]:=by cases args;simp_all
 obtain ⟨rfl,rfl⟩:=trodVars_none hV
 clear hA0 hA r0 r1
 have hb:Rows.uptoBulk d0+Rows.uptoBulk d1<=1048576:=by
  have:Rows.uptoBulkAll [d0,d1]<=1048576:=of_decide_eq_true hk
  simp only [Rows.uptoBulkAll] at this
  omega
 have h0k:=h0
 have h1k:=h1
 obtain ⟨fu0,e0⟩:=h0
 obtain ⟨x0,hrv0,hok0⟩:=L5 (num:=nm) (ρ:=fun _ _=>none) (RI H) tyS fu0 fu0 (Nat.le_refl _) _ _ _ e0 (by omega)
 have hlen0:v0.cells.toList.length=6:=by rw [<- hrv0.length];rfl
 obtain ⟨vs0,rfl⟩:=DD (by omega) hlen0
 have hrx0:Rv nm (fun _ _=>none) W noF x0.av (.agg vs0):=Rv.of_all2_agg hrv0
 obtain ⟨fu1,e1⟩:=h1
 obtain ⟨x1,hrv1,hok1⟩:=PU (num:=nm) (ρ:=fun _ _=>none) (RI H) (tV:=54) (sV:=29) (tS:=9) (tI:=3) Tryz.underlying9 Tryz.underlying3 (by kernel_rfl) (by kernel_rfl) (by kernel_rfl) ⟨_,Tryz.underlying54,by kernel_rfl⟩ Tryz.underlying29 fu1 fu1 (Nat.le_refl _) _ _ _ e1 (by omega)
 obtain ⟨c1,hc1,hrx1⟩:=kC hrv1
 have hv1:v1=c1:=by
  obtain ⟨a1,l1,cp1,rfl⟩:=okWide_slice Tryz.underlying29 (hval 1 29 v1 rfl rfl)
  simpa [Value.cells] using hc1
 subst hv1
 obtain ⟨n,hn⟩:=TX V8 TQ QM aAY (P1 (by kernel_rfl) (by kernel_rfl)) TV x0 hok0 x1.nl x1.cl x1.es x1.ok
 obtain ⟨_,hcall⟩:=wO (rC (by kernel_rfl) fitS n).fn hn (Fb:=noF) (fun _ h=>h.elim) (VV hL) (.cons hrx0 (.cons hrx1 .nil))
 rw [n4] at hcall
 refine hcall.mono ?_
 rintro e W' ⟨cv,rfl,ev,hres⟩
 have hcv:cv = .bool true:=by
  have h2:Rv nm (fun _ _=>none) W' noF (.bool true) cv:=hres (fun _ _=>none)
  cases h2
  rfl
 subst hcv
 refine ⟨_,rfl,?_⟩
 have hbelow:Below W.heap.size W W':=⟨ev.os,ev.tape,ev.output,ev.size,fun b hb=>ev.keep b hb (fun h=>h)⟩
 have hlt0:∀ x∈p0,x.block < W.heap.size:=fun x hx=>hW'.lt x (by simp [hx])
 have hlt1:∀ x∈p1,x.block < W.heap.size:=fun x hx=>hW'.lt x (by simp [hx])
 have harg0:=Below.trod IW (by kernel_rfl) (of_decide_eq_true (by kernel_rfl)) h0k hbelow hlt0
 have harg1:=Below.trod IW (by kernel_rfl) (of_decide_eq_true (by kernel_rfl)) h1k hbelow hlt1
 refine ⟨[d0,d1],[],_,[],p0++(p1++[]),[],hW',?_,?_,rfl,Below.frame hbelow _,fun h=>by cases h⟩
 ·exact trodAll_cons_mk (shut_bool Tryz.underlying4 _) trodAll_mk0
 ·rw [Tryz.params4]
  exact trodAll_cons_mk harg0 (trodAll_cons_mk harg1 trodAll_mk0)
theorem S6 (os:Os) (started:os.Started) (H:Type) (enc:TypeId × Value->H) (F:Stop.Interp) :
  ReturnsInHanded {} Tryz.checked os 4 .any ((Rows.OpenSpec.upto Rows.planPeakSpec).preRow enc Tryz.prog Tryz.f4 Rows.planPeakUptoRow.domain false Rows.planPeakUptoRow.laid) (((Rows.OpenSpec.upto Rows.planPeakSpec).at F).post enc Tryz.prog Tryz.f4 false true false false):=by
 refine returnsInHanded_of_row (C:=Tryz.checked) (s:=Rows.OpenSpec.upto Rows.planPeakSpec) own started (by kernel_rfl) Tryz.func4 (PE os enc) ?_
 intro W base args ds gs before hval hW _ hk _ hL _ _
 exact OC H enc W base args ds gs before hval hW (hk _ rfl) hL
set_option maxHeartbeats 8000000 in
theorem QN:joinedFacts Tryz.pinned.checked.prog 4 Tryz.f4 (Rows.OpenSpec.upto Rows.planPeakSpec).bare Rows.planPeakUptoRow=true:=by
 unfold joinedFacts
 simp only [Bool.and_eq_true]
 repeat' (refine And.intro ?_ ?_)
 all_goals (as_aux_lemma=>kernel_rfl)
theorem VT:Tryz.f4.isInstance Tryz.pinned.checked.prog Rows.planPeakUptoRow.origin Rows.planPeakUptoRow.targs:=of_decide_eq_true (by kernel_rfl)
theorem VB:Tryz.f4.isWrapper Tryz.pinned.checked.prog Rows.planPeakUptoRow.wrapper Rows.planPeakUptoRow.mainSum:=by unfold Func.isWrapper;first | (rw [if_pos (by decide +kernel)];kernel_rfl) | (rw [if_neg (by decide +kernel)];exact ⟨rfl,rfl⟩)
theorem S3:Tryz.pinned.checked.prog.funcNamed Rows.planPeakUptoRow.func=some 4:=by kernel_rfl
theorem W1:Rows.PlanPeakUptoSaid:=
 OpenClaim.holds_of_cond 4 Tryz.f4 rfl rfl rfl rfl rfl rfl rfl ⟨rfl,rfl,rfl,rfl,rfl⟩ rfl rfl rfl rfl rfl S3 Tryz.func4 QN VT VB
  (fun os started H enc _ F=>by rw [OpenClaim.pre_eq_preRow];exact S6 os started H enc F)
theorem VH (f:FuncId) (fn:Func) (hf:Tryz.pinned.checked.prog.funcNamed Rows.planPeakUptoRow.func=some f) (hfn:Tryz.pinned.checked.prog.funcs[f]?=some fn) :
  true=Tryz.pinned.checked.prog.looks []/\∀ (j:Nat) t,fn.params[j]?=some t->Tryz.pinned.checked.prog.wantsStandIn t=false:=by
 obtain rfl:f=4:=Option.some.inj ((show Tryz.prog.funcNamed Rows.planPeakUptoRow.func=some 4 by kernel_rfl).symm.trans hf) |>.symm
 obtain rfl:fn=Tryz.f4:=(Option.some.inj (Tryz.func4.symm.trans hfn)).symm
 refine ⟨by kernel_rfl,fun j t ht=>?_⟩
 rw [Tryz.params4] at ht
 have w28:Tryz.prog.wantsStandIn 28=false:=by kernel_rfl
 have w29:Tryz.prog.wantsStandIn 29=false:=by kernel_rfl
 have hm:t=28\/t=29:=by
  have:=Array.mem_of_getElem? ht
  simp at this
  omega
 rcases hm with rfl | rfl
 ·exact w28
 ·exact w29
theorem cardUpto:Rows.PlanPeakUptoCardSaid:=
 Claim7.holds_tied_plain_at .later [] _ _ _ _ W1 (fun _ h=>by cases h) (by kernel_rfl) (fun _ h=>by cases h) planPeakUpto_row_tie rfl ⟨rfl,rfl⟩ (by kernel_rfl) rfl VH (by kernel_rfl)
#print axioms cardUpto
end Go.Proofs.YtplehelpidcobaaGreatDoor.peak47
end
