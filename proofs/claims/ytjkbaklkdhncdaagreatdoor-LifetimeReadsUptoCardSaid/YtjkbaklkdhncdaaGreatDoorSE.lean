/- For every reading of the one argument of LifetimeReads whose bulk is at most 1048576 (the row's second form), the call returns true and the argument reads behind the call as it read before. Conditions: those of the row (loops, laid, recurses, unfollowed) and the card's tie of the listed package-level variables to the program's text; the copy of the project that the card speaks of is the pruned one. -/
import Derived.Test.YtjkbaklkdhncdaaGreatDoorSB
import Derived.Test.YtjkbaklkdhncdaaGreatDoorSC
import Derived.Test.YtjkbaklkdhncdaaGreatDoorSD
import Derived.Carry
set_option linter.all false
section
set_option maxRecDepth 100000
namespace Go.Proofs.YtjkbaklkdhncdaaGreatDoor.reads5
open Go.Tev Go.ChangeShapes Go.WideShapes Go.ChangeAt Go.RowKit
theorem codeS : Go.Tev.Code pgS := by constructor <;> kernel_rfl
theorem oraS : Go.Tev.Ora pgS := by constructor <;> kernel_rfl
theorem bulkS (H : Type) : Bulk (Rows.uptoBulk (H := H)) (Rows.uptoBulkAll (H := H)) where
  nil := by simp [Rows.uptoBulkAll]
  cons := by intro x r; simp [Rows.uptoBulkAll]
  sl := by intro e s; simp [Rows.uptoBulk]
  agg := by intro p; simp [Rows.uptoBulk]
  str := by intro s; simp [Rows.uptoBulk]
  one := by
    intro d
    cases d with
    | lit l => cases l <;> simp [Rows.uptoBulk]
    | _ => simp [Rows.uptoBulk]
theorem agg_of_cells {v : Value} (h : v.cells.toList.length = 6) : ∃ vs, v = .agg vs := by
  cases v <;> first | exact ⟨_, rfl⟩ | (simp [Value.cells] at h)
theorem n5 : num 5 = 5 := by kernel_rfl
theorem laidOut : laidOutB Tryz.prog = true := by kernel_rfl
theorem contract (H : Type) (enc : TypeId × Value → H) (W : World) (args : Array Value) (ds gs : List (DataW H)) (before : List MemPlace)
    (hW : DataW.Whole enc Tryz.prog Tryz.f5.params.toList Rows.lifetimeReadsSpec.vars false W args.toList ds gs before) (hk : Rows.uptoSmall H (ds ++ gs) = true)
    (hL : laidMetH Tryz.prog Rows.lifetimeReadsUptoRow.laid W) :
    Calls Tryz.prog 5 args W fun e W' => ∃ v, e = .returned v ∧ Rows.lifetimeReadsSpec.post enc Tryz.prog Tryz.f5 false true false false W args v W' := by
  have hW' := hW
  obtain ⟨p, q, hA0, hV, rfl, hfz, hnd⟩ := hW
  have hA : DataW.TrodAll enc Tryz.prog W 0 (fun _ => true) true Tryz.f5.params.toList args.toList ds p := hA0
  rw [Tryz.params5] at hA
  obtain ⟨v0, vs0, d0, ds0, p0, q0, hargs, rfl, rfl, h0, r0⟩ := trodAll_cons hA
  obtain ⟨rfl, rfl, rfl⟩ := trodAll_nil r0
  obtain rfl : args = #[v0] := by cases args; simp_all
  obtain ⟨rfl, rfl⟩ := trodVars_none hV
  clear hA0 hA
  have hb : Rows.uptoBulk d0 ≤ 1048576 := by
    have : Rows.uptoBulkAll [d0] ≤ 1048576 := of_decide_eq_true hk
    simpa [Rows.uptoBulkAll] using this
  have h0k := h0
  obtain ⟨fuel, h1⟩ := h0
  obtain ⟨k, hrv, hok⟩ := rd_tKers (num := num) (ρ := fun _ _ => none) (bulkS H) tyS fuel fuel (Nat.le_refl _) _ _ _ h1 hb
  have hlen : v0.cells.toList.length = 6 := by rw [← hrv.length]; rfl
  obtain ⟨vs, rfl⟩ := agg_of_cells hlen
  have hrv' : Rv num (fun _ _ => none) W noF k.av (.agg vs) := Rv.of_all2_agg hrv
  obtain ⟨n, hn⟩ := all5 codeS oraS awakeS k hok
  obtain ⟨_, hcall⟩ := callP_sound (callN_sound (by kernel_rfl) fitS n) hn (Fb := noF) (fun _ h => h.elim) (globS hL) (.cons hrv' .nil)
  rw [n5] at hcall
  refine hcall.mono ?_
  rintro e W' ⟨cv, rfl, ev, hres⟩
  have hcv : cv = .bool true := by
    have h2 : Rv num (fun _ _ => none) W' noF (.bool true) cv := hres (fun _ _ => none)
    cases h2
    rfl
  subst hcv
  refine ⟨_, rfl, ?_⟩
  have hbelow : Below W.heap.size W W' := ⟨ev.os, ev.tape, ev.output, ev.size, fun b hb => ev.keep b hb (fun h => h)⟩
  have hlt : ∀ x ∈ p0, x.block < W.heap.size := fun x hx => hW'.lt x (by simp [hx])
  have harg := Below.trod laidOut (by kernel_rfl) (of_decide_eq_true (by kernel_rfl)) h0k hbelow hlt
  refine ⟨[d0], [], _, [], p0 ++ [], [], hW', ?_, ?_, rfl, Below.frame hbelow _, fun h => by cases h⟩
  · exact trodAll_cons_mk (shut_bool Tryz.underlying4 _) trodAll_mk0
  · rw [Tryz.params5]
    exact trodAll_cons_mk harg trodAll_mk0
theorem lifted (os : Os) (started : os.Started) (H : Type) (enc : TypeId × Value → H) (F : Stop.Interp) :
    ReturnsInHanded {} Tryz.checked os 5 .any ((Rows.OpenSpec.upto Rows.lifetimeReadsSpec).preRow enc Tryz.prog Tryz.f5 Rows.lifetimeReadsUptoRow.domain false Rows.lifetimeReadsUptoRow.laid) (((Rows.OpenSpec.upto Rows.lifetimeReadsSpec).at F).post enc Tryz.prog Tryz.f5 false true false false) := by
  refine returnsInHanded_of_row (C := Tryz.checked) (s := Rows.OpenSpec.upto Rows.lifetimeReadsSpec) own started (by kernel_rfl) Tryz.func5 (witness os enc) ?_
  intro W base args ds gs before hval hW _ hk _ hL _ _
  exact contract H enc W args ds gs before hW (hk _ rfl) hL
theorem said : Rows.LifetimeReadsUptoSaid :=
  OpenClaim.holds_of_cond 5 Tryz.f5 rfl rfl rfl rfl rfl rfl rfl ⟨rfl, rfl, rfl, rfl, rfl⟩ rfl rfl rfl rfl rfl (by kernel_rfl) Tryz.func5 (by kernel_rfl)
    (of_decide_eq_true (by kernel_rfl)) (by unfold Func.isWrapper; first | (rw [if_pos (by decide +kernel)]; kernel_rfl) | (rw [if_neg (by decide +kernel)]; exact ⟨rfl, rfl⟩))
    (fun os started H enc _ F => by rw [OpenClaim.pre_eq_preRow]; exact lifted os started H enc F)
theorem plain (f : FuncId) (fn : Func) (hf : Tryz.pinned.checked.prog.funcNamed Rows.lifetimeReadsUptoRow.func = some f) (hfn : Tryz.pinned.checked.prog.funcs[f]? = some fn) :
    true = Tryz.pinned.checked.prog.looks [] ∧ ∀ (j : Nat) t, fn.params[j]? = some t → Tryz.pinned.checked.prog.wantsStandIn t = false := by
  obtain rfl : f = 5 := Option.some.inj ((show Tryz.prog.funcNamed Rows.lifetimeReadsUptoRow.func = some 5 by kernel_rfl).symm.trans hf) |>.symm
  obtain rfl : fn = Tryz.f5 := (Option.some.inj (Tryz.func5.symm.trans hfn)).symm
  refine ⟨by kernel_rfl, fun j t ht => ?_⟩
  rw [Tryz.params5] at ht
  obtain rfl : t = 28 := by simpa using Array.mem_of_getElem? ht
  exact (show Tryz.prog.wantsStandIn 28 = false by kernel_rfl)
theorem cardUpto : Rows.LifetimeReadsUptoCardSaid :=
  Claim7.holds_tied_plain_at .later [] _ _ _ _ said (fun _ h => by cases h) (by kernel_rfl) (fun _ h => by cases h) lifetimeReadsUpto_row_tie rfl ⟨rfl, rfl⟩ (by kernel_rfl) rfl plain (by kernel_rfl)
#print axioms cardUpto
end Go.Proofs.YtjkbaklkdhncdaaGreatDoor.reads5
end
