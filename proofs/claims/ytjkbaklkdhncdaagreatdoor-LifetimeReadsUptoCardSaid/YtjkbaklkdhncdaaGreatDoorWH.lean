import Derived.Test.YtjkbaklkdhncdaaGreatDoorWG
import Derived.Test.YtjkbaklkdhncdaaGreatDoorWF
set_option linter.all false
section
namespace Go.Tev
def putsI (acc l : List Int) : List Int := l.foldl (fun a x => putI x a) acc
mutual
def readsR : Pull → List Int
  | .mk op _ value _ _ _ _ _ _ kids _ => readsRs (if decide (op.bs = [114, 101, 97, 100]) then putI value [] else []) kids
def readsRs : List Int → List Pull → List Int
  | acc, [] => acc
  | acc, p :: r => readsRs (putsI acc (readsR p)) r
end
theorem readsR_eq (p : Pull) : readsR p = readsRs (if decide (p.op.bs = [114, 101, 97, 100]) then putI p.value [] else []) p.kids := by cases p; rw [readsR]; rfl
theorem putsI_len : ∀ (l acc : List Int), (putsI acc l).length ≤ acc.length + l.length
  | [], acc => by simp [putsI]
  | x :: r, acc => by
    have h1 := putsI_len r (putI x acc)
    have h2 := putI_len x acc
    simp only [putsI, List.foldl_cons, List.length_cons] at *
    omega
theorem putsI_snoc (acc d : List Int) (x : Int) : putsI acc (d ++ [x]) = putI x (putsI acc d) := by simp [putsI]
theorem mem_putsI {a : Int} : ∀ (l acc : List Int), a ∈ putsI acc l ↔ a ∈ acc ∨ a ∈ l
  | [], acc => by simp [putsI]
  | x :: r, acc => by
    have h1 := mem_putsI (a := a) r (putI x acc)
    simp only [putsI, List.foldl_cons] at *
    rw [h1, mem_putI, List.mem_cons]
    constructor
    · rintro ((h | h) | h) <;> simp [h]
    · rintro (h | h | h) <;> simp [h]
theorem readsRs_snoc : ∀ (d : List Pull) (acc : List Int) (x : Pull), readsRs acc (d ++ [x]) = putsI (readsRs acc d) (readsR x)
  | [], acc, x => by simp [readsRs]
  | y :: d, acc, x => by simp only [List.cons_append, readsRs]; exact readsRs_snoc d _ x
mutual
theorem readsR_len : ∀ p : Pull, (readsR p).length ≤ p.sz
  | .mk op _ value _ _ _ _ _ _ kids _ => by
    have h := readsRs_len kids (if decide (op.bs = [114, 101, 97, 100]) then putI value [] else [])
    rw [readsR, Pull.sz]
    split at h <;> simp_all [putI] <;> omega
theorem readsRs_len : ∀ (l : List Pull) (acc : List Int), (readsRs acc l).length ≤ acc.length + Pull.szL l
  | [], acc => by simp [readsRs]
  | p :: r, acc => by
    have h1 := readsR_len p
    have h2 := readsRs_len r (putsI acc (readsR p))
    have h3 := putsI_len (readsR p) acc
    simp only [readsRs, Pull.szL] at *
    omega
end
mutual
theorem mem_readsR (a : Int) : ∀ p : Pull, a ∈ readsR p ↔ a ∈ readsU p
  | .mk op _ value _ _ _ _ _ _ kids _ => by
    have h := mem_readsRs a kids (if decide (op.bs = [114, 101, 97, 100]) then putI value [] else [])
    rw [readsR, readsU, h, List.mem_append]
    cases decide (op.bs = [114, 101, 97, 100]) <;> simp [putI]
theorem mem_readsRs (a : Int) : ∀ (l : List Pull) (acc : List Int), a ∈ readsRs acc l ↔ a ∈ acc ∨ a ∈ readsL l
  | [], acc => by simp [readsRs, readsL]
  | p :: r, acc => by
    have h1 := mem_readsR a p
    have h2 := mem_readsRs a r (putsI acc (readsR p))
    rw [readsRs, h2, mem_putsI, h1, readsL, List.mem_append, or_assoc]
end
def refsR (q : Kernel) : List Int :=
  if decide (q.kind = 3) then
    (let l := putsI (readsR q.body) (readsR q.index)
     if decide (q.source = q.value) then l else putI q.source l)
  else readsR q.body
section
variable {pg : Pg}
theorem baseOf_put (s : Nat) (v : AV) (x : Int) : ∃ B, baseOf 0 s [v, .int .i64 x] = B ∧ 65536 ≤ B ∧ ∀ k e o l c, v = .rf k e o l c → k ≠ B + 1 ∧ k ≠ B + 5 ∧ k ≠ B + 9 := by
  refine ⟨_, rfl, ?_, ?_⟩
  · simp only [baseOf]; split <;> omega
  · rintro k e o l c rfl
    simp only [baseOf, List.any_cons, List.any_nil, Bool.or_false]
    split
    · rename_i h
      simp only [Bool.and_eq_true, decide_eq_true_eq] at h
      omega
    · rename_i h
      simp only [Bool.and_eq_true, decide_eq_true_eq, not_and] at h
      omega
theorem XO_put {f s : Nat} {h : Hp} {k1 : Nat} {v : AV} {l : List Int} {x : Int} {Q : AV → Eff → Prop} {t : Tok Q} (hf : pg.fs f = some cf55) (o : Own h k1 1 false v (l.map intA)) (hb : l.length < big)
    (q : ∀ r h' k2, Own h' k2 1 false r ((putI x l).map intA) → (∀ k, k < 65536 → h'.get k = h.get k) → Q r (.whole h')) : XO pg 0 (.call f false true) s h [v, .int .i64 x] Q t := by
  obtain ⟨B, hB, hB1, hB2⟩ := baseOf_put s v x
  have key : ∃ k1, Own h k1 1 false v (l.map intA) ∧ k1 ≠ B + 1 ∧ k1 ≠ B + 5 ∧ k1 ≠ B + 9 := by
    rcases o with ⟨he, nl, cl, rfl, hc⟩ | ⟨e, cs, rfl, hg, hu⟩
    · exact ⟨B, .inl ⟨he, nl, cl, rfl, hc⟩, by omega, by omega, by omega⟩
    · exact ⟨k1, .inr ⟨e, cs, rfl, hg, hu⟩, hB2 _ _ _ _ _ rfl⟩
  obtain ⟨k1', o', a1, a5, a9⟩ := key
  refine XO_callHP (.inl rfl) hB (c55o hf o' hb x a1 a5 a9) ?_
  rintro r h' ⟨k2, p1, _, p3⟩
  exact q r h' k2 p1 (fun k hk => p3 k (by omega) (by omega) (by omega))
theorem c37 (hf : pg.fs 37 = some cf37) (h55 : pg.fs 55 = some cf55) : ∀ p : Pull, p.ok → p.sz ≤ big → RetP pg 37 [p.av] (IsSl 1 false ((readsR p).map intA)) := by
  refine Pull.ind' fun p ih hp hsz => ?_
  obtain ⟨hb, hk⟩ := (Pull.ok_iff p).1 hp
  have hz := Pull.sz_eq p
  refine RetP.ofX hf ?_
  unfold cf37
  simp only [go_sem, seval, ↓reduceIte, Nat.reduceLeDiff, Nat.reduceEqDiff, reduceCtorEq]
  cases hr : decide (p.op.bs = [114, 101, 97, 100])
  case true =>
    simp only [go_sem, seval, ↓reduceIte, Nat.reduceLeDiff, Nat.reduceEqDiff, reduceCtorEq]
    refine XO_put (l := []) h55 (Own.nil _ 0 _ _ _ _ rfl) (by decide) ?_
    intro v H k1 ho hun
    simp only [go_sem, seval, ↓reduceIte, Nat.reduceLeDiff, Nat.reduceEqDiff, reduceCtorEq]
    have hres : readsR p = readsRs (putI p.value []) p.kids := by rw [readsR_eq, hr]; rfl
    refine XX_list p.kids (fun d r env hp => ∃ v k1, env = cf37E1 (.pt 1 0 0) v (.int .i64 d.length) ∧ Own hp k1 1 false v ((readsRs (putI p.value []) d).map intA) ∧ hp.get 1 = some (0, .blk (pcell p p.kids) 9 true true false)) ?_ ?_ ?_
    · exact ⟨v, k1, rfl, ho, (hun 1 (by decide)).trans (by simp only [go_sem, seval, ↓reduceIte, Nat.reduceLeDiff, Nat.reduceEqDiff, reduceCtorEq]; rfl)⟩
    · rintro env hp ⟨v, k1, rfl, ho, h1⟩
      simp only [pcell] at h1
      simp only [cf37L1, cf37E1, h1, go_sem, seval, ↓reduceIte, Nat.reduceLeDiff, Nat.reduceEqDiff, reduceCtorEq]
      rw [hres]
      exact ho.conv (El.ints _)
    · rintro d x r env hp hes ⟨v, k1, rfl, ho, h1⟩
      have hxm : x ∈ p.kids := by rw [hes]; simp
      have hxs : x.sz ≤ big := by have := Pull.szL_mem hxm; omega
      have hx := ih x hxm (hk x hxm) hxs
      have hx' := hx
      rw [Pull.avc] at hx'
      have hl1 := readsRs_len d (putI p.value [])
      have hl2 := readsR_len x
      have hst : (putI p.value [] : List Int).length ≤ 1 := by simp [putI]
      have hzz : Pull.szL p.kids = Pull.szL d + (x.sz + Pull.szL r) := by rw [hes, Pull.szL_append, Pull.szL]
      rw [hes] at h1 hb
      rw [hes]
      have h0 := h1
      simp only [pcell] at h1
      have hsno := readsRs_snoc d (putI p.value []) x
      have hw := wr_mid hb
      clear ih hk
      simp only [cf37L1, cf37E1, h1, go_sem, seval, ↓reduceIte, Nat.reduceLeDiff, Nat.reduceEqDiff, reduceCtorEq]
      first | refine XO_sl hx (by simp only [go_sem, seval, ↓reduceIte, Nat.reduceLeDiff, Nat.reduceEqDiff, reduceCtorEq]) ?_ | refine XO_sl hx' (by simp only [go_sem, seval, ↓reduceIte, Nat.reduceLeDiff, Nat.reduceEqDiff, reduceCtorEq]) ?_
      intro nl1 cl1 _
      simp only [go_sem, seval, ↓reduceIte, Nat.reduceLeDiff, Nat.reduceEqDiff, reduceCtorEq]
      refine XX_list (readsR x) (fun d2 r2 env hp => ∃ v k1, env = cf37E0 (.pt 1 0 0) v (.int .i64 d.length) (.sl nl1 ((readsR x).map intA) cl1) (.int .i64 d2.length) ∧ Own hp k1 1 false v ((putsI (readsRs (putI p.value []) d) d2).map intA) ∧ hp.get 1 = some (0, .blk (pcell p (d ++ x :: r)) 9 true true false)) ?_ ?_ ?_
      · exact ⟨v, k1, rfl, ho.mono (by simp only [go_sem, seval, ↓reduceIte, Nat.reduceLeDiff, Nat.reduceEqDiff, reduceCtorEq]), by simp only [go_sem, seval, ↓reduceIte, Nat.reduceLeDiff, Nat.reduceEqDiff, reduceCtorEq]; exact h0⟩
      · clear ho h1 h0 hp
        rintro env hp ⟨v, k1, rfl, ho, h0⟩
        simp only [cf37L0, cf37E0, hw, go_sem, seval, ↓reduceIte, Nat.reduceLeDiff, Nat.reduceEqDiff, reduceCtorEq]
        rw [hsno]
        exact ⟨v, k1, rfl, ho, h0⟩
      · clear ho h1 h0 hp
        rintro d2 y r2 env hp hes2 ⟨v, k1, rfl, ho, h0⟩
        have hd2 : d2.length < (readsR x).length := by rw [hes2]; simp
        have hget : (readsR x)[d2.length]? = some y := by rw [hes2]; simp
        have hpl := putsI_len d2 (readsRs (putI p.value []) d)
        have hbb : (putsI (readsRs (putI p.value []) d) d2).length < big := by omega
        have f1 : decide ((d2.length : Int) < ((readsR x).length : Int)) = true := by simp; omega
        have f2 : ((d2.length : Int) < ((readsR x).length : Int)) = True := eq_true (by omega)
        have hw2 : wr .i64 ((d2.length : Int) + 1) = ((d2 ++ [y]).length : Int) := wr_mid (r := r2) (by rw [← hes2]; omega)
        have hsn2 := putsI_snoc (readsRs (putI p.value []) d) d2 y
        simp only [cf37L0, cf37E0, f1, f2, hget, go_sem, seval, ↓reduceIte, Nat.reduceLeDiff, Nat.reduceEqDiff, reduceCtorEq]
        refine XO_put h55 ho hbb ?_
        intro r' h' k2 ho' hun
        simp only [hw2, go_sem, seval, ↓reduceIte, Nat.reduceLeDiff, Nat.reduceEqDiff, reduceCtorEq]
        rw [hsn2]
        exact ⟨r', k2, rfl, ho', (hun 1 (by decide)).trans h0⟩
  case false =>
    simp only [go_sem, seval, ↓reduceIte, Nat.reduceLeDiff, Nat.reduceEqDiff, reduceCtorEq]
    have hres : readsR p = readsRs ([]) p.kids := by rw [readsR_eq, hr]; rfl
    refine XX_list p.kids (fun d r env hp => ∃ v k1, env = cf37E1 (.pt 1 0 0) v (.int .i64 d.length) ∧ Own hp k1 1 false v ((readsRs ([]) d).map intA) ∧ hp.get 1 = some (0, .blk (pcell p p.kids) 9 true true false)) ?_ ?_ ?_
    · exact ⟨_, 0, rfl, Own.nil _ _ _ _ _ _ rfl, by simp only [go_sem, seval, ↓reduceIte, Nat.reduceLeDiff, Nat.reduceEqDiff, reduceCtorEq]; rfl⟩
    · rintro env hp ⟨v, k1, rfl, ho, h1⟩
      simp only [pcell] at h1
      simp only [cf37L1, cf37E1, h1, go_sem, seval, ↓reduceIte, Nat.reduceLeDiff, Nat.reduceEqDiff, reduceCtorEq]
      rw [hres]
      exact ho.conv (El.ints _)
    · rintro d x r env hp hes ⟨v, k1, rfl, ho, h1⟩
      have hxm : x ∈ p.kids := by rw [hes]; simp
      have hxs : x.sz ≤ big := by have := Pull.szL_mem hxm; omega
      have hx := ih x hxm (hk x hxm) hxs
      have hx' := hx
      rw [Pull.avc] at hx'
      have hl1 := readsRs_len d ([])
      have hl2 := readsR_len x
      have hst : ([] : List Int).length ≤ 1 := by simp [putI]
      have hzz : Pull.szL p.kids = Pull.szL d + (x.sz + Pull.szL r) := by rw [hes, Pull.szL_append, Pull.szL]
      rw [hes] at h1 hb
      rw [hes]
      have h0 := h1
      simp only [pcell] at h1
      have hsno := readsRs_snoc d ([]) x
      have hw := wr_mid hb
      clear ih hk
      simp only [cf37L1, cf37E1, h1, go_sem, seval, ↓reduceIte, Nat.reduceLeDiff, Nat.reduceEqDiff, reduceCtorEq]
      first | refine XO_sl hx (by simp only [go_sem, seval, ↓reduceIte, Nat.reduceLeDiff, Nat.reduceEqDiff, reduceCtorEq]) ?_ | refine XO_sl hx' (by simp only [go_sem, seval, ↓reduceIte, Nat.reduceLeDiff, Nat.reduceEqDiff, reduceCtorEq]) ?_
      intro nl1 cl1 _
      simp only [go_sem, seval, ↓reduceIte, Nat.reduceLeDiff, Nat.reduceEqDiff, reduceCtorEq]
      refine XX_list (readsR x) (fun d2 r2 env hp => ∃ v k1, env = cf37E0 (.pt 1 0 0) v (.int .i64 d.length) (.sl nl1 ((readsR x).map intA) cl1) (.int .i64 d2.length) ∧ Own hp k1 1 false v ((putsI (readsRs ([]) d) d2).map intA) ∧ hp.get 1 = some (0, .blk (pcell p (d ++ x :: r)) 9 true true false)) ?_ ?_ ?_
      · exact ⟨v, k1, rfl, ho.mono (by simp only [go_sem, seval, ↓reduceIte, Nat.reduceLeDiff, Nat.reduceEqDiff, reduceCtorEq]), by simp only [go_sem, seval, ↓reduceIte, Nat.reduceLeDiff, Nat.reduceEqDiff, reduceCtorEq]; exact h0⟩
      · clear ho h1 h0 hp
        rintro env hp ⟨v, k1, rfl, ho, h0⟩
        simp only [cf37L0, cf37E0, hw, go_sem, seval, ↓reduceIte, Nat.reduceLeDiff, Nat.reduceEqDiff, reduceCtorEq]
        rw [hsno]
        exact ⟨v, k1, rfl, ho, h0⟩
      · clear ho h1 h0 hp
        rintro d2 y r2 env hp hes2 ⟨v, k1, rfl, ho, h0⟩
        have hd2 : d2.length < (readsR x).length := by rw [hes2]; simp
        have hget : (readsR x)[d2.length]? = some y := by rw [hes2]; simp
        have hpl := putsI_len d2 (readsRs ([]) d)
        have hbb : (putsI (readsRs ([]) d) d2).length < big := by omega
        have f1 : decide ((d2.length : Int) < ((readsR x).length : Int)) = true := by simp; omega
        have f2 : ((d2.length : Int) < ((readsR x).length : Int)) = True := eq_true (by omega)
        have hw2 : wr .i64 ((d2.length : Int) + 1) = ((d2 ++ [y]).length : Int) := wr_mid (r := r2) (by rw [← hes2]; omega)
        have hsn2 := putsI_snoc (readsRs ([]) d) d2 y
        simp only [cf37L0, cf37E0, f1, f2, hget, go_sem, seval, ↓reduceIte, Nat.reduceLeDiff, Nat.reduceEqDiff, reduceCtorEq]
        refine XO_put h55 ho hbb ?_
        intro r' h' k2 ho' hun
        simp only [hw2, go_sem, seval, ↓reduceIte, Nat.reduceLeDiff, Nat.reduceEqDiff, reduceCtorEq]
        rw [hsn2]
        exact ⟨r', k2, rfl, ho', (hun 1 (by decide)).trans h0⟩
end
end Go.Tev
end
section
namespace Go.Tev
section
variable {pg : Pg}
theorem c22 (hf : pg.fs 22 = some cf22) (h37 : ∀ p : Pull, p.ok → p.sz ≤ big → RetP pg 37 [p.av] (IsSl 1 false ((readsR p).map intA))) (h38 : pg.fs 38 = some cf55) (q : Kernel) (h1 : q.body.ok) (h2 : q.index.ok) (hsz : q.body.sz + q.index.sz + 1 ≤ big) :
    RetP pg 22 [q.av] (IsSl 1 false ((refsR q).map intA)) := by
  have a1 := h37 q.body h1 (by omega)
  have a2 := h37 q.index h2 (by omega)
  rw [Pull.avc] at a1 a2
  have l1 := readsR_len q.body
  have l2 := readsR_len q.index
  refine RetP.ofX hf ?_
  unfold cf22
  simp only [go_sem, seval, ↓reduceIte, Nat.reduceLeDiff, Nat.reduceEqDiff, reduceCtorEq]
  refine XO_slO a1 (by simp only [go_sem, seval, ↓reduceIte, Nat.reduceLeDiff, Nat.reduceEqDiff, reduceCtorEq]) (El.ints _) ?_
  intro v rd pa ho hk _
  have k1 := hk 1 (by omega)
  simp only [go_sem, seval, ↓reduceIte, Nat.reduceLeDiff, Nat.reduceEqDiff, reduceCtorEq] at k1
  generalize hH : Eff.app _ (Eff.pat rd pa) = H at ho k1 ⊢
  clear hH hk
  simp only [k1, go_sem, seval, ↓reduceIte, Nat.reduceLeDiff, Nat.reduceEqDiff, reduceCtorEq]
  cases h3 : decide (q.kind = 3)
  · simp only [go_sem, seval, ↓reduceIte, Nat.reduceLeDiff, Nat.reduceEqDiff, reduceCtorEq]
    have hr : refsR q = readsR q.body := by simp [refsR, h3]
    rw [hr]
    exact ho.conv (El.ints _)
  · simp only [k1, go_sem, seval, ↓reduceIte, Nat.reduceLeDiff, Nat.reduceEqDiff, reduceCtorEq]
    refine XO_sl a2 (by simp only [go_sem, seval, ↓reduceIte, Nat.reduceLeDiff, Nat.reduceEqDiff, reduceCtorEq]) ?_
    intro nl2 cl2 _
    simp only [go_sem, seval, ↓reduceIte, Nat.reduceLeDiff, Nat.reduceEqDiff, reduceCtorEq]
    obtain ⟨C, hC, k1⟩ : ∃ C, C = q.av.cells ∧ H.get 1 = some (0, .blk C 24 true true false) := ⟨_, (Kernel.cells_av q).symm, k1⟩
    refine XX_list (readsR q.index) (fun d r env hp => ∃ v k1, env = cf22E0 (.pt 1 0 0) v (.sl nl2 ((readsR q.index).map intA) cl2) (.int .i64 d.length) ∧ Own hp k1 1 false v ((putsI (readsR q.body) d).map intA) ∧ hp.get 1 = some (0, .blk C 24 true true false)) ?_ ?_ ?_
    · refine ⟨v, 5, rfl, ho.mono ?_, ?_⟩
      · simp only [go_sem, seval, ↓reduceIte, Nat.reduceLeDiff, Nat.reduceEqDiff, reduceCtorEq]
      · simp only [go_sem, seval, ↓reduceIte, Nat.reduceLeDiff, Nat.reduceEqDiff, reduceCtorEq]
        exact k1
    · clear ho k1 a1 a2
      rintro env hp ⟨v, k2, rfl, ho, g1⟩
      have hr : refsR q = if decide (q.source = q.value) then putsI (readsR q.body) (readsR q.index) else putI q.source (putsI (readsR q.body) (readsR q.index)) := by simp [refsR, h3]
      have hpl := putsI_len (readsR q.index) (readsR q.body)
      rw [hC, Kernel.cells_av] at g1
      simp only [cf22L0, cf22E0, g1, go_sem, seval, ↓reduceIte, Nat.reduceLeDiff, Nat.reduceEqDiff, reduceCtorEq]
      rw [hr]
      cases h4 : decide (q.source = q.value)
      case true =>
        simp only [go_sem, seval, ↓reduceIte, Nat.reduceLeDiff, Nat.reduceEqDiff, reduceCtorEq]
        exact ho.conv (El.ints _)
      case false =>
        simp only [g1, go_sem, seval, ↓reduceIte, Nat.reduceLeDiff, Nat.reduceEqDiff, reduceCtorEq]
        refine XO_put h38 ho (by omega) ?_
        intro r' h' k3 ho' _
        simp only [go_sem, seval, ↓reduceIte, Nat.reduceLeDiff, Nat.reduceEqDiff, reduceCtorEq]
        exact ho'.conv (El.ints _)
    · clear ho k1 a1 a2
      rintro d y r env hp hes ⟨v, k2, rfl, ho, g1⟩
      have hd2 : d.length < (readsR q.index).length := by rw [hes]; simp
      have hget : (readsR q.index)[d.length]? = some y := by rw [hes]; simp
      have hpl := putsI_len d (readsR q.body)
      have hbb : (putsI (readsR q.body) d).length < big := by omega
      have f1 : decide ((d.length : Int) < ((readsR q.index).length : Int)) = true := by simp; omega
      have f2 : ((d.length : Int) < ((readsR q.index).length : Int)) = True := eq_true (by omega)
      have hw2 : wr .i64 ((d.length : Int) + 1) = ((d ++ [y]).length : Int) := wr_mid (r := r) (by rw [← hes]; omega)
      have hsn2 := putsI_snoc (readsR q.body) d y
      simp only [cf22L0, cf22E0, f1, f2, hget, go_sem, seval, ↓reduceIte, Nat.reduceLeDiff, Nat.reduceEqDiff, reduceCtorEq]
      refine XO_put h38 ho hbb ?_
      intro r' h' k3 ho' hun
      simp only [hw2, go_sem, seval, ↓reduceIte, Nat.reduceLeDiff, Nat.reduceEqDiff, reduceCtorEq]
      rw [hsn2]
      exact ⟨r', k3, rfl, ho', (hun 1 (by decide)).trans g1⟩
end
end Go.Tev
end
section
namespace Go.Tev
theorem setTo_get (sp : List Sp) (v x : Int) (n : Nat) : (setTo sp v x)[n]? = (sp[n]?).map (fun s => if v.toNat = n then (s.1, x) else s) := by
  simp only [setTo, List.getElem?_modify]
  split <;> simp [*]
theorem setFrom_get (sp : List Sp) (v x : Int) (n : Nat) : (setFrom sp v x)[n]? = (sp[n]?).map (fun s => if v.toNat = n then (x, s.2) else s) := by
  simp only [setFrom, List.getElem?_modify]
  split <;> simp [*]
theorem spReads_get (i : Nat) : ∀ (l : List Int) (sp : List Sp) (n : Nat), (spReads sp i l)[n]? = (sp[n]?).map (fun s => if n ∈ l.map Int.toNat then (s.1, (i : Int)) else s)
  | [], sp, n => by simp [spReads]
  | v :: r, sp, n => by
    have h := spReads_get i r (setTo sp v i) n
    simp only [spReads, List.foldl_cons] at h ⊢
    rw [h, setTo_get, Option.map_map]
    congr 1
    funext s
    simp only [Function.comp, List.map_cons, List.mem_cons]
    by_cases h1 : v.toNat = n
    · subst h1; simp
    · have h2 : ¬ n = v.toNat := fun h => h1 h.symm
      simp [h1, h2]
def uses (q : Kernel) (n : Nat) : Prop := n = q.value.toNat ∨ n ∈ (readsK q).map Int.toNat
theorem spStep_get (sp : List Sp) (i : Nat) (q : Kernel) (n : Nat) (s : Sp) (h : sp[n]? = some s) :
    ∃ s', (spStep sp i q)[n]? = some s' ∧ (s'.1 = if n = q.value.toNat ∧ s.1 = -2 then (i : Int) else s.1) ∧ (uses q n → s'.2 = i) ∧ (¬ uses q n → s'.2 = s.2) := by
  have hf : fromOf sp q.value = -2 ∧ n = q.value.toNat → s.1 = -2 := by
    rintro ⟨h1, rfl⟩
    simpa [fromOf, h] using h1
  have hf2 : n = q.value.toNat → s.1 = -2 → fromOf sp q.value = -2 := by
    rintro rfl h1
    simpa [fromOf, h] using h1
  simp only [spStep, spReads_get, setTo_get]
  by_cases hv : n = q.value.toNat
  · have hv' : q.value.toNat = n := hv.symm
    by_cases h1 : s.1 = -2
    · have h2 := hf2 hv h1
      simp only [h2, decide_true, if_true, setFrom_get, h, Option.map_some, hv']
      refine ⟨_, rfl, ?_, ?_, ?_⟩
      · split <;> simp [h1, hv]
      · intro _; split <;> rfl
      · intro hn; exact absurd (.inl hv) hn
    · have h2 : ¬ fromOf sp q.value = -2 := fun h => h1 (hf ⟨h, hv⟩)
      simp only [h2, decide_false, Bool.false_eq_true, if_false, h, Option.map_some, hv', if_true]
      refine ⟨_, rfl, ?_, ?_, ?_⟩
      · split <;> simp [h1]
      · intro _; split <;> rfl
      · intro hn; exact absurd (.inl hv) hn
  · have hv' : ¬ q.value.toNat = n := fun h => hv h.symm
    have e : (if decide (fromOf sp q.value = -2) = true then setFrom sp q.value i else sp)[n]? = some s := by
      split
      · rw [setFrom_get, h, Option.map_some, if_neg hv']
      · exact h
    simp only [e, Option.map_some, hv', if_false]
    refine ⟨_, rfl, ?_, ?_, ?_⟩
    · split <;> simp [hv]
    · rintro (hu | hu)
      · exact absurd hu hv
      · rw [if_pos hu]
    · intro hn
      rw [if_neg (fun h => hn (.inr h))]
structure SpInv (k : Kernels) (d : List Kernel) (sp : List Sp) : Prop where
  len : sp.length = k.values.es.length
  one : ∀ (n : Nat) (s : Sp), sp[n]? = some s → s.1 = -2 ∨ (-1 ≤ s.1 ∧ s.1 < (d.length : Int))
  there : ∀ (n : Nat) (s : Sp), sp[n]? = some s → (thereOf (inpT k) d)[n]? = some true → s.1 ≠ -2
  two : ∀ (n : Nat) (s : Sp), sp[n]? = some s → s.2 = -2 ∨ (s.2 = -1 ∧ (n : Int) < k.inputs) ∨ ∃ (j : Nat) (q : Kernel), d[j]? = some q ∧ s.2 = (j : Int) ∧ uses q n
  use : ∀ (n : Nat) (s : Sp), sp[n]? = some s → ∀ (j : Nat) (q : Kernel), d[j]? = some q → uses q n → s.1 ≠ -2 ∧ s.1 ≤ (j : Int) ∧ (j : Int) ≤ s.2
theorem spInv_step {k : Kernels} {d : List Kernel} {sp : List Sp} {q : Kernel} (I : SpInv k d sp) (hv : 0 ≤ q.value ∧ q.value < k.values.es.length) (hr : ∀ a ∈ readsK q, 0 ≤ a ∧ a < k.values.es.length ∧ thereB (thereOf (inpT k) d) a = true) :
    SpInv k (d ++ [q]) (spStep sp d.length q) := by
  have hl : (spStep sp d.length q).length = k.values.es.length := by rw [spStep_len]; exact I.len
  have hget : ∀ (n : Nat) (s' : Sp), (spStep sp d.length q)[n]? = some s' → ∃ s : Sp, sp[n]? = some s ∧ (s'.1 = if n = q.value.toNat ∧ s.1 = -2 then (d.length : Int) else s.1) ∧ (uses q n → s'.2 = (d.length : Int)) ∧ (¬ uses q n → s'.2 = s.2) := by
    intro n s' hs'
    have hn : n < sp.length := by
      have := (List.getElem?_eq_some_iff.1 hs').1
      rw [hl] at this
      rw [I.len]; exact this
    obtain ⟨s'', h1, h2, h3, h4⟩ := spStep_get sp d.length q n sp[n] (List.getElem?_eq_getElem hn)
    rw [hs'] at h1
    cases h1
    exact ⟨_, List.getElem?_eq_getElem hn, h2, h3, h4⟩
  have hlast : ∀ (j : Nat) (q' : Kernel), (d ++ [q])[j]? = some q' → (j < d.length ∧ d[j]? = some q') ∨ (j = d.length ∧ q' = q) := by
    intro j q' h
    rcases Nat.lt_trichotomy j d.length with h1 | h1 | h1
    · rw [List.getElem?_append_left h1] at h; exact .inl ⟨h1, h⟩
    · subst h1; simp at h; exact .inr ⟨rfl, h.symm⟩
    · rw [List.getElem?_eq_none (by simp; omega)] at h; cases h
  refine ⟨hl, ?_, ?_, ?_, ?_⟩
  · intro n s' hs'
    obtain ⟨s, h1, h2, _, _⟩ := hget n s' hs'
    have := I.one n s h1
    rw [h2]
    simp only [List.length_append, List.length_singleton]
    split <;> omega
  · intro n s' hs' ht
    obtain ⟨s, h1, h2, _, _⟩ := hget n s' hs'
    rw [thereOf_snoc, setT] at ht
    by_cases hn : n = q.value.toNat
    · rw [h2]; split <;> omega
    · rw [List.getElem?_set_ne (fun h => hn h.symm)] at ht
      have := I.there n s h1 ht
      rw [h2, if_neg (fun h => hn h.1)]
      exact this
  · intro n s' hs'
    obtain ⟨s, h1, _, h3, h4⟩ := hget n s' hs'
    by_cases hu : uses q n
    · exact .inr (.inr ⟨d.length, q, by simp, h3 hu, hu⟩)
    · rw [h4 hu]
      rcases I.two n s h1 with h | h | ⟨j, q', a, b, c⟩
      · exact .inl h
      · exact .inr (.inl h)
      · refine .inr (.inr ⟨j, q', ?_, b, c⟩)
        rw [List.getElem?_append_left (List.getElem?_eq_some_iff.1 a).1]; exact a
  · intro n s' hs' j q' hj hu
    obtain ⟨s, h1, h2, h3, h4⟩ := hget n s' hs'
    rcases hlast j q' hj with ⟨hlt, hj'⟩ | ⟨rfl, rfl⟩
    · obtain ⟨u1, u2, u3⟩ := I.use n s h1 j q' hj' hu
      refine ⟨?_, ?_, ?_⟩
      · rw [h2, if_neg (fun h => u1 h.2)]; exact u1
      · rw [h2, if_neg (fun h => u1 h.2)]; exact u2
      · by_cases hun : uses q n
        · rw [h3 hun]; omega
        · rw [h4 hun]; exact u3
    · have h5 : s'.1 ≠ -2 := by
        rcases hu with hn | hn
        · rw [h2]; split <;> omega
        · obtain ⟨a, ha, rfl⟩ := List.mem_map.1 hn
          obtain ⟨a0, a1, a2⟩ := hr a ha
          have ht : (thereOf (inpT k) d)[a.toNat]? = some true := by
            simp only [thereB] at a2
            cases hb : (thereOf (inpT k) d)[a.toNat]? with
            | none => rw [hb] at a2; cases a2
            | some b => rw [hb] at a2; simp at a2; rw [a2]
          have := I.there _ s h1 ht
          rw [h2, if_neg (fun h => this h.2)]
          exact this
      refine ⟨h5, ?_, ?_⟩
      · have := I.one n s h1
        rw [h2] at h5 ⊢
        split at h5 <;> split <;> omega
      · rw [h3 hu]; omega
theorem spInit_get (V i n : Nat) (s : Sp) (h : (spInit V i)[n]? = some s) : (n < i ∧ s = (-1, -1)) ∨ (i ≤ n ∧ s = (-2, -2)) := by
  simp only [spInit] at h
  rcases Nat.lt_or_ge n i with h1 | h1
  · rw [List.getElem?_append_left (by simpa using h1), List.getElem?_replicate, if_pos h1] at h
    exact .inl ⟨h1, by cases h; rfl⟩
  · rw [List.getElem?_append_right (by simpa using h1), List.getElem?_replicate] at h
    split at h
    · exact .inr ⟨h1, by cases h; rfl⟩
    · cases h
theorem FuseOK.inp {k : Kernels} (ok : FuseOK k) : 0 ≤ k.inputs ∧ k.inputs ≤ k.values.es.length := by
  have h := ok.out
  simp only [outsideOK, Bool.and_eq_true, decide_eq_true_eq] at h
  omega
theorem spInv_init {k : Kernels} (ok : FuseOK k) : SpInv k [] (spInit k.values.es.length k.inputs.toNat) := by
  obtain ⟨i0, i1⟩ := ok.inp
  refine ⟨spInit_len (by omega), ?_, ?_, ?_, ?_⟩
  · intro n s h
    rcases spInit_get _ _ _ _ h with ⟨_, rfl⟩ | ⟨_, rfl⟩
    · right; simp
    · left; rfl
  · intro n s h ht
    rcases spInit_get _ _ _ _ h with ⟨_, rfl⟩ | ⟨h1, rfl⟩
    · simp
    · simp only [thereOf, List.foldl_nil, inpT] at ht
      rw [List.getElem?_append_right (by simpa using h1), List.getElem?_replicate] at ht
      split at ht <;> cases ht
  · intro n s h
    rcases spInit_get _ _ _ _ h with ⟨h1, rfl⟩ | ⟨_, rfl⟩
    · right; left; exact ⟨rfl, by omega⟩
    · left; rfl
  · intro n s _ j q hj
    simp at hj
theorem spInv_run {k : Kernels} (ok : FuseOK k) : ∀ (d r : List Kernel), k.list.es = d ++ r → SpInv k d (spRun (spInit k.values.es.length k.inputs.toNat) 0 d) := by
  intro d
  induction hn : d.length generalizing d with
  | zero =>
    intro r _
    obtain rfl := List.eq_nil_of_length_eq_zero hn
    exact spInv_init ok
  | succ n ih =>
    intro r he
    obtain ⟨d', q, rfl⟩ : ∃ d' q, d = d' ++ [q] := by
      rcases List.eq_nil_or_concat d with h | ⟨d', q, h⟩
      · subst h; simp at hn
      · exact ⟨d', q, by simpa using h⟩
    have he' : k.list.es = d' ++ q :: r := by simpa using he
    have I := ih d' (by simpa using hn) (q :: r) he'
    obtain ⟨v1, v2, _⟩ := kernelOK_in (ok.ker d' q r he')
    obtain ⟨i0, i1⟩ := ok.inp
    have := spInv_step I ⟨by omega, v2⟩ (kernelOK_reads (ok.ker d' q r he'))
    rw [spRun_snoc, Nat.zero_add]
    exact this
theorem spansK_get {k : Kernels} (n : Nat) : (spansK k)[n]? = ((spRun (spInit k.values.es.length k.inputs.toNat) 0 k.list.es)[n]?).map (fun s => if n ∈ k.results.es.map Int.toNat then (s.1, (k.list.es.length : Int)) else s) := by
  rw [spansK, show spRes = fun sp n l => spReads sp n l from rfl]
  exact spReads_get _ _ _ _
theorem spans_use {k : Kernels} (ok : FuseOK k) {j : Nat} {q : Kernel} (hj : k.list.es[j]? = some q) {v : Int} (h0 : 0 ≤ v) (h1 : v < k.values.es.length) (hu : uses q v.toNat) : v ∈ liveD j (spansK k) := by
  have I := spInv_run ok k.list.es [] (by simp)
  have hlt : v.toNat < (spRun (spInit k.values.es.length k.inputs.toNat) 0 k.list.es).length := by rw [I.len]; omega
  obtain ⟨u1, u2, u3⟩ := I.use v.toNat _ (List.getElem?_eq_getElem hlt) j q hj hu
  have hjl := (List.getElem?_eq_some_iff.1 hj).1
  refine mem_liveD.2 ⟨_, h0, by rw [spansK_get, List.getElem?_eq_getElem hlt, Option.map_some], ?_⟩
  simp only [isLive, Bool.and_eq_true, Bool.not_eq_true', decide_eq_false_iff_not, decide_eq_true_eq]
  split
  · exact ⟨⟨u1, u2⟩, by simp; omega⟩
  · exact ⟨⟨u1, u2⟩, u3⟩
theorem spans_last {k : Kernels} (ok : FuseOK k) {n : Nat} {s : Sp} (h : (spansK k)[n]? = some s) :
    s.2 = -2 ∨ (s.2 = k.list.es.length ∧ (n : Int) ∈ k.results.es) ∨ (s.2 = -1 ∧ (n : Int) < k.inputs) ∨ ∃ (j : Nat) (q : Kernel), k.list.es[j]? = some q ∧ s.2 = (j : Int) ∧ uses q n := by
  have I := spInv_run ok k.list.es [] (by simp)
  rw [spansK_get, Option.map_eq_some_iff] at h
  obtain ⟨s0, h1, h2⟩ := h
  split at h2
  · rename_i hm
    subst h2
    obtain ⟨a, ha, rfl⟩ := List.mem_map.1 hm
    obtain ⟨a0, _, _⟩ := ok.res a ha
    exact .inr (.inl ⟨rfl, by rwa [Int.toNat_of_nonneg a0]⟩)
  · subst h2
    rcases I.two n s0 h1 with h | h | h
    · exact .inl h
    · exact .inr (.inr (.inl h))
    · exact .inr (.inr (.inr h))
def refL (q : Kernel) : List Int := refsR q ++ [q.value]
theorem mem_refL {q : Kernel} {a : Int} : a ∈ refL q ↔ a ∈ readsK q ∨ a = q.value := by
  have e1 : ∀ p, a ∈ readsV p ↔ a ∈ readsU p := fun p => by simp only [readsV, mem_compI, mem_sortI]
  simp only [refL, refsR, readsK, List.mem_append, List.mem_singleton]
  cases decide (q.kind = 3)
  · simp [mem_readsR, e1]
  · cases hs : decide (q.source = q.value)
    · simp only [if_true, Bool.false_eq_true, if_false, mem_putI, mem_putsI, mem_readsR, e1, List.mem_append, List.mem_singleton]
      constructor
      · rintro ((h | h | h) | h) <;> simp [h]
      · rintro ((h | h | h) | h) <;> simp [h]
    · have hs' : q.source = q.value := by simpa using hs
      simp only [if_true, mem_putsI, mem_readsR, e1, List.mem_append, List.mem_singleton, hs']
      constructor
      · rintro ((h | h) | h) <;> simp [h]
      · rintro ((h | h | h) | h) <;> simp [h]
theorem refL_range {k : Kernels} (ok : FuseOK k) {d : List Kernel} {q : Kernel} {r : List Kernel} (he : k.list.es = d ++ q :: r) {a : Int} (ha : a ∈ refL q) : 0 ≤ a ∧ a < k.values.es.length ∧ uses q a.toNat := by
  obtain ⟨v1, v2, _⟩ := kernelOK_in (ok.ker d q r he)
  obtain ⟨i0, i1⟩ := ok.inp
  rcases mem_refL.1 ha with h | h
  · obtain ⟨a0, a1, _⟩ := kernelOK_reads (ok.ker d q r he) a h
    exact ⟨a0, a1, .inr (List.mem_map.2 ⟨a, h, rfl⟩)⟩
  · subst h
    exact ⟨by omega, v2, .inl rfl⟩
theorem uses_refL {k : Kernels} (ok : FuseOK k) {d : List Kernel} {q : Kernel} {r : List Kernel} (he : k.list.es = d ++ q :: r) {n : Nat} (hu : uses q n) : (n : Int) ∈ refL q := by
  obtain ⟨v1, v2, _⟩ := kernelOK_in (ok.ker d q r he)
  obtain ⟨i0, i1⟩ := ok.inp
  rcases hu with h | h
  · exact mem_refL.2 (.inr (by omega))
  · obtain ⟨a, ha, rfl⟩ := List.mem_map.1 h
    obtain ⟨a0, _, _⟩ := kernelOK_reads (ok.ker d q r he) a ha
    exact mem_refL.2 (.inl (by rwa [Int.toNat_of_nonneg a0]))
def toOf (sp : List Sp) (v : Int) : Int := match sp[v.toNat]? with | some s => s.2 | none => 0
def markI (sp : List Sp) (i : Nat) (last : List Bool) (v : Int) : List Bool := last.modify v.toNat (fun b => b || decide (toOf sp v = i))
theorem markI_len (sp : List Sp) (i : Nat) (last : List Bool) (v : Int) : (markI sp i last v).length = last.length := by simp [markI]
def marks (sp : List Sp) (i : Nat) (last : List Bool) (l : List Int) : List Bool := l.foldl (markI sp i) last
theorem marks_len (sp : List Sp) (i : Nat) : ∀ (l : List Int) (last : List Bool), (marks sp i last l).length = last.length
  | [], _ => rfl
  | v :: r, last => by
    have := marks_len sp i r (markI sp i last v)
    simp only [marks, List.foldl_cons] at this ⊢
    rw [this, markI_len]
theorem marks_snoc (sp : List Sp) (i : Nat) (last : List Bool) (d : List Int) (x : Int) : marks sp i last (d ++ [x]) = markI sp i (marks sp i last d) x := by simp [marks]
def marksK (sp : List Sp) : List Bool → Nat → List Kernel → List Bool
  | last, _, [] => last
  | last, i, q :: r => marksK sp (marks sp i last (refL q)) (i + 1) r
theorem marksK_len (sp : List Sp) : ∀ (l : List Kernel) (last : List Bool) (i : Nat), (marksK sp last i l).length = last.length
  | [], _, _ => rfl
  | q :: r, last, i => by rw [marksK, marksK_len sp r, marks_len]
theorem marksK_snoc (sp : List Sp) : ∀ (d : List Kernel) (last : List Bool) (i : Nat) (q : Kernel), marksK sp last i (d ++ [q]) = marks sp (i + d.length) (marksK sp last i d) (refL q)
  | [], _, _, _ => rfl
  | x :: r, last, i, q => by
    simp only [List.cons_append, marksK, marksK_snoc sp r, List.length_cons]
    congr 1; omega
theorem markI_keep (sp : List Sp) (i : Nat) (last : List Bool) (v : Int) (n : Nat) (h : last[n]? = some true) : (markI sp i last v)[n]? = some true := by
  simp only [markI, List.getElem?_modify, h]
  split <;> simp
theorem marks_keep (sp : List Sp) (i : Nat) (n : Nat) : ∀ (l : List Int) (last : List Bool), last[n]? = some true → (marks sp i last l)[n]? = some true
  | [], _, h => h
  | v :: r, last, h => by
    have := marks_keep sp i n r _ (markI_keep sp i last v n h)
    simpa only [marks, List.foldl_cons] using this
theorem marks_mem (sp : List Sp) (i : Nat) (v : Int) (ht : toOf sp v = i) : ∀ (l : List Int) (last : List Bool), v ∈ l → v.toNat < last.length → (marks sp i last l)[v.toNat]? = some true
  | [], _, h, _ => by cases h
  | x :: r, last, h, hl => by
    rcases List.mem_cons.1 h with rfl | h
    · have h1 : (markI sp i last v)[v.toNat]? = some true := by
        simp only [markI, List.getElem?_modify, if_true, List.getElem?_eq_getElem hl, Option.map_some, ht, decide_true, Bool.or_true]
        rfl
      have := marks_keep sp i v.toNat r _ h1
      simpa only [marks, List.foldl_cons] using this
    · have := marks_mem sp i v ht r (markI sp i last x) h (by rw [markI_len]; exact hl)
      simpa only [marks, List.foldl_cons] using this
theorem marksK_keep (sp : List Sp) (n : Nat) : ∀ (l : List Kernel) (last : List Bool) (i : Nat), last[n]? = some true → (marksK sp last i l)[n]? = some true
  | [], _, _, h => h
  | q :: r, last, i, h => by
    rw [marksK]
    exact marksK_keep sp n r _ _ (marks_keep sp i n _ _ h)
theorem marksK_mem (sp : List Sp) (v : Int) : ∀ (l : List Kernel) (last : List Bool) (i j : Nat) (q : Kernel), l[j]? = some q → toOf sp v = ((i + j : Nat) : Int) → v ∈ refL q → v.toNat < last.length → (marksK sp last i l)[v.toNat]? = some true
  | [], _, _, _, _, h, _, _, _ => by simp at h
  | q' :: r, last, i, 0, q, h, ht, hv, hl => by
    simp at h
    subst h
    rw [marksK]
    exact marksK_keep sp _ r _ _ (marks_mem sp i v ht _ _ hv hl)
  | q' :: r, last, i, j + 1, q, h, ht, hv, hl => by
    rw [marksK]
    exact marksK_mem sp v r _ (i + 1) j q (by simpa using h) (by rw [ht]; omega) hv (by rw [marks_len]; exact hl)
def badAt (k : Kernels) (last : List Bool) (n : Nat) (s : Sp) : Bool :=
  !((last[n]?).getD false) && !decide (s.2 = -2) && !(decide (s.2 = (k.list.es.length : Int)) && k.results.es.any (fun y => decide (y = (n : Int)))) && !(decide (s.2 = -1) && decide ((n : Int) < k.inputs))
theorem badAt_no {k : Kernels} (ok : FuseOK k) {n : Nat} {s : Sp} (h : (spansK k)[n]? = some s) : badAt k (marksK (spansK k) (List.replicate k.values.es.length false) 0 k.list.es) n s = false := by
  obtain ⟨i0, i1⟩ := ok.inp
  have hlen := spansK_len (k := k) (by omega)
  have hn := (List.getElem?_eq_some_iff.1 h).1
  rcases spans_last ok h with h1 | ⟨h1, h2⟩ | ⟨h1, h2⟩ | ⟨j, q, h1, h2, h3⟩
  · simp [badAt, h1]
  · have : (k.results.es.any (fun y => decide (y = (n : Int)))) = true := List.any_eq_true.2 ⟨_, h2, by simp⟩
    simp [badAt, h1, this]
  · simp [badAt, h1, h2]
  · obtain ⟨d, r, he, hd⟩ : ∃ d r, k.list.es = d ++ q :: r ∧ d.length = j := by
      obtain ⟨hj, hq⟩ := List.getElem?_eq_some_iff.1 h1
      refine ⟨k.list.es.take j, k.list.es.drop (j + 1), ?_, by simp; omega⟩
      rw [← hq, ← List.drop_eq_getElem_cons hj, List.take_append_drop]
    have hu := uses_refL ok he h3
    have ht : toOf (spansK k) (n : Int) = ((0 + j : Nat) : Int) := by simp [toOf, h, h2]
    have := marksK_mem (spansK k) (n : Int) k.list.es (List.replicate k.values.es.length false) 0 j q h1 ht hu (by simp; omega)
    simp only [Int.toNat_natCast] at this
    simp [badAt, this]
end Go.Tev
end
section
namespace Go.Tev
section
variable {pg : Pg}
theorem c23 (hf : pg.fs 23 = some cf23) (nl cl : Bool) (l : List Int) (hb : l.length ≤ big) (x : Int) : Ret pg 23 [.sl nl (l.map intA) cl, .int .i64 x] (.bool (l.any fun y => decide (y = x))) := by
  refine Ret.ofX hf ?_
  unfold cf23
  simp only [go_sem, seval, ↓reduceIte, Nat.reduceLeDiff, Nat.reduceEqDiff, reduceCtorEq]
  refine XX_listU l (fun d e => setD e (some 9) (.int .i64 d.length)) (fun d r hp => (l.any fun y => decide (y = x)) = (r.any fun y => decide (y = x))) rfl ?_ ?_ ?_
  · rfl
  · rintro hp hI
    simp only [cf23L0, cf23M0, go_sem, seval, ↓reduceIte, Nat.reduceLeDiff, Nat.reduceEqDiff, reduceCtorEq]
    simp [hI]
  · rintro d y r hp hes hI
    rw [hes] at hb hI
    rw [hes]
    simp only [cf23L0, cf23M0, go_sem, seval, ↓reduceIte, Nat.reduceLeDiff, Nat.reduceEqDiff, reduceCtorEq]
    cases hd : decide (y = x)
    · simp only [wr_mid hb, go_sem, seval, ↓reduceIte, Nat.reduceLeDiff, Nat.reduceEqDiff, reduceCtorEq]
      simpa [hd] using hI
    · simp only [go_sem, seval, ↓reduceIte, Nat.reduceLeDiff, Nat.reduceEqDiff, reduceCtorEq]
      rw [hI]
      simp [hd]
theorem markI_set {sp : List Sp} {i : Nat} {last : List Bool} {v : Int} {b : Bool} {s : Sp} (h : last[v.toNat]? = some b) (hs : sp[v.toNat]? = some s) : last.set v.toNat (b || decide (s.2 = (i : Int))) = markI sp i last v := by
  have ht : toOf sp v = s.2 := by simp [toOf, hs]
  apply List.ext_getElem?
  intro n
  simp only [markI, List.getElem?_modify, List.getElem?_set, ht]
  by_cases hn : v.toNat = n
  · subst hn
    obtain ⟨hl, he⟩ := List.getElem?_eq_some_iff.1 h
    simp [hl, he]
  · simp [hn]
theorem fa_newC {H : Hp} {K : Nat} {nl cl : Bool} {src : AV} {xs : List Int} {rd : List Nat} (hc : (nl || cl) = true) (hs : srcCells H 1 false src = some (xs.map intA, xs.length, rd)) (hx : xs ≠ []) (hl : xs.length ≤ 1073741824) :
    f_app H K 1 false 8 [.sl nl [] cl, src] = some (.rf K (H.next K) 0 xs.length xs.length, .pat (K :: rd) [⟨K, H.next K, .blk (xs.map intA) 1 false false false⟩]) := by
  have hn : xs.length ≠ 0 := by simpa using hx
  simp [f_app, hs, appA, hn, hl, unchunk, hc]
set_option maxHeartbeats 8000000 in
theorem c5 (hf : pg.fs 5 = some cf5) (h23 : pg.fs 23 = some cf23) (k : Kernels)
    (h7 : Ret pg 7 [] (.bool true)) (h8 : Ret pg 8 [k.av] (.bool (few8 k))) (h9 : RetP pg 9 [k.av] (spansR k))
    (h11 : ∀ at_ : Int, RetP pg 11 [k.av, .int .i64 at_] (liveR k at_))
    (h22 : ∀ q ∈ k.list.es, RetP pg 22 [q.av] (IsSl 1 false ((refsR q).map intA)))
    (hln : ∀ q ∈ k.list.es, (refsR q).length + 1 ≤ big) : Ret pg 5 [k.av] (.bool true) := by
  rw [Kernels.avc] at h8 h9 h11
  obtain ⟨r9, hr9, hs9⟩ := h9
  refine Ret.ofX hf ?_
  unfold cf5
  simp only [go_sem, seval, ↓reduceIte, Nat.reduceLeDiff, Nat.reduceEqDiff, reduceCtorEq]
  refine XO_tree h7 rfl rfl ?_
  simp only [go_sem, seval, ↓reduceIte, Nat.reduceLeDiff, Nat.reduceEqDiff, reduceCtorEq]
  refine XO_tree h8 (by simp only [go_sem, seval, ↓reduceIte, Nat.reduceLeDiff, Nat.reduceEqDiff, reduceCtorEq]) rfl ?_
  cases hfew : few8 k
  case false =>
    simp only [go_sem, seval, ↓reduceIte, Nat.reduceLeDiff, Nat.reduceEqDiff, reduceCtorEq]
    refine XO_tree h7 rfl rfl ?_
    simp only [go_sem, seval, ↓reduceIte, Nat.reduceLeDiff, Nat.reduceEqDiff, reduceCtorEq]
  case true =>
  simp only [go_sem, seval, ↓reduceIte, Nat.reduceLeDiff, Nat.reduceEqDiff, reduceCtorEq]
  rcases fuse_code (k := k) with hc | hc
  case inr =>
    rw [spansR, if_neg (by omega)] at hs9
    subst hs9
    refine XO_tree hr9 (by simp only [go_sem, seval, ↓reduceIte, Nat.reduceLeDiff, Nat.reduceEqDiff, reduceCtorEq]) rfl ?_
    simp only [go_sem, seval, ↓reduceIte, Nat.reduceLeDiff, Nat.reduceEqDiff, reduceCtorEq]
  have ok := fuseOK_of hc
  obtain ⟨i0, i1⟩ := ok.inp
  have hsl := spansK_len (k := k) (by omega)
  have hVb := k.values.ok
  have htr : treeL ((spansK k).map spAV) = true := treeL_map (f := spAV) (fun s => by simp [spAV, go_sem]) _
  rw [spansR, if_pos hc] at hs9
  subst hs9
  refine XO_tree hr9 (by simp only [go_sem, seval, ↓reduceIte, Nat.reduceLeDiff, Nat.reduceEqDiff, reduceCtorEq]) (by first | rfl | (simp [AV.tree, htr])) ?_
  have hV : ((k.values.es.length : Int) ≤ 1073741824) = True := eq_true (by simp only [big] at hVb; omega)
  have hfl : (List.replicate k.values.es.length [AV.bool false]).flatten = (List.replicate k.values.es.length false).map AV.bool := by
    rw [List.map_replicate]
    induction k.values.es.length with
    | zero => rfl
    | succ n ih => rw [List.replicate_succ, List.flatten_cons, ih, List.replicate_succ]; rfl
  simp only [hsl, hV, hfl, go_sem, seval, ↓reduceIte, Nat.reduceLeDiff, Nat.reduceEqDiff, reduceCtorEq]
  obtain ⟨sp, hsp⟩ : ∃ sp, sp = spansK k := ⟨_, rfl⟩
  rw [← hsp] at hsl htr ⊢
  clear hr9 hfl hV
  have hlb := k.list.ok
  refine XX_list k.list.es (fun d r env hp => env = cf5E1 (.pt 1 0 0) (.sl false (sp.map spAV) false) (.rf 21 0 0 k.values.es.length k.values.es.length) (.sl k.list.nl (k.list.es.map Kernel.av) k.list.cl) (.int .i64 k.list.es.length) (.int .i64 d.length) ∧
    hp.get 1 = some (0, .blk k.cells 6 true true false) ∧ hp.get 21 = some (0, .blk ((marksK sp (List.replicate k.values.es.length false) 0 d).map AV.bool) 1 false true false)) ?_ ?_ ?_
  · refine ⟨rfl, ?_, ?_⟩
    · simp only [go_sem, seval, ↓reduceIte, Nat.reduceLeDiff, Nat.reduceEqDiff, reduceCtorEq]
      rfl
    · simp only [go_sem, seval, ↓reduceIte, Nat.reduceLeDiff, Nat.reduceEqDiff, reduceCtorEq]
      rfl
  · rintro env hp ⟨rfl, g1, g21⟩
    have g1' := g1
    simp only [Kernels.cells, Sl.av] at g1
    simp only [cf5L1, cf5E1, hsl, go_sem, seval, ↓reduceIte, Nat.reduceLeDiff, Nat.reduceEqDiff, reduceCtorEq]
    have hbad : ∀ (n : Nat) (s : Sp), sp[n]? = some s → badAt k (marksK sp (List.replicate k.values.es.length false) 0 k.list.es) n s = false := fun n s h => by
      rw [hsp] at h ⊢
      exact badAt_no ok h
    have hml : (marksK sp (List.replicate k.values.es.length false) 0 k.list.es).length = k.values.es.length := by rw [marksK_len]; simp
    generalize marksK sp (List.replicate k.values.es.length false) 0 k.list.es = last at g21 hbad hml
    refine XX_list sp (fun d r env hp => env = cf5E2 (.pt 1 0 0) (.rf 21 0 0 k.values.es.length k.values.es.length) (.sl false (sp.map spAV) false) (.int .i64 k.values.es.length) (.int .i64 d.length) ∧
      hp.get 1 = some (0, .blk k.cells 6 true true false) ∧ hp.get 21 = some (0, .blk (last.map AV.bool) 1 false true false)) ?_ ?_ ?_
    · exact ⟨rfl, g1', g21⟩
    · clear g1 g1' g21 hp
      rintro env hp ⟨rfl, g1, g21⟩
      simp only [cf5L2, cf5E2, hsl, go_sem, seval, ↓reduceIte, Nat.reduceLeDiff, Nat.reduceEqDiff, reduceCtorEq]
    · clear g1 g1' g21 hp
      rintro d s r env hp hes ⟨rfl, g1, g21⟩
      have hget : sp[d.length]? = some s := by rw [hes]; simp
      have hlt : d.length < k.values.es.length := by rw [← hsl, hes]; simp
      have hb2 : (d ++ s :: r).length ≤ big := by rw [← hes, hsl]; exact hVb
      have hw := wr_mid hb2
      have e1 : decide ((d.length : Int) < (k.values.es.length : Int)) = true := by simp; omega
      have e2 : ((d.length : Int) < (k.values.es.length : Int)) = True := eq_true (by omega)
      have hbd := hbad d.length s hget
      obtain ⟨b, hb⟩ : ∃ b, last[d.length]? = some b := ⟨_, List.getElem?_eq_getElem (by omega)⟩
      have a23 := c23 h23 k.results.nl k.results.cl k.results.es k.results.ok d.length
      have g1' := g1
      simp only [Kernels.cells, Sl.av] at g1
      simp only [badAt, hb, Option.getD_some] at hbd
      have hfin : ∀ H : Hp, H.get 1 = hp.get 1 → H.get 21 = hp.get 21 → H.get 1 = some (0, .blk k.cells 6 true true false) ∧ H.get 21 = some (0, .blk (last.map AV.bool) 1 false true false) := fun H x y => ⟨x.trans g1', y.trans g21⟩
      clear h11 h22 hln hbad hml hes hlt
      have hle : (d.length + 1 ≤ last.length) = True := eq_true (by have := (List.getElem?_eq_some_iff.1 hb).1; omega)
      cases b
      case true =>
        simp only [cf5L2, cf5E2, e1, e2, hget, spAV, g1, g21, hb, hle, Nat.zero_add, Nat.mul_one, hw, go_sem, seval, ↓reduceIte, Nat.reduceLeDiff, Nat.reduceEqDiff, reduceCtorEq]
        exact ⟨rfl, rfl⟩
      cases c1 : decide (s.2 = -2)
      case true =>
        simp only [cf5L2, cf5E2, e1, e2, hget, spAV, g1, g21, hb, hle, Nat.zero_add, Nat.mul_one, hw, c1, go_sem, seval, ↓reduceIte, Nat.reduceLeDiff, Nat.reduceEqDiff, reduceCtorEq]
        exact ⟨rfl, rfl⟩
      cases c2 : decide (s.2 = (k.list.es.length : Int))
      case true =>
        cases c3 : k.results.es.any (fun y => decide (y = (d.length : Int)))
        case true =>
          simp only [cf5L2, cf5E2, e1, e2, hget, spAV, g1, g21, hb, hle, Nat.zero_add, Nat.mul_one, hw, c1, c2, c3, go_sem, seval, ↓reduceIte, Nat.reduceLeDiff, Nat.reduceEqDiff, reduceCtorEq]
          refine XO_tree a23 (by simp only [go_sem, seval, ↓reduceIte, Nat.reduceLeDiff, Nat.reduceEqDiff, reduceCtorEq]) rfl ?_
          simp only [g1, hw, c1, c2, c3, go_sem, seval, ↓reduceIte, Nat.reduceLeDiff, Nat.reduceEqDiff, reduceCtorEq]
          exact ⟨rfl, rfl, g21⟩
        case false =>
          cases c4 : decide (s.2 = -1)
          case false => simp [c1, c2, c3, c4] at hbd
          cases c5 : decide ((d.length : Int) < k.inputs)
          case false => simp [c1, c2, c3, c4, c5] at hbd
          simp only [cf5L2, cf5E2, e1, e2, hget, spAV, g1, g21, hb, hle, Nat.zero_add, Nat.mul_one, hw, c1, c2, c3, c4, c5, go_sem, seval, ↓reduceIte, Nat.reduceLeDiff, Nat.reduceEqDiff, reduceCtorEq]
          refine XO_tree a23 (by simp only [go_sem, seval, ↓reduceIte, Nat.reduceLeDiff, Nat.reduceEqDiff, reduceCtorEq]) rfl ?_
          simp only [g1, hw, c1, c2, c3, c4, c5, go_sem, seval, ↓reduceIte, Nat.reduceLeDiff, Nat.reduceEqDiff, reduceCtorEq]
          exact ⟨rfl, rfl, g21⟩
      case false =>
        cases c4 : decide (s.2 = -1)
        case false => simp [c1, c2, c4] at hbd
        cases c5 : decide ((d.length : Int) < k.inputs)
        case false => simp [c1, c2, c4, c5] at hbd
        simp only [cf5L2, cf5E2, e1, e2, hget, spAV, g1, g21, hb, hle, Nat.zero_add, Nat.mul_one, hw, c1, c2, c4, c5, go_sem, seval, ↓reduceIte, Nat.reduceLeDiff, Nat.reduceEqDiff, reduceCtorEq]
        exact ⟨rfl, rfl⟩
  · rintro d q r env hp hes ⟨rfl, g1, g21⟩
    have hmem : q ∈ k.list.es := by rw [hes]; simp
    have hget : k.list.es[d.length]? = some q := by rw [hes]; simp
    have hlt : d.length < k.list.es.length := by rw [hes]; simp
    have hb2 : (d ++ q :: r).length ≤ big := by rw [← hes]; exact hlb
    have hw := wr_mid hb2
    have e1 : decide ((d.length : Int) < (k.list.es.length : Int)) = true := by simp; omega
    have e2 : ((d.length : Int) < (k.list.es.length : Int)) = True := eq_true (by omega)
    obtain ⟨r11, hr11, hs11⟩ := h11 d.length
    rw [liveR, if_pos hc, if_neg (by omega)] at hs11
    obtain ⟨nl11, cl11, rfl⟩ := hs11
    have a22 := h22 q hmem
    have hll := hln q hmem
    have g1' := g1
    simp only [Kernels.cells, Sl.av] at g1
    rw [Kernel.avc] at a22
    simp only [cf5L1, cf5E1, e1, e2, hget, g1, go_sem, seval, ↓reduceIte, Nat.reduceLeDiff, Nat.reduceEqDiff, reduceCtorEq]
    refine XO_tree hr11 (by simp only [go_sem, seval, ↓reduceIte, Nat.reduceLeDiff, Nat.reduceEqDiff, reduceCtorEq]) (by rfl) ?_
    simp only [go_sem, seval, ↓reduceIte, Nat.reduceLeDiff, Nat.reduceEqDiff, reduceCtorEq]
    have hrl : ∀ a ∈ refL q, 0 ≤ a ∧ a < k.values.es.length ∧ uses q a.toNat := fun a ha => refL_range ok hes ha
    have hlv : ∀ a ∈ refL q, a ∈ liveD d.length (spansK k) := fun a ha => by
      obtain ⟨x, y, z⟩ := hrl a ha
      exact spans_use ok hget x y z
    have hlvb : (liveD d.length (spansK k)).length ≤ big := by
      have h1 := List.length_filter_le (fun x : Sp × Nat => isLive d.length x.1) (spansK k).zipIdx
      rw [← hsp] at h1 ⊢
      simp only [liveD, List.length_map]
      simp only [List.length_zipIdx] at h1
      omega
    have hrfl : (refL q).length = (refsR q).length + 1 := by simp [refL]
    have hinn : ∀ (H : Hp) (env : List AV) (e : Nat), clear cf5M0 env = cf5E0 (.pt 1 0 0) (.sl false (sp.map spAV) false) (.rf 21 0 0 k.values.es.length k.values.es.length) (.int .i64 d.length) (.sl nl11 ((liveD d.length (spansK k)).map intA) cl11) (.sl k.list.nl (k.list.es.map Kernel.av) k.list.cl) (.int .i64 k.list.es.length) (.int .i64 d.length) (.rf 37 e 0 (refL q).length (refL q).length) (.int .i64 (refL q).length) (.int .i64 0) →
      H.get 1 = some (0, .blk k.cells 6 true true false) → H.get 21 = some (0, .blk ((marksK sp (List.replicate k.values.es.length false) 0 d).map AV.bool) 1 false true false) → H.get 37 = some (e, .blk ((refL q).map intA) 1 false false false) → True := fun _ _ _ _ _ _ _ => trivial
    clear hinn
    refine XO_slO' a22 (by simp only [go_sem, seval, ↓reduceIte, Nat.reduceLeDiff, Nat.reduceEqDiff, reduceCtorEq]) (El.ints _) ?_ ?_
    · intro he nlx clx hcx
      have hr0 : refsR q = [] := by simpa using he
      have hLx : refL q = [q.value] := by simp [refL, hr0]
      have s2 : ∀ H, srcCells H 1 false (.sl false [.int .i64 q.value] true) = some ([q.value].map intA, [q.value].length, []) := fun H => sc_sl [q.value]
      simp only [go_sem, seval, ↓reduceIte, Nat.reduceLeDiff, Nat.reduceEqDiff, reduceCtorEq]
      rw [XO_app, fa_newC (xs := [q.value]) hcx (s2 _) (by simp) (by simp)]
      simp only [go_sem, seval, ↓reduceIte, Nat.reduceLeDiff, Nat.reduceEqDiff, reduceCtorEq]
      refine And.intro (by kernel_rfl) ?_
      obtain ⟨E, hE⟩ : ∃ E, E = Hp.next hp 37 := ⟨_, rfl⟩
      refine XX_list [q.value] (fun d2 r2 env hp => env = cf5E0 (.pt 1 0 0) (.sl false (sp.map spAV) false) (.rf 21 0 0 k.values.es.length k.values.es.length) (.int .i64 d.length) (.sl nl11 ((liveD d.length (spansK k)).map intA) cl11) (.sl k.list.nl (k.list.es.map Kernel.av) k.list.cl) (.int .i64 k.list.es.length) (.int .i64 d.length) (.rf 37 E 0 (1) (1)) (.int .i64 ((1 : Nat) : Int)) (.int .i64 d2.length) ∧
        hp.get 1 = some (0, .blk k.cells 6 true true false) ∧ hp.get 21 = some (0, .blk ((marks sp d.length (marksK sp (List.replicate k.values.es.length false) 0 d) d2).map AV.bool) 1 false true false) ∧ hp.get 37 = some (E, .blk (([q.value]).map intA) 1 false false false)) ?_ ?_ ?_
      · refine ⟨by rw [hE]; rfl, ?_, ?_, ?_⟩
        · simp only [go_sem, seval, ↓reduceIte, Nat.reduceLeDiff, Nat.reduceEqDiff, reduceCtorEq]
          exact g1'
        · simp only [go_sem, seval, ↓reduceIte, Nat.reduceLeDiff, Nat.reduceEqDiff, reduceCtorEq]
          exact g21
        · simp only [hE, go_sem, seval, ↓reduceIte, Nat.reduceLeDiff, Nat.reduceEqDiff, reduceCtorEq]
          try rfl
      · clear g1 g1' g21 hE hp
        rintro env hp ⟨rfl, g1, g21, g37⟩
        have f0 : decide (((([q.value]).length : Nat) : Int) < 1) = false := by simp
        simp only [cf5L0, cf5E0, hw, f0, go_sem, seval, ↓reduceIte, Nat.reduceLeDiff, Nat.reduceEqDiff, reduceCtorEq]
        refine ⟨rfl, g1, ?_⟩
        rw [marksK_snoc, Nat.zero_add, hLx]
        exact g21
      · clear g1 g1' g21 hE hp
        rintro d2 y r2 env hp hes2 ⟨rfl, g1, g21, g37⟩
        have hym : y ∈ refL q := by rw [hLx, hes2]; simp
        obtain ⟨y0, y1, _⟩ := hrl y hym
        have hyl := hlv y hym
        have hget2 : ([q.value])[d2.length]? = some y := by rw [hes2]; simp
        have hget3 : (([q.value]).map intA)[d2.length]? = some (.int .i64 y) := by rw [List.getElem?_map, hget2]; rfl
        try simp only [List.map_cons, List.map_nil, intA_eq] at hget3
        have hlt2 : d2.length < 1 := by have := congrArg List.length hes2; simp at this; omega
        have f1 : decide ((d2.length : Int) < 1) = true := by simp; omega
        have f2 : ((d2.length : Int) < 1) = True := eq_true (by omega)
        have hw2 : wr .i64 ((d2.length : Int) + 1) = ((d2 ++ [y]).length : Int) := wr_mid (r := r2) (by rw [← hes2, ← hLx, hrfl]; exact hll)
        have y0' : (0 ≤ y) = True := eq_true y0
        have y1' : (y < (k.values.es.length : Int)) = True := eq_true y1
        have hml : (marks sp d.length (marksK sp (List.replicate k.values.es.length false) 0 d) d2).length = k.values.es.length := by rw [marks_len, marksK_len]; simp
        have hsno := marks_snoc sp d.length (marksK sp (List.replicate k.values.es.length false) 0 d) d2 y
        rw [hsno]
        generalize marks sp d.length (marksK sp (List.replicate k.values.es.length false) 0 d) d2 = last at g21 hml ⊢
        obtain ⟨b, hb⟩ : ∃ b, last[y.toNat]? = some b := ⟨_, List.getElem?_eq_getElem (by omega)⟩
        obtain ⟨s, hs⟩ : ∃ s, sp[y.toNat]? = some s := ⟨_, List.getElem?_eq_getElem (by omega)⟩
        have a23 := c23 h23 nl11 cl11 (liveD d.length (spansK k)) hlvb y
        have hany : ((liveD d.length (spansK k)).any fun z => decide (z = y)) = true := List.any_eq_true.2 ⟨y, hyl, by simp⟩
        rw [hany] at a23
        have hset := markI_set (i := d.length) hb hs
        have hst : ∀ c : Bool, List.take (0 + y.toNat * 1) (last.map AV.bool) ++ [.bool c] ++ List.drop (0 + y.toNat * 1 + 1) (last.map AV.bool) = (last.set y.toNat c).map AV.bool := fun c => by
          rw [set_at _ (by rw [List.length_map]; omega), map_set_bool]
        have hle : (0 + y.toNat * 1 + 1 ≤ k.values.es.length) = True := eq_true (by omega)
        clear hrl hlv hlvb h11 h22 hln hes2 hym hyl
        simp only [cf5L0, cf5E0, f1, f2, g37, Nat.zero_add, Nat.mul_one, hget2, hget3, go_sem, seval, ↓reduceIte, Nat.reduceLeDiff, Nat.reduceEqDiff, reduceCtorEq]
        refine XO_tree a23 (by simp only [go_sem, seval, ↓reduceIte, Nat.reduceLeDiff, Nat.reduceEqDiff, reduceCtorEq]) rfl ?_
        simp only [Nat.mul_one, Nat.zero_add] at hst hle
        cases b
        case true =>
          simp only [g21, y0', y1', hb, hle, hml, Nat.zero_add, Nat.mul_one, hst, hw2, go_sem, seval, ↓reduceIte, Nat.reduceLeDiff, Nat.reduceEqDiff, reduceCtorEq]
          rw [Bool.true_or] at hset
          rw [hset]
          exact ⟨rfl, g1, rfl, g37⟩
        case false =>
          simp only [g21, y0', y1', hb, hle, hml, Nat.zero_add, Nat.mul_one, hs, spAV, hst, hw2, go_sem, seval, ↓reduceIte, Nat.reduceLeDiff, Nat.reduceEqDiff, reduceCtorEq]
          rw [Bool.false_or] at hset
          rw [hset]
          exact ⟨rfl, g1, rfl, g37⟩
    · intro cs hcs _
      rw [unchunk_ints] at hcs
      cases hcs
      have hLx : refL q = refsR q ++ [q.value] := rfl
      have s2 : ∀ H, srcCells H 1 false (.sl false [.int .i64 q.value] true) = some ([q.value].map intA, [q.value].length, []) := fun H => sc_sl [q.value]
      simp only [go_sem, seval, ↓reduceIte, Nat.reduceLeDiff, Nat.reduceEqDiff, reduceCtorEq]
      rw [XO_app, fa_rf (es := refsR q) (xs := [q.value]) (by rw [get_put, if_pos rfl]) (by omega) (s2 _) (by simp) (by simp only [big] at hll; simp; omega) rfl]
      simp only [go_sem, seval, ↓reduceIte, Nat.reduceLeDiff, Nat.reduceEqDiff, reduceCtorEq]
      refine And.intro (by kernel_rfl) ?_
      obtain ⟨E, hE⟩ : ∃ E, E = Hp.next hp 37 := ⟨_, rfl⟩
      refine XX_list (refsR q ++ [q.value]) (fun d2 r2 env hp => env = cf5E0 (.pt 1 0 0) (.sl false (sp.map spAV) false) (.rf 21 0 0 k.values.es.length k.values.es.length) (.int .i64 d.length) (.sl nl11 ((liveD d.length (spansK k)).map intA) cl11) (.sl k.list.nl (k.list.es.map Kernel.av) k.list.cl) (.int .i64 k.list.es.length) (.int .i64 d.length) (.rf 37 E 0 ((refsR q).length + 1) ((refsR q).length + 1)) (.int .i64 (((refsR q).length + 1 : Nat) : Int)) (.int .i64 d2.length) ∧
        hp.get 1 = some (0, .blk k.cells 6 true true false) ∧ hp.get 21 = some (0, .blk ((marks sp d.length (marksK sp (List.replicate k.values.es.length false) 0 d) d2).map AV.bool) 1 false true false) ∧ hp.get 37 = some (E, .blk (((refsR q ++ [q.value])).map intA) 1 false false false)) ?_ ?_ ?_
      · refine ⟨by rw [hE]; rfl, ?_, ?_, ?_⟩
        · simp only [go_sem, seval, ↓reduceIte, Nat.reduceLeDiff, Nat.reduceEqDiff, reduceCtorEq]
          exact g1'
        · simp only [go_sem, seval, ↓reduceIte, Nat.reduceLeDiff, Nat.reduceEqDiff, reduceCtorEq]
          exact g21
        · simp only [hE, go_sem, seval, ↓reduceIte, Nat.reduceLeDiff, Nat.reduceEqDiff, reduceCtorEq]
          try rfl
      · clear g1 g1' g21 hE hp
        rintro env hp ⟨rfl, g1, g21, g37⟩
        have f0 : decide (((((refsR q ++ [q.value])).length : Nat) : Int) < (((refsR q).length + 1 : Nat) : Int)) = false := by simp
        simp only [cf5L0, cf5E0, hw, f0, go_sem, seval, ↓reduceIte, Nat.reduceLeDiff, Nat.reduceEqDiff, reduceCtorEq]
        refine ⟨rfl, g1, ?_⟩
        rw [marksK_snoc, Nat.zero_add, hLx]
        exact g21
      · clear g1 g1' g21 hE hp
        rintro d2 y r2 env hp hes2 ⟨rfl, g1, g21, g37⟩
        have hym : y ∈ refL q := by rw [hLx, hes2]; simp
        obtain ⟨y0, y1, _⟩ := hrl y hym
        have hyl := hlv y hym
        have hget2 : ((refsR q ++ [q.value]))[d2.length]? = some y := by rw [hes2]; simp
        have hget3 : (((refsR q ++ [q.value])).map intA)[d2.length]? = some (.int .i64 y) := by rw [List.getElem?_map, hget2]; rfl
        try simp only [List.map_cons, List.map_nil, intA_eq] at hget3
        have hlt2 : d2.length < (refsR q).length + 1 := by have := congrArg List.length hes2; simp at this; omega
        have f1 : decide ((d2.length : Int) < (((refsR q).length + 1 : Nat) : Int)) = true := by simp; omega
        have f2 : ((d2.length : Int) < (((refsR q).length + 1 : Nat) : Int)) = True := eq_true (by omega)
        have hw2 : wr .i64 ((d2.length : Int) + 1) = ((d2 ++ [y]).length : Int) := wr_mid (r := r2) (by rw [← hes2, ← hLx, hrfl]; exact hll)
        have y0' : (0 ≤ y) = True := eq_true y0
        have y1' : (y < (k.values.es.length : Int)) = True := eq_true y1
        have hml : (marks sp d.length (marksK sp (List.replicate k.values.es.length false) 0 d) d2).length = k.values.es.length := by rw [marks_len, marksK_len]; simp
        have hsno := marks_snoc sp d.length (marksK sp (List.replicate k.values.es.length false) 0 d) d2 y
        rw [hsno]
        generalize marks sp d.length (marksK sp (List.replicate k.values.es.length false) 0 d) d2 = last at g21 hml ⊢
        obtain ⟨b, hb⟩ : ∃ b, last[y.toNat]? = some b := ⟨_, List.getElem?_eq_getElem (by omega)⟩
        obtain ⟨s, hs⟩ : ∃ s, sp[y.toNat]? = some s := ⟨_, List.getElem?_eq_getElem (by omega)⟩
        have a23 := c23 h23 nl11 cl11 (liveD d.length (spansK k)) hlvb y
        have hany : ((liveD d.length (spansK k)).any fun z => decide (z = y)) = true := List.any_eq_true.2 ⟨y, hyl, by simp⟩
        rw [hany] at a23
        have hset := markI_set (i := d.length) hb hs
        have hst : ∀ c : Bool, List.take (0 + y.toNat * 1) (last.map AV.bool) ++ [.bool c] ++ List.drop (0 + y.toNat * 1 + 1) (last.map AV.bool) = (last.set y.toNat c).map AV.bool := fun c => by
          rw [set_at _ (by rw [List.length_map]; omega), map_set_bool]
        have hle : (0 + y.toNat * 1 + 1 ≤ k.values.es.length) = True := eq_true (by omega)
        clear hrl hlv hlvb h11 h22 hln hes2 hym hyl
        simp only [cf5L0, cf5E0, f1, f2, g37, Nat.zero_add, Nat.mul_one, hget2, hget3, go_sem, seval, ↓reduceIte, Nat.reduceLeDiff, Nat.reduceEqDiff, reduceCtorEq]
        refine XO_tree a23 (by simp only [go_sem, seval, ↓reduceIte, Nat.reduceLeDiff, Nat.reduceEqDiff, reduceCtorEq]) rfl ?_
        simp only [Nat.mul_one, Nat.zero_add] at hst hle
        cases b
        case true =>
          simp only [g21, y0', y1', hb, hle, hml, Nat.zero_add, Nat.mul_one, hst, hw2, go_sem, seval, ↓reduceIte, Nat.reduceLeDiff, Nat.reduceEqDiff, reduceCtorEq]
          rw [Bool.true_or] at hset
          rw [hset]
          exact ⟨rfl, g1, rfl, g37⟩
        case false =>
          simp only [g21, y0', y1', hb, hle, hml, Nat.zero_add, Nat.mul_one, hs, spAV, hst, hw2, go_sem, seval, ↓reduceIte, Nat.reduceLeDiff, Nat.reduceEqDiff, reduceCtorEq]
          rw [Bool.false_or] at hset
          rw [hset]
          exact ⟨rfl, g1, rfl, g37⟩
end
end Go.Tev
end
