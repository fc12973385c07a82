import Derived.Test.YtjkbaklkdhncdaaGreatDoorWF
set_option linter.all false
section
namespace Go.Tev
def spansR (k : Kernels) (r : AV) : Prop :=
  if (fuseV k).2 = 0 then r = .tup [.sl false ((spansK k).map spAV) false, .int .i64 0] else r = .tup [.sl true [] true, .int .i64 22]
theorem set_at2 {l : List AV} {n : Nat} (x y : AV) (h : n * 2 + 1 < l.length) : List.take (0 + n * 2) l ++ [x, y] ++ List.drop (0 + n * 2 + 2) l = (l.set (n * 2) x).set (n * 2 + 1) y := by
  obtain ⟨a, u, v, m, rfl, ha⟩ : ∃ a u v m, l = a ++ u :: v :: m ∧ a.length = n * 2 := by
    refine ⟨l.take (n * 2), l[n * 2], l[n * 2 + 1], l.drop (n * 2 + 1 + 1), ?_, by simp; omega⟩
    rw [← List.drop_eq_getElem_cons h, ← List.drop_eq_getElem_cons (by omega), List.take_append_drop]
  rw [Nat.zero_add, ← ha]
  simp [List.set_append]
theorem set_at1 {l : List AV} {n : Nat} (x : AV) (h : n < l.length) : List.take n l ++ [x] ++ List.drop (n + 1) l = l.set n x := by
  rw [List.set_eq_take_append_cons_drop, if_pos h]
  simp
theorem st_to (sp : List Sp) (v x : Int) (h : v.toNat < sp.length) : List.take (0 + v.toNat * 2 + 1) (spCells sp) ++ [.int .i64 x] ++ List.drop (0 + v.toNat * 2 + 1 + 1) (spCells sp) = spCells (setTo sp v x) := by
  rw [Nat.zero_add, set_at1 _ (by rw [spCells_len]; omega), spCells_snd]
  rfl
theorem st_from (sp : List Sp) (v x : Int) (h : v.toNat < sp.length) : List.take (0 + v.toNat * 2 + 0) (spCells sp) ++ [.int .i64 x] ++ List.drop (0 + v.toNat * 2 + 0 + 1) (spCells sp) = spCells (setFrom sp v x) := by
  rw [Nat.zero_add, Nat.add_zero, set_at1 _ (by rw [spCells_len]; omega), spCells_fst]
  rfl
theorem le_to (sp : List Sp) (v : Int) (h : v.toNat < sp.length) : (0 + v.toNat * 2 + 1 + 1 ≤ (spCells sp).length) = True := eq_true (by rw [spCells_len]; omega)
theorem le_from (sp : List Sp) (v : Int) (h : v.toNat < sp.length) : (0 + v.toNat * 2 + 0 + 1 ≤ (spCells sp).length) = True := eq_true (by rw [spCells_len]; omega)
theorem ld_from (sp : List Sp) (v : Int) (h : v.toNat < sp.length) : (spCells sp)[0 + v.toNat * 2 + 0]? = some (.int .i64 (fromOf sp v)) := by
  obtain ⟨s, hs⟩ : ∃ s, sp[v.toNat]? = some s := ⟨_, List.getElem?_eq_getElem h⟩
  rw [Nat.zero_add, Nat.add_zero, (spCells_0 sp _ s hs).1]
  simp [fromOf, hs]
section
variable {pg : Pg}
theorem c9 (hf : pg.fs 9 = some cf9) (h28 : ∀ k : Kernels, (k.vars.nl = true → k.vars.es = []) → (∀ q ∈ k.list.es, q.body.ok ∧ q.index.ok ∧ k.vars.es.length + 9 + q.body.sz ≤ big ∧ k.vars.es.length + 9 + q.index.sz ≤ big) →
      Ret pg 28 [k.av] (.tup [.int .i64 (fuseV k).1, .int .i64 (fuseV k).2]))
    (h29 : ∀ (nl cl : Bool) (a b : Int) (n : Nat), n ≤ big → RetP pg 29 [.sl nl [.agg [.int .i64 a, .int .i64 b]] cl, .int .i64 n] (IsSl 2 true (List.replicate n (.agg [.int .i64 a, .int .i64 b]))))
    (h30 : ∀ q : Kernel, q.body.ok → q.index.ok → q.body.sz + q.index.sz + 1 ≤ big → RetP pg 30 [q.av] (IsSl 1 false ((readsK q).map intA)))
    (k : Kernels) (hnl : k.vars.nl = true → k.vars.es = []) (hq : ∀ q ∈ k.list.es, q.body.ok ∧ q.index.ok ∧ k.vars.es.length + 9 + q.body.sz ≤ big ∧ k.vars.es.length + 9 + q.index.sz ≤ big) (hq2 : ∀ q ∈ k.list.es, q.body.sz + q.index.sz + 1 ≤ big) :
    RetP pg 9 [k.av] (spansR k) := by
  have a1 := h28 k hnl hq
  have hVb := k.values.ok
  have a2 := h29 false true (-2) (-2) k.values.es.length hVb
  clear h28 h29
  refine RetP.ofX hf ?_
  unfold cf9
  simp only [Kernels.av, Kernels.cells, go_sem, seval, ↓reduceIte, Nat.reduceLeDiff, Nat.reduceEqDiff, reduceCtorEq]
  refine XO_tree a1 (by simp only [Kernels.av, Kernels.cells, go_sem, seval, ↓reduceIte, Nat.reduceLeDiff, Nat.reduceEqDiff, reduceCtorEq]) rfl ?_
  rcases fuse_code (k := k) with hc | hc
  · have ok := fuseOK_of hc
    have hso := ok.out
    simp only [outsideOK, Bool.and_eq_true, decide_eq_true_eq] at hso
    obtain ⟨_, ⟨⟨⟨⟨⟨⟨_, _⟩, hi0⟩, _⟩, hiV⟩, _⟩, _⟩, _⟩ := hso
    have hV : 0 < k.values.es.length := by
      obtain ⟨v, hv⟩ := List.exists_mem_of_length_pos ok.one
      have := ok.res v hv
      omega
    have hsp0 : List.replicate k.values.es.length (AV.agg [.int .i64 (-2), .int .i64 (-2)]) = (spInit k.values.es.length 0).map spAV := by simp [spInit, spAV]
    have hl0 : (spInit k.values.es.length 0).length = k.values.es.length := spInit_len (Nat.zero_le _)
    rw [hsp0] at a2
    rw [hc]
    simp only [go_sem, seval, ↓reduceIte, Nat.reduceLeDiff, Nat.reduceEqDiff, reduceCtorEq]
    refine XO_slO' a2 (by simp only [go_sem, seval, ↓reduceIte, Nat.reduceLeDiff, Nat.reduceEqDiff, reduceCtorEq]) (spAV_el _) (fun he => ?_) (fun cs hcs _ => ?_)
    · have := congrArg List.length he
      rw [List.length_map, hl0, List.length_nil] at this
      omega
    rw [spCells_un] at hcs
    cases hcs
    rw [List.length_map, hl0]
    generalize hE : Hp.next _ (0 + 9) = E
    clear hE a1 a2
    obtain ⟨ins, hins⟩ : ∃ n : Nat, k.inputs = n := ⟨k.inputs.toNat, by omega⟩
    have hinV : ins ≤ k.values.es.length := by omega
    have hins' : k.inputs.toNat = ins := by omega
    simp only [go_sem, seval, ↓reduceIte, Nat.reduceLeDiff, Nat.reduceEqDiff, reduceCtorEq]
    refine XX_list (List.range ins) (fun d r env hp => env = cf9E0 (.pt 1 0 0) (.rf 9 E 0 k.values.es.length k.values.es.length) (.int .i64 k.inputs) (.int .i64 d.length) ∧
      hp.get 1 = some (0, .blk k.cells 6 true true false) ∧ hp.get 9 = some (E, .blk (spCells (spInit k.values.es.length d.length)) 2 true false false)) ?_ ?_ ?_
    · refine ⟨rfl, ?_, ?_⟩
      · simp only [go_sem, seval, ↓reduceIte, Nat.reduceLeDiff, Nat.reduceEqDiff, reduceCtorEq]
        rfl
      · simp only [go_sem, seval, ↓reduceIte, Nat.reduceLeDiff, Nat.reduceEqDiff, reduceCtorEq]
    · rintro env hp ⟨rfl, g1, g9⟩
      have hr : (List.range ins).length = ins := List.length_range
      rw [hr] at g9 ⊢
      have e1 : decide ((ins : Int) < k.inputs) = false := by simp; omega
      have g1' := g1
      simp only [Kernels.cells, Sl.av] at g1
      simp only [cf9L0, cf9E0, e1, g1, go_sem, seval, ↓reduceIte, Nat.reduceLeDiff, Nat.reduceEqDiff, reduceCtorEq]
      refine XX_list k.list.es (fun d r env hp => env = cf9E2 (.pt 1 0 0) (.rf 9 E 0 k.values.es.length k.values.es.length) (.sl k.list.nl (k.list.es.map Kernel.av) k.list.cl) (.int .i64 k.list.es.length) (.int .i64 d.length) ∧
        hp.get 1 = some (0, .blk k.cells 6 true true false) ∧ hp.get 9 = some (E, .blk (spCells (spRun (spInit k.values.es.length ins) 0 d)) 2 true false false)) ?_ ?_ ?_
      · exact ⟨rfl, g1', g9⟩
      · clear g9 g1 g1' hp
        rintro env hp ⟨rfl, g1, g9⟩
        have g1' := g1
        simp only [Kernels.cells, Sl.av] at g1
        simp only [cf9L2, cf9E2, g1, go_sem, seval, ↓reduceIte, Nat.reduceLeDiff, Nat.reduceEqDiff, reduceCtorEq]
        refine XX_list k.results.es (fun d r env hp => env = cf9E3 (.pt 1 0 0) (.rf 9 E 0 k.values.es.length k.values.es.length) (.sl k.results.nl (k.results.es.map intA) k.results.cl) (.int .i64 k.results.es.length) (.int .i64 d.length) ∧
          hp.get 1 = some (0, .blk k.cells 6 true true false) ∧ hp.get 9 = some (E, .blk (spCells (spRes (spRun (spInit k.values.es.length ins) 0 k.list.es) k.list.es.length d)) 2 true false false)) ?_ ?_ ?_
        · exact ⟨rfl, g1', g9⟩
        · clear g9 g1 g1' hp
          rintro env hp ⟨rfl, g1, g9⟩
          have hlen : (spansK k).length = k.values.es.length := by
            simp only [spansK]
            rw [show spRes = fun sp n l => spReads sp n l from rfl]
            rw [spReads_len, spRun_len, hins', spInit_len hinV]
          have hspk : spRes (spRun (spInit k.values.es.length ins) 0 k.list.es) k.list.es.length k.results.es = spansK k := by rw [spansK, hins']
          rw [hspk] at g9
          have hsn := snap_sp g9 61
          rw [hlen] at hsn
          simp only [cf9L3, cf9E3, go_sem, seval, ↓reduceIte, Nat.reduceLeDiff, Nat.reduceEqDiff, reduceCtorEq]
          simp only [Tev.conv, depth, snapX, mapS_nil, mapS_cons, ↓hsn, go_sem]
          rw [spansR, if_pos hc]
        · clear g9 g1 g1' hp
          rintro d v r env hp hes ⟨rfl, g1, g9⟩
          obtain ⟨v1, v2, _⟩ := ok.res v (by rw [hes]; simp)
          have hrb := k.results.ok
          rw [hes] at hrb
          have hget : k.results.es[d.length]? = some v := by rw [hes]; simp
          have hlt : d.length < k.results.es.length := by rw [hes]; simp
          have e1 : decide ((d.length : Int) < (k.results.es.length : Int)) = true := by simp; omega
          have e2 : ((d.length : Int) < (k.results.es.length : Int)) = True := eq_true (by omega)
          have v1' : (0 ≤ v) = True := eq_true v1
          have v2' : (v < (k.values.es.length : Int)) = True := eq_true v2
          have g1' := g1
          simp only [Kernels.cells, Sl.av] at g1
          have hln : (spRes (spRun (spInit k.values.es.length ins) 0 k.list.es) k.list.es.length d).length = k.values.es.length := by
            rw [show spRes = fun sp n l => spReads sp n l from rfl]
            rw [spReads_len, spRun_len, spInit_len hinV]
          have hvl : v.toNat < (spRes (spRun (spInit k.values.es.length ins) 0 k.list.es) k.list.es.length d).length := by rw [hln]; omega
          have hsno : setTo (spRes (spRun (spInit k.values.es.length ins) 0 k.list.es) k.list.es.length d) v k.list.es.length = spRes (spRun (spInit k.values.es.length ins) 0 k.list.es) k.list.es.length (d ++ [v]) := by simp [spRes]
          simp only [cf9L3, cf9E3, e1, e2, g1, g9, hget, v1', v2', le_to _ v hvl, st_to _ v _ hvl, wr_mid hrb, hsno, go_sem, seval, ↓reduceIte, Nat.reduceLeDiff, Nat.reduceEqDiff, reduceCtorEq]
          exact ⟨rfl, rfl⟩
      · clear g9 g1 g1' hp
        rintro d q r env hp hes ⟨rfl, g1, g9⟩
        obtain ⟨v0, v2, _⟩ := kernelOK_in (ok.ker d q r hes)
        have hlb := k.list.ok
        rw [hes] at hlb
        have hget : k.list.es[d.length]? = some q := by rw [hes]; simp
        have hlt : d.length < k.list.es.length := by rw [hes]; simp
        have e1 : decide ((d.length : Int) < (k.list.es.length : Int)) = true := by simp; omega
        have e2 : ((d.length : Int) < (k.list.es.length : Int)) = True := eq_true (by omega)
        have v1' : (0 ≤ q.value) = True := eq_true (by omega)
        have v2' : (q.value < (k.values.es.length : Int)) = True := eq_true v2
        obtain ⟨p1, p2, _, _⟩ := hq q (by rw [hes]; simp)
        have a3 := h30 q p1 p2 (hq2 q (by rw [hes]; simp))
        rw [Kernel.avc] at a3
        have hrd := kernelOK_reads (ok.ker d q r hes)
        have hrlen : (readsK q).length ≤ big := by
          have z1 := hq2 q (by rw [hes]; simp)
          have z2 := readsV_len q.body
          have z3 := readsV_len q.index
          simp only [readsK, List.length_append]
          split <;> simp <;> omega
        have hrun := spRun_snoc d (spInit k.values.es.length ins) 0 q
        rw [Nat.zero_add] at hrun
        rw [hrun]
        have hln : (spRun (spInit k.values.es.length ins) 0 d).length = k.values.es.length := by rw [spRun_len, spInit_len hinV]
        generalize spRun (spInit k.values.es.length ins) 0 d = sp at g9 hln ⊢
        have hvl : q.value.toNat < sp.length := by omega
        have hvl2 : q.value.toNat < (setFrom sp q.value d.length).length := by rw [setFrom_len]; exact hvl
        have hst : spStep sp d.length q = spReads (setTo (if decide (fromOf sp q.value = -2) then setFrom sp q.value d.length else sp) q.value d.length) d.length (readsK q) := rfl
        rw [hst]
        clear hst hrun h30 hq hq2
        simp only [cf9L2, cf9E2, e1, e2, g9, hget, v1', v2', ld_from sp q.value hvl, go_sem, seval, ↓reduceIte, Nat.reduceLeDiff, Nat.reduceEqDiff, reduceCtorEq]
        cases hfr : decide (fromOf sp q.value = -2)
        case true =>
          simp only [g9, v1', v2', le_from sp _ hvl, st_from sp _ _ hvl, le_to _ _ hvl2, st_to _ _ _ hvl2, go_sem, seval, ↓reduceIte, Nat.reduceLeDiff, Nat.reduceEqDiff, reduceCtorEq]
          refine XO_sl a3 (by simp only [go_sem, seval, ↓reduceIte, Nat.reduceLeDiff, Nat.reduceEqDiff, reduceCtorEq]) ?_
          intro nl3 cl3 _
          simp only [go_sem, seval, ↓reduceIte, Nat.reduceLeDiff, Nat.reduceEqDiff, reduceCtorEq]
          refine XX_list (readsK q) (fun d2 r2 env hp => env = cf9E1 (.pt 1 0 0) (.rf 9 E 0 k.values.es.length k.values.es.length) (.int .i64 d.length) (.sl k.list.nl (k.list.es.map Kernel.av) k.list.cl) (.int .i64 k.list.es.length) (.int .i64 d.length) (.sl nl3 ((readsK q).map intA) cl3) (.int .i64 (readsK q).length) (.int .i64 d2.length) ∧
            hp.get 1 = some (0, .blk k.cells 6 true true false) ∧ hp.get 9 = some (E, .blk (spCells (spReads (setTo (setFrom sp q.value d.length) q.value d.length) d.length d2)) 2 true false false)) ?_ ?_ ?_
          · refine ⟨rfl, ?_, ?_⟩
            · simp only [go_sem, seval, ↓reduceIte, Nat.reduceLeDiff, Nat.reduceEqDiff, reduceCtorEq]
              exact g1
            · simp only [go_sem, seval, ↓reduceIte, Nat.reduceLeDiff, Nat.reduceEqDiff, reduceCtorEq]
              rfl
          · clear g9 g1 hp
            rintro env hp ⟨rfl, g1, g9⟩
            simp only [cf9L1, cf9E1, wr_mid hlb, go_sem, seval, ↓reduceIte, Nat.reduceLeDiff, Nat.reduceEqDiff, reduceCtorEq]
            first | exact ⟨rfl, g1, g9⟩
          · clear g9 g1 hp
            rintro d2 v r2 env hp hes2 ⟨rfl, g1, g9⟩
            obtain ⟨w1, w2, _⟩ := hrd v (by rw [hes2]; simp)
            have hget2 : (readsK q)[d2.length]? = some v := by rw [hes2]; simp
            have hlt2 : d2.length < (readsK q).length := by rw [hes2]; simp
            have f1 : decide ((d2.length : Int) < ((readsK q).length : Int)) = true := by simp; omega
            have f2 : ((d2.length : Int) < ((readsK q).length : Int)) = True := eq_true (by omega)
            have w1' : (0 ≤ v) = True := eq_true w1
            have w2' : (v < (k.values.es.length : Int)) = True := eq_true w2
            have hvl3 : v.toNat < (spReads (setTo (setFrom sp q.value d.length) q.value d.length) d.length d2).length := by rw [spReads_len, setTo_len]; rw [setFrom_len]; omega
            have hrb2 : (d2 ++ v :: r2).length ≤ big := by rw [← hes2]; exact hrlen
            simp only [cf9L1, cf9E1, f1, f2, g9, hget2, w1', w2', le_to _ v hvl3, st_to _ v _ hvl3, wr_mid hrb2, go_sem, seval, ↓reduceIte, Nat.reduceLeDiff, Nat.reduceEqDiff, reduceCtorEq]
            rw [spReads_snoc]
            first | exact ⟨rfl, g1, rfl⟩ | exact g1
        case false =>
          simp only [g9, v1', v2', le_to _ _ hvl, st_to _ _ _ hvl, go_sem, seval, ↓reduceIte, Nat.reduceLeDiff, Nat.reduceEqDiff, reduceCtorEq]
          refine XO_sl a3 (by simp only [go_sem, seval, ↓reduceIte, Nat.reduceLeDiff, Nat.reduceEqDiff, reduceCtorEq]) ?_
          intro nl3 cl3 _
          simp only [go_sem, seval, ↓reduceIte, Nat.reduceLeDiff, Nat.reduceEqDiff, reduceCtorEq]
          refine XX_list (readsK q) (fun d2 r2 env hp => env = cf9E1 (.pt 1 0 0) (.rf 9 E 0 k.values.es.length k.values.es.length) (.int .i64 d.length) (.sl k.list.nl (k.list.es.map Kernel.av) k.list.cl) (.int .i64 k.list.es.length) (.int .i64 d.length) (.sl nl3 ((readsK q).map intA) cl3) (.int .i64 (readsK q).length) (.int .i64 d2.length) ∧
            hp.get 1 = some (0, .blk k.cells 6 true true false) ∧ hp.get 9 = some (E, .blk (spCells (spReads (setTo sp q.value d.length) d.length d2)) 2 true false false)) ?_ ?_ ?_
          · refine ⟨rfl, ?_, ?_⟩
            · simp only [go_sem, seval, ↓reduceIte, Nat.reduceLeDiff, Nat.reduceEqDiff, reduceCtorEq]
              exact g1
            · simp only [go_sem, seval, ↓reduceIte, Nat.reduceLeDiff, Nat.reduceEqDiff, reduceCtorEq]
              rfl
          · clear g9 g1 hp
            rintro env hp ⟨rfl, g1, g9⟩
            simp only [cf9L1, cf9E1, wr_mid hlb, go_sem, seval, ↓reduceIte, Nat.reduceLeDiff, Nat.reduceEqDiff, reduceCtorEq]
            first | exact ⟨rfl, g1, g9⟩
          · clear g9 g1 hp
            rintro d2 v r2 env hp hes2 ⟨rfl, g1, g9⟩
            obtain ⟨w1, w2, _⟩ := hrd v (by rw [hes2]; simp)
            have hget2 : (readsK q)[d2.length]? = some v := by rw [hes2]; simp
            have hlt2 : d2.length < (readsK q).length := by rw [hes2]; simp
            have f1 : decide ((d2.length : Int) < ((readsK q).length : Int)) = true := by simp; omega
            have f2 : ((d2.length : Int) < ((readsK q).length : Int)) = True := eq_true (by omega)
            have w1' : (0 ≤ v) = True := eq_true w1
            have w2' : (v < (k.values.es.length : Int)) = True := eq_true w2
            have hvl3 : v.toNat < (spReads (setTo sp q.value d.length) d.length d2).length := by rw [spReads_len, setTo_len]; omega
            have hrb2 : (d2 ++ v :: r2).length ≤ big := by rw [← hes2]; exact hrlen
            simp only [cf9L1, cf9E1, f1, f2, g9, hget2, w1', w2', le_to _ v hvl3, st_to _ v _ hvl3, wr_mid hrb2, go_sem, seval, ↓reduceIte, Nat.reduceLeDiff, Nat.reduceEqDiff, reduceCtorEq]
            rw [spReads_snoc]
            first | exact ⟨rfl, g1, rfl⟩ | exact g1
    · rintro d x r env hp hes ⟨rfl, g1, g9⟩
      obtain ⟨hx, hlt⟩ := range_mid hes
      have hb2 : (d ++ x :: r).length ≤ big := by rw [← hes]; simp; omega
      have hlen : (spInit k.values.es.length d.length).length = k.values.es.length := spInit_len (by omega)
      have e1 : decide ((d.length : Int) < k.inputs) = true := by simp; omega
      have e2 : ((d.length : Int) < (k.values.es.length : Int)) = True := eq_true (by omega)
      have e3 : (0 + d.length * 2 + 2 ≤ (spCells (spInit k.values.es.length d.length)).length) = True := eq_true (by rw [spCells_len, hlen]; omega)
      have e4 := set_at2 (l := spCells (spInit k.values.es.length d.length)) (n := d.length) (.int .i64 (-1)) (.int .i64 (-1)) (by rw [spCells_len, hlen]; omega)
      rw [spCells_set, spInit_set (by omega)] at e4
      simp only [cf9L0, cf9E0, e1, e2, g9, e3, e4, wr_mid hb2, go_sem, seval, ↓reduceIte, Nat.reduceLeDiff, Nat.reduceEqDiff, reduceCtorEq]
      rw [List.length_append]
      exact ⟨rfl, g1, rfl⟩
  · rw [hc]
    simp only [go_sem, seval, ↓reduceIte, Nat.reduceLeDiff, Nat.reduceEqDiff, reduceCtorEq]
    rw [spansR, hc]
    rfl
end
end Go.Tev
end
section
namespace Go.Tev
def isLive (at_ : Int) (s : Sp) : Bool := !decide (s.1 = -2) && decide (s.1 ≤ at_) && decide (at_ ≤ s.2)
def liveD (at_ : Int) (d : List Sp) : List Int := (d.zipIdx.filter fun x => isLive at_ x.1).map fun x => (x.2 : Int)
theorem liveD_snoc (at_ : Int) (d : List Sp) (x : Sp) : liveD at_ (d ++ [x]) = liveD at_ d ++ if isLive at_ x then [(d.length : Int)] else [] := by
  simp only [liveD, List.zipIdx_append, List.filter_append, List.map_append, List.zipIdx_singleton, Nat.zero_add]
  congr 1
  cases h : isLive at_ x <;> simp [h]
theorem mem_liveD {at_ : Int} {d : List Sp} {v : Int} : v ∈ liveD at_ d ↔ ∃ s, 0 ≤ v ∧ d[v.toNat]? = some s ∧ isLive at_ s = true := by
  simp only [liveD, List.mem_map, List.mem_filter, List.mem_zipIdx_iff_getElem?]
  constructor
  · rintro ⟨⟨s, i⟩, ⟨h1, h2⟩, rfl⟩
    exact ⟨s, by simp, by simpa using h1, h2⟩
  · rintro ⟨s, h0, h1, h2⟩
    exact ⟨(s, v.toNat), ⟨by simpa using h1, h2⟩, by simp; omega⟩
def liveR (k : Kernels) (at_ : Int) (r : AV) : Prop :=
  if (fuseV k).2 = 0 then
    (if at_ < -1 ∨ (k.list.es.length : Int) < at_ then r = .tup [.sl true [] true, .int .i64 2] else ∃ nl cl, r = .tup [.sl nl ((liveD at_ (spansK k)).map intA) cl, .int .i64 0])
  else r = .tup [.sl true [] true, .int .i64 22]
theorem spansK_len {k : Kernels} (h : k.inputs.toNat ≤ k.values.es.length) : (spansK k).length = k.values.es.length := by
  simp only [spansK]
  rw [show spRes = fun sp n l => spReads sp n l from rfl]
  rw [spReads_len, spRun_len, spInit_len h]
section
variable {pg : Pg}
theorem c11 (hf : pg.fs 11 = some cf11) (k : Kernels) (h9 : RetP pg 9 [k.av] (spansR k)) (at_ : Int) : RetP pg 11 [k.av, .int .i64 at_] (liveR k at_) := by
  obtain ⟨r9, hr9, hs9⟩ := h9
  refine RetP.ofX hf ?_
  unfold cf11
  simp only [Kernels.av, Kernels.cells, go_sem, seval, ↓reduceIte, Nat.reduceLeDiff, Nat.reduceEqDiff, reduceCtorEq]
  rcases fuse_code (k := k) with hc | hc
  · have ok := fuseOK_of hc
    have hso := ok.out
    simp only [outsideOK, Bool.and_eq_true, decide_eq_true_eq] at hso
    obtain ⟨_, ⟨⟨⟨⟨⟨⟨_, _⟩, hi0⟩, _⟩, hiV⟩, _⟩, _⟩, _⟩ := hso
    have hsl := spansK_len (k := k) (by omega)
    have hVb := k.values.ok
    have htr : treeL ((spansK k).map spAV) = true := treeL_map (f := spAV) (fun s => by simp [spAV, go_sem]) _
    rw [spansR, if_pos hc] at hs9
    subst hs9
    refine XO_tree hr9 (by simp only [Kernels.av, Kernels.cells, go_sem, seval, ↓reduceIte, Nat.reduceLeDiff, Nat.reduceEqDiff, reduceCtorEq]) (by first | rfl | (simp [AV.tree, htr])) ?_
    simp only [go_sem, seval, ↓reduceIte, Nat.reduceLeDiff, Nat.reduceEqDiff, reduceCtorEq]
    cases ha : decide (at_ < -1)
    case true =>
      simp only [go_sem, seval, ↓reduceIte, Nat.reduceLeDiff, Nat.reduceEqDiff, reduceCtorEq]
      rw [liveR, if_pos hc, if_pos (.inl (by simpa using ha))]
    case false =>
      simp only [go_sem, seval, ↓reduceIte, Nat.reduceLeDiff, Nat.reduceEqDiff, reduceCtorEq]
      cases hb : decide ((k.list.es.length : Int) < at_)
      case true =>
        simp only [go_sem, seval, ↓reduceIte, Nat.reduceLeDiff, Nat.reduceEqDiff, reduceCtorEq]
        rw [liveR, if_pos hc, if_pos (.inr (by simpa using hb))]
      case false =>
        simp only [go_sem, seval, ↓reduceIte, Nat.reduceLeDiff, Nat.reduceEqDiff, reduceCtorEq]
        refine XX_list (spansK k) (fun d r env hp => ∃ v, env = cf11E0 (.int .i64 at_) v (.sl false ((spansK k).map spAV) false) (.int .i64 (spansK k).length) (.int .i64 d.length) ∧ Own hp 13 1 false v ((liveD at_ d).map intA)) ?_ ?_ ?_
        · exact ⟨_, rfl, Own.nil _ _ _ _ _ _ rfl⟩
        · rintro env hp ⟨v, rfl, ho⟩
          simp only [cf11L0, cf11E0, go_sem, seval, ↓reduceIte, Nat.reduceLeDiff, Nat.reduceEqDiff, reduceCtorEq]
          have hfin : ∀ r, (∃ nl cl, r = .tup [.sl nl ((liveD at_ (spansK k)).map intA) cl, .int .i64 0]) → liveR k at_ r := by
            intro r hr
            rw [liveR, if_pos hc, if_neg (by simp at ha hb; omega)]
            exact hr
          obtain ⟨nl, cl, keys, hsn, _⟩ := ho.snap (El.ints _) 61
          rcases ho with ⟨he, nl', cl', rfl, _⟩ | ⟨e, cs, rfl, hg, hu⟩
          · rw [← he]
            simp only [go_sem, seval, ↓reduceIte, Nat.reduceLeDiff, Nat.reduceEqDiff, reduceCtorEq]
            exact hfin _ ⟨nl', cl', by rw [he]⟩
          · simp only [List.length_map] at hsn
            simp only [Tev.conv, depth, snapX, mapS_nil, mapS_cons, ↓hsn, go_sem, List.length_map]
            exact hfin _ ⟨_, _, rfl⟩
        · rintro d x r env hp hes ⟨v, rfl, ho⟩
          have hb2 : (d ++ x :: r).length ≤ big := by rw [← hes, hsl]; exact hVb
          have hget : (spansK k)[d.length]? = some x := by rw [hes]; simp
          have hlt : d.length < (spansK k).length := by rw [hes]; simp
          have e1 : decide ((d.length : Int) < ((spansK k).length : Int)) = true := by simp; omega
          have e2 : ((d.length : Int) < ((spansK k).length : Int)) = True := eq_true (by omega)
          have hll : (liveD at_ d).length ≤ d.length := by
            simp only [liveD, List.length_map]
            exact Nat.le_trans (List.length_filter_le _ _) (by simp)
          have hdl : d.length ≤ 16777216 := by simp only [big] at hb2; simp at hb2; omega
          have hin : ∀ y ∈ [AV.int .i64 (d.length : Int)], El 1 false y := by intro y hy; simp at hy; subst hy; exact ⟨rfl, rfl, rfl⟩
          have hw := wr_mid hb2
          have hno : isLive at_ x = false → liveD at_ (d ++ [x]) = liveD at_ d := by intro h; rw [liveD_snoc, h]; simp
          simp only [cf11L0, cf11E0, e1, e2, hget, spAV, go_sem, seval, ↓reduceIte, Nat.reduceLeDiff, Nat.reduceEqDiff, reduceCtorEq]
          have hgo : ∀ hp' : Hp, hp'.get 13 = hp.get 13 → Own hp' 13 1 false v ((liveD at_ d).map intA) := fun hp' h => ho.mono h
          cases b1 : decide (x.fst = -2)
          case true =>
            simp only [hw, go_sem, seval, ↓reduceIte, Nat.reduceLeDiff, Nat.reduceEqDiff, reduceCtorEq]
            refine ⟨v, rfl, ?_⟩
            rw [hno (by simp [isLive, b1])]
            exact hgo _ (by simp only [go_sem, seval, ↓reduceIte, Nat.reduceLeDiff, Nat.reduceEqDiff, reduceCtorEq])
          cases b2 : decide (x.fst ≤ at_)
          case false =>
            simp only [hw, b2, go_sem, seval, ↓reduceIte, Nat.reduceLeDiff, Nat.reduceEqDiff, reduceCtorEq]
            refine ⟨v, rfl, ?_⟩
            rw [hno (by simp [isLive, b1, b2])]
            exact hgo _ (by simp only [go_sem, seval, ↓reduceIte, Nat.reduceLeDiff, Nat.reduceEqDiff, reduceCtorEq])
          cases b3 : decide (at_ ≤ x.snd)
          case false =>
            simp only [hw, b2, b3, go_sem, seval, ↓reduceIte, Nat.reduceLeDiff, Nat.reduceEqDiff, reduceCtorEq]
            refine ⟨v, rfl, ?_⟩
            rw [hno (by simp [isLive, b1, b2, b3])]
            exact hgo _ (by simp only [go_sem, seval, ↓reduceIte, Nat.reduceLeDiff, Nat.reduceEqDiff, reduceCtorEq])
          simp only [hw, b2, b3, go_sem, seval, ↓reduceIte, Nat.reduceLeDiff, Nat.reduceEqDiff, reduceCtorEq]
          refine XO_own (kb := 0) (s := 13) (hgo _ ?_) (El.ints _) hin (by simp only [List.length_map, List.length_singleton]; omega) (by decide) ?_
          · simp only [go_sem, seval, ↓reduceIte, Nat.reduceLeDiff, Nat.reduceEqDiff, reduceCtorEq]
          · intro v' rd pa ho2 _ _
            simp only [hw, go_sem, seval, ↓reduceIte, Nat.reduceLeDiff, Nat.reduceEqDiff, reduceCtorEq]
            refine ⟨v', rfl, ?_⟩
            rw [liveD_snoc, show isLive at_ x = true by simp [isLive, b1, b2, b3]]
            simpa [intA_eq] using ho2
  · rw [spansR, if_neg (by omega)] at hs9
    subst hs9
    refine XO_tree hr9 (by simp only [Kernels.av, Kernels.cells, go_sem, seval, ↓reduceIte, Nat.reduceLeDiff, Nat.reduceEqDiff, reduceCtorEq]) rfl ?_
    simp only [go_sem, seval, ↓reduceIte, Nat.reduceLeDiff, Nat.reduceEqDiff, reduceCtorEq]
    rw [liveR, if_neg (by omega)]
end
end Go.Tev
end
section
namespace Go.Tev
def putI (x : Int) : List Int → List Int
  | [] => [x]
  | y :: r => if decide (y < x) then y :: putI x r else if decide (y = x) then y :: r else x :: y :: r
theorem putI_app {x : Int} : ∀ (d rest : List Int), (∀ y ∈ d, y < x) → putI x (d ++ rest) = d ++ putI x rest
  | [], rest, _ => rfl
  | y :: d, rest, h => by
    have h1 : y < x := h y (by simp)
    simp only [List.cons_append, putI, h1, decide_true, if_true]
    rw [putI_app d rest (fun z hz => h z (List.mem_cons_of_mem _ hz))]
theorem mem_putI {x a : Int} : ∀ l : List Int, a ∈ putI x l ↔ a = x ∨ a ∈ l
  | [] => by simp [putI]
  | y :: r => by
    simp only [putI]
    split
    · simp only [List.mem_cons, mem_putI r]
      constructor <;> (intro h; rcases h with h | h | h <;> simp [h])
    · split
      · rename_i h; simp at h; subst h; simp
      · simp
theorem putI_len (x : Int) : ∀ l : List Int, (putI x l).length ≤ l.length + 1
  | [] => by simp [putI]
  | y :: r => by
    have := putI_len x r
    simp only [putI]
    split
    · simp; omega
    · split <;> simp
def IsL (l : List Int) (r : AV) : Prop := (∃ nl cl, r = .sl nl (l.map intA) cl) ∨ r = .os (l.map intA) 1 false
theorem IsL.of {l : List Int} {r : AV} (h : IsSl 1 false (l.map intA) r) : IsL l r := by
  rcases h with ⟨he, nl, cl, rfl, _⟩ | h
  · exact .inl ⟨nl, cl, by rw [he]⟩
  · exact .inr h
section
variable {pg : Pg}
def putP (kb : Nat) (h : Hp) (k1 : Nat) (l : List Int) (r : AV) (h' : Hp) : Prop :=
  ∃ k2, Own h' k2 1 false r (l.map intA) ∧ (k2 = k1 ∨ k2 = kb + 5 ∨ k2 = kb + 9) ∧ ∀ k, k ≠ kb + 1 → k ≠ kb + 5 → k ≠ kb + 9 → h'.get k = h.get k
theorem own_at {h : Hp} {k e : Nat} {l : List Int} (hg : h.get k = some (e, .blk (l.map intA) 1 false false false)) {n : Nat} (hn : n = l.length) : Own h k 1 false (.rf k e 0 n n) (l.map intA) := by
  subst hn
  exact .inr ⟨e, _, by simp, hg, unchunk_ints l⟩
theorem ints_cells (l : List Int) : (l.map intA).all (fun v => v.cells.length == 1) = true := by
  rw [List.all_eq_true]
  intro x hx
  obtain ⟨y, _, rfl⟩ := List.mem_map.1 hx
  rfl
theorem slc_pre (nl cl : Bool) (d rest : List Int) : ∃ c, ∀ h, f_slc h 1 false true false [.sl nl ((d ++ rest).map intA) cl, .int .i64 (d.length : Int)] = some (.sl nl (d.map intA) c, .pat [] []) := by
  refine ⟨(nl || cl) && ((d.length : Int) == ((((d ++ rest).map intA).length : Nat) : Int)), fun h => ?_⟩
  simp only [f_slc, optI, sliceA, Bool.false_eq_true, if_false, if_true, Option.getD_none, Option.getD_some, ints_cells, Option.isSome_none]
  rw [if_pos ⟨by omega, by omega, by omega, by simp only [List.length_map, List.length_append]; omega, trivial⟩]
  simp [val]
theorem slc_post (nl cl : Bool) (d rest : List Int) : ∃ c, ∀ h, f_slc h 1 true false false [.sl nl ((d ++ rest).map intA) cl, .int .i64 (d.length : Int)] = some (.sl nl (rest.map intA) c, .pat [] []) := by
  refine ⟨(nl || cl) && true, fun h => ?_⟩
  simp only [f_slc, optI, sliceA, Bool.false_eq_true, if_false, if_true, Option.getD_none, Option.getD_some, ints_cells, Option.isSome_none]
  rw [if_pos ⟨by omega, by simp only [List.length_map, List.length_append]; omega, by omega, by omega, trivial⟩]
  have e : ((d ++ rest).map intA).drop (d.length : Int).toNat = rest.map intA := by
    rw [Int.toNat_natCast, List.map_append, List.drop_left' (by simp)]
  rw [e, List.take_of_length_le (by simp only [List.length_map, List.length_append]; omega)]
  simp [val]
theorem allOne_ints : ∀ l : List Int, allOne (l.map intA) = true
  | [] => rfl
  | x :: r => by simp only [List.map_cons, allOne, allOne_ints r]; rfl
theorem allOne_sub (l : List Int) (a b : Nat) : allOne (((l.map intA).drop a).take b) = true := by
  rw [← List.map_drop, ← List.map_take]; exact allOne_ints _
theorem slcr_lo {H : Hp} {k e : Nat} {cs : List AV} {ag ti fz : Bool} (hg : H.get k = some (e, .blk cs 1 ag ti fz)) {m n : Nat} (hm : m ≤ n) (hmx : ti = false) :
    f_slc H 1 false true false [.rf k e 0 n n, .int .i64 (m : Int)] = some (.rf k e 0 m n, .pat [k] []) := by
  subst hmx
  simp only [f_slc, optI, sliceA, Bool.false_eq_true, if_false, if_true, Option.getD_none, Option.getD_some, hg]
  rw [if_pos (by simp; omega)]
  simp
theorem slcr_hi {H : Hp} {k e : Nat} {cs : List AV} {ag fz : Bool} (hg : H.get k = some (e, .blk cs 1 ag false fz)) {m n : Nat} (hm : m < n) :
    f_slc H 1 true false false [.rf k e 0 n n, .int .i64 (m : Int)] = some (.rf k e m (n - m) (n - m), .pat [k] []) := by
  simp only [f_slc, optI, sliceA, Bool.false_eq_true, if_false, if_true, Option.getD_none, Option.getD_some, hg]
  rw [if_pos (by simp; omega)]
  rw [if_neg (by omega)]
  simp
theorem slcr_end {H : Hp} {k e : Nat} {cs : List AV} {ag fz : Bool} (hg : H.get k = some (e, .blk cs 1 ag false fz)) {n : Nat} (hn : n ≠ 0) :
    f_slc H 1 true false false [.rf k e 0 n n, .int .i64 (n : Int)] = some (.sl false [] false, .pat [k] []) := by
  simp only [f_slc, optI, sliceA, Bool.false_eq_true, if_false, if_true, Option.getD_none, Option.getD_some, hg]
  rw [if_neg (by rintro ⟨_, _, _, _, _, _, _, h | h | h⟩ <;> first | omega | cases h), if_pos (by simp)]
theorem sc_rf {H : Hp} {k e : Nat} {l : List Int} {ag ti fz : Bool} (hg : H.get k = some (e, .blk (l.map intA) 1 ag ti fz)) {off m cap : Nat} (hm : off + m ≤ l.length) {xs : List Int} (hx : (l.drop off).take m = xs) :
    srcCells H 1 false (.rf k e off m cap) = some (xs.map intA, xs.length, [k]) := by
  subst hx
  simp only [srcCells, hg]
  rw [if_pos ⟨trivial, by simpa using hm, by simpa using allOne_sub l off m⟩]
  simp
  omega
theorem sc_sl {H : Hp} {nl cl : Bool} (xs : List Int) : srcCells H 1 false (.sl nl (xs.map intA) cl) = some (xs.map intA, xs.length, []) := by
  simp [srcCells, unchunk_ints]
theorem fa_new {H : Hp} {K : Nat} {src : AV} {xs : List Int} {rd : List Nat} (hs : srcCells H 1 false src = some (xs.map intA, xs.length, rd)) (hx : xs ≠ []) (hl : xs.length ≤ 1073741824) :
    f_app H K 1 false 8 [.sl false [] true, src] = some (.rf K (H.next K) 0 xs.length xs.length, .pat (K :: rd) [⟨K, H.next K, .blk (xs.map intA) 1 false false false⟩]) := by
  have hn : xs.length ≠ 0 := by simpa using hx
  simp [f_app, hs, appA, hn, hl, unchunk]
theorem fa_nil {H : Hp} {K : Nat} {src : AV} {rd : List Nat} (hs : srcCells H 1 false src = some ([], 0, rd)) :
    f_app H K 1 false 8 [.sl false [] true, src] = some (.sl false [] true, .pat rd []) := by
  simp [f_app, hs, appA]
theorem fa_rf {H : Hp} {K K1 e1 : Nat} {es : List Int} (hg : H.get K1 = some (e1, .blk (es.map intA) 1 false false false)) (hk : K1 ≠ K) {src : AV} {xs : List Int} {rd : List Nat} (hs : srcCells H 1 false src = some (xs.map intA, xs.length, rd)) (hx : xs ≠ [])
    (hl : es.length + xs.length ≤ 1073741824) {n : Nat} (hn : n = es.length) :
    f_app H K 1 false 8 [.rf K1 e1 0 n n, src] = some (.rf K (H.next K) 0 (es.length + xs.length) (es.length + xs.length), .pat (K :: K1 :: rd) [⟨K1, e1, .dead⟩, ⟨K, H.next K, .blk ((es ++ xs).map intA) 1 false false false⟩]) := by
  have hx0 : xs.length ≠ 0 := by simpa using hx
  subst hn
  have h2 : (K1 == K) = false := by simpa using hk
  simp only [f_app, hs, appA, hg, hx0, if_false, true_and, Nat.zero_add, Nat.mul_one]
  rw [if_pos (by simp), if_neg (by omega)]
  simp only [hl, decide_true, Bool.true_and, h2, Bool.not_false, Bool.false_eq_true, if_false, show (8 : Nat) ≤ 65536 from by decide, if_true]
  have ht : List.take es.length (List.map intA es) = List.map intA es := by rw [List.take_of_length_le (by simp)]
  simp [ht]
theorem fa_rf0 {H : Hp} {K K1 e1 : Nat} {es : List Int} (hg : H.get K1 = some (e1, .blk (es.map intA) 1 false false false)) {src : AV} {rd : List Nat} (hs : srcCells H 1 false src = some ([], 0, rd)) {n : Nat} (hn : n = es.length) :
    f_app H K 1 false 8 [.rf K1 e1 0 n n, src] = some (.rf K1 e1 0 n n, .pat (K1 :: rd) []) := by
  subst hn
  simp only [f_app, hs, appA, hg]
  rw [if_pos (by simp)]
  simp
attribute [local go_sem] Nat.left_eq_add Nat.add_eq_left
theorem c55h {f : Nat} (hf : pg.fs f = some cf55) (kb : Nat) (h : Hp) (k1 e : Nat) (l : List Int) (hb : l.length < big) (x : Int) (hg : h.get k1 = some (e, .blk (l.map intA) 1 false false false))
    (n1 : (k1 = kb + 1) = False) (n5 : (k1 = kb + 5) = False) (n9 : (k1 = kb + 9) = False) (hne : l ≠ []) :
    RetHP pg f [.rf k1 e 0 l.length l.length, .int .i64 x] kb h (putP kb h k1 (putI x l)) := by
  have n1' : (kb + 1 = k1) = False := by rw [← n1]; exact propext eq_comm
  have n5' : (kb + 5 = k1) = False := by rw [← n5]; exact propext eq_comm
  have n9' : (kb + 9 = k1) = False := by rw [← n9]; exact propext eq_comm
  refine RetHP.ofX hf ?_
  unfold cf55
  simp only [big] at hb
  simp only [go_sem, seval, ↓reduceIte, Nat.reduceLeDiff, Nat.reduceEqDiff, reduceCtorEq]
  refine XX_list l (fun d r env hp => env = cf55E0 (.rf k1 e 0 l.length l.length) (.int .i64 x) (.int .i64 d.length) ∧ hp = h ∧ ∀ y ∈ d, y < x) ?_ ?_ ?_
  · exact ⟨rfl, rfl, by simp⟩
  · rintro env hp ⟨rfl, rfl, hI⟩
    have s2 : ∀ H, srcCells H 1 false (.sl false [.int .i64 x] true) = some ([x].map intA, [x].length, []) := fun H => sc_sl [x]
    have s0 : ∀ H, srcCells H 1 false (.sl false [] false) = some ([], 0, []) := fun H => sc_sl []
    have hl' : l = l ++ [] := by simp
    have hres : putI x l = l ++ [x] := by
      have := putI_app l [] hI
      rwa [List.append_nil] at this
    have hd0 : l ≠ [] := hne
    have hlo := slcr_lo (H := hp) hg (m := (l).length) (n := l.length) (by omega) rfl
    simp only [cf55L0, cf55E0, ↓hlo, go_sem, seval, ↓reduceIte, Nat.reduceLeDiff, Nat.reduceEqDiff, reduceCtorEq]
    have s1 := sc_rf (off := 0) (m := (l).length) (cap := l.length) (xs := l) hg (by omega) (by rw [hl']; simp)
    rw [XO_app, fa_new s1 hd0 (by omega)]
    simp only [n1, n5, n9, n1', n5', n9', go_sem, seval, ↓reduceIte, Nat.reduceLeDiff, Nat.reduceEqDiff, reduceCtorEq]
    rw [XO_app, fa_rf (es := l) (xs := [x]) (by rw [get_put, if_pos rfl]) (by omega) (s2 _) (by simp) (by simp; omega) rfl]
    have hhi : ∀ H : Hp, H.get k1 = hp.get k1 → f_slc H 1 true false false [.rf k1 e 0 l.length l.length, .int .i64 (l.length : Int)] = some (.sl false [] false, .pat [k1] []) := fun H h => slcr_end (h.trans hg) (by simpa using hne)
    simp only [n1, n5, n9, n1', n5', n9', hg, ↓hhi, go_sem, seval, ↓reduceIte, Nat.reduceLeDiff, Nat.reduceEqDiff, reduceCtorEq]
    rw [XO_app, fa_rf0 (es := l ++ [x]) (by rw [get_put, if_pos rfl]) (s0 _) (by simp)]
    simp only [n1, n5, n9, n1', n5', n9', go_sem, seval, ↓reduceIte, Nat.reduceLeDiff, Nat.reduceEqDiff, reduceCtorEq]
    refine ⟨by simp [apartAll, apartFrom, R.apart, R.uses, X.tmp, Eff.apart, disj, n1, n5, n9, n1', n5', n9', Nat.testBit], ?_⟩
    rw [hres]
    refine ⟨kb + 5, own_at (by simp only [get_put, if_true, Nat.reduceEqDiff, Nat.left_eq_add, Nat.add_eq_left, if_false, List.nil_append, List.append_assoc, List.singleton_append, List.cons_append]) (by simp), by simp, ?_⟩
    intro k q1 q5 q9
    simp only [get_put, Ne.symm q1, Ne.symm q5, Ne.symm q9, if_false]
  · rintro d y r env hp hes ⟨rfl, rfl, hI⟩
    have hb' : (d ++ y :: r).length < 16777216 := by rw [← hes]; exact hb
    have hb2 : (d ++ y :: r).length ≤ big := by simp only [big]; omega
    have hw := wr_mid hb2
    have hget : l[d.length]? = some y := by rw [hes]; simp
    have hlt : d.length < l.length := by rw [hes]; simp
    have e1 : decide ((d.length : Int) < (l.length : Int)) = true := by simp; omega
    have e2 : ((d.length : Int) < (l.length : Int)) = True := eq_true (by omega)
    cases hyx : decide (y < x)
    case true =>
      simp only [cf55L0, cf55E0, e1, e2, hg, Nat.mul_one, Nat.zero_add, hget, hyx, hw, go_sem, seval, ↓reduceIte, Nat.reduceLeDiff, Nat.reduceEqDiff, reduceCtorEq]
      refine ⟨rfl, ?_⟩
      intro z hz
      rw [List.mem_append, List.mem_singleton] at hz
      rcases hz with hz | rfl
      · exact hI z hz
      · simpa using hyx
    case false =>
      have hp2 := putI_app d (y :: r) hI
      rw [← hes] at hp2
      have hp3 : putI x (y :: r) = if decide (y = x) then y :: r else x :: y :: r := by rw [putI, hyx]; rfl
      cases hye : decide (y = x)
      case true =>
        have hres : putI x l = l := by rw [hp2, hp3, hye, hes]; rfl
        simp only [cf55L0, cf55E0, e1, e2, hg, Nat.mul_one, Nat.zero_add, hget, hyx, hye, go_sem, seval, ↓reduceIte, Nat.reduceLeDiff, Nat.reduceEqDiff, reduceCtorEq]
        rw [hres]
        exact ⟨k1, own_at hg rfl, .inl rfl, fun _ _ _ _ => rfl⟩
      case false =>
        have hres : putI x l = d ++ x :: y :: r := by rw [hp2, hp3, hye]; rfl
        have hl' : l = d ++ (y :: r) := hes
        have s2 : ∀ H, srcCells H 1 false (.sl false [.int .i64 x] true) = some ([x].map intA, [x].length, []) := fun H => sc_sl [x]
        have s0 : ∀ H, srcCells H 1 false (.sl false [] false) = some ([], 0, []) := fun H => sc_sl []
        have hll : l.length = d.length + (r.length + 1) := by rw [hes]; simp
        rcases List.eq_nil_or_concat d with hdn | ⟨d1, d2, hdc⟩
        · subst hdn
          have e1 : decide ((0 : Int) < (l.length : Int)) = true := by simp; omega
          have e2 : ((0 : Int) < (l.length : Int)) = True := eq_true (by omega)
          have hget : l[0]? = some y := by rw [hes]; simp
          have hlo : f_slc hp 1 false true false [.rf k1 e 0 l.length l.length, .int .i64 0] = some (.rf k1 e 0 0 l.length, .pat [k1] []) := slcr_lo (H := hp) hg (m := 0) (n := l.length) (by omega) rfl
          simp only [cf55L0, cf55E0, e1, e2, hg, Nat.mul_one, Nat.zero_add, hget, hyx, hye, ↓hlo, go_sem, seval, ↓reduceIte, Nat.reduceLeDiff, Nat.reduceEqDiff, reduceCtorEq]
          have s1 := sc_rf (off := 0) (m := 0) (cap := l.length) (xs := []) hg (by omega) (by simp)
          rw [XO_app, fa_nil s1]
          simp only [n1, n5, n9, n1', n5', n9', go_sem, seval, ↓reduceIte, Nat.reduceLeDiff, Nat.reduceEqDiff, reduceCtorEq]
          rw [XO_app, fa_new (xs := [x]) (s2 _) (by simp) (by simp)]
          have hhi : ∀ H : Hp, H.get k1 = hp.get k1 → f_slc H 1 true false false [.rf k1 e 0 l.length l.length, .int .i64 0] = some (.rf k1 e 0 (l.length - 0) (l.length - 0), .pat [k1] []) := fun H h => slcr_hi (h.trans hg) (by omega)
          simp only [n1, n5, n9, n1', n5', n9', hg, ↓hhi, go_sem, seval, ↓reduceIte, Nat.reduceLeDiff, Nat.reduceEqDiff, reduceCtorEq]
          have s3 : ∀ H : Hp, H.get k1 = hp.get k1 → srcCells H 1 false (.rf k1 e 0 (l.length - 0) (l.length - 0)) = some (((y :: r)).map intA, ((y :: r)).length, [k1]) := fun H h => sc_rf (h.trans hg) (by omega) (by rw [hl']; simp)
          rw [XO_app, fa_rf (es := [x]) (xs := (y :: r)) (by rw [get_put, if_pos rfl]; rfl) (by omega) (s3 _ (by simp only [get_put, n1', n5', n9', if_false])) (by simp) (by simp; omega) (by simp)]
          simp only [n1, n5, n9, n1', n5', n9', go_sem, seval, ↓reduceIte, Nat.reduceLeDiff, Nat.reduceEqDiff, reduceCtorEq]
          refine ⟨by simp [apartAll, apartFrom, R.apart, R.uses, X.tmp, Eff.apart, disj, n1, n5, n9, n1', n5', n9', Nat.testBit], ?_⟩
          rw [hres]
          refine ⟨kb + 9, own_at (by simp only [get_put, if_true, Nat.reduceEqDiff, Nat.left_eq_add, Nat.add_eq_left, if_false, List.nil_append, List.append_assoc, List.singleton_append, List.cons_append]; rfl) (by simp; omega), by simp, ?_⟩
          intro k q1 q5 q9
          simp only [get_put, Ne.symm q1, Ne.symm q5, Ne.symm q9, if_false]
        · have hd0 : d ≠ [] := by rw [hdc]; simp
          have hlo := slcr_lo (H := hp) hg (m := (d).length) (n := l.length) (by omega) rfl
          simp only [cf55L0, cf55E0, e1, e2, hg, Nat.mul_one, Nat.zero_add, hget, hyx, hye, ↓hlo, go_sem, seval, ↓reduceIte, Nat.reduceLeDiff, Nat.reduceEqDiff, reduceCtorEq]
          have s1 := sc_rf (off := 0) (m := (d).length) (cap := l.length) (xs := d) hg (by omega) (by rw [hl']; simp)
          rw [XO_app, fa_new s1 hd0 (by omega)]
          simp only [n1, n5, n9, n1', n5', n9', go_sem, seval, ↓reduceIte, Nat.reduceLeDiff, Nat.reduceEqDiff, reduceCtorEq]
          rw [XO_app, fa_rf (es := d) (xs := [x]) (by rw [get_put, if_pos rfl]) (by omega) (s2 _) (by simp) (by simp; omega) rfl]
          have hhi : ∀ H : Hp, H.get k1 = hp.get k1 → f_slc H 1 true false false [.rf k1 e 0 l.length l.length, .int .i64 ((((d).length) : Nat) : Int)] = some (.rf k1 e (d).length (l.length - (d).length) (l.length - (d).length), .pat [k1] []) := fun H h => slcr_hi (h.trans hg) (by omega)
          simp only [n1, n5, n9, n1', n5', n9', hg, ↓hhi, go_sem, seval, ↓reduceIte, Nat.reduceLeDiff, Nat.reduceEqDiff, reduceCtorEq]
          have s3 : ∀ H : Hp, H.get k1 = hp.get k1 → srcCells H 1 false (.rf k1 e (d).length (l.length - (d).length) (l.length - (d).length)) = some (((y :: r)).map intA, ((y :: r)).length, [k1]) := fun H h => sc_rf (h.trans hg) (by omega) (by rw [hl']; simp)
          rw [XO_app, fa_rf (es := d ++ [x]) (xs := (y :: r)) (by rw [get_put, if_pos rfl]) (by omega) (s3 _ (by simp only [get_put, n1', n5', n9', if_false])) (by simp) (by simp; omega) (by simp)]
          simp only [n1, n5, n9, n1', n5', n9', go_sem, seval, ↓reduceIte, Nat.reduceLeDiff, Nat.reduceEqDiff, reduceCtorEq]
          refine ⟨by simp [apartAll, apartFrom, R.apart, R.uses, X.tmp, Eff.apart, disj, n1, n5, n9, n1', n5', n9', Nat.testBit], ?_⟩
          rw [hres]
          refine ⟨kb + 9, own_at (by simp only [get_put, if_true, Nat.reduceEqDiff, Nat.left_eq_add, Nat.add_eq_left, if_false, List.nil_append, List.append_assoc, List.singleton_append, List.cons_append]) (by simp; omega), by simp, ?_⟩
          intro k q1 q5 q9
          simp only [get_put, Ne.symm q1, Ne.symm q5, Ne.symm q9, if_false]
theorem c55n {f : Nat} (hf : pg.fs f = some cf55) (kb : Nat) (h : Hp) (k1 : Nat) (nl cl : Bool) (x : Int) :
    RetHP pg f [.sl nl [] cl, .int .i64 x] kb h (putP kb h k1 [x]) := by
  have s2 : ∀ H, srcCells H 1 false (.sl false [.int .i64 x] true) = some ([x].map intA, [x].length, []) := fun H => sc_sl [x]
  have s0 : ∀ H nl cl, srcCells H 1 false (.sl nl [] cl) = some ([], 0, []) := fun H nl cl => by simp [srcCells, unchunk]
  obtain ⟨c1, q1⟩ := slc_pre nl cl [] []
  obtain ⟨c2, q2⟩ := slc_post nl cl [] []
  simp only [List.append_nil, List.map_nil, List.length_nil, Int.natCast_zero] at q1 q2
  refine RetHP.ofX hf ?_
  unfold cf55
  simp only [go_sem, seval, ↓reduceIte, Nat.reduceLeDiff, Nat.reduceEqDiff, reduceCtorEq]
  rw [XX_loop]
  simp only [cf55L0, cf55M0, Tev.clear, ↓q1, go_sem, seval, ↓reduceIte, Nat.reduceLeDiff, Nat.reduceEqDiff, reduceCtorEq]
  rw [XO_app, fa_nil (s0 _ _ _)]
  simp only [go_sem, seval, ↓reduceIte, Nat.reduceLeDiff, Nat.reduceEqDiff, reduceCtorEq]
  rw [XO_app, fa_new (xs := [x]) (s2 _) (by simp) (by simp)]
  simp only [↓q2, go_sem, seval, ↓reduceIte, Nat.reduceLeDiff, Nat.reduceEqDiff, reduceCtorEq]
  rw [XO_app, fa_rf0 (es := [x]) (by rw [get_put, if_pos rfl]; rfl) (s0 _ _ _) (by simp)]
  simp only [go_sem, seval, ↓reduceIte, Nat.reduceLeDiff, Nat.reduceEqDiff, reduceCtorEq]
  refine ⟨by simp [apartAll, apartFrom, R.apart, R.uses, X.tmp, Eff.apart, disj, Nat.testBit], ?_⟩
  refine ⟨kb + 5, own_at (l := [x]) (by rw [get_put, if_pos rfl]; rfl) rfl, by simp, ?_⟩
  intro k q1 q5 q9
  simp only [get_put, Ne.symm q5, if_false]
theorem c55e {f : Nat} (hf : pg.fs f = some cf55) (kb : Nat) (h : Hp) (k1 e : Nat) (x : Int) (hg : h.get k1 = some (e, .blk [] 1 false false false))
    (n1 : (k1 = kb + 1) = False) (n5 : (k1 = kb + 5) = False) (n9 : (k1 = kb + 9) = False) :
    RetHP pg f [.rf k1 e 0 0 0, .int .i64 x] kb h (putP kb h k1 [x]) := by
  have n1' : (kb + 1 = k1) = False := by rw [← n1]; exact propext eq_comm
  have n5' : (kb + 5 = k1) = False := by rw [← n5]; exact propext eq_comm
  have n9' : (kb + 9 = k1) = False := by rw [← n9]; exact propext eq_comm
  have s2 : ∀ H, srcCells H 1 false (.sl false [.int .i64 x] true) = some ([x].map intA, [x].length, []) := fun H => sc_sl [x]
  have s0 : ∀ H : Hp, H.get k1 = h.get k1 → srcCells H 1 false (.rf k1 e 0 0 0) = some ([], 0, [k1]) := fun H hh => by simp [srcCells, hh, hg, allOne]
  have q1 : ∀ H : Hp, H.get k1 = h.get k1 → f_slc H 1 false true false [.rf k1 e 0 0 0, .int .i64 0] = some (.rf k1 e 0 0 0, .pat [k1] []) := fun H hh => by simp [f_slc, optI, sliceA, hh, hg]
  have q2 : ∀ H : Hp, H.get k1 = h.get k1 → f_slc H 1 true false false [.rf k1 e 0 0 0, .int .i64 0] = some (.rf k1 e 0 0 0, .pat [k1] []) := fun H hh => by simp [f_slc, optI, sliceA, hh, hg]
  refine RetHP.ofX hf ?_
  unfold cf55
  simp only [go_sem, seval, ↓reduceIte, Nat.reduceLeDiff, Nat.reduceEqDiff, reduceCtorEq]
  rw [XX_loop]
  simp only [cf55L0, cf55M0, Tev.clear, ↓q1, go_sem, seval, ↓reduceIte, Nat.reduceLeDiff, Nat.reduceEqDiff, reduceCtorEq]
  rw [XO_app, fa_nil (s0 _ rfl)]
  simp only [go_sem, seval, ↓reduceIte, Nat.reduceLeDiff, Nat.reduceEqDiff, reduceCtorEq]
  rw [XO_app, fa_new (xs := [x]) (s2 _) (by simp) (by simp)]
  simp only [n1, n5, n9, n1', n5', n9', ↓q2, go_sem, seval, ↓reduceIte, Nat.reduceLeDiff, Nat.reduceEqDiff, reduceCtorEq]
  rw [XO_app, fa_rf0 (es := [x]) (by rw [get_put, if_pos rfl]; rfl) (s0 _ (by simp only [get_put, n1', n5', n9', if_false])) (by simp)]
  simp only [go_sem, seval, ↓reduceIte, Nat.reduceLeDiff, Nat.reduceEqDiff, reduceCtorEq]
  refine ⟨by simp [apartAll, apartFrom, R.apart, R.uses, X.tmp, Eff.apart, disj, Nat.testBit, n1, n5, n9, n1', n5', n9'], ?_⟩
  refine ⟨kb + 5, own_at (l := [x]) (by rw [get_put, if_pos rfl]; rfl) rfl, by simp, ?_⟩
  intro k q1 q5 q9
  simp only [get_put, Ne.symm q5, if_false]
theorem c55o {f : Nat} (hf : pg.fs f = some cf55) {kb : Nat} {h : Hp} {k1 : Nat} {v : AV} {l : List Int} (o : Own h k1 1 false v (l.map intA)) (hb : l.length < big) (x : Int) (n1 : k1 ≠ kb + 1) (n5 : k1 ≠ kb + 5) (n9 : k1 ≠ kb + 9) :
    RetHP pg f [v, .int .i64 x] kb h (putP kb h k1 (putI x l)) := by
  rcases o with ⟨he, nl, cl, rfl, _⟩ | ⟨e, cs, rfl, hg, hu⟩
  · have : l = [] := by simpa using he
    subst this
    exact c55n hf kb h k1 nl cl x
  · rw [unchunk_ints] at hu
    cases hu
    by_cases hl : l = []
    · subst hl
      exact c55e hf kb h k1 e x hg (eq_false n1) (eq_false n5) (eq_false n9)
    · have := c55h hf kb h k1 e l hb x hg (eq_false n1) (eq_false n5) (eq_false n9) hl
      simpa using this
end
end Go.Tev
end
