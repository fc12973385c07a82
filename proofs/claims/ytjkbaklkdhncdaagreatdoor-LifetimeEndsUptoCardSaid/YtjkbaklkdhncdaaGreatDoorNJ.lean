import Derived.Test.YtjkbaklkdhncdaaGreatDoorNI
import Derived.Test.YtjkbaklkdhncdaaGreatDoorNG
set_option linter.all false
section
namespace Go.Tev
def IsIE (r : AV) : Prop := ∃ a b : Int, r = .tup [.int .i64 a, .int .i64 b]
def IsIB (r : AV) : Prop := ∃ (a : Int) (b : Bool), r = .tup [.int .i64 a, .bool b]
section
variable {pg : Pg}
theorem idxF_lt {f : Nat} {esz : Nat} {ag : Bool} (hf : pg.fs f = some (idxF esz ag)) {α : Type} (enc : α → AV) (hfit : ∀ x, (enc x).fits esz ag = true) (htree : ∀ x, (enc x).tree = true)
    (nl cl : Bool) (es : List α) (hb : es.length ≤ big) (g : Nat) (cs : List AV) (hcs : treeL cs = true) (p : α → Bool) (hp : ∀ x ∈ es, Ret pg g (enc x :: cs) (.bool (p x))) :
    RetP pg f [.sl nl (es.map enc) cl, .fn g cs] (fun r => ∃ i : Int, r = .int .i64 i ∧ i < es.length) := by
  refine RetP.ofX hf ?_
  unfold idxF
  simp only [go_sem, seval, ↓reduceIte, Nat.reduceLeDiff, Nat.reduceEqDiff, reduceCtorEq]
  refine XX_listU es (fun d e => setD e (some 8) (.int .i64 d.length)) (fun d r hp => True) rfl ?_ ?_ ?_
  · trivial
  · intro hp' _
    simp only [idxFL, idxFM, go_sem, seval, ↓reduceIte, Nat.reduceLeDiff, Nat.reduceEqDiff, reduceCtorEq]
    omega
  · intro d x r hp' hes _
    subst hes
    simp only [idxFL, idxFM, hfit, go_sem, seval, ↓reduceIte, Nat.reduceLeDiff, Nat.reduceEqDiff, reduceCtorEq]
    refine XO_tree (hp x (by simp)) (by simp only [treeL, htree, hcs, List.cons_append, List.nil_append, Bool.and_true]) rfl ?_
    simp only [go_sem, seval, ↓reduceIte, Nat.reduceLeDiff, Nat.reduceEqDiff, reduceCtorEq]
    cases hx : p x
    · simp only [wr_mid hb, go_sem, seval, ↓reduceIte, Nat.reduceLeDiff, Nat.reduceEqDiff, reduceCtorEq]
    · simp only [go_sem, seval, ↓reduceIte, Nat.reduceLeDiff, Nat.reduceEqDiff, reduceCtorEq]
      simp; omega
theorem c53 (hf : pg.fs 53 = some cf53) (c : Coef) (v : Val) : Ret pg 53 [v.av, .fp c.av] (.bool (decide (v.v.bs = c.v.bs))) := by
  refine Ret.ofX hf ?_
  unfold cf53
  simp only [go_sem, seval, ↓reduceIte, Nat.reduceLeDiff, Nat.reduceEqDiff, reduceCtorEq]
theorem c52 (hf : pg.fs 52 = some cf52) (h53 : pg.fs 53 = some cf53) (nl cl : Bool) (ds : List Val) (hb : ds.length ≤ big) (c : Coef) :
    RetP pg 52 [.sl nl (ds.map Val.av) cl, .fn 53 [.fp c.av]] (fun r => ∃ i : Int, r = .int .i64 i ∧ i < ds.length) :=
  idxF_lt (f := 52) (esz := 2) (ag := true) hf Val.av (fun _ => by simp only [go_sem, seval, ↓reduceIte, Nat.reduceLeDiff, Nat.reduceEqDiff, reduceCtorEq]) (fun _ => by simp only [go_sem, seval, ↓reduceIte, Nat.reduceLeDiff, Nat.reduceEqDiff, reduceCtorEq]) nl cl ds hb 53 [.fp c.av] (by simp only [go_sem, seval, ↓reduceIte, Nat.reduceLeDiff, Nat.reduceEqDiff, reduceCtorEq]) (fun v => decide (v.v.bs = c.v.bs)) (fun v _ => c53 h53 c v)
theorem c32 (hf : pg.fs 32 = some cf32) (h51 : ∀ l : Lin, Ret pg 51 [l.av] (.bool (linOK l))) (h52 : pg.fs 52 = some cf52) (h53 : pg.fs 53 = some cf53) (l : Lin) (nl cl : Bool) (ds : List Val) (hb : ds.length ≤ big) :
    RetP pg 32 [l.av, .sl nl (ds.map Val.av) cl] IsIE := by
  refine RetP.ofX hf ?_
  unfold cf32
  have hlb := l.ts.ok
  simp only [go_sem, seval, ↓reduceIte, Nat.reduceLeDiff, Nat.reduceEqDiff, reduceCtorEq]
  refine XO_tree (h51 l) (by simp only [go_sem, seval, ↓reduceIte, Nat.reduceLeDiff, Nat.reduceEqDiff, reduceCtorEq]) rfl ?_
  simp only [go_sem, seval, ↓reduceIte, Nat.reduceLeDiff, Nat.reduceEqDiff, reduceCtorEq]
  cases hx : linOK l
  · simp only [go_sem, seval, ↓reduceIte, Nat.reduceLeDiff, Nat.reduceEqDiff, reduceCtorEq]
    exact ⟨_, _, rfl⟩
  simp only [go_sem, seval, ↓reduceIte, Nat.reduceLeDiff, Nat.reduceEqDiff, reduceCtorEq]
  refine XX_list l.ts.es (fun d r env hp => ∃ n : Int, env = cf32E0 (.sl nl (ds.map Val.av) cl) (.int .i64 n) (.sl l.ts.nl (l.ts.es.map Coef.av) l.ts.cl) (.int .i64 l.ts.es.length) (.int .i64 d.length)) ?_ ?_ ?_
  · exact ⟨_, rfl⟩
  · rintro env hp ⟨n, rfl⟩
    simp only [cf32L0, cf32E0, go_sem, seval, ↓reduceIte, Nat.reduceLeDiff, Nat.reduceEqDiff, reduceCtorEq]
    exact ⟨_, _, rfl⟩
  · rintro d x r env hp hes ⟨n, rfl⟩
    rw [hes] at hlb ⊢
    obtain ⟨r52, hr52, i, rfl, hi⟩ := c52 h52 h53 nl cl ds hb x
    simp only [cf32L0, cf32E0, go_sem, seval, ↓reduceIte, Nat.reduceLeDiff, Nat.reduceEqDiff, reduceCtorEq]
    refine XO_call (hr52) (by simp only [ Coef.avc, depth, mapS_nil, mapS_cons, snapX, go_sem, seval, ↓reduceIte, Nat.reduceLeDiff, Nat.reduceEqDiff, reduceCtorEq]; rfl) (by first | rfl | simp only [receive]) ?_
    simp only [go_sem, seval, ↓reduceIte, Nat.reduceLeDiff, Nat.reduceEqDiff, reduceCtorEq]
    cases b1 : decide (i < 0)
    case true =>
      simp only [b1, go_sem, seval, ↓reduceIte, Nat.reduceLeDiff, Nat.reduceEqDiff, reduceCtorEq]
      exact ⟨_, _, rfl⟩
    have hi0 : 0 ≤ i := by simpa using b1
    obtain ⟨v, hv⟩ : ∃ v, ds[i.toNat]? = some v := ⟨_, List.getElem?_eq_getElem (by omega)⟩
    have h0t : (0 ≤ i) = True := eq_true hi0
    simp only [b1, hv, h0t, go_sem, seval, ↓reduceIte, Nat.reduceLeDiff, Nat.reduceEqDiff, reduceCtorEq]
    cases b2 : decide (v.n < -1000000000)
    case true =>
      simp only [b2, go_sem, seval, ↓reduceIte, Nat.reduceLeDiff, Nat.reduceEqDiff, reduceCtorEq]
      exact ⟨_, _, rfl⟩
    cases b3 : decide (1000000000 < v.n)
    case true =>
      simp only [b2, b3, go_sem, seval, ↓reduceIte, Nat.reduceLeDiff, Nat.reduceEqDiff, reduceCtorEq]
      exact ⟨_, _, rfl⟩
    simp only [b2, b3, hv, h0t, wr_mid hlb, go_sem, seval, ↓reduceIte, Nat.reduceLeDiff, Nat.reduceEqDiff, reduceCtorEq]
    exact ⟨by kernel_rfl, wr .i64 (n + wr .i64 (x.c * v.n)), rfl⟩
theorem mx2 (a b : Int) : (foldA max2 (.int .i64 a) [.int .i64 b]).bind val = val (.int .i64 (if a < b then b else a)) := by simp [foldA, max2]
theorem mn2 (a b : Int) : (foldA min2 (.int .i64 a) [.int .i64 b]).bind val = val (.int .i64 (if b < a then b else a)) := by simp [foldA, min2]
def capI (a n : Int) : Int := if 1099511627776 < wr .i64 (n * (if a < 0 then 0 else a)) then 1099511627776 else wr .i64 (n * (if a < 0 then 0 else a))
theorem c33 (hf : pg.fs 33 = some cf33) (h32 : ∀ (l : Lin) (nl cl : Bool) (ds : List Val), ds.length ≤ big → RetP pg 32 [l.av, .sl nl (ds.map Val.av) cl] IsIE) (t : Typ) (nl cl : Bool) (ds : List Val) (hb : ds.length ≤ big) :
    RetP pg 33 [t.av, .sl nl (ds.map Val.av) cl] IsIB := by
  refine RetP.ofX hf ?_
  unfold cf33
  have hlb := t.shape.dims.ok
  simp only [go_sem, seval, ↓reduceIte, Nat.reduceLeDiff, Nat.reduceEqDiff, reduceCtorEq]
  refine XX_list t.shape.dims.es (fun d r env hp => ∃ (n : Int) (b : Bool), env = cf33E0 (.sl nl (ds.map Val.av) cl) (.int .i64 n) (.bool b) (.sl t.shape.dims.nl (t.shape.dims.es.map Lin.av) t.shape.dims.cl) (.int .i64 t.shape.dims.es.length) (.int .i64 d.length)) ?_ ?_ ?_
  · exact ⟨_, _, rfl⟩
  · rintro env hp ⟨n, b, rfl⟩
    simp only [cf33L0, cf33E0, go_sem, seval, ↓reduceIte, Nat.reduceLeDiff, Nat.reduceEqDiff, reduceCtorEq]
    cases b
    · simp only [go_sem, seval, ↓reduceIte, Nat.reduceLeDiff, Nat.reduceEqDiff, reduceCtorEq]
      exact ⟨_, _, rfl⟩
    · simp only [go_sem, seval, ↓reduceIte, Nat.reduceLeDiff, Nat.reduceEqDiff, reduceCtorEq]
      exact ⟨_, _, rfl⟩
  · rintro d x r env hp hes ⟨n, b, rfl⟩
    rw [hes] at hlb ⊢
    obtain ⟨r32, hr32, a32, b32, rfl⟩ := h32 x nl cl ds hb
    simp only [cf33L0, cf33E0, go_sem, seval, ↓reduceIte, Nat.reduceLeDiff, Nat.reduceEqDiff, reduceCtorEq]
    refine XO_tree hr32 (by simp only [go_sem, seval, ↓reduceIte, Nat.reduceLeDiff, Nat.reduceEqDiff, reduceCtorEq]) rfl ?_
    cases b
    · simp only [wr_mid hlb, mx2, mn2, go_sem, seval, ↓reduceIte, Nat.reduceLeDiff, Nat.reduceEqDiff, reduceCtorEq]
      exact ⟨capI a32 n, false, rfl⟩
    · cases b1 : decide (0 ≤ a32)
      · simp only [b1, wr_mid hlb, mx2, mn2, go_sem, seval, ↓reduceIte, Nat.reduceLeDiff, Nat.reduceEqDiff, reduceCtorEq]
        exact ⟨capI a32 n, false, rfl⟩
      · simp only [b1, wr_mid hlb, mx2, mn2, go_sem, seval, ↓reduceIte, Nat.reduceLeDiff, Nat.reduceEqDiff, reduceCtorEq]
        exact ⟨capI a32 n, decide (a32 ≤ 4096), rfl⟩
end
end Go.Tev
end
section
namespace Go.Tev
def sizesL (f : Typ → Int) : List Sp → List Typ → List Int
  | s :: r, t :: q => (if s.1 = -2 then 0 else f t) :: sizesL f r q
  | _, _ => []
def IsBad (r : AV) : Prop := ∃ e : Int, e ≠ 0 ∧ r = .tup [.sl true [] true, .int .i64 e]
def sizesR (f : Typ → Int) (k : Kernels) (r : AV) : Prop := IsBad r ∨ (fuseV k).2 = 0 ∧ r = .tup [.sl false ((sizesL f (spansK k) k.values.es).map intA) true, .int .i64 0]
theorem snap_int {h : Hp} {k e : Nat} {l : List Int} {t : Bool} (hg : h.get k = some (e, .blk (l.map intA) 1 false t false)) (d : Nat) : Tev.snap (d + 2) h (.rf k e 0 l.length l.length) = some (.sl false (l.map intA) t, [k]) := by
  obtain ⟨cs', h1, h2, h3, h4⟩ := chunk_el (El.ints l)
  rw [unchunk_ints] at h1
  cases h1
  have h5 := h4 []
  rw [List.append_nil, List.length_map] at h5
  have h6 : mapS (Tev.snap (d + 1) h) (l.map intA) = some (l.map intA, []) := mapS_tree d h (intA_treeL l)
  rw [snapX]
  simp [hg, h5, h6, AV.tree]
theorem sizesL_len (f : Typ → Int) : ∀ (d : List Sp) (vs : List Typ), d.length ≤ vs.length → (sizesL f d vs).length = d.length
  | [], _, _ => by simp [sizesL]
  | s :: r, t :: q, h => by simp [sizesL, sizesL_len f r q (by simpa using h)]
  | s :: r, [], h => by simp at h
theorem sizesL_snoc (f : Typ → Int) (s : Sp) : ∀ (d : List Sp) (vs : List Typ) (t : Typ), vs[d.length]? = some t → sizesL f (d ++ [s]) vs = sizesL f d vs ++ [if s.1 = -2 then 0 else f t]
  | [], [], _, h => by simp at h
  | [], t' :: q, t, h => by simp at h; subst h; simp [sizesL]
  | s' :: r, t' :: q, t, h => by
    have := sizesL_snoc f s r q t (by simpa using h)
    simp [sizesL, this]
  | _ :: _, [], _, h => by simp at h
def padL (f : Typ → Int) (d : List Sp) (vs : List Typ) : List Int := sizesL f d vs ++ List.replicate (vs.length - d.length) 0
theorem padL_len (f : Typ → Int) (d : List Sp) (vs : List Typ) (h : d.length ≤ vs.length) : (padL f d vs).length = vs.length := by
  simp only [padL, List.length_append, List.length_replicate, sizesL_len f d vs h]; omega
theorem padL_skip (f : Typ → Int) (s : Sp) (d : List Sp) (vs : List Typ) (t : Typ) (ht : vs[d.length]? = some t) (hs : s.1 = -2) : padL f (d ++ [s]) vs = padL f d vs := by
  have hl := (List.getElem?_eq_some_iff.1 ht).1
  obtain ⟨m, hm⟩ : ∃ m, vs.length - d.length = m + 1 := ⟨vs.length - d.length - 1, by omega⟩
  have hm2 : vs.length - (d ++ [s]).length = m := by simp; omega
  simp only [padL, sizesL_snoc f s d vs t ht, hm, hm2, if_pos hs, List.append_assoc, List.replicate_succ, List.singleton_append]
theorem padL_set (f : Typ → Int) (s : Sp) (d : List Sp) (vs : List Typ) (t : Typ) (ht : vs[d.length]? = some t) (hs : ¬ s.1 = -2) :
    (padL f (d ++ [s]) vs).map intA = List.take d.length ((padL f d vs).map intA) ++ [.int .i64 (f t)] ++ List.drop (d.length + 1) ((padL f d vs).map intA) := by
  have hl := (List.getElem?_eq_some_iff.1 ht).1
  obtain ⟨m, hm⟩ : ∃ m, vs.length - d.length = m + 1 := ⟨vs.length - d.length - 1, by omega⟩
  have hm2 : vs.length - (d ++ [s]).length = m := by simp; omega
  have hA := sizesL_len f d vs (by omega)
  simp only [padL, sizesL_snoc f s d vs t ht, hm, hm2, if_neg hs, List.replicate_succ, List.map_append, List.map_cons, List.map_nil]
  rw [List.take_append_of_le_length (by simp [hA]), List.drop_append, List.take_of_length_le (by simp [hA]), List.drop_of_length_le (by simp [hA])]
  simp [hA, intA]
section
variable {pg : Pg}
theorem c16 (hf : pg.fs 16 = some cf16) (k : Kernels) (h9 : RetP pg 9 [k.av] (spansR k)) (nl cl : Bool) (ds : List Val) (hb : ds.length ≤ big) (f : Typ → Int) (g : Typ → Bool)
    (h32 : ∀ l : Lin, RetP pg 32 [l.av, .sl nl (ds.map Val.av) cl] IsIE) (h33 : ∀ t : Typ, Ret pg 33 [t.av, .sl nl (ds.map Val.av) cl] (.tup [.int .i64 (f t), .bool (g t)])) :
    RetP pg 16 [k.av, .sl nl (ds.map Val.av) cl] (sizesR f k) := by
  obtain ⟨r9, hr9, hs9⟩ := h9
  refine RetP.ofX hf ?_
  unfold cf16
  simp only [Kernels.av, Kernels.cells, go_sem, seval, ↓reduceIte, Nat.reduceLeDiff, Nat.reduceEqDiff, reduceCtorEq]
  rcases fuse_code (k := k) with hc | hc
  · have ok := fuseOK_of hc
    have hso := ok.out
    simp only [outsideOK, Bool.and_eq_true, decide_eq_true_eq] at hso
    obtain ⟨_, ⟨⟨⟨⟨⟨⟨_, _⟩, hi0⟩, _⟩, hiV⟩, _⟩, _⟩, _⟩ := hso
    have hsl := spansK_len (k := k) (by omega)
    have hVb := k.values.ok
    have htr : treeL ((spansK k).map spAV) = true := treeL_map (f := spAV) (fun s => by simp [spAV, go_sem]) _
    rw [spansR, if_pos hc] at hs9
    subst hs9
    refine XO_tree hr9 (by simp only [Kernels.av, Kernels.cells, go_sem, seval, ↓reduceIte, Nat.reduceLeDiff, Nat.reduceEqDiff, reduceCtorEq]) (by first | rfl | (simp [AV.tree, htr])) ?_
    simp only [go_sem, seval, ↓reduceIte, Nat.reduceLeDiff, Nat.reduceEqDiff, reduceCtorEq]
    cases hl : decide ((ds.length : Int) = k.vars.es.length)
    case false =>
      simp only [hl, go_sem, seval, ↓reduceIte, Nat.reduceLeDiff, Nat.reduceEqDiff, reduceCtorEq]
      exact .inl ⟨1, by decide, rfl⟩
    case true =>
      have hlv : ds.length = k.vars.es.length := by
        have := of_decide_eq_true hl
        omega
      simp only [hl, go_sem, seval, ↓reduceIte, Nat.reduceLeDiff, Nat.reduceEqDiff, reduceCtorEq]
      refine XX_list ds (fun d r env hp => env = cf16E0 (.sl nl (ds.map Val.av) cl) (.pt 1 0 0) (.sl false ((spansK k).map spAV) false) (.sl nl (ds.map Val.av) cl) (.int .i64 ds.length) (.int .i64 d.length) ∧
        hp.get 1 = some (0, .blk k.cells 6 true true false)) ?_ ?_ ?_
      · refine ⟨rfl, ?_⟩
        simp only [go_sem, seval, ↓reduceIte, Nat.reduceLeDiff, Nat.reduceEqDiff, reduceCtorEq]
        rfl
      · rintro env hp ⟨rfl, g1⟩
        have g1' := g1
        simp only [Kernels.cells, Sl.av] at g1
        simp only [cf16L0, cf16E0, g1, go_sem, seval, ↓reduceIte, Nat.reduceLeDiff, Nat.reduceEqDiff, reduceCtorEq]
        refine XX_list k.wher.es (fun d r env hp => env = cf16E1 (.sl nl (ds.map Val.av) cl) (.pt 1 0 0) (.sl false ((spansK k).map spAV) false) (.sl k.wher.nl (k.wher.es.map Lin.av) k.wher.cl) (.int .i64 k.wher.es.length) (.int .i64 d.length) ∧
          hp.get 1 = some (0, .blk k.cells 6 true true false)) ?_ ?_ ?_
        · exact ⟨rfl, g1'⟩
        · clear g1 g1' hp
          rintro env hp ⟨rfl, g1⟩
          have g1' := g1
          simp only [Kernels.cells, Sl.av] at g1
          simp only [cf16L1, cf16E1, g1, go_sem, seval, ↓reduceIte, Nat.reduceLeDiff, Nat.reduceEqDiff, reduceCtorEq]
          have hV30 : ((k.values.es.length : Int) ≤ 1073741824) = True := eq_true (by simp only [big] at hVb; omega)
          generalize hE : hp.next 21 = E
          simp only [hV30, go_sem, seval, ↓reduceIte, Nat.reduceLeDiff, Nat.reduceEqDiff, reduceCtorEq]
          refine XX_list (spansK k) (fun d r env hp => env = cf16E2 (.sl nl (ds.map Val.av) cl) (.pt 1 0 0) (.rf 21 E 0 k.values.es.length k.values.es.length) (.sl false ((spansK k).map spAV) false) (.int .i64 (spansK k).length) (.int .i64 d.length) ∧
            hp.get 1 = some (0, .blk k.cells 6 true true false) ∧ hp.get 21 = some (E, .blk ((padL f d k.values.es).map intA) 1 false true false)) ?_ ?_ ?_
          · refine ⟨rfl, ?_, ?_⟩
            · simp only [go_sem, seval, ↓reduceIte, Nat.reduceLeDiff, Nat.reduceEqDiff, reduceCtorEq]
              exact g1'
            · simp only [go_sem, seval, ↓reduceIte, Nat.reduceLeDiff, Nat.reduceEqDiff, reduceCtorEq]
              simp [padL, sizesL, intA, hE]
          · clear g1 g1' hE hp
            rintro env hp ⟨rfl, g1, g2⟩
            have hpl : padL f (spansK k) k.values.es = sizesL f (spansK k) k.values.es := by simp [padL, hsl]
            rw [hpl] at g2
            have hsn := snap_int g2 61
            rw [sizesL_len f _ _ (by omega), hsl] at hsn
            simp only [cf16L2, cf16E2, go_sem, seval, ↓reduceIte, Nat.reduceLeDiff, Nat.reduceEqDiff, reduceCtorEq]
            simp only [Tev.conv, depth, snapX, mapS_nil, mapS_cons, ↓hsn, go_sem]
            exact .inr ⟨hc, rfl⟩
          · clear g1 g1' hE hp
            rintro d x r env hp hes ⟨rfl, g1, g2⟩
            have hlt : d.length < k.values.es.length := by rw [← hsl, hes]; simp
            obtain ⟨t, ht⟩ : ∃ t, k.values.es[d.length]? = some t := ⟨_, List.getElem?_eq_getElem hlt⟩
            have hget : (spansK k)[d.length]? = some x := by rw [hes]; simp
            have hvl : ((d.length : Int) < (k.values.es.length : Int)) = True := eq_true (by omega)
            have hsl2 : ((d.length : Int) < ((spansK k).length : Int)) = True := eq_true (by omega)
            have hsl3 : decide ((d.length : Int) < ((spansK k).length : Int)) = true := by simp; omega
            have g1' := g1
            simp only [Kernels.cells, Sl.av] at g1
            have hsb : (d ++ x :: r).length ≤ big := by rw [← hes, hsl]; exact hVb
            simp only [cf16L2, cf16E2, g1, hget, hsl2, hsl3, spAV, go_sem, seval, ↓reduceIte, Nat.reduceLeDiff, Nat.reduceEqDiff, reduceCtorEq]
            cases b1 : decide (x.1 = -2)
            case true =>
              simp only [b1, wr_mid hsb, go_sem, seval, ↓reduceIte, Nat.reduceLeDiff, Nat.reduceEqDiff, reduceCtorEq]
              refine ⟨rfl, g1', ?_⟩
              rw [padL_skip f x d k.values.es t ht (of_decide_eq_true b1)]
              exact g2
            simp only [b1, ht, hvl, g1, go_sem, seval, ↓reduceIte, Nat.reduceLeDiff, Nat.reduceEqDiff, reduceCtorEq]
            refine XO_tree (h33 t) (by simp only [go_sem, seval, ↓reduceIte, Nat.reduceLeDiff, Nat.reduceEqDiff, reduceCtorEq]) rfl ?_
            simp only [go_sem, seval, ↓reduceIte, Nat.reduceLeDiff, Nat.reduceEqDiff, reduceCtorEq]
            cases b2 : g t
            case false =>
              simp only [go_sem, seval, ↓reduceIte, Nat.reduceLeDiff, Nat.reduceEqDiff, reduceCtorEq]
              exact .inl ⟨3, by decide, rfl⟩
            have b1' : ¬ x.1 = -2 := of_decide_eq_false b1
            have hpl := padL_len f d k.values.es (by omega)
            have hle : (0 + d.length * 1 + 1 ≤ (padL f d k.values.es).length) = True := eq_true (by rw [hpl]; omega)
            have hst : List.take (0 + d.length * 1) ((padL f d k.values.es).map intA) ++ [.int .i64 (f t)] ++ List.drop (0 + d.length * 1 + 1) ((padL f d k.values.es).map intA) = (padL f (d ++ [x]) k.values.es).map intA := by
              rw [padL_set f x d k.values.es t ht b1', Nat.zero_add, Nat.mul_one]
            simp only [b2, wr_mid hsb, g2, hvl, hle, hst, go_sem, seval, ↓reduceIte, Nat.reduceLeDiff, Nat.reduceEqDiff, reduceCtorEq]
            exact ⟨rfl, g1'⟩
        · clear g1 g1' hp
          rintro d x r env hp hes ⟨rfl, g1⟩
          have hwb := k.wher.ok
          rw [hes] at hwb ⊢
          obtain ⟨r32, hr32, a32, b32, rfl⟩ := h32 x
          simp only [cf16L1, cf16E1, go_sem, seval, ↓reduceIte, Nat.reduceLeDiff, Nat.reduceEqDiff, reduceCtorEq]
          refine XO_tree hr32 (by simp only [go_sem, seval, ↓reduceIte, Nat.reduceLeDiff, Nat.reduceEqDiff, reduceCtorEq]) rfl ?_
          simp only [go_sem, seval, ↓reduceIte, Nat.reduceLeDiff, Nat.reduceEqDiff, reduceCtorEq]
          cases b1 : decide (a32 < 0)
          case true =>
            simp only [b1, go_sem, seval, ↓reduceIte, Nat.reduceLeDiff, Nat.reduceEqDiff, reduceCtorEq]
            exact .inl ⟨2, by decide, rfl⟩
          simp only [b1, wr_mid hwb, go_sem, seval, ↓reduceIte, Nat.reduceLeDiff, Nat.reduceEqDiff, reduceCtorEq]
          exact ⟨rfl, g1⟩
      · rintro d x r env hp hes ⟨rfl, g1⟩
        obtain ⟨y, hy⟩ : ∃ y, k.vars.es[d.length]? = some y := ⟨_, List.getElem?_eq_getElem (by rw [← hlv, hes]; simp)⟩
        have hvl : ((d.length : Int) < (k.vars.es.length : Int)) = True := eq_true (by rw [← hlv, hes]; simp; omega)
        have g1' := g1
        simp only [Kernels.cells, Sl.av] at g1
        rw [hes] at hb ⊢
        simp only [cf16L0, cf16E0, g1, hy, hvl, go_sem, seval, ↓reduceIte, Nat.reduceLeDiff, Nat.reduceEqDiff, reduceCtorEq]
        cases b1 : decide (x.v.bs = y.bs)
        case false =>
          simp only [b1, go_sem, seval, ↓reduceIte, Nat.reduceLeDiff, Nat.reduceEqDiff, reduceCtorEq]
          exact ⟨by kernel_rfl, .inl ⟨1, by decide, rfl⟩⟩
        cases b2 : decide (x.n < 0)
        case true =>
          simp only [b1, b2, go_sem, seval, ↓reduceIte, Nat.reduceLeDiff, Nat.reduceEqDiff, reduceCtorEq]
          exact ⟨by kernel_rfl, .inl ⟨1, by decide, rfl⟩⟩
        cases b3 : decide (4096 < x.n)
        case true =>
          simp only [b1, b2, b3, go_sem, seval, ↓reduceIte, Nat.reduceLeDiff, Nat.reduceEqDiff, reduceCtorEq]
          exact ⟨by kernel_rfl, .inl ⟨1, by decide, rfl⟩⟩
        simp only [b1, b2, b3, wr_mid hb, go_sem, seval, ↓reduceIte, Nat.reduceLeDiff, Nat.reduceEqDiff, reduceCtorEq]
        exact ⟨by kernel_rfl, rfl, g1'⟩
  · rw [spansR, if_neg (by omega)] at hs9
    subst hs9
    refine XO_tree hr9 (by simp only [Kernels.av, Kernels.cells, go_sem, seval, ↓reduceIte, Nat.reduceLeDiff, Nat.reduceEqDiff, reduceCtorEq]) rfl ?_
    simp only [go_sem, seval, ↓reduceIte, Nat.reduceLeDiff, Nat.reduceEqDiff, reduceCtorEq]
    exact .inl ⟨22, by decide, rfl⟩
end
end Go.Tev
end
section
namespace Go.Tev
structure EndInv (ins : Nat) (m : Nat) (n : Nat) (s : Sp) : Prop where
  inp : n < ins → s.1 = -1 ∧ -1 ≤ s.2
  own : ins ≤ n → s.1 = -2 ∨ (0 ≤ s.1 ∧ s.1 < (m : Int))
  lo : -2 ≤ s.2
  hi : s.2 < (m : Int)
theorem endInv_run {ins V : Nat} : ∀ (d : List Kernel) (n : Nat) (s : Sp), (spRun (spInit V ins) 0 d)[n]? = some s → EndInv ins d.length n s := by
  intro d
  induction hn : d.length generalizing d with
  | zero =>
    obtain rfl := List.length_eq_zero_iff.1 hn
    intro n s h
    rw [spRun] at h
    rcases spInit_get V ins n s h with ⟨h1, rfl⟩ | ⟨h1, rfl⟩
    · exact ⟨fun _ => by simp, fun h => by omega, by simp, by simp⟩
    · exact ⟨fun h => by omega, fun _ => .inl rfl, by simp, by simp⟩
  | succ m ih =>
    obtain ⟨d', q, rfl⟩ : ∃ d' q, d = d' ++ [q] := by
      rcases List.eq_nil_or_concat d with h | ⟨d', q, h⟩
      · subst h; simp at hn
      · exact ⟨d', q, by simpa using h⟩
    have hl : d'.length = m := by simpa using hn
    intro n s h
    rw [spRun_snoc, Nat.zero_add] at h
    have hlt : n < (spRun (spInit V ins) 0 d').length := by
      have := (List.getElem?_eq_some_iff.1 h).1
      rwa [spStep_len] at this
    obtain ⟨s', h1, h2, h3, h4⟩ := spStep_get (spRun (spInit V ins) 0 d') d'.length q n _ (List.getElem?_eq_getElem hlt)
    rw [h] at h1
    cases h1
    have I := ih d' hl n _ (List.getElem?_eq_getElem hlt)
    generalize (spRun (spInit V ins) 0 d')[n] = s0 at *
    rw [hl] at h2 h3
    have hs2 : s.2 = (m : Int) ∨ s.2 = s0.2 := by
      by_cases hu : uses q n
      · exact .inl (h3 hu)
      · exact .inr (h4 hu)
    obtain ⟨i1, i2, i3, i4⟩ := I
    refine ⟨fun h => ?_, fun h => ?_, ?_, ?_⟩
    · obtain ⟨a, b⟩ := i1 h
      rw [if_neg (by rintro ⟨_, c⟩; omega)] at h2
      exact ⟨by omega, by rcases hs2 with e | e <;> omega⟩
    · have := i2 h
      split at h2 <;> omega
    · rcases hs2 with e | e <;> omega
    · rcases hs2 with e | e <;> omega
structure SpEnd (k : Kernels) (n : Nat) (s : Sp) : Prop where
  fst : s.1 = -2 ∨ (-1 ≤ s.1 ∧ s.1 < (k.list.es.length : Int) + 1)
  snd : -2 ≤ s.2 ∧ s.2 ≤ (k.list.es.length : Int)
  inp : (s.1 ≠ -2 ∧ s.1 ≤ -1 ∧ -1 ≤ s.2) ↔ (n : Int) < k.inputs
  res : s.2 = (k.list.es.length : Int) ↔ n ∈ k.results.es.map Int.toNat
theorem spEnd {k : Kernels} (h0 : 0 ≤ k.inputs) {n : Nat} {s : Sp} (h : (spansK k)[n]? = some s) : SpEnd k n s := by
  rw [spansK_get, Option.map_eq_some_iff] at h
  obtain ⟨s0, h1, h2⟩ := h
  have I := endInv_run k.list.es n s0 h1
  obtain ⟨i1, i2, i3, i4⟩ := I
  have hfst : s.1 = s0.1 := by rw [← h2]; split <;> rfl
  have hsnd : (n ∈ k.results.es.map Int.toNat ∧ s.2 = (k.list.es.length : Int)) ∨ (n ∉ k.results.es.map Int.toNat ∧ s.2 = s0.2) := by
    rw [← h2]
    split
    · rename_i hh; exact .inl ⟨hh, rfl⟩
    · rename_i hh; exact .inr ⟨hh, rfl⟩
  refine ⟨?_, ?_, ?_, ?_⟩
  · rcases Nat.lt_or_ge n k.inputs.toNat with c | c
    · have := i1 c; omega
    · have := i2 c; omega
  · rcases hsnd with ⟨_, e⟩ | ⟨_, e⟩ <;> omega
  · constructor
    · rintro ⟨a, b, c⟩
      rcases Nat.lt_or_ge n k.inputs.toNat with d | d
      · omega
      · have := i2 d; omega
    · intro hn
      have := i1 (by omega)
      rcases hsnd with ⟨_, e⟩ | ⟨_, e⟩ <;> omega
  · rcases hsnd with ⟨a, e⟩ | ⟨a, e⟩
    · exact ⟨fun _ => a, fun _ => e⟩
    · exact ⟨fun h => by omega, fun h => absurd h a⟩
def addS (s : Sp) (n : Int) (i : Nat) (L : List Int) : List Int := L.mapIdx fun j a => if s.1 + 1 ≤ (j : Int) ∧ (j : Int) < s.1 + 1 + i then wr .i64 (a + n) else a
def lenS (s : Sp) : Nat := if s.1 = -2 then 0 else (s.2 - s.1 + 1).toNat
def needZ (zs : List (Sp × Int)) (L : List Int) : List Int := zs.foldl (fun L p => addS p.1 p.2 (lenS p.1) L) L
theorem needZ_snoc (d : List (Sp × Int)) (p : Sp × Int) (L : List Int) : needZ (d ++ [p]) L = addS p.1 p.2 (lenS p.1) (needZ d L) := by simp [needZ]
theorem addS_len (s : Sp) (n : Int) (i : Nat) (L : List Int) : (addS s n i L).length = L.length := by simp [addS]
theorem needZ_len : ∀ (d : List (Sp × Int)) (L : List Int), (needZ d L).length = L.length
  | [], L => rfl
  | p :: r, L => by
    have := needZ_len r (addS p.1 p.2 (lenS p.1) L)
    rw [addS_len] at this
    simpa [needZ] using this
theorem addS_zero (s : Sp) (n : Int) (L : List Int) : addS s n 0 L = L := by
  apply List.ext_getElem?
  intro j
  simp only [addS, List.getElem?_mapIdx]
  cases L[j]? with
  | none => rfl
  | some a => simp; omega
theorem addS_at (s : Sp) (n : Int) (i : Nat) (L : List Int) {p : Nat} (hp : (p : Int) = s.1 + 1 + i) : (addS s n i L)[p]? = L[p]? := by
  simp only [addS, List.getElem?_mapIdx]
  cases L[p]? with
  | none => rfl
  | some a => simp; omega
theorem addS_set (s : Sp) (n : Int) (i : Nat) (L : List Int) {p : Nat} {a : Int} (hp : (p : Int) = s.1 + 1 + i) (ha : L[p]? = some a) : (addS s n i L).set p (wr .i64 (a + n)) = addS s n (i + 1) L := by
  apply List.ext_getElem?
  intro j
  have hl := (List.getElem?_eq_some_iff.1 ha).1
  rw [List.getElem?_set]
  by_cases hj : p = j
  · subst hj
    rw [if_pos rfl, if_pos (by rw [addS_len]; exact hl)]
    simp only [addS, List.getElem?_mapIdx, ha, Option.map_some]
    rw [if_pos (by omega)]
  · rw [if_neg hj]
    simp only [addS, List.getElem?_mapIdx]
    cases L[j]? with
    | none => rfl
    | some b =>
      simp only [Option.map_some, Option.some.injEq]
      have : (s.1 + 1 ≤ (j : Int) ∧ (j : Int) < s.1 + 1 + i) ↔ (s.1 + 1 ≤ (j : Int) ∧ (j : Int) < s.1 + 1 + ((i + 1 : Nat) : Int)) := by omega
      simp only [this]
def sumAt (j : Nat) : List (Sp × Int) → Int → Int
  | [], a => a
  | p :: r, a => sumAt j r (if isLive ((j : Int) - 1) p.1 then wr .i64 (a + p.2) else a)
theorem needZ_get (j : Nat) : ∀ (zs : List (Sp × Int)) (L : List Int) (a : Int), L[j]? = some a → (needZ zs L)[j]? = some (sumAt j zs a)
  | [], L, a, h => h
  | p :: r, L, a, h => by
    have h2 : (addS p.1 p.2 (lenS p.1) L)[j]? = some (if isLive ((j : Int) - 1) p.1 then wr .i64 (a + p.2) else a) := by
      simp only [addS, List.getElem?_mapIdx, h, Option.map_some, Option.some.injEq]
      have : (p.1.1 + 1 ≤ (j : Int) ∧ (j : Int) < p.1.1 + 1 + (lenS p.1 : Nat)) ↔ isLive ((j : Int) - 1) p.1 = true := by
        simp only [isLive, lenS, Bool.and_eq_true, Bool.not_eq_true', decide_eq_true_eq, decide_eq_false_iff_not]
        split <;> omega
      simp only [this]
    have := needZ_get j r _ _ h2
    simpa [needZ, sumAt] using this
end Go.Tev
end
section
namespace Go.Tev
def needsR (f : Typ → Int) (k : Kernels) (e : Int) (r : AV) : Prop :=
  if e = 0 then r = .tup [.sl false ((needZ ((spansK k).zip (sizesL f (spansK k) k.values.es)) (List.replicate (k.list.es.length + 2) 0)).map intA) true, .int .i64 0] else r = .tup [.sl true [] true, .int .i64 e]
def sizesE (f : Typ → Int) (k : Kernels) (e : Int) (r : AV) : Prop :=
  if e = 0 then (fuseV k).2 = 0 ∧ r = .tup [.sl false ((sizesL f (spansK k) k.values.es).map intA) true, .int .i64 0] else r = .tup [.sl true [] true, .int .i64 e]
theorem sizesE_of {f : Typ → Int} {k : Kernels} {r : AV} (h : sizesR f k r) : ∃ e, sizesE f k e r := by
  rcases h with ⟨e, he, rfl⟩ | ⟨h1, rfl⟩
  · exact ⟨e, by rw [sizesE, if_neg he]⟩
  · exact ⟨0, by rw [sizesE, if_pos rfl]; exact ⟨h1, rfl⟩⟩
section
variable {pg : Pg}
theorem c18 (hf : pg.fs 18 = some cf18) (k : Kernels) (h9 : RetP pg 9 [k.av] (spansR k)) (nl cl : Bool) (ds : List Val) (f : Typ → Int) (e : Int) (r16 : AV)
    (h16 : Ret pg 16 [k.av, .sl nl (ds.map Val.av) cl] r16) (hs16 : sizesE f k e r16) :
    RetP pg 18 [k.av, .sl nl (ds.map Val.av) cl] (needsR f k e) := by
  obtain ⟨r9, hr9, hs9⟩ := h9
  refine RetP.ofX hf ?_
  unfold cf18
  simp only [Kernels.av, Kernels.cells, go_sem, seval, ↓reduceIte, Nat.reduceLeDiff, Nat.reduceEqDiff, reduceCtorEq]
  by_cases he : e = 0
  · subst he
    rw [sizesE, if_pos rfl] at hs16
    obtain ⟨hc, rfl⟩ := hs16
    have ok := fuseOK_of hc
    have hso := ok.out
    simp only [outsideOK, Bool.and_eq_true, decide_eq_true_eq] at hso
    obtain ⟨_, ⟨⟨⟨⟨⟨⟨_, _⟩, hi0⟩, _⟩, hiV⟩, _⟩, _⟩, _⟩ := hso
    have hsl := spansK_len (k := k) (by omega)
    have hVb := k.values.ok
    have hLb := k.list.ok
    have htr : treeL ((spansK k).map spAV) = true := treeL_map (f := spAV) (fun s => by simp [spAV, go_sem]) _
    have htr2 : treeL ((sizesL f (spansK k) k.values.es).map intA) = true := intA_treeL _
    have hEnd : ∀ (n : Nat) (s : Sp), (spansK k)[n]? = some s → SpEnd k n s := fun n s h => spEnd hi0 h
    have hzl := sizesL_len f (spansK k) k.values.es (by omega)
    obtain ⟨zs, hz, hz1, hz2⟩ : ∃ zs : List (Sp × Int), zs = (spansK k).zip (sizesL f (spansK k) k.values.es) ∧ spansK k = zs.map (·.1) ∧ sizesL f (spansK k) k.values.es = zs.map (·.2) :=
      ⟨_, rfl, by rw [List.map_fst_zip (by omega)], by rw [List.map_snd_zip (by omega)]⟩
    rw [spansR, if_pos hc] at hs9
    subst hs9
    refine XO_tree h16 (by simp only [Kernels.av, Kernels.cells, go_sem, seval, ↓reduceIte, Nat.reduceLeDiff, Nat.reduceEqDiff, reduceCtorEq]) (by first | rfl | (simp [AV.tree, htr2])) ?_
    simp only [go_sem, seval, ↓reduceIte, Nat.reduceLeDiff, Nat.reduceEqDiff, reduceCtorEq]
    refine XO_tree hr9 (by simp only [Kernels.av, Kernels.cells, go_sem, seval, ↓reduceIte, Nat.reduceLeDiff, Nat.reduceEqDiff, reduceCtorEq]) (by first | rfl | (simp [AV.tree, htr])) ?_
    have hLb' : k.list.es.length ≤ 16777216 := hLb
    obtain ⟨m, hm⟩ : ∃ m : Nat, m = k.list.es.length + 2 := ⟨_, rfl⟩
    have hw2 : wr .i64 ((k.list.es.length : Int) + 2) = (m : Int) := by rw [wr_small (by omega) (by omega)]; omega
    have hm30 : ((m : Int) ≤ 1073741824) = True := eq_true (by omega)
    have hm0 : ((m : Int) < 0) = False := eq_false (by omega)
    have hL0 : (List.replicate m [AV.int .i64 0]).flatten = (List.replicate m (0 : Int)).map intA := by simp [intA]
    simp only [hw2, hm30, hm0, hL0, go_sem, seval, ↓reduceIte, Nat.reduceLeDiff, Nat.reduceEqDiff, reduceCtorEq]
    have hspl : (spansK k).length = zs.length := by rw [hz1, List.length_map]
    have hzsL : treeL (zs.map fun p => spAV p.1) = true := treeL_map (f := fun p : Sp × Int => spAV p.1) (fun s => by simp [spAV, go_sem]) _
    have hfin : ∀ r, r = .tup [.sl false ((needZ zs (List.replicate m 0)).map intA) true, .int .i64 0] → needsR f k 0 r := by
      intro r hr
      rw [needsR, if_pos rfl, ← hm, ← hz]
      exact hr
    rw [hspl]
    have hsp2 : (spansK k).map spAV = zs.map fun p => spAV p.1 := by rw [hz1, List.map_map]; rfl
    have hEnd2 : ∀ (n : Nat) (p : Sp × Int), zs[n]? = some p → SpEnd k n p.1 := fun n p h => hEnd n p.1 (by rw [hz1, List.getElem?_map, h]; rfl)
    have hsi2 : (sizesL f (spansK k) k.values.es).map intA = zs.map fun p => intA p.2 := by rw [hz2, List.map_map]; rfl
    rw [hsp2, hsi2]
    refine XX_list zs (fun d r env hp => env = cf18E1 (.sl false (zs.map fun p => intA p.2) true) (.rf 13 0 0 m m) (.sl false (zs.map fun p => spAV p.1) false) (.int .i64 zs.length) (.int .i64 d.length) ∧
      hp.get 13 = some (0, .blk ((needZ d (List.replicate m 0)).map intA) 1 false true false)) ?_ ?_ ?_
    · refine ⟨rfl, ?_⟩
      simp only [go_sem, seval, ↓reduceIte, Nat.reduceLeDiff, Nat.reduceEqDiff, reduceCtorEq]
      rfl
    · rintro env hp ⟨rfl, g2⟩
      have hsn := snap_int g2 61
      rw [needZ_len, List.length_replicate] at hsn
      simp only [cf18L1, cf18E1, go_sem, seval, ↓reduceIte, Nat.reduceLeDiff, Nat.reduceEqDiff, reduceCtorEq]
      simp only [Tev.conv, depth, snapX, mapS_nil, mapS_cons, ↓hsn, go_sem]
      exact hfin _ rfl
    · rintro d x r env hp hes ⟨rfl, g2⟩
      have hsb : (d ++ x :: r).length ≤ big := by rw [← hes, ← hspl, hsl]; exact hVb
      have hget : zs[d.length]? = some x := by rw [hes]; simp
      have hlt : d.length < zs.length := by rw [hes]; simp
      have S := hEnd2 _ _ hget
      have e1 : decide ((d.length : Int) < (zs.length : Int)) = true := by simp; omega
      have e2 : ((d.length : Int) < (zs.length : Int)) = True := eq_true (by omega)
      obtain ⟨L, hL⟩ : ∃ L, L = needZ d (List.replicate m 0) := ⟨_, rfl⟩
      have hLl : L.length = m := by rw [hL, needZ_len, List.length_replicate]
      rw [← hL] at g2
      simp only [cf18L1, cf18E1, e1, e2, hget, spAV, go_sem, seval, ↓reduceIte, Nat.reduceLeDiff, Nat.reduceEqDiff, reduceCtorEq]
      generalize hE : Hp.next hp 17 = E
      refine XX_list (List.range (lenS x.1)) (fun d2 r2 env hp => env = cf18E0 (.sl false (zs.map fun p => intA p.2) true) (.rf 13 0 0 m m) (.int .i64 d.length) (.pt 17 E 0) (.int .i64 (x.1.1 + d2.length)) (.sl false (zs.map fun p => spAV p.1) false) (.int .i64 zs.length) (.int .i64 d.length) ∧
        hp.get 17 = some (E, .blk [.int .i64 x.1.1, .int .i64 x.1.2] 2 true true false) ∧ hp.get 13 = some (0, .blk ((addS x.1 x.2 d2.length L).map intA) 1 false true false)) ?_ ?_ ?_
      · have e0 : x.1.1 + ((([] : List Nat).length : Nat) : Int) = x.1.1 := by simp
        refine ⟨?_, ?_, ?_⟩
        · rw [e0]; rfl
        · simp only [go_sem, seval, ↓reduceIte, Nat.reduceLeDiff, Nat.reduceEqDiff, reduceCtorEq]
        · simp only [go_sem, seval, ↓reduceIte, Nat.reduceLeDiff, Nat.reduceEqDiff, reduceCtorEq]
          rw [g2]
          simp [addS_zero]
      · clear hE hp g2
        rintro env hp ⟨rfl, g1, g3⟩
        rw [List.length_range] at g3 ⊢
        have hex : x.1.1 = -2 ∨ ¬ (x.1.1 + (lenS x.1 : Nat) ≤ x.1.2) := by
          simp only [lenS]; split <;> omega
        have hnz : needZ (d ++ [x]) (List.replicate m 0) = addS x.1 x.2 (lenS x.1) L := by rw [needZ_snoc, hL]
        rw [hnz]
        simp only [cf18L0, cf18E0, g1, go_sem, seval, ↓reduceIte, Nat.reduceLeDiff, Nat.reduceEqDiff, reduceCtorEq]
        cases b1 : decide (x.1.1 + (lenS x.1 : Nat) ≤ x.1.2)
        case false =>
          simp only [b1, wr_mid hsb, go_sem, seval, ↓reduceIte, Nat.reduceLeDiff, Nat.reduceEqDiff, reduceCtorEq]
          exact ⟨rfl, g3⟩
        case true =>
          have b2 : decide (x.1.1 = -2) = true := by
            have := of_decide_eq_true b1
            rcases hex with h | h
            · exact decide_eq_true h
            · exact absurd this h
          simp only [b1, b2, g1, wr_mid hsb, go_sem, seval, ↓reduceIte, Nat.reduceLeDiff, Nat.reduceEqDiff, reduceCtorEq]
          exact ⟨rfl, g3⟩
      · clear hE hp g2
        rintro d2 y r2 env hp hes2 ⟨rfl, g1, g3⟩
        have hd2 : d2.length < lenS x.1 := by
          have := congrArg List.length hes2
          simp at this; omega
        have hne : ¬ x.1.1 = -2 := by intro h; simp [lenS, h] at hd2
        have hle : x.1.1 + (d2.length : Int) ≤ x.1.2 := by simp only [lenS, if_neg hne] at hd2; omega
        have hf1 := S.fst
        have hs2 := S.snd
        obtain ⟨p, hp1⟩ : ∃ p : Nat, (p : Int) = x.1.1 + 1 + d2.length := ⟨(x.1.1 + 1 + d2.length).toNat, by omega⟩
        have hpm : p < m := by omega
        obtain ⟨a, ha⟩ : ∃ a, L[p]? = some a := ⟨_, List.getElem?_eq_getElem (by omega)⟩
        have e9 : x.1.1 + ((d2 ++ [y]).length : Int) = (p : Int) := by simp; omega
        have hwr : wr .i64 (x.1.1 + (d2.length : Int) + 1) = (p : Int) := by rw [wr_small (by omega) (by omega)]; omega
        have b1 : decide (x.1.1 + (d2.length : Int) ≤ x.1.2) = true := decide_eq_true hle
        have b2 : decide (x.1.1 = -2) = false := decide_eq_false hne
        have hp2 : ((p : Int) < (m : Int)) = True := eq_true (by omega)
        have hp0 : (0 ≤ (p : Int)) = True := eq_true (by omega)
        have hld : (addS x.1 x.2 d2.length L)[0 + p * 1]? = some a := by rw [Nat.zero_add, Nat.mul_one, addS_at _ _ _ _ hp1]; exact ha
        have hal : (addS x.1 x.2 d2.length L).length = m := by rw [addS_len, hLl]
        have hle2 : (0 + p * 1 + 1 ≤ (addS x.1 x.2 d2.length L).length) = True := eq_true (by rw [hal]; omega)
        have hst : List.take (0 + p * 1) ((addS x.1 x.2 d2.length L).map intA) ++ [.int .i64 (wr .i64 (a + x.2))] ++ List.drop (0 + p * 1 + 1) ((addS x.1 x.2 d2.length L).map intA) = (addS x.1 x.2 (d2 ++ [y]).length L).map intA := by
          have hd3 : (d2 ++ [y]).length = d2.length + 1 := by simp
          rw [hd3, ← addS_set x.1 x.2 d2.length L hp1 ha, Nat.zero_add, Nat.mul_one, set_at1 _ (by rw [List.length_map, hal]; exact hpm), List.map_set]
          rfl
        rw [e9]
        simp only [cf18L0, cf18E0, g1, b1, b2, hwr, hp2, hp0, hld, g3, hget, e2, hle2, hst, go_sem, seval, ↓reduceIte, Nat.reduceLeDiff, Nat.reduceEqDiff, reduceCtorEq]
        exact ⟨by kernel_rfl, rfl⟩
  · rw [sizesE, if_neg he] at hs16
    subst hs16
    refine XO_tree h16 (by simp only [Kernels.av, Kernels.cells, go_sem, seval, ↓reduceIte, Nat.reduceLeDiff, Nat.reduceEqDiff, reduceCtorEq]) rfl ?_
    have he' : decide (e = 0) = false := decide_eq_false he
    simp only [he', go_sem, seval, ↓reduceIte, Nat.reduceLeDiff, Nat.reduceEqDiff, reduceCtorEq]
    rw [needsR, if_neg he]
end
end Go.Tev
end
section
namespace Go.Tev
theorem sumAt_snoc (j : Nat) (p : Sp × Int) : ∀ (d : List (Sp × Int)) (a : Int), sumAt j (d ++ [p]) a = if isLive ((j : Int) - 1) p.1 then wr .i64 (sumAt j d a + p.2) else sumAt j d a
  | [], a => rfl
  | q :: r, a => by simp only [List.cons_append, sumAt]; exact sumAt_snoc j p r _
theorem wr_in (x : Int) : -9223372036854775808 ≤ wr .i64 x ∧ wr .i64 x ≤ 9223372036854775807 := by
  simp only [wr]
  split
  · assumption
  · have e1 : (2 ^ IntKind.bits .i64 : Int) = 18446744073709551616 := by decide
    have e2 : (2 ^ (IntKind.bits .i64 - 1) : Int) = 9223372036854775808 := by decide
    simp only [IntKind.wrap, e1, e2]
    split
    · rename_i h
      simp only [Bool.and_eq_true, decide_eq_true_eq] at h
      omega
    · rename_i h
      have hs : IntKind.signed .i64 = true := rfl
      simp only [hs, Bool.true_and, decide_eq_true_eq] at h
      omega
theorem wr_wr (x : Int) : wr .i64 (wr .i64 x + 0) = wr .i64 x := by
  have h := wr_in x
  generalize wr .i64 x = y at *
  simp only [wr, Int.add_zero]
  rw [if_pos h]
theorem sumAt_wr (j : Nat) : ∀ (d : List (Sp × Int)) (a : Int), wr .i64 (a + 0) = a → wr .i64 (sumAt j d a + 0) = sumAt j d a
  | [], a, h => h
  | q :: r, a, h => by
    simp only [sumAt]
    refine sumAt_wr j r _ ?_
    split
    · exact wr_wr _
    · exact h
theorem zero_of (f : Typ → Int) : ∀ (sp : List Sp) (vs : List Typ) (p : Sp × Int), p ∈ sp.zip (sizesL f sp vs) → p.1.1 = -2 → p.2 = 0
  | [], _, p, h, _ => by simp at h
  | s :: r, [], p, h, _ => by simp [sizesL] at h
  | s :: r, t :: q, p, h, h2 => by
    simp only [sizesL, List.zip_cons_cons, List.mem_cons] at h
    rcases h with rfl | h
    · simp [show s.1 = -2 from h2]
    · exact zero_of f r q p h h2
section
variable {pg : Pg}
theorem c6 (hf : pg.fs 6 = some cf6) (h23 : pg.fs 23 = some cf23) (k : Kernels) (nl cl : Bool) (ds : List Val) (f : Typ → Int) (e : Int) (r16 r18 : AV)
    (h7 : Ret pg 7 [] (.bool true)) (h8 : Ret pg 8 [k.av] (.bool (few8 k)))
    (h16 : Ret pg 16 [k.av, .sl nl (ds.map Val.av) cl] r16) (hs16 : sizesE f k e r16)
    (h18 : Ret pg 18 [k.av, .sl nl (ds.map Val.av) cl] r18) (hs18 : needsR f k e r18) :
    Ret pg 6 [k.av, .sl nl (ds.map Val.av) cl] (.bool true) := by
  rw [Kernels.avc] at h8 h16 h18
  refine Ret.ofX hf ?_
  unfold cf6
  simp only [go_sem, seval, ↓reduceIte, Nat.reduceLeDiff, Nat.reduceEqDiff, reduceCtorEq]
  refine XO_tree h7 rfl rfl ?_
  simp only [go_sem, seval, ↓reduceIte, Nat.reduceLeDiff, Nat.reduceEqDiff, reduceCtorEq]
  refine XO_tree h8 (by simp only [go_sem, seval, ↓reduceIte, Nat.reduceLeDiff, Nat.reduceEqDiff, reduceCtorEq]) rfl ?_
  cases hfew : few8 k
  case false =>
    simp only [go_sem, seval, ↓reduceIte, Nat.reduceLeDiff, Nat.reduceEqDiff, reduceCtorEq]
    refine XO_tree h7 rfl rfl ?_
    simp only [go_sem, seval, ↓reduceIte, Nat.reduceLeDiff, Nat.reduceEqDiff, reduceCtorEq]
  case true =>
  simp only [go_sem, seval, ↓reduceIte, Nat.reduceLeDiff, Nat.reduceEqDiff, reduceCtorEq]
  cases hl : decide (13 < (ds.length : Int))
  case true =>
    simp only [hl, go_sem, seval, ↓reduceIte, Nat.reduceLeDiff, Nat.reduceEqDiff, reduceCtorEq]
    refine XO_tree h7 rfl rfl ?_
    simp only [go_sem, seval, ↓reduceIte, Nat.reduceLeDiff, Nat.reduceEqDiff, reduceCtorEq]
  case false =>
  simp only [hl, go_sem, seval, ↓reduceIte, Nat.reduceLeDiff, Nat.reduceEqDiff, reduceCtorEq]
  by_cases he : e = 0
  case neg =>
    rw [needsR, if_neg he] at hs18
    rw [sizesE, if_neg he] at hs16
    subst hs18
    subst hs16
    refine XO_tree h18 (by simp only [go_sem, seval, ↓reduceIte, Nat.reduceLeDiff, Nat.reduceEqDiff, reduceCtorEq]) rfl ?_
    simp only [go_sem, seval, ↓reduceIte, Nat.reduceLeDiff, Nat.reduceEqDiff, reduceCtorEq]
    refine XO_tree h16 (by simp only [go_sem, seval, ↓reduceIte, Nat.reduceLeDiff, Nat.reduceEqDiff, reduceCtorEq]) rfl ?_
    have he' : decide (e = 0) = false := decide_eq_false he
    simp only [he', go_sem, seval, ↓reduceIte, Nat.reduceLeDiff, Nat.reduceEqDiff, reduceCtorEq]
  case pos =>
  subst he
  rw [needsR, if_pos rfl] at hs18
  rw [sizesE, if_pos rfl] at hs16
  obtain ⟨hc, hs16⟩ := hs16
  subst hs18
  subst hs16
  have ok := fuseOK_of hc
  obtain ⟨i0, i1⟩ := ok.inp
  have hsl := spansK_len (k := k) (by omega)
  have hVb := k.values.ok
  have hLb0 : k.list.es.length ≤ big := k.list.ok
  have hLb : k.list.es.length ≤ 16777216 := hLb0
  have hEnd : ∀ (n : Nat) (s : Sp), (spansK k)[n]? = some s → SpEnd k n s := fun n s h => spEnd i0 h
  have hzl := sizesL_len f (spansK k) k.values.es (by omega)
  have hz0 := zero_of f (spansK k) k.values.es
  obtain ⟨zs, hz, hz1, hz2⟩ : ∃ zs : List (Sp × Int), zs = (spansK k).zip (sizesL f (spansK k) k.values.es) ∧ spansK k = zs.map (·.1) ∧ sizesL f (spansK k) k.values.es = zs.map (·.2) :=
    ⟨_, rfl, by rw [List.map_fst_zip (by omega)], by rw [List.map_snd_zip (by omega)]⟩
  rw [← hz] at h18 hz0
  have hEnd2 : ∀ (n : Nat) (p : Sp × Int), zs[n]? = some p → SpEnd k n p.1 := fun n p h => hEnd n p.1 (by rw [hz1, List.getElem?_map, h]; rfl)
  have hsi2 : (sizesL f (spansK k) k.values.es).map intA = zs.map fun p => intA p.2 := by rw [hz2, List.map_map]; rfl
  have hspl : zs.length = k.values.es.length := by rw [← hsl, hz1, List.length_map]
  rw [hsi2] at h16
  obtain ⟨m, hm⟩ : ∃ m : Nat, m = k.list.es.length + 2 := ⟨_, rfl⟩
  have hw2 : wr .i64 ((k.list.es.length : Int) + 2) = (m : Int) := by rw [wr_small (by omega) (by omega)]; omega
  have hw3 : wr .i64 ((m : Int) - 1) = ((k.list.es.length + 1 : Nat) : Int) := by rw [wr_small (by omega) (by omega)]; omega
  have hw4 : (0 ≤ ((k.list.es.length + 1 : Nat) : Int)) = True := eq_true (by omega)
  rw [← hm] at h18
  have htr : treeL (zs.map fun p => intA p.2) = true := treeL_map (f := fun p : Sp × Int => intA p.2) (fun s => by simp [intA, go_sem]) _
  have hN0 : (needZ zs (List.replicate m 0))[0]? = some (sumAt 0 zs 0) := needZ_get 0 zs (List.replicate m 0) 0 (by rw [List.getElem?_replicate, if_pos (by omega)])
  have hN1 : (needZ zs (List.replicate m 0))[k.list.es.length + 1]? = some (sumAt (k.list.es.length + 1) zs 0) := needZ_get _ zs (List.replicate m 0) 0 (by rw [List.getElem?_replicate, if_pos (by omega)])
  have hNl : (needZ zs (List.replicate m 0)).length = m := by rw [needZ_len, List.length_replicate]
  generalize needZ zs (List.replicate m 0) = N at *
  refine XO_tree h18 (by simp only [go_sem, seval, ↓reduceIte, Nat.reduceLeDiff, Nat.reduceEqDiff, reduceCtorEq]) (by first | rfl | (simp [AV.tree, intA_treeL])) ?_
  simp only [go_sem, seval, ↓reduceIte, Nat.reduceLeDiff, Nat.reduceEqDiff, reduceCtorEq]
  refine XO_tree h16 (by simp only [go_sem, seval, ↓reduceIte, Nat.reduceLeDiff, Nat.reduceEqDiff, reduceCtorEq]) (by first | rfl | (simp [AV.tree, htr])) ?_
  simp only [go_sem, seval, ↓reduceIte, Nat.reduceLeDiff, Nat.reduceEqDiff, reduceCtorEq]
  refine XX_list zs (fun d r env hp => env = cf6E0 (.pt 1 0 0) (.sl false (N.map intA) true) (.int .i64 (sumAt 0 d 0)) (.int .i64 (sumAt (k.list.es.length + 1) d 0)) (.sl false (zs.map fun p => intA p.2) true) (.int .i64 zs.length) (.int .i64 d.length) ∧
    hp.get 1 = some (0, .blk k.cells 6 true true false)) ?_ ?_ ?_
  · refine ⟨rfl, ?_⟩
    simp only [go_sem, seval, ↓reduceIte, Nat.reduceLeDiff, Nat.reduceEqDiff, reduceCtorEq]
    rfl
  · rintro env hp ⟨rfl, g1⟩
    simp only [Kernels.cells, Sl.av] at g1
    simp only [cf6L0, cf6E0, g1, hNl, hN0, hw2, hw3, hw4, hN1, Int.toNat_natCast, go_sem, seval, ↓reduceIte, Nat.reduceLeDiff, Nat.reduceEqDiff, reduceCtorEq]
  · rintro d x r env hp hes ⟨rfl, g1⟩
    have g1' := g1
    simp only [Kernels.cells, Sl.av] at g1
    have hsb : (d ++ x :: r).length ≤ big := by rw [← hes, hspl]; exact hVb
    have hget : zs[d.length]? = some x := by rw [hes]; simp
    have hlt : d.length < zs.length := by rw [hes]; simp
    have S := hEnd2 _ _ hget
    have hx0 := hz0 x (by rw [hes]; simp)
    have e1 : decide ((d.length : Int) < (zs.length : Int)) = true := by simp; omega
    have e2 : ((d.length : Int) < (zs.length : Int)) = True := eq_true (by omega)
    have b0 : isLive (((0 : Nat) : Int) - 1) x.1 = decide ((d.length : Int) < k.inputs) := by
      have := S.inp
      rw [Bool.eq_iff_iff]
      simp only [isLive, Bool.and_eq_true, Bool.not_eq_true', decide_eq_true_eq, decide_eq_false_iff_not]
      constructor
      · rintro ⟨⟨q1, q2⟩, q3⟩; exact this.1 ⟨q1, by omega, by omega⟩
      · intro q; obtain ⟨q1, q2, q3⟩ := this.2 q; exact ⟨⟨q1, by omega⟩, by omega⟩
    have hin := sumAt_snoc 0 x d 0
    rw [b0] at hin
    have a23 := c23 h23 k.results.nl k.results.cl k.results.es k.results.ok d.length
    have b1 : isLive (((k.list.es.length + 1 : Nat) : Int) - 1) x.1 = ((k.results.es.any fun y => decide (y = (d.length : Int))) && !decide (x.1.1 = -2)) := by
      have h1 := S.res
      have h2 := S.snd
      have h3 := S.fst
      have h4 : d.length ∈ k.results.es.map Int.toNat ↔ (d.length : Int) ∈ k.results.es := by
        constructor
        · intro q
          obtain ⟨y, y1, y2⟩ := List.mem_map.1 q
          obtain ⟨v1, _⟩ := ok.res y y1
          have : y = (d.length : Int) := by omega
          exact this ▸ y1
        · intro q; exact List.mem_map.2 ⟨_, q, by simp⟩
      rw [Bool.eq_iff_iff]
      simp only [isLive, Bool.and_eq_true, Bool.not_eq_true', decide_eq_true_eq, decide_eq_false_iff_not, List.any_eq_true]
      constructor
      · rintro ⟨⟨q1, q2⟩, q3⟩
        exact ⟨⟨_, h4.1 (h1.1 (by omega)), rfl⟩, q1⟩
      · rintro ⟨⟨y, y1, y2⟩, q1⟩
        have := h1.2 (h4.2 (y2 ▸ y1))
        exact ⟨⟨q1, by omega⟩, by omega⟩
    have hout := sumAt_snoc (k.list.es.length + 1) x d 0
    rw [b1] at hout
    have hsw := sumAt_wr (k.list.es.length + 1) d 0 (by decide)
    rw [hin, hout]
    generalize sumAt 0 d 0 = A at *
    generalize sumAt (k.list.es.length + 1) d 0 = B at *
    have hB : (if ((k.results.es.any fun y => decide (y = (d.length : Int))) && !decide (x.1.1 = -2)) = true then wr .i64 (B + x.2) else B) = (if (k.results.es.any fun y => decide (y = (d.length : Int))) = true then wr .i64 (B + x.2) else B) := by
      by_cases q : x.1.1 = -2
      · rw [hx0 q]
        have hsw' : wr .i64 B = B := by simpa using hsw
        simp [q, hsw']
      · simp [q]
    rw [hB]
    cases c1 : decide ((d.length : Int) < k.inputs) <;> cases c2 : (k.results.es.any fun y => decide (y = (d.length : Int)))
    all_goals
      rw [c2] at a23
      simp only [cf6L0, cf6E0, e1, e2, hget, g1, c1, go_sem, seval, ↓reduceIte, Nat.reduceLeDiff, Nat.reduceEqDiff, reduceCtorEq]
      refine XO_tree a23 (by simp only [go_sem, seval, ↓reduceIte, Nat.reduceLeDiff, Nat.reduceEqDiff, reduceCtorEq]) rfl ?_
      simp only [wr_mid hsb, go_sem, seval, ↓reduceIte, Nat.reduceLeDiff, Nat.reduceEqDiff, reduceCtorEq]
      exact ⟨rfl, g1'⟩
end
end Go.Tev
end
section
namespace Go.Tev
structure Code6 (pg : Pg) : Prop where
  f6 : pg.fs 6 = some cf6
  f16 : pg.fs 16 = some cf16
  f18 : pg.fs 18 = some cf18
  f23 : pg.fs 23 = some cf23
  f32 : pg.fs 32 = some cf32
  f33 : pg.fs 33 = some cf33
  f52 : pg.fs 52 = some cf52
  f53 : pg.fs 53 = some cf53
section
variable {pg : Pg}
theorem all6 (C : Code pg) (D : Code6 pg) (A : Ora pg) (h7 : Ret pg 7 [] (.bool true)) (k : Kernels) (hk : KOK k) (nl cl : Bool) (ds : List Val) (hb : ds.length ≤ big) :
    Ret pg 6 [k.av, .sl nl (ds.map Val.av) cl] (.bool true) := by
  have B := base_of A C.f57 C.f91 C.f126 C.f108 C.f94 C.f132 C.f133 C.f134 C.f171
  have h51 : ∀ l : Lin, Ret pg 51 [l.av] (.bool (linOK l)) := c51 C.f51 C.f89 B.name
  have h9 := all9 C A k hk
  have h32 : ∀ (l : Lin) (nl cl : Bool) (ds : List Val), ds.length ≤ big → RetP pg 32 [l.av, .sl nl (ds.map Val.av) cl] IsIE := fun l nl cl ds hb => c32 D.f32 h51 D.f52 D.f53 l nl cl ds hb
  have h33 : ∀ t : Typ, ∃ p : Int × Bool, Ret pg 33 [t.av, .sl nl (ds.map Val.av) cl] (.tup [.int .i64 p.1, .bool p.2]) := by
    intro t
    obtain ⟨r, hr, a, b, rfl⟩ := c33 D.f33 h32 t nl cl ds hb
    exact ⟨(a, b), hr⟩
  obtain ⟨r16, hr16, hs16⟩ := c16 D.f16 k h9 nl cl ds hb (fun t => (Classical.choose (h33 t)).1) (fun t => (Classical.choose (h33 t)).2) (fun l => h32 l nl cl ds hb) (fun t => Classical.choose_spec (h33 t))
  obtain ⟨e, he⟩ := sizesE_of hs16
  obtain ⟨r18, hr18, hs18⟩ := c18 D.f18 k h9 nl cl ds _ e r16 hr16 he
  exact c6 D.f6 D.f23 k nl cl ds _ e r16 r18 h7 (all8 C k hk) hr16 he hr18 hs18
end
end Go.Tev
end
