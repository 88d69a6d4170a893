/-
  The law of the modes.
-/
import Derived.Test.YtfdekggfdklfeaaG15
import Derived.Test.YtfdekggfdklfeaaM2
import Derived.Test.YtfdekggfdklfeaaH8
import Derived.Test.YtfdekggfdklfeaaG2
set_option linter.all false
set_option linter.unusedVariables false
set_option linter.unusedSimpArgs false
namespace Go.Proofs.Ytfdekggfdklfeaa
open Go.Ab
attribute [local irreducible] seqK blockK loopK endK
set_option maxRecDepth 10000
set_option maxHeartbeats 64000000
theorem cellFits_mono {v : Val} {c : Col} {i : Nat} {key : Int} {m m' : Int} (h : 1 ≤ m) (hm : m ≤ m') (hm' : m' ≤ 3) (hf : cellFits v c i key m = true) : cellFits v c i key m' = true := by
  unfold cellFits at hf ⊢
  split at hf
  · rename_i h1; rw [if_pos h1]
  · rename_i h1
    rw [if_neg h1]
    split at hf
    · cases hf
    · rename_i h2
      rw [if_neg h2]
      split at hf
      · rename_i h3; rw [if_pos ⟨h3.1, by omega⟩]
      · rename_i h3
        simp only [decide_eq_true_eq] at hf
        split
        · rfl
        · simp only [decide_eq_true_eq]; exact ⟨hf.1, by omega⟩
theorem fitsFrom_mono {key m m' : Int} (h : 1 ≤ m) (hm : m ≤ m') (hm' : m' ≤ 3) : ∀ {row : List Val} {cols : List Col} {i : Nat}, fitsFrom key m i row cols = true → fitsFrom key m' i row cols = true
  | [], _, _, _ => by simp [fitsFrom]
  | v :: r, c :: cs, i, hf => by
    rw [fitsFrom, Bool.and_eq_true] at hf ⊢
    exact ⟨cellFits_mono h hm hm' hf.1, fitsFrom_mono h hm hm' hf.2⟩
  | _ :: _, [], _, hf => by simp [fitsFrom] at hf
theorem fits_mono {s : Sch} {t : Int} {row : List Val} {m m' : Int} (h : 1 ≤ m) (hm : m ≤ m') (hm' : m' ≤ 3) (hf : s.fits t row m = true) : s.fits t row m' = true := by
  unfold Sch.fits at hf ⊢
  split at hf
  · cases hf
  · rename_i h1
    rw [if_neg (by omega)]
    split at hf
    · cases hf
    · rename_i x hx
      split at hf
      · rename_i h2; rw [if_pos h2]; exact fitsFrom_mono h hm hm' hf
      · cases hf
def RefOk (s : Sch) (i : Nat) (u : RefT) : Prop :=
  (∀ c ∈ u.cols, 0 ≤ c ∧ c < (s.kinds i).length) ∧ u.cols.map (fun c => (s.kinds i).getD c.toNat 0) = s.keyKinds u.table ∧ u.cols.length ≤ 1000 ∧
  ∃ y, 0 ≤ u.table ∧ u.table < s.tabs.length ∧ s.tabs[u.table.toNat]? = some y ∧ 0 ≤ y.key ∧ y.key ≤ (s.kinds u.table).length
theorem refs_none {α : Type} {P : α → Prop} : ∀ u ∈ ([] : List α), P u := fun _ h => by cases h
theorem ref_at {s : Sch} {i : Nat} {k : Int} {t : Int} {K : List Int} {y : Tab} (hK : s.kinds i = K) (h1 : 0 ≤ k) (h2 : k < K.length) (h3 : [K.getD k.toNat 0] = s.keyKinds t) (h4 : 0 ≤ t) (h5 : t < s.tabs.length) (h6 : s.tabs[t.toNat]? = some y) (h7 : 0 ≤ y.key) (h8 : y.key ≤ (s.kinds t).length) : RefOk s i ⟨[k], t⟩ := by
  refine ⟨fun c hc => ?_, by rw [hK]; exact h3, by simp, y, h4, h5, h6, h7, h8⟩
  simp only [List.mem_singleton] at hc
  subst hc
  rw [hK]; exact ⟨h1, h2⟩
theorem refs_bif {s : Sch} {i : Nat} {b : Bool} {u : RefT} (h : RefOk s i u) : (bif b then [u] else []).length ≤ 1000 ∧ ∀ w ∈ (bif b then [u] else []), RefOk s i w := by
  cases b
  · exact ⟨by simp, fun w hw => by cases hw⟩
  · exact ⟨by simp, fun w hw => by rw [cond_true, List.mem_singleton] at hw; rw [hw]; exact h⟩
theorem schV_facts {n : Nat} {v id : Int} {b2 b3 b4 : Bool} {ch : List Pred} (hn : n = 2 ∨ n = 3 ∨ n = 4) : 0 < (schV n v id b2 b3 b4 ch).tabs.length ∧ (schV n v id b2 b3 b4 ch).tabs.length ≤ 4 ∧ (∀ x ∈ (schV n v id b2 b3 b4 ch).tabs, x.cols.length ≤ 1000) ∧
    ∀ i x, (schV n v id b2 b3 b4 ch).tabs[i]? = some x → x.refs.length ≤ 1000 ∧ ∀ u ∈ x.refs, RefOk (schV n v id b2 b3 b4 ch) i u := by
  refine ⟨?_, ?_, ?_, ?_⟩
  · rcases hn with rfl | rfl | rfl <;> exact Nat.le_of_ble_eq_true rfl
  · rcases hn with rfl | rfl | rfl <;> exact Nat.le_of_ble_eq_true rfl
  · intro x hx
    have hx := List.mem_of_mem_take hx
    simp only [schT, List.mem_cons, List.not_mem_nil, or_false] at hx
    rcases hx with rfl | rfl | rfl | rfl <;> exact Nat.le_of_ble_eq_true rfl
  · intro i x hx
    rcases i with _ | _ | _ | _ | i
    · have : x.refs = [] := by rcases hn with rfl | rfl | rfl <;> (cases hx; rfl)
      rw [this]; exact ⟨by simp, fun w hw => by cases hw⟩
    · have : x.refs = bif b2 then [⟨[1], 0⟩] else [] := by rcases hn with rfl | rfl | rfl <;> (cases hx; rfl)
      rw [this]
      refine refs_bif ?_
      rcases hn with rfl | rfl | rfl <;> exact ref_at (K := [id, 4, 5, 3]) rfl (by omega) (by simp) rfl (by omega) (Int.ofNat_lt.2 (Nat.le_of_ble_eq_true rfl)) rfl (by show (0 : Int) ≤ 1; omega) (by show (1 : Int) ≤ ((2 : Nat) : Int); omega)
    · have : x.refs = bif b3 then [⟨[0], 0⟩] else [] := by rcases hn with rfl | rfl | rfl <;> (cases hx; try rfl)
      rw [this]
      refine refs_bif ?_
      rcases hn with rfl | rfl | rfl
      · cases hx
      all_goals exact ref_at (K := [4, 4]) rfl (by omega) (by simp) rfl (by omega) (Int.ofNat_lt.2 (Nat.le_of_ble_eq_true rfl)) rfl (by show (0 : Int) ≤ 1; omega) (by show (1 : Int) ≤ ((2 : Nat) : Int); omega)
    · have : x.refs = bif b4 then [⟨[0], 1⟩] else [] := by rcases hn with rfl | rfl | rfl <;> (cases hx; try rfl)
      rw [this]
      refine refs_bif ?_
      rcases hn with rfl | rfl | rfl
      · cases hx
      · cases hx
      · exact ref_at (K := [id]) rfl (by omega) (by simp) rfl (by omega) (Int.ofNat_lt.2 (Nat.le_of_ble_eq_true rfl)) rfl (by show (0 : Int) ≤ 1; omega) (by show (1 : Int) ≤ ((4 : Nat) : Int); omega)
    · exfalso
      have hlt := (List.getElem?_eq_some_iff.1 hx).1
      have : (schV n v id b2 b3 b4 ch).tabs.length ≤ 4 := by rcases hn with rfl | rfl | rfl <;> exact Nat.le_of_ble_eq_true rfl
      omega
abbrev vI (l : List Int) : AV := match l with
  | [] => .d .snil
  | _ :: r => .sl 2 0 (r.length + 1) false
abbrev hI (v : Int) (tabs : List Tab) (u : RefT) (l : List Int) : Heap := match l with
  | [] => [some (.flat 2 [[.int .i64 v, .fsl (tabs.map fun t => t.cells) false false]]), some (.flat 2 [[.fsl (rowsI u.cols) false false, .int .i64 u.table]])]
  | q :: r => [some (.flat 2 [[.int .i64 v, .fsl (tabs.map fun t => t.cells) false false]]), some (.flat 2 [[.fsl (rowsI u.cols) false false, .int .i64 u.table]]), some (.flat 1 ([.int .i64 q] :: r.map fun k => [.int .i64 k]))]
theorem sdM30 {α : Type _} {a b : α} (h : a = b := by (first | (simp (maxSteps := 2000000) (disch := first | assumption | omega | (simp only [go_sem] <;> with_reducible rfl)) only [go_sem, ↓reduceIte, ↓reduceDIte, Nat.reduceEqDiff, reduceCtorEq, Nat.reduceAdd, Nat.reduceSub, Nat.reduceMul, Nat.reduceBEq, Nat.reduceBNe, Nat.reduceLeDiff, Nat.reduceLT, Int.reduceLT, Int.reduceLE, Int.reduceToNat, Int.reduceEq, Int.reduceNeg, Int.reduceAdd, Int.reduceSub, Int.reduceMul, Nat.reduceMod, Nat.reduceDiv, Nat.reducePow, BEq.rfl, gt_iff_lt, ge_iff_le, *, Sch.cells, Tab.cells] <;> with_reducible rfl) | with_reducible rfl)) : a = b := h
theorem sdM30p {a b : Nat} (h : a ≤ b := by (first | (simp (maxSteps := 2000000) (disch := first | assumption | omega | (simp only [go_sem] <;> with_reducible rfl)) only [go_sem, ↓reduceIte, ↓reduceDIte, Nat.reduceEqDiff, reduceCtorEq, Nat.reduceAdd, Nat.reduceSub, Nat.reduceMul, Nat.reduceBEq, Nat.reduceBNe, Nat.reduceLeDiff, Nat.reduceLT, Int.reduceLT, Int.reduceLE, Int.reduceToNat, Int.reduceEq, Int.reduceNeg, Int.reduceAdd, Int.reduceSub, Int.reduceMul, Nat.reduceMod, Nat.reduceDiv, Nat.reducePow, BEq.rfl, gt_iff_lt, ge_iff_le, *, Sch.cells, Tab.cells] <;> with_reducible rfl) | with_reducible rfl)) : a ≤ b := h
theorem sdM31 {α : Type _} {a b : α} (h : a = b := by (first | (simp (maxSteps := 2000000) (disch := first | assumption | omega | (simp only [go_sem] <;> with_reducible rfl)) only [go_sem, ↓reduceIte, ↓reduceDIte, Nat.reduceEqDiff, reduceCtorEq, Nat.reduceAdd, Nat.reduceSub, Nat.reduceMul, Nat.reduceBEq, Nat.reduceBNe, Nat.reduceLeDiff, Nat.reduceLT, Int.reduceLT, Int.reduceLE, Int.reduceToNat, Int.reduceEq, Int.reduceNeg, Int.reduceAdd, Int.reduceSub, Int.reduceMul, Nat.reduceMod, Nat.reduceDiv, Nat.reducePow, BEq.rfl, gt_iff_lt, ge_iff_le, *, Tab.cells] <;> with_reducible rfl) | with_reducible rfl)) : a = b := h
theorem sdM31p {a b : Nat} (h : a ≤ b := by (first | (simp (maxSteps := 2000000) (disch := first | assumption | omega | (simp only [go_sem] <;> with_reducible rfl)) only [go_sem, ↓reduceIte, ↓reduceDIte, Nat.reduceEqDiff, reduceCtorEq, Nat.reduceAdd, Nat.reduceSub, Nat.reduceMul, Nat.reduceBEq, Nat.reduceBNe, Nat.reduceLeDiff, Nat.reduceLT, Int.reduceLT, Int.reduceLE, Int.reduceToNat, Int.reduceEq, Int.reduceNeg, Int.reduceAdd, Int.reduceSub, Int.reduceMul, Nat.reduceMod, Nat.reduceDiv, Nat.reducePow, BEq.rfl, gt_iff_lt, ge_iff_le, *, Tab.cells] <;> with_reducible rfl) | with_reducible rfl)) : a ≤ b := h
theorem sdM32 {α : Type _} {a b : α} (h : a = b := by (first | (simp (maxSteps := 2000000) (disch := first | assumption | omega | (simp only [go_sem] <;> with_reducible rfl)) only [go_sem, ↓reduceIte, ↓reduceDIte, Nat.reduceEqDiff, reduceCtorEq, Nat.reduceAdd, Nat.reduceSub, Nat.reduceMul, Nat.reduceBEq, Nat.reduceBNe, Nat.reduceLeDiff, Nat.reduceLT, Int.reduceLT, Int.reduceLE, Int.reduceToNat, Int.reduceEq, Int.reduceNeg, Int.reduceAdd, Int.reduceSub, Int.reduceMul, Nat.reduceMod, Nat.reduceDiv, Nat.reducePow, BEq.rfl, gt_iff_lt, ge_iff_le, *, Sch.cells] <;> with_reducible rfl) | with_reducible rfl)) : a = b := h
theorem sdM32p {a b : Nat} (h : a ≤ b := by (first | (simp (maxSteps := 2000000) (disch := first | assumption | omega | (simp only [go_sem] <;> with_reducible rfl)) only [go_sem, ↓reduceIte, ↓reduceDIte, Nat.reduceEqDiff, reduceCtorEq, Nat.reduceAdd, Nat.reduceSub, Nat.reduceMul, Nat.reduceBEq, Nat.reduceBNe, Nat.reduceLeDiff, Nat.reduceLT, Int.reduceLT, Int.reduceLE, Int.reduceToNat, Int.reduceEq, Int.reduceNeg, Int.reduceAdd, Int.reduceSub, Int.reduceMul, Nat.reduceMod, Nat.reduceDiv, Nat.reducePow, BEq.rfl, gt_iff_lt, ge_iff_le, *, Sch.cells] <;> with_reducible rfl) | with_reducible rfl)) : a ≤ b := h
theorem sdM33 {α : Type _} {a b : α} (h : a = b := by (first | (simp (maxSteps := 2000000) (disch := first | assumption | omega | (simp only [go_sem] <;> with_reducible rfl)) only [go_sem, ↓reduceIte, ↓reduceDIte, Nat.reduceEqDiff, reduceCtorEq, Nat.reduceAdd, Nat.reduceSub, Nat.reduceMul, Nat.reduceBEq, Nat.reduceBNe, Nat.reduceLeDiff, Nat.reduceLT, Int.reduceLT, Int.reduceLE, Int.reduceToNat, Int.reduceEq, Int.reduceNeg, Int.reduceAdd, Int.reduceSub, Int.reduceMul, Nat.reduceMod, Nat.reduceDiv, Nat.reducePow, BEq.rfl, gt_iff_lt, ge_iff_le, *, Int.natCast_one] <;> with_reducible rfl) | with_reducible rfl)) : a = b := h
theorem sdM33p {a b : Nat} (h : a ≤ b := by (first | (simp (maxSteps := 2000000) (disch := first | assumption | omega | (simp only [go_sem] <;> with_reducible rfl)) only [go_sem, ↓reduceIte, ↓reduceDIte, Nat.reduceEqDiff, reduceCtorEq, Nat.reduceAdd, Nat.reduceSub, Nat.reduceMul, Nat.reduceBEq, Nat.reduceBNe, Nat.reduceLeDiff, Nat.reduceLT, Int.reduceLT, Int.reduceLE, Int.reduceToNat, Int.reduceEq, Int.reduceNeg, Int.reduceAdd, Int.reduceSub, Int.reduceMul, Nat.reduceMod, Nat.reduceDiv, Nat.reducePow, BEq.rfl, gt_iff_lt, ge_iff_le, *, Int.natCast_one] <;> with_reducible rfl) | with_reducible rfl)) : a ≤ b := h
theorem sdM3 {α : Type _} {a b : α} (h : a = b := by (first | (simp (maxSteps := 2000000) (disch := first | assumption | omega | (simp only [go_sem] <;> with_reducible rfl)) only [go_sem, ↓reduceIte, ↓reduceDIte, Nat.reduceEqDiff, reduceCtorEq, Nat.reduceAdd, Nat.reduceSub, Nat.reduceMul, Nat.reduceBEq, Nat.reduceBNe, Nat.reduceLeDiff, Nat.reduceLT, Int.reduceLT, Int.reduceLE, Int.reduceToNat, Int.reduceEq, Int.reduceNeg, Int.reduceAdd, Int.reduceSub, Int.reduceMul, Nat.reduceMod, Nat.reduceDiv, Nat.reducePow, BEq.rfl, gt_iff_lt, ge_iff_le, *] <;> with_reducible rfl) | with_reducible rfl)) : a = b := h
theorem sdM3p {a b : Nat} (h : a ≤ b := by (first | (simp (maxSteps := 2000000) (disch := first | assumption | omega | (simp only [go_sem] <;> with_reducible rfl)) only [go_sem, ↓reduceIte, ↓reduceDIte, Nat.reduceEqDiff, reduceCtorEq, Nat.reduceAdd, Nat.reduceSub, Nat.reduceMul, Nat.reduceBEq, Nat.reduceBNe, Nat.reduceLeDiff, Nat.reduceLT, Int.reduceLT, Int.reduceLE, Int.reduceToNat, Int.reduceEq, Int.reduceNeg, Int.reduceAdd, Int.reduceSub, Int.reduceMul, Nat.reduceMod, Nat.reduceDiv, Nat.reducePow, BEq.rfl, gt_iff_lt, ge_iff_le, *] <;> with_reducible rfl) | with_reducible rfl)) : a ≤ b := h
theorem sdM35 {α : Type _} {a b : α} (h : a = b := by (first | (simp (maxSteps := 2000000) (disch := first | assumption | omega | (simp only [go_sem] <;> with_reducible rfl)) only [go_sem, ↓reduceIte, ↓reduceDIte, Nat.reduceEqDiff, reduceCtorEq, Nat.reduceAdd, Nat.reduceSub, Nat.reduceMul, Nat.reduceBEq, Nat.reduceBNe, Nat.reduceLeDiff, Nat.reduceLT, Int.reduceLT, Int.reduceLE, Int.reduceToNat, Int.reduceEq, Int.reduceNeg, Int.reduceAdd, Int.reduceSub, Int.reduceMul, Nat.reduceMod, Nat.reduceDiv, Nat.reducePow, BEq.rfl, gt_iff_lt, ge_iff_le, *, Sch.cells, Tab.cells, RefT.cells] <;> with_reducible rfl) | with_reducible rfl)) : a = b := h
theorem sdM35p {a b : Nat} (h : a ≤ b := by (first | (simp (maxSteps := 2000000) (disch := first | assumption | omega | (simp only [go_sem] <;> with_reducible rfl)) only [go_sem, ↓reduceIte, ↓reduceDIte, Nat.reduceEqDiff, reduceCtorEq, Nat.reduceAdd, Nat.reduceSub, Nat.reduceMul, Nat.reduceBEq, Nat.reduceBNe, Nat.reduceLeDiff, Nat.reduceLT, Int.reduceLT, Int.reduceLE, Int.reduceToNat, Int.reduceEq, Int.reduceNeg, Int.reduceAdd, Int.reduceSub, Int.reduceMul, Nat.reduceMod, Nat.reduceDiv, Nat.reducePow, BEq.rfl, gt_iff_lt, ge_iff_le, *, Sch.cells, Tab.cells, RefT.cells] <;> with_reducible rfl) | with_reducible rfl)) : a ≤ b := h
theorem sdM36 {α : Type _} {a b : α} (h : a = b := by (first | (simp (maxSteps := 2000000) (disch := first | assumption | omega | (simp only [go_sem] <;> with_reducible rfl)) only [go_sem, ↓reduceIte, ↓reduceDIte, Nat.reduceEqDiff, reduceCtorEq, Nat.reduceAdd, Nat.reduceSub, Nat.reduceMul, Nat.reduceBEq, Nat.reduceBNe, Nat.reduceLeDiff, Nat.reduceLT, Int.reduceLT, Int.reduceLE, Int.reduceToNat, Int.reduceEq, Int.reduceNeg, Int.reduceAdd, Int.reduceSub, Int.reduceMul, Nat.reduceMod, Nat.reduceDiv, Nat.reducePow, BEq.rfl, gt_iff_lt, ge_iff_le, *, Tab.cells, RefT.cells, List.take_zero, List.map_nil, vI, hI] <;> with_reducible rfl) | with_reducible rfl)) : a = b := h
theorem sdM36p {a b : Nat} (h : a ≤ b := by (first | (simp (maxSteps := 2000000) (disch := first | assumption | omega | (simp only [go_sem] <;> with_reducible rfl)) only [go_sem, ↓reduceIte, ↓reduceDIte, Nat.reduceEqDiff, reduceCtorEq, Nat.reduceAdd, Nat.reduceSub, Nat.reduceMul, Nat.reduceBEq, Nat.reduceBNe, Nat.reduceLeDiff, Nat.reduceLT, Int.reduceLT, Int.reduceLE, Int.reduceToNat, Int.reduceEq, Int.reduceNeg, Int.reduceAdd, Int.reduceSub, Int.reduceMul, Nat.reduceMod, Nat.reduceDiv, Nat.reducePow, BEq.rfl, gt_iff_lt, ge_iff_le, *, Tab.cells, RefT.cells, List.take_zero, List.map_nil, vI, hI] <;> with_reducible rfl) | with_reducible rfl)) : a ≤ b := h
theorem sdM37 {α : Type _} {a b : α} (h : a = b := by (first | (simp (maxSteps := 2000000) (disch := first | assumption | omega | (simp only [go_sem] <;> with_reducible rfl)) only [go_sem, ↓reduceIte, ↓reduceDIte, Nat.reduceEqDiff, reduceCtorEq, Nat.reduceAdd, Nat.reduceSub, Nat.reduceMul, Nat.reduceBEq, Nat.reduceBNe, Nat.reduceLeDiff, Nat.reduceLT, Int.reduceLT, Int.reduceLE, Int.reduceToNat, Int.reduceEq, Int.reduceNeg, Int.reduceAdd, Int.reduceSub, Int.reduceMul, Nat.reduceMod, Nat.reduceDiv, Nat.reducePow, BEq.rfl, gt_iff_lt, ge_iff_le, *, vI, hI] <;> with_reducible rfl) | with_reducible rfl)) : a = b := h
theorem sdM37p {a b : Nat} (h : a ≤ b := by (first | (simp (maxSteps := 2000000) (disch := first | assumption | omega | (simp only [go_sem] <;> with_reducible rfl)) only [go_sem, ↓reduceIte, ↓reduceDIte, Nat.reduceEqDiff, reduceCtorEq, Nat.reduceAdd, Nat.reduceSub, Nat.reduceMul, Nat.reduceBEq, Nat.reduceBNe, Nat.reduceLeDiff, Nat.reduceLT, Int.reduceLT, Int.reduceLE, Int.reduceToNat, Int.reduceEq, Int.reduceNeg, Int.reduceAdd, Int.reduceSub, Int.reduceMul, Nat.reduceMod, Nat.reduceDiv, Nat.reducePow, BEq.rfl, gt_iff_lt, ge_iff_le, *, vI, hI] <;> with_reducible rfl) | with_reducible rfl)) : a ≤ b := h
theorem sdM38 {α : Type _} {a b : α} (h : a = b := by (first | (simp (maxSteps := 2000000) (disch := first | assumption | omega | (simp only [go_sem] <;> with_reducible rfl)) only [go_sem, ↓reduceIte, ↓reduceDIte, Nat.reduceEqDiff, reduceCtorEq, Nat.reduceAdd, Nat.reduceSub, Nat.reduceMul, Nat.reduceBEq, Nat.reduceBNe, Nat.reduceLeDiff, Nat.reduceLT, Int.reduceLT, Int.reduceLE, Int.reduceToNat, Int.reduceEq, Int.reduceNeg, Int.reduceAdd, Int.reduceSub, Int.reduceMul, Nat.reduceMod, Nat.reduceDiv, Nat.reducePow, BEq.rfl, gt_iff_lt, ge_iff_le, *, vI, hI, Int.natCast_add, Int.natCast_one, List.nil_append, Tab.cells, RefT.cells] <;> with_reducible rfl) | with_reducible rfl)) : a = b := h
theorem sdM38p {a b : Nat} (h : a ≤ b := by (first | (simp (maxSteps := 2000000) (disch := first | assumption | omega | (simp only [go_sem] <;> with_reducible rfl)) only [go_sem, ↓reduceIte, ↓reduceDIte, Nat.reduceEqDiff, reduceCtorEq, Nat.reduceAdd, Nat.reduceSub, Nat.reduceMul, Nat.reduceBEq, Nat.reduceBNe, Nat.reduceLeDiff, Nat.reduceLT, Int.reduceLT, Int.reduceLE, Int.reduceToNat, Int.reduceEq, Int.reduceNeg, Int.reduceAdd, Int.reduceSub, Int.reduceMul, Nat.reduceMod, Nat.reduceDiv, Nat.reducePow, BEq.rfl, gt_iff_lt, ge_iff_le, *, vI, hI, Int.natCast_add, Int.natCast_one, List.nil_append, Tab.cells, RefT.cells] <;> with_reducible rfl) | with_reducible rfl)) : a ≤ b := h
theorem sdM39 {α : Type _} {a b : α} (h : a = b := by (first | (simp (maxSteps := 2000000) (disch := first | assumption | omega | (simp only [go_sem] <;> with_reducible rfl)) only [go_sem, ↓reduceIte, ↓reduceDIte, Nat.reduceEqDiff, reduceCtorEq, Nat.reduceAdd, Nat.reduceSub, Nat.reduceMul, Nat.reduceBEq, Nat.reduceBNe, Nat.reduceLeDiff, Nat.reduceLT, Int.reduceLT, Int.reduceLE, Int.reduceToNat, Int.reduceEq, Int.reduceNeg, Int.reduceAdd, Int.reduceSub, Int.reduceMul, Nat.reduceMod, Nat.reduceDiv, Nat.reducePow, BEq.rfl, gt_iff_lt, ge_iff_le, *, vI, hI, Int.natCast_add, Int.natCast_one, List.cons_append, List.map_append, List.length_append, List.map_cons, List.map_nil, List.length_cons, List.length_nil, Tab.cells, RefT.cells] <;> with_reducible rfl) | with_reducible rfl)) : a = b := h
theorem sdM39p {a b : Nat} (h : a ≤ b := by (first | (simp (maxSteps := 2000000) (disch := first | assumption | omega | (simp only [go_sem] <;> with_reducible rfl)) only [go_sem, ↓reduceIte, ↓reduceDIte, Nat.reduceEqDiff, reduceCtorEq, Nat.reduceAdd, Nat.reduceSub, Nat.reduceMul, Nat.reduceBEq, Nat.reduceBNe, Nat.reduceLeDiff, Nat.reduceLT, Int.reduceLT, Int.reduceLE, Int.reduceToNat, Int.reduceEq, Int.reduceNeg, Int.reduceAdd, Int.reduceSub, Int.reduceMul, Nat.reduceMod, Nat.reduceDiv, Nat.reducePow, BEq.rfl, gt_iff_lt, ge_iff_le, *, vI, hI, Int.natCast_add, Int.natCast_one, List.cons_append, List.map_append, List.length_append, List.map_cons, List.map_nil, List.length_cons, List.length_nil, Tab.cells, RefT.cells] <;> with_reducible rfl) | with_reducible rfl)) : a ≤ b := h
theorem sdM310 {α : Type _} {a b : α} (h : a = b := by (first | (simp (maxSteps := 2000000) (disch := first | assumption | omega | (simp only [go_sem] <;> with_reducible rfl)) only [go_sem, ↓reduceIte, ↓reduceDIte, Nat.reduceEqDiff, reduceCtorEq, Nat.reduceAdd, Nat.reduceSub, Nat.reduceMul, Nat.reduceBEq, Nat.reduceBNe, Nat.reduceLeDiff, Nat.reduceLT, Int.reduceLT, Int.reduceLE, Int.reduceToNat, Int.reduceEq, Int.reduceNeg, Int.reduceAdd, Int.reduceSub, Int.reduceMul, Nat.reduceMod, Nat.reduceDiv, Nat.reducePow, BEq.rfl, gt_iff_lt, ge_iff_le, *, vI, hI, Sch.cells, RefT.cells] <;> with_reducible rfl) | with_reducible rfl)) : a = b := h
theorem sdM310p {a b : Nat} (h : a ≤ b := by (first | (simp (maxSteps := 2000000) (disch := first | assumption | omega | (simp only [go_sem] <;> with_reducible rfl)) only [go_sem, ↓reduceIte, ↓reduceDIte, Nat.reduceEqDiff, reduceCtorEq, Nat.reduceAdd, Nat.reduceSub, Nat.reduceMul, Nat.reduceBEq, Nat.reduceBNe, Nat.reduceLeDiff, Nat.reduceLT, Int.reduceLT, Int.reduceLE, Int.reduceToNat, Int.reduceEq, Int.reduceNeg, Int.reduceAdd, Int.reduceSub, Int.reduceMul, Nat.reduceMod, Nat.reduceDiv, Nat.reducePow, BEq.rfl, gt_iff_lt, ge_iff_le, *, vI, hI, Sch.cells, RefT.cells] <;> with_reducible rfl) | with_reducible rfl)) : a ≤ b := h
theorem sdM311 {α : Type _} {a b : α} (h : a = b := by (first | (simp (maxSteps := 2000000) (disch := first | assumption | omega | (simp only [go_sem] <;> with_reducible rfl)) only [go_sem, ↓reduceIte, ↓reduceDIte, Nat.reduceEqDiff, reduceCtorEq, Nat.reduceAdd, Nat.reduceSub, Nat.reduceMul, Nat.reduceBEq, Nat.reduceBNe, Nat.reduceLeDiff, Nat.reduceLT, Int.reduceLT, Int.reduceLE, Int.reduceToNat, Int.reduceEq, Int.reduceNeg, Int.reduceAdd, Int.reduceSub, Int.reduceMul, Nat.reduceMod, Nat.reduceDiv, Nat.reducePow, BEq.rfl, gt_iff_lt, ge_iff_le, *, Int.natCast_add, Int.natCast_one, Tab.cells, RefT.cells] <;> with_reducible rfl) | with_reducible rfl)) : a = b := h
theorem sdM311p {a b : Nat} (h : a ≤ b := by (first | (simp (maxSteps := 2000000) (disch := first | assumption | omega | (simp only [go_sem] <;> with_reducible rfl)) only [go_sem, ↓reduceIte, ↓reduceDIte, Nat.reduceEqDiff, reduceCtorEq, Nat.reduceAdd, Nat.reduceSub, Nat.reduceMul, Nat.reduceBEq, Nat.reduceBNe, Nat.reduceLeDiff, Nat.reduceLT, Int.reduceLT, Int.reduceLE, Int.reduceToNat, Int.reduceEq, Int.reduceNeg, Int.reduceAdd, Int.reduceSub, Int.reduceMul, Nat.reduceMod, Nat.reduceDiv, Nat.reducePow, BEq.rfl, gt_iff_lt, ge_iff_le, *, Int.natCast_add, Int.natCast_one, Tab.cells, RefT.cells] <;> with_reducible rfl) | with_reducible rfl)) : a ≤ b := h
theorem sdM312 {α : Type _} {a b : α} (h : a = b := by (first | (simp (maxSteps := 2000000) (disch := first | assumption | omega | (simp only [go_sem] <;> with_reducible rfl)) only [go_sem, ↓reduceIte, ↓reduceDIte, Nat.reduceEqDiff, reduceCtorEq, Nat.reduceAdd, Nat.reduceSub, Nat.reduceMul, Nat.reduceBEq, Nat.reduceBNe, Nat.reduceLeDiff, Nat.reduceLT, Int.reduceLT, Int.reduceLE, Int.reduceToNat, Int.reduceEq, Int.reduceNeg, Int.reduceAdd, Int.reduceSub, Int.reduceMul, Nat.reduceMod, Nat.reduceDiv, Nat.reducePow, BEq.rfl, gt_iff_lt, ge_iff_le, *, Int.natCast_add, Int.natCast_one, Tab.cells] <;> with_reducible rfl) | with_reducible rfl)) : a = b := h
theorem sdM312p {a b : Nat} (h : a ≤ b := by (first | (simp (maxSteps := 2000000) (disch := first | assumption | omega | (simp only [go_sem] <;> with_reducible rfl)) only [go_sem, ↓reduceIte, ↓reduceDIte, Nat.reduceEqDiff, reduceCtorEq, Nat.reduceAdd, Nat.reduceSub, Nat.reduceMul, Nat.reduceBEq, Nat.reduceBNe, Nat.reduceLeDiff, Nat.reduceLT, Int.reduceLT, Int.reduceLE, Int.reduceToNat, Int.reduceEq, Int.reduceNeg, Int.reduceAdd, Int.reduceSub, Int.reduceMul, Nat.reduceMod, Nat.reduceDiv, Nat.reducePow, BEq.rfl, gt_iff_lt, ge_iff_le, *, Int.natCast_add, Int.natCast_one, Tab.cells] <;> with_reducible rfl) | with_reducible rfl)) : a ≤ b := h
theorem c_modes (codes : List UInt8) (row : List Val) (hrow : row.length ≤ 9223372036854775807) : CallA Try.prog C (.func 4) {} [.d (.fsl (rowsB codes) false false), .d (.fsl (rowsV row) false false)] [] fun v hs => v = .d (.bool true) ∧ hs = [] := by
  have cN := c_new codes 90 (by omega) (by omega)
  have hlen : (codes.take (90 : Int).toNat).length ≤ 1000 := by rw [List.length_take]; omega
  generalize codes.take (90 : Int).toNat = cs at cN hlen
  obtain ⟨n, v, id, b2, b3, b4, ch, a1, hn, hv, hid, _, cS⟩ := e_schema cs hlen 0
  obtain ⟨s, hs⟩ : ∃ s, s = schV n v id b2 b3 b4 ch := ⟨_, rfl⟩
  rw [← hs] at cS
  obtain ⟨hS0, hS, hB, hR⟩ := schV_facts (v := v) (id := id) (b2 := b2) (b3 := b3) (b4 := b4) (ch := ch) hn
  rw [← hs] at hS0 hS hB hR
  clear hs hn hid hv
  have cB := c_begun
  obtain ⟨t, a2, ⟨t1, t2, t3⟩, cT⟩ := e_int cs a1 (s.tabs.length : Nat) hlen (by omega)
  have hgt : s.tabs[t.toNat]? = some s.tabs[t.toNat] := List.getElem?_eq_getElem (by omega)
  have hgc := hB _ (List.getElem_mem (show t.toNat < s.tabs.length by omega))
  generalize s.tabs[t.toNat] = x at hgt hgc
  have cK := c_kinds07 s t (fun x hx => by have := hB x hx; omega)
  have hkl : (s.kinds t).length ≤ 1000 := by
    unfold Sch.kinds
    split
    · simp
    · rw [hgt]; simpa using hgc
  obtain ⟨m, a3, ⟨m1, m2, m3⟩, cM⟩ := e_int cs a2 3 hlen (by omega)
  have wm := wrap_i64 (x := 1 + m) (by omega) (by omega)
  obtain ⟨gen, a4, hgl, cR⟩ := e_row cs hlen (s.kinds t) x.key (1 + m) hkl a3
  have hgen : gen.length ≤ 9223372036854775807 := by omega
  have hbig : 1000000 < big := by decide
  have hSb : s.tabs.length ≤ 1000000 := by omega
  refine call_func Try.func4 rfl (by decide) (by kernel_rfl) ⟨Nat.le_of_ble_eq_true rfl, Nat.le_of_ble_eq_true rfl⟩ ?_
  repeat' (first
    | ((with_reducible first | apply o_some | apply o_none | apply x_joined); exact sdM30; exact sdM30)
    | ((with_reducible first | apply d_some | apply d_none); exact sdM30; exact sdM30; exact sdM30)
    | ((with_reducible first | apply o_gT | apply d_gT); exact sdM30; exact sdM30)
    | ((with_reducible first | apply o_gF | apply d_gF); exact sdM30; exact sdM30; rfl)
    | ((with_reducible first | apply o_gU | apply d_gU); exact sdM30; exact sdM30)
    | ((with_reducible apply o_nilq); (exact ⟨by decide, by first | assumption | simp only [go_sem]⟩); exact sdM30; exact sdM30)
    | (with_reducible first | apply o_nil | apply x_next | apply x_seq | apply x_block | apply x_leave_normal | apply x_leave_ret | apply x_pass_ret | apply x_loop_exit | apply x_loop_ret | apply x_pass_exit | apply x_exit | apply x_ret | apply x_skip | apply x_label | apply x_join_ret | apply x_join_exit)
    | ((with_reducible apply d_end); kernel_rfl)
    | ((with_reducible apply x_region); exact sdM30)
    | ((with_reducible apply x_regionD); kernel_rfl; exact sdM30; exact sdM30)
    | ((with_reducible first | apply x_leave_exit | apply x_condT); exact sdM30)
    | ((with_reducible apply x_condF); exact sdM30)
    | ((first | ((with_reducible apply x_condB); exact sdM30) | ((with_reducible first | apply o_gB | apply d_gB); exact sdM30; exact sdM30)); all_goals intro hc; all_goals (try simp only [decide_eq_true_eq, decide_eq_false_iff_not, Bool.not_eq_true', Bool.not_eq_false', Bool.and_eq_true, Bool.or_eq_false_iff, Classical.not_not] at hc); all_goals (try (exfalso; omega)))
    | ((with_reducible apply o_call); exact sdM30; exact sdM30; exact sdM30; (first | assumption); exact sdM30; exact sdM30)
    | ((with_reducible apply o_callN); exact sdM30; exact sdM30; exact sdM30; (first | assumption); exact sdM30)
    | ((with_reducible apply d_callS); exact sdM30; exact sdM30; exact sdM30; (first | assumption); exact sdM30p; exact sdM30; exact sdM30; exact sdM30; exact sdM30)
    | ((with_reducible apply x_end); (first | exact .inl rfl | exact .inr rfl); exact sdM30; exact sdM30))
  refine x_loopG { ownRes := true } [6, 7, 45, 46, 47] (fun i : Nat => [(6, .ptr 0 0 0), (7, .d (.int .i64 t)), (45, .sl 1 0 2 false), (46, .d (.int .i64 2)), (47, .d (.int .i64 i))])
    (fun _ => [some (.flat 2 [[.int .i64 s.ver, .fsl (s.tabs.map fun t => t.cells) false false]]), some (.flat 1 [[.fsl (rowsV row) false false], [.fsl (rowsV gen) false false]])]) (fun i => i ≤ 2) (fun i => 2 - i) 0 ?_ (by omega) ?_
  · exact sdM31
  · clear cN cS cT cK cM cR
    intro i hi
    obtain rfl | rfl | rfl : i = 0 ∨ i = 1 ∨ i = 2 := by omega
    · clear hgen hgl
      have k1 := c_fits s t row 1 hSb hrow
      have k2 := c_fits s t row 2 hSb hrow
      have k3 := c_fits s t row 3 hSb hrow
      have h12 := fits_mono (s := s) (t := t) (row := row) (m := 1) (m' := 2) (by omega) (by omega) (by omega)
      have h23 := fits_mono (s := s) (t := t) (row := row) (m := 2) (m' := 3) (by omega) (by omega) (by omega)
      generalize s.fits t row 1 = f1 at *
      generalize s.fits t row 2 = f2 at *
      generalize s.fits t row 3 = f3 at *
      cases f1 <;> cases f2 <;> cases f3
      all_goals (first | (cases h12 rfl; done) | (cases h23 rfl; done) | skip)
      all_goals clear h12 h23
      all_goals (repeat' (first
    | ((with_reducible first | apply o_some | apply o_none | apply x_joined); exact sdM32; exact sdM32)
    | ((with_reducible first | apply d_some | apply d_none); exact sdM32; exact sdM32; exact sdM32)
    | ((with_reducible first | apply o_gT | apply d_gT); exact sdM32; exact sdM32)
    | ((with_reducible first | apply o_gF | apply d_gF); exact sdM32; exact sdM32; rfl)
    | ((with_reducible first | apply o_gU | apply d_gU); exact sdM32; exact sdM32)
    | ((with_reducible apply o_nilq); (exact ⟨by decide, by first | assumption | simp only [go_sem]⟩); exact sdM32; exact sdM32)
    | (with_reducible first | apply o_nil | apply x_next | apply x_seq | apply x_block | apply x_leave_normal | apply x_leave_ret | apply x_pass_ret | apply x_loop_exit | apply x_loop_ret | apply x_pass_exit | apply x_exit | apply x_ret | apply x_skip | apply x_label | apply x_join_ret | apply x_join_exit)
    | ((with_reducible apply d_end); kernel_rfl)
    | ((with_reducible apply x_region); exact sdM32)
    | ((with_reducible apply x_regionD); kernel_rfl; exact sdM32; exact sdM32)
    | ((with_reducible first | apply x_leave_exit | apply x_condT); exact sdM32)
    | ((with_reducible apply x_condF); exact sdM32)
    | ((first | ((with_reducible apply x_condB); exact sdM32) | ((with_reducible first | apply o_gB | apply d_gB); exact sdM32; exact sdM32)); all_goals intro hc; all_goals (try simp only [decide_eq_true_eq, decide_eq_false_iff_not, Bool.not_eq_true', Bool.not_eq_false', Bool.and_eq_true, Bool.or_eq_false_iff, Classical.not_not] at hc); all_goals (try (exfalso; omega)))
    | ((with_reducible apply o_call); exact sdM32; exact sdM32; exact sdM32; (first | assumption); exact sdM32; exact sdM32)
    | ((with_reducible apply o_callN); exact sdM32; exact sdM32; exact sdM32; (first | assumption); exact sdM32)
    | ((with_reducible apply d_callS); exact sdM32; exact sdM32; exact sdM32; (first | assumption); exact sdM32p; exact sdM32; exact sdM32; exact sdM32; exact sdM32)
    | ((with_reducible apply x_end); (first | exact .inl rfl | exact .inr rfl); exact sdM32; exact sdM32)))
      all_goals (refine x_again 1 (by omega) (by omega) ?_)
      all_goals (exact sdM33)
    · clear hrow
      have k1 := c_fits s t gen 1 hSb hgen
      have k2 := c_fits s t gen 2 hSb hgen
      have k3 := c_fits s t gen 3 hSb hgen
      have h12 := fits_mono (s := s) (t := t) (row := gen) (m := 1) (m' := 2) (by omega) (by omega) (by omega)
      have h23 := fits_mono (s := s) (t := t) (row := gen) (m := 2) (m' := 3) (by omega) (by omega) (by omega)
      generalize s.fits t gen 1 = f1 at *
      generalize s.fits t gen 2 = f2 at *
      generalize s.fits t gen 3 = f3 at *
      cases f1 <;> cases f2 <;> cases f3
      all_goals (first | (cases h12 rfl; done) | (cases h23 rfl; done) | skip)
      all_goals clear h12 h23
      all_goals (repeat' (first
    | ((with_reducible first | apply o_some | apply o_none | apply x_joined); exact sdM32; exact sdM32)
    | ((with_reducible first | apply d_some | apply d_none); exact sdM32; exact sdM32; exact sdM32)
    | ((with_reducible first | apply o_gT | apply d_gT); exact sdM32; exact sdM32)
    | ((with_reducible first | apply o_gF | apply d_gF); exact sdM32; exact sdM32; rfl)
    | ((with_reducible first | apply o_gU | apply d_gU); exact sdM32; exact sdM32)
    | ((with_reducible apply o_nilq); (exact ⟨by decide, by first | assumption | simp only [go_sem]⟩); exact sdM32; exact sdM32)
    | (with_reducible first | apply o_nil | apply x_next | apply x_seq | apply x_block | apply x_leave_normal | apply x_leave_ret | apply x_pass_ret | apply x_loop_exit | apply x_loop_ret | apply x_pass_exit | apply x_exit | apply x_ret | apply x_skip | apply x_label | apply x_join_ret | apply x_join_exit)
    | ((with_reducible apply d_end); kernel_rfl)
    | ((with_reducible apply x_region); exact sdM32)
    | ((with_reducible apply x_regionD); kernel_rfl; exact sdM32; exact sdM32)
    | ((with_reducible first | apply x_leave_exit | apply x_condT); exact sdM32)
    | ((with_reducible apply x_condF); exact sdM32)
    | ((first | ((with_reducible apply x_condB); exact sdM32) | ((with_reducible first | apply o_gB | apply d_gB); exact sdM32; exact sdM32)); all_goals intro hc; all_goals (try simp only [decide_eq_true_eq, decide_eq_false_iff_not, Bool.not_eq_true', Bool.not_eq_false', Bool.and_eq_true, Bool.or_eq_false_iff, Classical.not_not] at hc); all_goals (try (exfalso; omega)))
    | ((with_reducible apply o_call); exact sdM32; exact sdM32; exact sdM32; (first | assumption); exact sdM32; exact sdM32)
    | ((with_reducible apply o_callN); exact sdM32; exact sdM32; exact sdM32; (first | assumption); exact sdM32)
    | ((with_reducible apply d_callS); exact sdM32; exact sdM32; exact sdM32; (first | assumption); exact sdM32p; exact sdM32; exact sdM32; exact sdM32; exact sdM32)
    | ((with_reducible apply x_end); (first | exact .inl rfl | exact .inr rfl); exact sdM32; exact sdM32)))
      all_goals (refine x_again 2 (by omega) (by omega) ?_)
      all_goals (exact sdM33)
    · clear hrow hgen hgl hgt hgc wm m1 m2 m3 hkl
      repeat' (first
    | ((with_reducible first | apply o_some | apply o_none | apply x_joined); exact sdM3; exact sdM3)
    | ((with_reducible first | apply d_some | apply d_none); exact sdM3; exact sdM3; exact sdM3)
    | ((with_reducible first | apply o_gT | apply d_gT); exact sdM3; exact sdM3)
    | ((with_reducible first | apply o_gF | apply d_gF); exact sdM3; exact sdM3; rfl)
    | ((with_reducible first | apply o_gU | apply d_gU); exact sdM3; exact sdM3)
    | ((with_reducible apply o_nilq); (exact ⟨by decide, by first | assumption | simp only [go_sem]⟩); exact sdM3; exact sdM3)
    | (with_reducible first | apply o_nil | apply x_next | apply x_seq | apply x_block | apply x_leave_normal | apply x_leave_ret | apply x_pass_ret | apply x_loop_exit | apply x_loop_ret | apply x_pass_exit | apply x_exit | apply x_ret | apply x_skip | apply x_label | apply x_join_ret | apply x_join_exit)
    | ((with_reducible apply d_end); kernel_rfl)
    | ((with_reducible apply x_region); exact sdM3)
    | ((with_reducible apply x_regionD); kernel_rfl; exact sdM3; exact sdM3)
    | ((with_reducible first | apply x_leave_exit | apply x_condT); exact sdM3)
    | ((with_reducible apply x_condF); exact sdM3)
    | ((first | ((with_reducible apply x_condB); exact sdM3) | ((with_reducible first | apply o_gB | apply d_gB); exact sdM3; exact sdM3)); all_goals intro hc; all_goals (try simp only [decide_eq_true_eq, decide_eq_false_iff_not, Bool.not_eq_true', Bool.not_eq_false', Bool.and_eq_true, Bool.or_eq_false_iff, Classical.not_not] at hc); all_goals (try (exfalso; omega)))
    | ((with_reducible apply o_call); exact sdM3; exact sdM3; exact sdM3; (first | assumption); exact sdM3; exact sdM3)
    | ((with_reducible apply o_callN); exact sdM3; exact sdM3; exact sdM3; (first | assumption); exact sdM3)
    | ((with_reducible apply d_callS); exact sdM3; exact sdM3; exact sdM3; (first | assumption); exact sdM3p; exact sdM3; exact sdM3; exact sdM3; exact sdM3)
    | ((with_reducible apply x_end); (first | exact .inl rfl | exact .inr rfl); exact sdM3; exact sdM3))
      refine x_loopG { ownRes := true } [6, 77, 78, 79] (fun i : Nat => [(6, .ptr 0 0 0), (77, .d (.fsl (s.tabs.map fun t => t.cells) false false)), (78, .d (.int .i64 s.tabs.length)), (79, .d (.int .i64 i))])
        (fun _ => [some (.flat 2 [[.int .i64 s.ver, .fsl (s.tabs.map fun t => t.cells) false false]])]) (fun i => i ≤ s.tabs.length) (fun i => s.tabs.length - i) 0 ?_ (by omega) ?_
      · exact sdM3
      · intro i hi
        by_cases hlt : i < s.tabs.length
        · have hlt' : (i : Int) < s.tabs.length := by omega
          have hgi : s.tabs[i]? = some s.tabs[i] := List.getElem?_eq_getElem hlt
          obtain ⟨hrl, hru⟩ := hR i _ hgi
          generalize s.tabs[i] = x at hgi hrl hru
          repeat' (first
    | ((with_reducible first | apply o_some | apply o_none | apply x_joined); exact sdM31; exact sdM31)
    | ((with_reducible first | apply d_some | apply d_none); exact sdM31; exact sdM31; exact sdM31)
    | ((with_reducible first | apply o_gT | apply d_gT); exact sdM31; exact sdM31)
    | ((with_reducible first | apply o_gF | apply d_gF); exact sdM31; exact sdM31; rfl)
    | ((with_reducible first | apply o_gU | apply d_gU); exact sdM31; exact sdM31)
    | ((with_reducible apply o_nilq); (exact ⟨by decide, by first | assumption | simp only [go_sem]⟩); exact sdM31; exact sdM31)
    | (with_reducible first | apply o_nil | apply x_next | apply x_seq | apply x_block | apply x_leave_normal | apply x_leave_ret | apply x_pass_ret | apply x_loop_exit | apply x_loop_ret | apply x_pass_exit | apply x_exit | apply x_ret | apply x_skip | apply x_label | apply x_join_ret | apply x_join_exit)
    | ((with_reducible apply d_end); kernel_rfl)
    | ((with_reducible apply x_region); exact sdM31)
    | ((with_reducible apply x_regionD); kernel_rfl; exact sdM31; exact sdM31)
    | ((with_reducible first | apply x_leave_exit | apply x_condT); exact sdM31)
    | ((with_reducible apply x_condF); exact sdM31)
    | ((first | ((with_reducible apply x_condB); exact sdM31) | ((with_reducible first | apply o_gB | apply d_gB); exact sdM31; exact sdM31)); all_goals intro hc; all_goals (try simp only [decide_eq_true_eq, decide_eq_false_iff_not, Bool.not_eq_true', Bool.not_eq_false', Bool.and_eq_true, Bool.or_eq_false_iff, Classical.not_not] at hc); all_goals (try (exfalso; omega)))
    | ((with_reducible apply x_end); (first | exact .inl rfl | exact .inr rfl); exact sdM31; exact sdM31))
          refine x_loopG { ownRes := true } [6, 13, 77, 78, 79, 85, 86, 87] (fun j : Nat => [(6, .ptr 0 0 0), (13, .d (.int .i64 i)), (77, .d (.fsl (s.tabs.map fun t => t.cells) false false)), (78, .d (.int .i64 s.tabs.length)), (79, .d (.int .i64 i)), (85, .d (.fsl (x.refs.map fun r => r.cells) false false)), (86, .d (.int .i64 x.refs.length)), (87, .d (.int .i64 j))])
            (fun _ => [some (.flat 2 [[.int .i64 s.ver, .fsl (s.tabs.map fun t => t.cells) false false]])]) (fun j => j ≤ x.refs.length) (fun j => x.refs.length - j) 0 ?_ (by omega) ?_
          · exact sdM31
          · intro j hj
            by_cases hjt : j < x.refs.length
            · have hjt' : (j : Int) < x.refs.length := by omega
              have hgj : x.refs[j]? = some x.refs[j] := List.getElem?_eq_getElem hjt
              obtain ⟨r1, r2, r3, y, r4, r5, r6, r7, r8⟩ := hru _ (List.getElem_mem hjt)
              generalize x.refs[j] = u at hgj r1 r2 r3 r4 r5 r6 r8
              have kK := c_kinds s i hSb (fun x hx => by have := hB x hx; omega)
              have kY := c_keyKinds s u.table y r4 r5 r6 r7 r8 hSb (fun x hx => by have := hB x hx; omega)
              repeat' (first
    | ((with_reducible first | apply o_some | apply o_none | apply x_joined); exact sdM35; exact sdM35)
    | ((with_reducible first | apply d_some | apply d_none); exact sdM35; exact sdM35; exact sdM35)
    | ((with_reducible first | apply o_gT | apply d_gT); exact sdM35; exact sdM35)
    | ((with_reducible first | apply o_gF | apply d_gF); exact sdM35; exact sdM35; rfl)
    | ((with_reducible first | apply o_gU | apply d_gU); exact sdM35; exact sdM35)
    | ((with_reducible apply o_nilq); (exact ⟨by decide, by first | assumption | simp only [go_sem]⟩); exact sdM35; exact sdM35)
    | (with_reducible first | apply o_nil | apply x_next | apply x_seq | apply x_block | apply x_leave_normal | apply x_leave_ret | apply x_pass_ret | apply x_loop_exit | apply x_loop_ret | apply x_pass_exit | apply x_exit | apply x_ret | apply x_skip | apply x_label | apply x_join_ret | apply x_join_exit)
    | ((with_reducible apply d_end); kernel_rfl)
    | ((with_reducible apply x_region); exact sdM35)
    | ((with_reducible apply x_regionD); kernel_rfl; exact sdM35; exact sdM35)
    | ((with_reducible first | apply x_leave_exit | apply x_condT); exact sdM35)
    | ((with_reducible apply x_condF); exact sdM35)
    | ((first | ((with_reducible apply x_condB); exact sdM35) | ((with_reducible first | apply o_gB | apply d_gB); exact sdM35; exact sdM35)); all_goals intro hc; all_goals (try simp only [decide_eq_true_eq, decide_eq_false_iff_not, Bool.not_eq_true', Bool.not_eq_false', Bool.and_eq_true, Bool.or_eq_false_iff, Classical.not_not] at hc); all_goals (try (exfalso; omega)))
    | ((with_reducible apply o_call); exact sdM35; exact sdM35; exact sdM35; (first | exact kK); exact sdM35; exact sdM35)
    | ((with_reducible apply o_callN); exact sdM35; exact sdM35; exact sdM35; (first | exact kK); exact sdM35)
    | ((with_reducible apply d_callS); exact sdM35; exact sdM35; exact sdM35; (first | exact kK); exact sdM35p; exact sdM35; exact sdM35; exact sdM35; exact sdM35)
    | ((with_reducible apply x_end); (first | exact .inl rfl | exact .inr rfl); exact sdM35; exact sdM35))
              refine x_loopG { ownRes := true } [6, 13, 16, 17, 18, 77, 78, 79, 85, 86, 87, 95, 96, 97] (fun k : Nat => [(6, .ptr 0 0 0), (13, .d (.int .i64 i)), (16, .ptr 1 0 0), (17, vI ((u.cols.take k).map fun c => (s.kinds i).getD c.toNat 0)), (18, .d (.fsl (rowsI (s.kinds i)) false false)), (77, .d (.fsl (s.tabs.map fun t => t.cells) false false)), (78, .d (.int .i64 s.tabs.length)), (79, .d (.int .i64 i)), (85, .d (.fsl (x.refs.map fun r => r.cells) false false)), (86, .d (.int .i64 x.refs.length)), (87, .d (.int .i64 j)), (95, .d (.fsl (rowsI u.cols) false false)), (96, .d (.int .i64 u.cols.length)), (97, .d (.int .i64 k))])
                (fun k => hI s.ver s.tabs u ((u.cols.take k).map fun c => (s.kinds i).getD c.toNat 0)) (fun k => k ≤ u.cols.length) (fun k => u.cols.length - k) 0 ?_ (by omega) ?_
              · exact sdM36
              · intro k hk
                by_cases hkt : k < u.cols.length
                · have hkt' : (k : Int) < u.cols.length := by omega
                  have hgk : u.cols[k]? = some u.cols[k] := List.getElem?_eq_getElem hkt
                  obtain ⟨q1, q2⟩ := r1 _ (List.getElem_mem hkt)
                  have e2 : ((u.cols.take (k + 1)).map fun c => (s.kinds i).getD c.toNat 0) = ((u.cols.take k).map fun c => (s.kinds i).getD c.toNat 0) ++ [(s.kinds i).getD (u.cols[k]).toNat 0] := by
                    rw [List.take_succ_eq_append_getElem hkt, List.map_append]; rfl
                  generalize u.cols[k] = c at hgk q1 q2 e2
                  have hgK : (s.kinds i)[c.toNat]? = some ((s.kinds i).getD c.toNat 0) := by
                    have : c.toNat < (s.kinds i).length := by omega
                    simp [List.getD, this]
                  have hnl : ¬ ((s.kinds i).length : Int) ≤ c := by omega
                  have hl : ((u.cols.take k).map fun c => (s.kinds i).getD c.toNat 0).length ≤ 1000 := by rw [List.length_map, List.length_take]; omega
                  generalize (s.kinds i).getD c.toNat 0 = z at hgK e2
                  generalize ((u.cols.take k).map fun c => (s.kinds i).getD c.toNat 0) = l at e2 hl
                  clear r1 r2 kK kY r4 r5 r6 r7 r8
                  rcases l with _ | ⟨w, r⟩
                  · repeat' (first
    | ((with_reducible first | apply o_some | apply o_none | apply x_joined); exact sdM37; exact sdM37)
    | ((with_reducible first | apply d_some | apply d_none); exact sdM37; exact sdM37; exact sdM37)
    | ((with_reducible first | apply o_gT | apply d_gT); exact sdM37; exact sdM37)
    | ((with_reducible first | apply o_gF | apply d_gF); exact sdM37; exact sdM37; rfl)
    | ((with_reducible first | apply o_gU | apply d_gU); exact sdM37; exact sdM37)
    | ((with_reducible apply o_nilq); (exact ⟨by decide, by first | assumption | simp only [go_sem]⟩); exact sdM37; exact sdM37)
    | (with_reducible first | apply o_nil | apply x_next | apply x_seq | apply x_block | apply x_leave_normal | apply x_leave_ret | apply x_pass_ret | apply x_loop_exit | apply x_loop_ret | apply x_pass_exit | apply x_exit | apply x_ret | apply x_skip | apply x_label | apply x_join_ret | apply x_join_exit)
    | ((with_reducible apply d_end); kernel_rfl)
    | ((with_reducible apply x_region); exact sdM37)
    | ((with_reducible apply x_regionD); kernel_rfl; exact sdM37; exact sdM37)
    | ((with_reducible first | apply x_leave_exit | apply x_condT); exact sdM37)
    | ((with_reducible apply x_condF); exact sdM37)
    | ((first | ((with_reducible apply x_condB); exact sdM37) | ((with_reducible first | apply o_gB | apply d_gB); exact sdM37; exact sdM37)); all_goals intro hc; all_goals (try simp only [decide_eq_true_eq, decide_eq_false_iff_not, Bool.not_eq_true', Bool.not_eq_false', Bool.and_eq_true, Bool.or_eq_false_iff, Classical.not_not] at hc); all_goals (try (exfalso; omega)))
    | ((with_reducible apply x_end); (first | exact .inl rfl | exact .inr rfl); exact sdM37; exact sdM37))
                    refine x_again (k + 1) (by omega) (by omega) ?_
                    rw [e2]
                    exact sdM38
                  · rw [List.length_cons] at hl
                    repeat' (first
    | ((with_reducible first | apply o_some | apply o_none | apply x_joined); exact sdM37; exact sdM37)
    | ((with_reducible first | apply d_some | apply d_none); exact sdM37; exact sdM37; exact sdM37)
    | ((with_reducible first | apply o_gT | apply d_gT); exact sdM37; exact sdM37)
    | ((with_reducible first | apply o_gF | apply d_gF); exact sdM37; exact sdM37; rfl)
    | ((with_reducible first | apply o_gU | apply d_gU); exact sdM37; exact sdM37)
    | ((with_reducible apply o_nilq); (exact ⟨by decide, by first | assumption | simp only [go_sem]⟩); exact sdM37; exact sdM37)
    | (with_reducible first | apply o_nil | apply x_next | apply x_seq | apply x_block | apply x_leave_normal | apply x_leave_ret | apply x_pass_ret | apply x_loop_exit | apply x_loop_ret | apply x_pass_exit | apply x_exit | apply x_ret | apply x_skip | apply x_label | apply x_join_ret | apply x_join_exit)
    | ((with_reducible apply d_end); kernel_rfl)
    | ((with_reducible apply x_region); exact sdM37)
    | ((with_reducible apply x_regionD); kernel_rfl; exact sdM37; exact sdM37)
    | ((with_reducible first | apply x_leave_exit | apply x_condT); exact sdM37)
    | ((with_reducible apply x_condF); exact sdM37)
    | ((first | ((with_reducible apply x_condB); exact sdM37) | ((with_reducible first | apply o_gB | apply d_gB); exact sdM37; exact sdM37)); all_goals intro hc; all_goals (try simp only [decide_eq_true_eq, decide_eq_false_iff_not, Bool.not_eq_true', Bool.not_eq_false', Bool.and_eq_true, Bool.or_eq_false_iff, Classical.not_not] at hc); all_goals (try (exfalso; omega)))
    | ((with_reducible apply x_end); (first | exact .inl rfl | exact .inr rfl); exact sdM37; exact sdM37))
                    refine x_again (k + 1) (by omega) (by omega) ?_
                    rw [e2]
                    exact sdM39
                · have hkt' : ¬ (k : Int) < u.cols.length := by omega
                  have hke : k = u.cols.length := by omega
                  rw [hke, List.take_length, r2]
                  have kS := c_same (s.keyKinds u.table) (s.keyKinds u.table) (by rw [← r2, List.length_map]; omega)
                  rw [sameL_iff.2 rfl] at kS
                  clear r1 r2 kK r4 r5 r6 r7 r8
                  subst hke
                  generalize s.keyKinds u.table = l at kS kY
                  rcases l with _ | ⟨w, r⟩
                  all_goals (repeat' (first
    | ((with_reducible first | apply o_some | apply o_none | apply x_joined); exact sdM310; exact sdM310)
    | ((with_reducible first | apply d_some | apply d_none); exact sdM310; exact sdM310; exact sdM310)
    | ((with_reducible first | apply o_gT | apply d_gT); exact sdM310; exact sdM310)
    | ((with_reducible first | apply o_gF | apply d_gF); exact sdM310; exact sdM310; rfl)
    | ((with_reducible first | apply o_gU | apply d_gU); exact sdM310; exact sdM310)
    | ((with_reducible apply o_nilq); (exact ⟨by decide, by first | assumption | simp only [go_sem]⟩); exact sdM310; exact sdM310)
    | (with_reducible first | apply o_nil | apply x_next | apply x_seq | apply x_block | apply x_leave_normal | apply x_leave_ret | apply x_pass_ret | apply x_loop_exit | apply x_loop_ret | apply x_pass_exit | apply x_exit | apply x_ret | apply x_skip | apply x_label | apply x_join_ret | apply x_join_exit)
    | ((with_reducible apply d_end); kernel_rfl)
    | ((with_reducible apply x_region); exact sdM310)
    | ((with_reducible apply x_regionD); kernel_rfl; exact sdM310; exact sdM310)
    | ((with_reducible first | apply x_leave_exit | apply x_condT); exact sdM310)
    | ((with_reducible apply x_condF); exact sdM310)
    | ((first | ((with_reducible apply x_condB); exact sdM310) | ((with_reducible first | apply o_gB | apply d_gB); exact sdM310; exact sdM310)); all_goals intro hc; all_goals (try simp only [decide_eq_true_eq, decide_eq_false_iff_not, Bool.not_eq_true', Bool.not_eq_false', Bool.and_eq_true, Bool.or_eq_false_iff, Classical.not_not] at hc); all_goals (try (exfalso; omega)))
    | ((with_reducible apply o_call); exact sdM310; exact sdM310; exact sdM310; (first | exact kY | exact kS); exact sdM310; exact sdM310)
    | ((with_reducible apply o_callN); exact sdM310; exact sdM310; exact sdM310; (first | exact kY | exact kS); exact sdM310)
    | ((with_reducible apply d_callS); exact sdM310; exact sdM310; exact sdM310; (first | exact kY | exact kS); exact sdM310p; exact sdM310; exact sdM310; exact sdM310; exact sdM310)
    | ((with_reducible apply x_end); (first | exact .inl rfl | exact .inr rfl); exact sdM310; exact sdM310)))
                  all_goals (refine x_again (j + 1) (by omega) (by omega) ?_)
                  all_goals (exact sdM311)
            · have hjt' : ¬ (j : Int) < x.refs.length := by omega
              repeat' (first
    | ((with_reducible first | apply o_some | apply o_none | apply x_joined); exact sdM3; exact sdM3)
    | ((with_reducible first | apply d_some | apply d_none); exact sdM3; exact sdM3; exact sdM3)
    | ((with_reducible first | apply o_gT | apply d_gT); exact sdM3; exact sdM3)
    | ((with_reducible first | apply o_gF | apply d_gF); exact sdM3; exact sdM3; rfl)
    | ((with_reducible first | apply o_gU | apply d_gU); exact sdM3; exact sdM3)
    | ((with_reducible apply o_nilq); (exact ⟨by decide, by first | assumption | simp only [go_sem]⟩); exact sdM3; exact sdM3)
    | (with_reducible first | apply o_nil | apply x_next | apply x_seq | apply x_block | apply x_leave_normal | apply x_leave_ret | apply x_pass_ret | apply x_loop_exit | apply x_loop_ret | apply x_pass_exit | apply x_exit | apply x_ret | apply x_skip | apply x_label | apply x_join_ret | apply x_join_exit)
    | ((with_reducible apply d_end); kernel_rfl)
    | ((with_reducible apply x_region); exact sdM3)
    | ((with_reducible apply x_regionD); kernel_rfl; exact sdM3; exact sdM3)
    | ((with_reducible first | apply x_leave_exit | apply x_condT); exact sdM3)
    | ((with_reducible apply x_condF); exact sdM3)
    | ((first | ((with_reducible apply x_condB); exact sdM3) | ((with_reducible first | apply o_gB | apply d_gB); exact sdM3; exact sdM3)); all_goals intro hc; all_goals (try simp only [decide_eq_true_eq, decide_eq_false_iff_not, Bool.not_eq_true', Bool.not_eq_false', Bool.and_eq_true, Bool.or_eq_false_iff, Classical.not_not] at hc); all_goals (try (exfalso; omega)))
    | ((with_reducible apply x_end); (first | exact .inl rfl | exact .inr rfl); exact sdM3; exact sdM3))
              refine x_again (i + 1) (by omega) (by omega) ?_
              exact sdM312
        · have hlt' : ¬ (i : Int) < s.tabs.length := by omega
          repeat' (first
    | ((with_reducible first | apply o_some | apply o_none | apply x_joined); exact sdM3; exact sdM3)
    | ((with_reducible first | apply d_some | apply d_none); exact sdM3; exact sdM3; exact sdM3)
    | ((with_reducible first | apply o_gT | apply d_gT); exact sdM3; exact sdM3)
    | ((with_reducible first | apply o_gF | apply d_gF); exact sdM3; exact sdM3; rfl)
    | ((with_reducible first | apply o_gU | apply d_gU); exact sdM3; exact sdM3)
    | ((with_reducible apply o_nilq); (exact ⟨by decide, by first | assumption | simp only [go_sem]⟩); exact sdM3; exact sdM3)
    | (with_reducible first | apply o_nil | apply x_next | apply x_seq | apply x_block | apply x_leave_normal | apply x_leave_ret | apply x_pass_ret | apply x_loop_exit | apply x_loop_ret | apply x_pass_exit | apply x_exit | apply x_ret | apply x_skip | apply x_label | apply x_join_ret | apply x_join_exit)
    | ((with_reducible apply d_end); kernel_rfl)
    | ((with_reducible apply x_region); exact sdM3)
    | ((with_reducible apply x_regionD); kernel_rfl; exact sdM3; exact sdM3)
    | ((with_reducible first | apply x_leave_exit | apply x_condT); exact sdM3)
    | ((with_reducible apply x_condF); exact sdM3)
    | ((first | ((with_reducible apply x_condB); exact sdM3) | ((with_reducible first | apply o_gB | apply d_gB); exact sdM3; exact sdM3)); all_goals intro hc; all_goals (try simp only [decide_eq_true_eq, decide_eq_false_iff_not, Bool.not_eq_true', Bool.not_eq_false', Bool.and_eq_true, Bool.or_eq_false_iff, Classical.not_not] at hc); all_goals (try (exfalso; omega)))
    | ((with_reducible apply o_call); exact sdM3; exact sdM3; exact sdM3; (first | assumption); exact sdM3; exact sdM3)
    | ((with_reducible apply o_callN); exact sdM3; exact sdM3; exact sdM3; (first | assumption); exact sdM3)
    | ((with_reducible apply d_callS); exact sdM3; exact sdM3; exact sdM3; (first | assumption); exact sdM3p; exact sdM3; exact sdM3; exact sdM3; exact sdM3)
    | ((with_reducible apply x_end); (first | exact .inl rfl | exact .inr rfl); exact sdM3; exact sdM3))
          all_goals exact ⟨rfl, rfl⟩
end Go.Proofs.Ytfdekggfdklfeaa
