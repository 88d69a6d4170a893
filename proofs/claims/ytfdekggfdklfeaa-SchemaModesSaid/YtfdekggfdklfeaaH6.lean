/-
  Contracts: whether a schema without references is sound.
-/
import Derived.Test.YtfdekggfdklfeaaH3
set_option linter.all false
set_option linter.unusedVariables false
set_option linter.unusedSimpArgs false
namespace Go.Proofs.Ytfdekggfdklfeaa
open Go.Ab
attribute [local irreducible] seqK blockK loopK endK
set_option maxRecDepth 10000
set_option maxHeartbeats 64000000
def mp (ns : List ByteArray) : List (DV × AV) := ns.map fun n => (.str n, .d (.bool true))
@[go_sem] theorem ids_mp {ns : List ByteArray} : AO.ids (.map (mp ns)) = [] := by
  simp only [AO.ids, mp]
  induction ns with
  | nil => rfl
  | cons n r ih => simp only [List.map_cons, List.flatMap_cons, AV.ids, List.nil_append]; exact ih
@[go_sem] theorem ren_mp {ns : List ByteArray} {ρ : Nat → Nat} : AO.ren ρ (.map (mp ns)) = .map (mp ns) := by
  simp [AO.ren, mp, AV.ren]
@[go_sem] theorem fm_mp {ns : List ByteArray} : (mp ns).flatMap (fun x => x.2.ids) = [] := by
  simp only [mp]
  induction ns with
  | nil => rfl
  | cons n r ih => simp only [List.map_cons, List.flatMap_cons, AV.ids, List.nil_append]; exact ih
@[go_sem] theorem rm_mp {ns : List ByteArray} {ρ : Nat → Nat} : (mp ns).map (fun x => (x.1, AV.ren ρ x.2)) = mp ns := by
  simp [mp, AV.ren]
def memB (k : ByteArray) : List ByteArray → Bool
  | [] => false
  | n :: r => decide (k = n) || memB k r
theorem memB_iff {k : ByteArray} : ∀ {ns : List ByteArray}, memB k ns = true ↔ k ∈ ns
  | [] => by simp [memB]
  | n :: r => by simp [memB, memB_iff (ns := r)]
@[go_sem] theorem mapFind_mp {k : ByteArray} : ∀ {ns : List ByteArray}, mapFind .s (.str k) (mp ns) = some (bif memB k ns then some (.d (.bool true)) else none)
  | [] => by simp [mp, mapFind, memB]
  | n :: r => by
    have ih := mapFind_mp (k := k) (ns := r)
    rw [mp] at ih ⊢
    rw [List.map_cons, mapFind, ih]
    by_cases h : k = n
    · simp [eqKs, ba_beq, memB, h]
    · simp [eqKs, ba_beq, memB, h]
theorem mapSet_mp {k : ByteArray} : ∀ {ns : List ByteArray}, memB k ns = false → mapSet .s (.str k) (.d (.bool true)) (mp ns) = some (mp (ns ++ [k]))
  | [], _ => by simp [mp, mapSet]
  | n :: r, h => by
    simp only [memB, Bool.or_eq_false_iff, decide_eq_false_iff_not] at h
    have ih := mapSet_mp (k := k) (ns := r) h.2
    rw [mp] at ih
    rw [mp, List.map_cons, mapSet, ih]
    simp [eqKs, ba_beq, h.1, mp]
attribute [go_sem] mapSet_mp cond_true cond_false Option.isSome_none Option.isSome_some
def Col.okc (seen : List ByteArray) (c : Col) : Bool := nameB c.name && !memB c.name seen && decide (c.kind = 3 ∨ c.kind = 4 ∨ c.kind = 5)
def colsOk : List ByteArray → List Col → Bool
  | _, [] => true
  | seen, c :: r => c.okc seen && colsOk (seen ++ [c.name]) r
def Tab.okt (seen : List ByteArray) (t : Tab) : Bool := nameB t.name && !memB t.name seen && decide (0 < t.cols.length ∧ 1 ≤ t.key ∧ t.key ≤ t.cols.length) && colsOk [] t.cols
def tabsOk : List ByteArray → List Tab → Bool
  | _, [] => true
  | seen, t :: r => t.okt seen && tabsOk (seen ++ [t.name]) r
def Sch.soundN (s : Sch) : Bool := decide (0 ≤ s.ver ∧ s.ver ≤ 1000) && tabsOk [] s.tabs
theorem sdH60 {α : Type _} {a b : α} (h : a = b := by (first | (simp (maxSteps := 2000000) (disch := first | assumption | omega | (simp only [go_sem] <;> with_reducible rfl)) only [go_sem, ↓reduceIte, ↓reduceDIte, Nat.reduceEqDiff, reduceCtorEq, Nat.reduceAdd, Nat.reduceSub, Nat.reduceMul, Nat.reduceBEq, Nat.reduceBNe, Nat.reduceLeDiff, Nat.reduceLT, Int.reduceLT, Int.reduceLE, Int.reduceToNat, Int.reduceEq, Int.reduceNeg, Int.reduceAdd, Int.reduceSub, Int.reduceMul, Nat.reduceMod, Nat.reduceDiv, Nat.reducePow, BEq.rfl, gt_iff_lt, ge_iff_le, *, Sch.cells] <;> with_reducible rfl) | with_reducible rfl)) : a = b := h
theorem sdH60p {a b : Nat} (h : a ≤ b := by (first | (simp (maxSteps := 2000000) (disch := first | assumption | omega | (simp only [go_sem] <;> with_reducible rfl)) only [go_sem, ↓reduceIte, ↓reduceDIte, Nat.reduceEqDiff, reduceCtorEq, Nat.reduceAdd, Nat.reduceSub, Nat.reduceMul, Nat.reduceBEq, Nat.reduceBNe, Nat.reduceLeDiff, Nat.reduceLT, Int.reduceLT, Int.reduceLE, Int.reduceToNat, Int.reduceEq, Int.reduceNeg, Int.reduceAdd, Int.reduceSub, Int.reduceMul, Nat.reduceMod, Nat.reduceDiv, Nat.reducePow, BEq.rfl, gt_iff_lt, ge_iff_le, *, Sch.cells] <;> with_reducible rfl) | with_reducible rfl)) : a ≤ b := h
theorem sdH61 {α : Type _} {a b : α} (h : a = b := by (first | (simp (maxSteps := 2000000) (disch := first | assumption | omega | (simp only [go_sem] <;> with_reducible rfl)) only [go_sem, ↓reduceIte, ↓reduceDIte, Nat.reduceEqDiff, reduceCtorEq, Nat.reduceAdd, Nat.reduceSub, Nat.reduceMul, Nat.reduceBEq, Nat.reduceBNe, Nat.reduceLeDiff, Nat.reduceLT, Int.reduceLT, Int.reduceLE, Int.reduceToNat, Int.reduceEq, Int.reduceNeg, Int.reduceAdd, Int.reduceSub, Int.reduceMul, Nat.reduceMod, Nat.reduceDiv, Nat.reducePow, BEq.rfl, gt_iff_lt, ge_iff_le, *, mp, List.map_nil] <;> with_reducible rfl) | with_reducible rfl)) : a = b := h
theorem sdH61p {a b : Nat} (h : a ≤ b := by (first | (simp (maxSteps := 2000000) (disch := first | assumption | omega | (simp only [go_sem] <;> with_reducible rfl)) only [go_sem, ↓reduceIte, ↓reduceDIte, Nat.reduceEqDiff, reduceCtorEq, Nat.reduceAdd, Nat.reduceSub, Nat.reduceMul, Nat.reduceBEq, Nat.reduceBNe, Nat.reduceLeDiff, Nat.reduceLT, Int.reduceLT, Int.reduceLE, Int.reduceToNat, Int.reduceEq, Int.reduceNeg, Int.reduceAdd, Int.reduceSub, Int.reduceMul, Nat.reduceMod, Nat.reduceDiv, Nat.reducePow, BEq.rfl, gt_iff_lt, ge_iff_le, *, mp, List.map_nil] <;> with_reducible rfl) | with_reducible rfl)) : a ≤ b := h
theorem sdH62 {α : Type _} {a b : α} (h : a = b := by (first | (simp (maxSteps := 2000000) (disch := first | assumption | omega | (simp only [go_sem] <;> with_reducible rfl)) only [go_sem, ↓reduceIte, ↓reduceDIte, Nat.reduceEqDiff, reduceCtorEq, Nat.reduceAdd, Nat.reduceSub, Nat.reduceMul, Nat.reduceBEq, Nat.reduceBNe, Nat.reduceLeDiff, Nat.reduceLT, Int.reduceLT, Int.reduceLE, Int.reduceToNat, Int.reduceEq, Int.reduceNeg, Int.reduceAdd, Int.reduceSub, Int.reduceMul, Nat.reduceMod, Nat.reduceDiv, Nat.reducePow, BEq.rfl, gt_iff_lt, ge_iff_le, *, Sch.cells, Tab.cells] <;> with_reducible rfl) | with_reducible rfl)) : a = b := h
theorem sdH62p {a b : Nat} (h : a ≤ b := by (first | (simp (maxSteps := 2000000) (disch := first | assumption | omega | (simp only [go_sem] <;> with_reducible rfl)) only [go_sem, ↓reduceIte, ↓reduceDIte, Nat.reduceEqDiff, reduceCtorEq, Nat.reduceAdd, Nat.reduceSub, Nat.reduceMul, Nat.reduceBEq, Nat.reduceBNe, Nat.reduceLeDiff, Nat.reduceLT, Int.reduceLT, Int.reduceLE, Int.reduceToNat, Int.reduceEq, Int.reduceNeg, Int.reduceAdd, Int.reduceSub, Int.reduceMul, Nat.reduceMod, Nat.reduceDiv, Nat.reducePow, BEq.rfl, gt_iff_lt, ge_iff_le, *, Sch.cells, Tab.cells] <;> with_reducible rfl) | with_reducible rfl)) : a ≤ b := h
theorem sdH63 {α : Type _} {a b : α} (h : a = b := by (first | (simp (maxSteps := 2000000) (disch := first | assumption | omega | (simp only [go_sem] <;> with_reducible rfl)) only [go_sem, ↓reduceIte, ↓reduceDIte, Nat.reduceEqDiff, reduceCtorEq, Nat.reduceAdd, Nat.reduceSub, Nat.reduceMul, Nat.reduceBEq, Nat.reduceBNe, Nat.reduceLeDiff, Nat.reduceLT, Int.reduceLT, Int.reduceLE, Int.reduceToNat, Int.reduceEq, Int.reduceNeg, Int.reduceAdd, Int.reduceSub, Int.reduceMul, Nat.reduceMod, Nat.reduceDiv, Nat.reducePow, BEq.rfl, gt_iff_lt, ge_iff_le, *, Tab.cells] <;> with_reducible rfl) | with_reducible rfl)) : a = b := h
theorem sdH63p {a b : Nat} (h : a ≤ b := by (first | (simp (maxSteps := 2000000) (disch := first | assumption | omega | (simp only [go_sem] <;> with_reducible rfl)) only [go_sem, ↓reduceIte, ↓reduceDIte, Nat.reduceEqDiff, reduceCtorEq, Nat.reduceAdd, Nat.reduceSub, Nat.reduceMul, Nat.reduceBEq, Nat.reduceBNe, Nat.reduceLeDiff, Nat.reduceLT, Int.reduceLT, Int.reduceLE, Int.reduceToNat, Int.reduceEq, Int.reduceNeg, Int.reduceAdd, Int.reduceSub, Int.reduceMul, Nat.reduceMod, Nat.reduceDiv, Nat.reducePow, BEq.rfl, gt_iff_lt, ge_iff_le, *, Tab.cells] <;> with_reducible rfl) | with_reducible rfl)) : a ≤ b := h
theorem sdH64 {α : Type _} {a b : α} (h : a = b := by (first | (simp (maxSteps := 2000000) (disch := first | assumption | omega | (simp only [go_sem] <;> with_reducible rfl)) only [go_sem, ↓reduceIte, ↓reduceDIte, Nat.reduceEqDiff, reduceCtorEq, Nat.reduceAdd, Nat.reduceSub, Nat.reduceMul, Nat.reduceBEq, Nat.reduceBNe, Nat.reduceLeDiff, Nat.reduceLT, Int.reduceLT, Int.reduceLE, Int.reduceToNat, Int.reduceEq, Int.reduceNeg, Int.reduceAdd, Int.reduceSub, Int.reduceMul, Nat.reduceMod, Nat.reduceDiv, Nat.reducePow, BEq.rfl, gt_iff_lt, ge_iff_le, *, Sch.cells, Tab.cells, Col.cells] <;> with_reducible rfl) | with_reducible rfl)) : a = b := h
theorem sdH64p {a b : Nat} (h : a ≤ b := by (first | (simp (maxSteps := 2000000) (disch := first | assumption | omega | (simp only [go_sem] <;> with_reducible rfl)) only [go_sem, ↓reduceIte, ↓reduceDIte, Nat.reduceEqDiff, reduceCtorEq, Nat.reduceAdd, Nat.reduceSub, Nat.reduceMul, Nat.reduceBEq, Nat.reduceBNe, Nat.reduceLeDiff, Nat.reduceLT, Int.reduceLT, Int.reduceLE, Int.reduceToNat, Int.reduceEq, Int.reduceNeg, Int.reduceAdd, Int.reduceSub, Int.reduceMul, Nat.reduceMod, Nat.reduceDiv, Nat.reducePow, BEq.rfl, gt_iff_lt, ge_iff_le, *, Sch.cells, Tab.cells, Col.cells] <;> with_reducible rfl) | with_reducible rfl)) : a ≤ b := h
theorem sdH65 {α : Type _} {a b : α} (h : a = b := by (first | (simp (maxSteps := 2000000) (disch := first | assumption | omega | (simp only [go_sem] <;> with_reducible rfl)) only [go_sem, ↓reduceIte, ↓reduceDIte, Nat.reduceEqDiff, reduceCtorEq, Nat.reduceAdd, Nat.reduceSub, Nat.reduceMul, Nat.reduceBEq, Nat.reduceBNe, Nat.reduceLeDiff, Nat.reduceLT, Int.reduceLT, Int.reduceLE, Int.reduceToNat, Int.reduceEq, Int.reduceNeg, Int.reduceAdd, Int.reduceSub, Int.reduceMul, Nat.reduceMod, Nat.reduceDiv, Nat.reducePow, BEq.rfl, gt_iff_lt, ge_iff_le, *, Int.natCast_add, Int.natCast_one, Tab.cells, Col.cells] <;> with_reducible rfl) | with_reducible rfl)) : a = b := h
theorem sdH65p {a b : Nat} (h : a ≤ b := by (first | (simp (maxSteps := 2000000) (disch := first | assumption | omega | (simp only [go_sem] <;> with_reducible rfl)) only [go_sem, ↓reduceIte, ↓reduceDIte, Nat.reduceEqDiff, reduceCtorEq, Nat.reduceAdd, Nat.reduceSub, Nat.reduceMul, Nat.reduceBEq, Nat.reduceBNe, Nat.reduceLeDiff, Nat.reduceLT, Int.reduceLT, Int.reduceLE, Int.reduceToNat, Int.reduceEq, Int.reduceNeg, Int.reduceAdd, Int.reduceSub, Int.reduceMul, Nat.reduceMod, Nat.reduceDiv, Nat.reducePow, BEq.rfl, gt_iff_lt, ge_iff_le, *, Int.natCast_add, Int.natCast_one, Tab.cells, Col.cells] <;> with_reducible rfl) | with_reducible rfl)) : a ≤ b := h
theorem sdH6 {α : Type _} {a b : α} (h : a = b := by (first | (simp (maxSteps := 2000000) (disch := first | assumption | omega | (simp only [go_sem] <;> with_reducible rfl)) only [go_sem, ↓reduceIte, ↓reduceDIte, Nat.reduceEqDiff, reduceCtorEq, Nat.reduceAdd, Nat.reduceSub, Nat.reduceMul, Nat.reduceBEq, Nat.reduceBNe, Nat.reduceLeDiff, Nat.reduceLT, Int.reduceLT, Int.reduceLE, Int.reduceToNat, Int.reduceEq, Int.reduceNeg, Int.reduceAdd, Int.reduceSub, Int.reduceMul, Nat.reduceMod, Nat.reduceDiv, Nat.reducePow, BEq.rfl, gt_iff_lt, ge_iff_le, *] <;> with_reducible rfl) | with_reducible rfl)) : a = b := h
theorem sdH6p {a b : Nat} (h : a ≤ b := by (first | (simp (maxSteps := 2000000) (disch := first | assumption | omega | (simp only [go_sem] <;> with_reducible rfl)) only [go_sem, ↓reduceIte, ↓reduceDIte, Nat.reduceEqDiff, reduceCtorEq, Nat.reduceAdd, Nat.reduceSub, Nat.reduceMul, Nat.reduceBEq, Nat.reduceBNe, Nat.reduceLeDiff, Nat.reduceLT, Int.reduceLT, Int.reduceLE, Int.reduceToNat, Int.reduceEq, Int.reduceNeg, Int.reduceAdd, Int.reduceSub, Int.reduceMul, Nat.reduceMod, Nat.reduceDiv, Nat.reducePow, BEq.rfl, gt_iff_lt, ge_iff_le, *] <;> with_reducible rfl) | with_reducible rfl)) : a ≤ b := h
theorem sdH67 {α : Type _} {a b : α} (h : a = b := by (first | (simp (maxSteps := 2000000) (disch := first | assumption | omega | (simp only [go_sem] <;> with_reducible rfl)) only [go_sem, ↓reduceIte, ↓reduceDIte, Nat.reduceEqDiff, reduceCtorEq, Nat.reduceAdd, Nat.reduceSub, Nat.reduceMul, Nat.reduceBEq, Nat.reduceBNe, Nat.reduceLeDiff, Nat.reduceLT, Int.reduceLT, Int.reduceLE, Int.reduceToNat, Int.reduceEq, Int.reduceNeg, Int.reduceAdd, Int.reduceSub, Int.reduceMul, Nat.reduceMod, Nat.reduceDiv, Nat.reducePow, BEq.rfl, gt_iff_lt, ge_iff_le, *, Int.natCast_add, Int.natCast_one, Tab.cells] <;> with_reducible rfl) | with_reducible rfl)) : a = b := h
theorem sdH67p {a b : Nat} (h : a ≤ b := by (first | (simp (maxSteps := 2000000) (disch := first | assumption | omega | (simp only [go_sem] <;> with_reducible rfl)) only [go_sem, ↓reduceIte, ↓reduceDIte, Nat.reduceEqDiff, reduceCtorEq, Nat.reduceAdd, Nat.reduceSub, Nat.reduceMul, Nat.reduceBEq, Nat.reduceBNe, Nat.reduceLeDiff, Nat.reduceLT, Int.reduceLT, Int.reduceLE, Int.reduceToNat, Int.reduceEq, Int.reduceNeg, Int.reduceAdd, Int.reduceSub, Int.reduceMul, Nat.reduceMod, Nat.reduceDiv, Nat.reducePow, BEq.rfl, gt_iff_lt, ge_iff_le, *, Int.natCast_add, Int.natCast_one, Tab.cells] <;> with_reducible rfl) | with_reducible rfl)) : a ≤ b := h
theorem c_sound (s : Sch) (hB : s.tabs.length ≤ 1000000) (hR : ∀ t ∈ s.tabs, t.refs = [] ∧ t.cols.length ≤ 1000000) : CallA Try.prog C (.func 27) {} [.agg (s.cells.map .d)] [] fun v hs => v = .d (.bool s.soundN) ∧ hs = [] := by
  refine call_func Try.func27 rfl (by decide) (by kernel_rfl) ⟨Nat.le_of_ble_eq_true rfl, Nat.le_of_ble_eq_true rfl⟩ ?_
  have hbig : 1000000 < big := by decide
  by_cases hv1 : s.ver < 0
  · have hf : s.soundN = false := by
      have : ¬ (0 ≤ s.ver ∧ s.ver ≤ 1000) := by omega
      simp [Sch.soundN, this]
    rw [hf]
    repeat' (first
    | ((with_reducible first | apply o_some | apply o_none | apply x_joined); exact sdH60; exact sdH60)
    | ((with_reducible first | apply d_some | apply d_none); exact sdH60; exact sdH60; exact sdH60)
    | ((with_reducible first | apply o_gT | apply d_gT); exact sdH60; exact sdH60)
    | ((with_reducible first | apply o_gF | apply d_gF); exact sdH60; exact sdH60; rfl)
    | ((with_reducible first | apply o_gU | apply d_gU); exact sdH60; exact sdH60)
    | ((with_reducible apply o_nilq); (exact ⟨by decide, by first | assumption | simp only [go_sem]⟩); exact sdH60; exact sdH60)
    | (with_reducible first | apply o_nil | apply x_next | apply x_seq | apply x_block | apply x_leave_normal | apply x_leave_ret | apply x_pass_ret | apply x_loop_exit | apply x_loop_ret | apply x_pass_exit | apply x_exit | apply x_ret | apply x_skip | apply x_label | apply x_join_ret | apply x_join_exit)
    | ((with_reducible apply d_end); kernel_rfl)
    | ((with_reducible apply x_region); exact sdH60)
    | ((with_reducible apply x_regionD); kernel_rfl; exact sdH60; exact sdH60)
    | ((with_reducible first | apply x_leave_exit | apply x_condT); exact sdH60)
    | ((with_reducible apply x_condF); exact sdH60)
    | ((first | ((with_reducible apply x_condB); exact sdH60) | ((with_reducible first | apply o_gB | apply d_gB); exact sdH60; exact sdH60)); all_goals intro hc; all_goals (try simp only [decide_eq_true_eq, decide_eq_false_iff_not, Bool.not_eq_true', Bool.not_eq_false', Bool.and_eq_true, Bool.or_eq_false_iff, Classical.not_not] at hc); all_goals (try (exfalso; omega)))
    | ((with_reducible apply x_end); (first | exact .inl rfl | exact .inr rfl); exact sdH60; exact sdH60))
    all_goals exact ⟨rfl, rfl⟩
  by_cases hv2 : 1000 < s.ver
  · have hf : s.soundN = false := by
      have : ¬ (0 ≤ s.ver ∧ s.ver ≤ 1000) := by omega
      simp [Sch.soundN, this]
    rw [hf]
    repeat' (first
    | ((with_reducible first | apply o_some | apply o_none | apply x_joined); exact sdH60; exact sdH60)
    | ((with_reducible first | apply d_some | apply d_none); exact sdH60; exact sdH60; exact sdH60)
    | ((with_reducible first | apply o_gT | apply d_gT); exact sdH60; exact sdH60)
    | ((with_reducible first | apply o_gF | apply d_gF); exact sdH60; exact sdH60; rfl)
    | ((with_reducible first | apply o_gU | apply d_gU); exact sdH60; exact sdH60)
    | ((with_reducible apply o_nilq); (exact ⟨by decide, by first | assumption | simp only [go_sem]⟩); exact sdH60; exact sdH60)
    | (with_reducible first | apply o_nil | apply x_next | apply x_seq | apply x_block | apply x_leave_normal | apply x_leave_ret | apply x_pass_ret | apply x_loop_exit | apply x_loop_ret | apply x_pass_exit | apply x_exit | apply x_ret | apply x_skip | apply x_label | apply x_join_ret | apply x_join_exit)
    | ((with_reducible apply d_end); kernel_rfl)
    | ((with_reducible apply x_region); exact sdH60)
    | ((with_reducible apply x_regionD); kernel_rfl; exact sdH60; exact sdH60)
    | ((with_reducible first | apply x_leave_exit | apply x_condT); exact sdH60)
    | ((with_reducible apply x_condF); exact sdH60)
    | ((first | ((with_reducible apply x_condB); exact sdH60) | ((with_reducible first | apply o_gB | apply d_gB); exact sdH60; exact sdH60)); all_goals intro hc; all_goals (try simp only [decide_eq_true_eq, decide_eq_false_iff_not, Bool.not_eq_true', Bool.not_eq_false', Bool.and_eq_true, Bool.or_eq_false_iff, Classical.not_not] at hc); all_goals (try (exfalso; omega)))
    | ((with_reducible apply x_end); (first | exact .inl rfl | exact .inr rfl); exact sdH60; exact sdH60))
    all_goals exact ⟨rfl, rfl⟩
  have hs : s.soundN = tabsOk [] s.tabs := by
    have : 0 ≤ s.ver ∧ s.ver ≤ 1000 := by omega
    simp [Sch.soundN, this]
  repeat' (first
    | ((with_reducible first | apply o_some | apply o_none | apply x_joined); exact sdH60; exact sdH60)
    | ((with_reducible first | apply d_some | apply d_none); exact sdH60; exact sdH60; exact sdH60)
    | ((with_reducible first | apply o_gT | apply d_gT); exact sdH60; exact sdH60)
    | ((with_reducible first | apply o_gF | apply d_gF); exact sdH60; exact sdH60; rfl)
    | ((with_reducible first | apply o_gU | apply d_gU); exact sdH60; exact sdH60)
    | ((with_reducible apply o_nilq); (exact ⟨by decide, by first | assumption | simp only [go_sem]⟩); exact sdH60; exact sdH60)
    | (with_reducible first | apply o_nil | apply x_next | apply x_seq | apply x_block | apply x_leave_normal | apply x_leave_ret | apply x_pass_ret | apply x_loop_exit | apply x_loop_ret | apply x_pass_exit | apply x_exit | apply x_ret | apply x_skip | apply x_label | apply x_join_ret | apply x_join_exit)
    | ((with_reducible apply d_end); kernel_rfl)
    | ((with_reducible apply x_region); exact sdH60)
    | ((with_reducible apply x_regionD); kernel_rfl; exact sdH60; exact sdH60)
    | ((with_reducible first | apply x_leave_exit | apply x_condT); exact sdH60)
    | ((with_reducible apply x_condF); exact sdH60)
    | ((first | ((with_reducible apply x_condB); exact sdH60) | ((with_reducible first | apply o_gB | apply d_gB); exact sdH60; exact sdH60)); all_goals intro hc; all_goals (try simp only [decide_eq_true_eq, decide_eq_false_iff_not, Bool.not_eq_true', Bool.not_eq_false', Bool.and_eq_true, Bool.or_eq_false_iff, Classical.not_not] at hc); all_goals (try (exfalso; omega)))
    | ((with_reducible apply x_end); (first | exact .inl rfl | exact .inr rfl); exact sdH60; exact sdH60))
  refine x_loopG { ownRes := true } [1, 3, 26, 27, 28] (fun (x : Nat × List ByteArray) => [(1, .ptr 0 0 0), (3, .map 1), (26, .d (.fsl (s.tabs.map fun t => t.cells) false false)), (27, .d (.int .i64 s.tabs.length)), (28, .d (.int .i64 x.1))])
    (fun x => [some (.flat 2 [[.int .i64 s.ver, .fsl (s.tabs.map fun t => t.cells) false false]]), some (.map (mp x.2))]) (fun x => x.1 ≤ s.tabs.length ∧ s.soundN = tabsOk x.2 (s.tabs.drop x.1)) (fun x => s.tabs.length - x.1) (0, []) ?_ ⟨by simp, hs⟩ ?_
  · exact sdH61
  · rintro ⟨i, seen⟩ ⟨hi, hv⟩
    simp only at hi hv ⊢
    clear hs
    by_cases hlt : i < s.tabs.length
    · have hlt' : (i : Int) < s.tabs.length := by omega
      have hgi : s.tabs[i]? = some s.tabs[i] := List.getElem?_eq_getElem hlt
      obtain ⟨hr, hcl⟩ := hR _ (List.getElem_mem hlt)
      rw [List.drop_eq_getElem_cons hlt, tabsOk] at hv
      generalize s.tabs[i] = t at hgi hv hr hcl
      have cn := c_name t.name
      by_cases q1 : nameB t.name = true
      case neg =>
        have q1 : nameB t.name = false := by simpa using q1
        have hf : t.okt seen = false := by simp [Tab.okt, q1]
        rw [hf, Bool.false_and] at hv
        rw [hv]
        repeat' (first
    | ((with_reducible first | apply o_some | apply o_none | apply x_joined); exact sdH62; exact sdH62)
    | ((with_reducible first | apply d_some | apply d_none); exact sdH62; exact sdH62; exact sdH62)
    | ((with_reducible first | apply o_gT | apply d_gT); exact sdH62; exact sdH62)
    | ((with_reducible first | apply o_gF | apply d_gF); exact sdH62; exact sdH62; rfl)
    | ((with_reducible first | apply o_gU | apply d_gU); exact sdH62; exact sdH62)
    | ((with_reducible apply o_nilq); (exact ⟨by decide, by first | assumption | simp only [go_sem]⟩); exact sdH62; exact sdH62)
    | (with_reducible first | apply o_nil | apply x_next | apply x_seq | apply x_block | apply x_leave_normal | apply x_leave_ret | apply x_pass_ret | apply x_loop_exit | apply x_loop_ret | apply x_pass_exit | apply x_exit | apply x_ret | apply x_skip | apply x_label | apply x_join_ret | apply x_join_exit)
    | ((with_reducible apply d_end); kernel_rfl)
    | ((with_reducible apply x_region); exact sdH62)
    | ((with_reducible apply x_regionD); kernel_rfl; exact sdH62; exact sdH62)
    | ((with_reducible first | apply x_leave_exit | apply x_condT); exact sdH62)
    | ((with_reducible apply x_condF); exact sdH62)
    | ((first | ((with_reducible apply x_condB); exact sdH62) | ((with_reducible first | apply o_gB | apply d_gB); exact sdH62; exact sdH62)); all_goals intro hc; all_goals (try simp only [decide_eq_true_eq, decide_eq_false_iff_not, Bool.not_eq_true', Bool.not_eq_false', Bool.and_eq_true, Bool.or_eq_false_iff, Classical.not_not] at hc); all_goals (try (exfalso; omega)))
    | ((with_reducible apply o_call); exact sdH62; exact sdH62; exact sdH62; (first | exact cn); exact sdH62; exact sdH62)
    | ((with_reducible apply o_callN); exact sdH62; exact sdH62; exact sdH62; (first | exact cn); exact sdH62)
    | ((with_reducible apply d_callS); exact sdH62; exact sdH62; exact sdH62; (first | exact cn); exact sdH62p; exact sdH62; exact sdH62; exact sdH62; exact sdH62)
    | ((with_reducible apply x_end); (first | exact .inl rfl | exact .inr rfl); exact sdH62; exact sdH62))
        all_goals exact ⟨rfl, rfl⟩
      by_cases q2 : memB t.name seen = true
      · have hf : t.okt seen = false := by simp [Tab.okt, q2]
        rw [hf, Bool.false_and] at hv
        rw [hv]
        repeat' (first
    | ((with_reducible first | apply o_some | apply o_none | apply x_joined); exact sdH62; exact sdH62)
    | ((with_reducible first | apply d_some | apply d_none); exact sdH62; exact sdH62; exact sdH62)
    | ((with_reducible first | apply o_gT | apply d_gT); exact sdH62; exact sdH62)
    | ((with_reducible first | apply o_gF | apply d_gF); exact sdH62; exact sdH62; rfl)
    | ((with_reducible first | apply o_gU | apply d_gU); exact sdH62; exact sdH62)
    | ((with_reducible apply o_nilq); (exact ⟨by decide, by first | assumption | simp only [go_sem]⟩); exact sdH62; exact sdH62)
    | (with_reducible first | apply o_nil | apply x_next | apply x_seq | apply x_block | apply x_leave_normal | apply x_leave_ret | apply x_pass_ret | apply x_loop_exit | apply x_loop_ret | apply x_pass_exit | apply x_exit | apply x_ret | apply x_skip | apply x_label | apply x_join_ret | apply x_join_exit)
    | ((with_reducible apply d_end); kernel_rfl)
    | ((with_reducible apply x_region); exact sdH62)
    | ((with_reducible apply x_regionD); kernel_rfl; exact sdH62; exact sdH62)
    | ((with_reducible first | apply x_leave_exit | apply x_condT); exact sdH62)
    | ((with_reducible apply x_condF); exact sdH62)
    | ((first | ((with_reducible apply x_condB); exact sdH62) | ((with_reducible first | apply o_gB | apply d_gB); exact sdH62; exact sdH62)); all_goals intro hc; all_goals (try simp only [decide_eq_true_eq, decide_eq_false_iff_not, Bool.not_eq_true', Bool.not_eq_false', Bool.and_eq_true, Bool.or_eq_false_iff, Classical.not_not] at hc); all_goals (try (exfalso; omega)))
    | ((with_reducible apply o_call); exact sdH62; exact sdH62; exact sdH62; (first | exact cn); exact sdH62; exact sdH62)
    | ((with_reducible apply o_callN); exact sdH62; exact sdH62; exact sdH62; (first | exact cn); exact sdH62)
    | ((with_reducible apply d_callS); exact sdH62; exact sdH62; exact sdH62; (first | exact cn); exact sdH62p; exact sdH62; exact sdH62; exact sdH62; exact sdH62)
    | ((with_reducible apply x_end); (first | exact .inl rfl | exact .inr rfl); exact sdH62; exact sdH62))
        all_goals exact ⟨rfl, rfl⟩
      have q2 : memB t.name seen = false := by simpa using q2
      by_cases q3 : (t.cols.length : Int) = 0
      · have hf : t.okt seen = false := by
          have : ¬ (0 < t.cols.length ∧ 1 ≤ t.key ∧ t.key ≤ t.cols.length) := by omega
          simp [Tab.okt, this]
        rw [hf, Bool.false_and] at hv
        rw [hv]
        repeat' (first
    | ((with_reducible first | apply o_some | apply o_none | apply x_joined); exact sdH62; exact sdH62)
    | ((with_reducible first | apply d_some | apply d_none); exact sdH62; exact sdH62; exact sdH62)
    | ((with_reducible first | apply o_gT | apply d_gT); exact sdH62; exact sdH62)
    | ((with_reducible first | apply o_gF | apply d_gF); exact sdH62; exact sdH62; rfl)
    | ((with_reducible first | apply o_gU | apply d_gU); exact sdH62; exact sdH62)
    | ((with_reducible apply o_nilq); (exact ⟨by decide, by first | assumption | simp only [go_sem]⟩); exact sdH62; exact sdH62)
    | (with_reducible first | apply o_nil | apply x_next | apply x_seq | apply x_block | apply x_leave_normal | apply x_leave_ret | apply x_pass_ret | apply x_loop_exit | apply x_loop_ret | apply x_pass_exit | apply x_exit | apply x_ret | apply x_skip | apply x_label | apply x_join_ret | apply x_join_exit)
    | ((with_reducible apply d_end); kernel_rfl)
    | ((with_reducible apply x_region); exact sdH62)
    | ((with_reducible apply x_regionD); kernel_rfl; exact sdH62; exact sdH62)
    | ((with_reducible first | apply x_leave_exit | apply x_condT); exact sdH62)
    | ((with_reducible apply x_condF); exact sdH62)
    | ((first | ((with_reducible apply x_condB); exact sdH62) | ((with_reducible first | apply o_gB | apply d_gB); exact sdH62; exact sdH62)); all_goals intro hc; all_goals (try simp only [decide_eq_true_eq, decide_eq_false_iff_not, Bool.not_eq_true', Bool.not_eq_false', Bool.and_eq_true, Bool.or_eq_false_iff, Classical.not_not] at hc); all_goals (try (exfalso; omega)))
    | ((with_reducible apply o_call); exact sdH62; exact sdH62; exact sdH62; (first | exact cn); exact sdH62; exact sdH62)
    | ((with_reducible apply o_callN); exact sdH62; exact sdH62; exact sdH62; (first | exact cn); exact sdH62)
    | ((with_reducible apply d_callS); exact sdH62; exact sdH62; exact sdH62; (first | exact cn); exact sdH62p; exact sdH62; exact sdH62; exact sdH62; exact sdH62)
    | ((with_reducible apply x_end); (first | exact .inl rfl | exact .inr rfl); exact sdH62; exact sdH62))
        all_goals exact ⟨rfl, rfl⟩
      by_cases q4 : t.key < 1
      · have hf : t.okt seen = false := by
          have : ¬ (0 < t.cols.length ∧ 1 ≤ t.key ∧ t.key ≤ t.cols.length) := by omega
          simp [Tab.okt, this]
        rw [hf, Bool.false_and] at hv
        rw [hv]
        repeat' (first
    | ((with_reducible first | apply o_some | apply o_none | apply x_joined); exact sdH62; exact sdH62)
    | ((with_reducible first | apply d_some | apply d_none); exact sdH62; exact sdH62; exact sdH62)
    | ((with_reducible first | apply o_gT | apply d_gT); exact sdH62; exact sdH62)
    | ((with_reducible first | apply o_gF | apply d_gF); exact sdH62; exact sdH62; rfl)
    | ((with_reducible first | apply o_gU | apply d_gU); exact sdH62; exact sdH62)
    | ((with_reducible apply o_nilq); (exact ⟨by decide, by first | assumption | simp only [go_sem]⟩); exact sdH62; exact sdH62)
    | (with_reducible first | apply o_nil | apply x_next | apply x_seq | apply x_block | apply x_leave_normal | apply x_leave_ret | apply x_pass_ret | apply x_loop_exit | apply x_loop_ret | apply x_pass_exit | apply x_exit | apply x_ret | apply x_skip | apply x_label | apply x_join_ret | apply x_join_exit)
    | ((with_reducible apply d_end); kernel_rfl)
    | ((with_reducible apply x_region); exact sdH62)
    | ((with_reducible apply x_regionD); kernel_rfl; exact sdH62; exact sdH62)
    | ((with_reducible first | apply x_leave_exit | apply x_condT); exact sdH62)
    | ((with_reducible apply x_condF); exact sdH62)
    | ((first | ((with_reducible apply x_condB); exact sdH62) | ((with_reducible first | apply o_gB | apply d_gB); exact sdH62; exact sdH62)); all_goals intro hc; all_goals (try simp only [decide_eq_true_eq, decide_eq_false_iff_not, Bool.not_eq_true', Bool.not_eq_false', Bool.and_eq_true, Bool.or_eq_false_iff, Classical.not_not] at hc); all_goals (try (exfalso; omega)))
    | ((with_reducible apply o_call); exact sdH62; exact sdH62; exact sdH62; (first | exact cn); exact sdH62; exact sdH62)
    | ((with_reducible apply o_callN); exact sdH62; exact sdH62; exact sdH62; (first | exact cn); exact sdH62)
    | ((with_reducible apply d_callS); exact sdH62; exact sdH62; exact sdH62; (first | exact cn); exact sdH62p; exact sdH62; exact sdH62; exact sdH62; exact sdH62)
    | ((with_reducible apply x_end); (first | exact .inl rfl | exact .inr rfl); exact sdH62; exact sdH62))
        all_goals exact ⟨rfl, rfl⟩
      by_cases q5 : (t.cols.length : Int) < t.key
      · have hf : t.okt seen = false := by
          have : ¬ (0 < t.cols.length ∧ 1 ≤ t.key ∧ t.key ≤ t.cols.length) := by omega
          simp [Tab.okt, this]
        rw [hf, Bool.false_and] at hv
        rw [hv]
        repeat' (first
    | ((with_reducible first | apply o_some | apply o_none | apply x_joined); exact sdH62; exact sdH62)
    | ((with_reducible first | apply d_some | apply d_none); exact sdH62; exact sdH62; exact sdH62)
    | ((with_reducible first | apply o_gT | apply d_gT); exact sdH62; exact sdH62)
    | ((with_reducible first | apply o_gF | apply d_gF); exact sdH62; exact sdH62; rfl)
    | ((with_reducible first | apply o_gU | apply d_gU); exact sdH62; exact sdH62)
    | ((with_reducible apply o_nilq); (exact ⟨by decide, by first | assumption | simp only [go_sem]⟩); exact sdH62; exact sdH62)
    | (with_reducible first | apply o_nil | apply x_next | apply x_seq | apply x_block | apply x_leave_normal | apply x_leave_ret | apply x_pass_ret | apply x_loop_exit | apply x_loop_ret | apply x_pass_exit | apply x_exit | apply x_ret | apply x_skip | apply x_label | apply x_join_ret | apply x_join_exit)
    | ((with_reducible apply d_end); kernel_rfl)
    | ((with_reducible apply x_region); exact sdH62)
    | ((with_reducible apply x_regionD); kernel_rfl; exact sdH62; exact sdH62)
    | ((with_reducible first | apply x_leave_exit | apply x_condT); exact sdH62)
    | ((with_reducible apply x_condF); exact sdH62)
    | ((first | ((with_reducible apply x_condB); exact sdH62) | ((with_reducible first | apply o_gB | apply d_gB); exact sdH62; exact sdH62)); all_goals intro hc; all_goals (try simp only [decide_eq_true_eq, decide_eq_false_iff_not, Bool.not_eq_true', Bool.not_eq_false', Bool.and_eq_true, Bool.or_eq_false_iff, Classical.not_not] at hc); all_goals (try (exfalso; omega)))
    | ((with_reducible apply o_call); exact sdH62; exact sdH62; exact sdH62; (first | exact cn); exact sdH62; exact sdH62)
    | ((with_reducible apply o_callN); exact sdH62; exact sdH62; exact sdH62; (first | exact cn); exact sdH62)
    | ((with_reducible apply d_callS); exact sdH62; exact sdH62; exact sdH62; (first | exact cn); exact sdH62p; exact sdH62; exact sdH62; exact sdH62; exact sdH62)
    | ((with_reducible apply x_end); (first | exact .inl rfl | exact .inr rfl); exact sdH62; exact sdH62))
        all_goals exact ⟨rfl, rfl⟩
      have hokt : t.okt seen = colsOk [] t.cols := by
        have : 0 < t.cols.length ∧ 1 ≤ t.key ∧ t.key ≤ t.cols.length := by omega
        simp [Tab.okt, q1, q2, this]
      rw [hokt] at hv
      repeat' (first
    | ((with_reducible first | apply o_some | apply o_none | apply x_joined); exact sdH62; exact sdH62)
    | ((with_reducible first | apply d_some | apply d_none); exact sdH62; exact sdH62; exact sdH62)
    | ((with_reducible first | apply o_gT | apply d_gT); exact sdH62; exact sdH62)
    | ((with_reducible first | apply o_gF | apply d_gF); exact sdH62; exact sdH62; rfl)
    | ((with_reducible first | apply o_gU | apply d_gU); exact sdH62; exact sdH62)
    | ((with_reducible apply o_nilq); (exact ⟨by decide, by first | assumption | simp only [go_sem]⟩); exact sdH62; exact sdH62)
    | (with_reducible first | apply o_nil | apply x_next | apply x_seq | apply x_block | apply x_leave_normal | apply x_leave_ret | apply x_pass_ret | apply x_loop_exit | apply x_loop_ret | apply x_pass_exit | apply x_exit | apply x_ret | apply x_skip | apply x_label | apply x_join_ret | apply x_join_exit)
    | ((with_reducible apply d_end); kernel_rfl)
    | ((with_reducible apply x_region); exact sdH62)
    | ((with_reducible apply x_regionD); kernel_rfl; exact sdH62; exact sdH62)
    | ((with_reducible first | apply x_leave_exit | apply x_condT); exact sdH62)
    | ((with_reducible apply x_condF); exact sdH62)
    | ((first | ((with_reducible apply x_condB); exact sdH62) | ((with_reducible first | apply o_gB | apply d_gB); exact sdH62; exact sdH62)); all_goals intro hc; all_goals (try simp only [decide_eq_true_eq, decide_eq_false_iff_not, Bool.not_eq_true', Bool.not_eq_false', Bool.and_eq_true, Bool.or_eq_false_iff, Classical.not_not] at hc); all_goals (try (exfalso; omega)))
    | ((with_reducible apply o_call); exact sdH62; exact sdH62; exact sdH62; (first | exact cn); exact sdH62; exact sdH62)
    | ((with_reducible apply o_callN); exact sdH62; exact sdH62; exact sdH62; (first | exact cn); exact sdH62)
    | ((with_reducible apply d_callS); exact sdH62; exact sdH62; exact sdH62; (first | exact cn); exact sdH62p; exact sdH62; exact sdH62; exact sdH62; exact sdH62)
    | ((with_reducible apply x_end); (first | exact .inl rfl | exact .inr rfl); exact sdH62; exact sdH62))
      clear q3 q4 q5
      refine x_loopG { ownRes := true } [1, 3, 6, 26, 27, 28, 66, 67, 68] (fun (x : Nat × List ByteArray) => [(1, .ptr 0 0 0), (3, .map 1), (6, .map 2), (26, .d (.fsl (s.tabs.map fun t => t.cells) false false)), (27, .d (.int .i64 s.tabs.length)), (28, .d (.int .i64 i)), (66, .d (.fsl (t.cols.map fun c => c.cells) false false)), (67, .d (.int .i64 t.cols.length)), (68, .d (.int .i64 x.1))])
        (fun x => [some (.flat 2 [[.int .i64 s.ver, .fsl (s.tabs.map fun t => t.cells) false false]]), some (.map (mp (seen ++ [t.name]))), some (.map (mp x.2))]) (fun x => x.1 ≤ t.cols.length ∧ colsOk [] t.cols = colsOk x.2 (t.cols.drop x.1)) (fun x => t.cols.length - x.1) (0, []) ?_ ⟨by simp, rfl⟩ ?_
      · have hmp : mp [] = [] := rfl
        exact sdH63
      · rintro ⟨j, sn⟩ ⟨hj, hw⟩
        simp only at hj hw ⊢
        by_cases hjt : j < t.cols.length
        · have hjt' : (j : Int) < t.cols.length := by omega
          have hgj : t.cols[j]? = some t.cols[j] := List.getElem?_eq_getElem hjt
          rw [List.drop_eq_getElem_cons hjt, colsOk] at hw
          generalize t.cols[j] = c at hgj hw
          have cc := c_name c.name
          by_cases p1 : nameB c.name = true
          case neg =>
            have p1 : nameB c.name = false := by simpa using p1
            have hf : c.okc sn = false := by simp [Col.okc, p1]
            rw [hw, hf, Bool.false_and, Bool.false_and] at hv
            rw [hv]
            repeat' (first
    | ((with_reducible first | apply o_some | apply o_none | apply x_joined); exact sdH64; exact sdH64)
    | ((with_reducible first | apply d_some | apply d_none); exact sdH64; exact sdH64; exact sdH64)
    | ((with_reducible first | apply o_gT | apply d_gT); exact sdH64; exact sdH64)
    | ((with_reducible first | apply o_gF | apply d_gF); exact sdH64; exact sdH64; rfl)
    | ((with_reducible first | apply o_gU | apply d_gU); exact sdH64; exact sdH64)
    | ((with_reducible apply o_nilq); (exact ⟨by decide, by first | assumption | simp only [go_sem]⟩); exact sdH64; exact sdH64)
    | (with_reducible first | apply o_nil | apply x_next | apply x_seq | apply x_block | apply x_leave_normal | apply x_leave_ret | apply x_pass_ret | apply x_loop_exit | apply x_loop_ret | apply x_pass_exit | apply x_exit | apply x_ret | apply x_skip | apply x_label | apply x_join_ret | apply x_join_exit)
    | ((with_reducible apply d_end); kernel_rfl)
    | ((with_reducible apply x_region); exact sdH64)
    | ((with_reducible apply x_regionD); kernel_rfl; exact sdH64; exact sdH64)
    | ((with_reducible first | apply x_leave_exit | apply x_condT); exact sdH64)
    | ((with_reducible apply x_condF); exact sdH64)
    | ((first | ((with_reducible apply x_condB); exact sdH64) | ((with_reducible first | apply o_gB | apply d_gB); exact sdH64; exact sdH64)); all_goals intro hc; all_goals (try simp only [decide_eq_true_eq, decide_eq_false_iff_not, Bool.not_eq_true', Bool.not_eq_false', Bool.and_eq_true, Bool.or_eq_false_iff, Classical.not_not] at hc); all_goals (try (exfalso; omega)))
    | ((with_reducible apply o_call); exact sdH64; exact sdH64; exact sdH64; (first | exact cc); exact sdH64; exact sdH64)
    | ((with_reducible apply o_callN); exact sdH64; exact sdH64; exact sdH64; (first | exact cc); exact sdH64)
    | ((with_reducible apply d_callS); exact sdH64; exact sdH64; exact sdH64; (first | exact cc); exact sdH64p; exact sdH64; exact sdH64; exact sdH64; exact sdH64)
    | ((with_reducible apply x_end); (first | exact .inl rfl | exact .inr rfl); exact sdH64; exact sdH64))
            all_goals exact ⟨rfl, rfl⟩
          by_cases p2 : memB c.name sn = true
          · have hf : c.okc sn = false := by simp [Col.okc, p2]
            rw [hw, hf, Bool.false_and, Bool.false_and] at hv
            rw [hv]
            repeat' (first
    | ((with_reducible first | apply o_some | apply o_none | apply x_joined); exact sdH64; exact sdH64)
    | ((with_reducible first | apply d_some | apply d_none); exact sdH64; exact sdH64; exact sdH64)
    | ((with_reducible first | apply o_gT | apply d_gT); exact sdH64; exact sdH64)
    | ((with_reducible first | apply o_gF | apply d_gF); exact sdH64; exact sdH64; rfl)
    | ((with_reducible first | apply o_gU | apply d_gU); exact sdH64; exact sdH64)
    | ((with_reducible apply o_nilq); (exact ⟨by decide, by first | assumption | simp only [go_sem]⟩); exact sdH64; exact sdH64)
    | (with_reducible first | apply o_nil | apply x_next | apply x_seq | apply x_block | apply x_leave_normal | apply x_leave_ret | apply x_pass_ret | apply x_loop_exit | apply x_loop_ret | apply x_pass_exit | apply x_exit | apply x_ret | apply x_skip | apply x_label | apply x_join_ret | apply x_join_exit)
    | ((with_reducible apply d_end); kernel_rfl)
    | ((with_reducible apply x_region); exact sdH64)
    | ((with_reducible apply x_regionD); kernel_rfl; exact sdH64; exact sdH64)
    | ((with_reducible first | apply x_leave_exit | apply x_condT); exact sdH64)
    | ((with_reducible apply x_condF); exact sdH64)
    | ((first | ((with_reducible apply x_condB); exact sdH64) | ((with_reducible first | apply o_gB | apply d_gB); exact sdH64; exact sdH64)); all_goals intro hc; all_goals (try simp only [decide_eq_true_eq, decide_eq_false_iff_not, Bool.not_eq_true', Bool.not_eq_false', Bool.and_eq_true, Bool.or_eq_false_iff, Classical.not_not] at hc); all_goals (try (exfalso; omega)))
    | ((with_reducible apply o_call); exact sdH64; exact sdH64; exact sdH64; (first | exact cc); exact sdH64; exact sdH64)
    | ((with_reducible apply o_callN); exact sdH64; exact sdH64; exact sdH64; (first | exact cc); exact sdH64)
    | ((with_reducible apply d_callS); exact sdH64; exact sdH64; exact sdH64; (first | exact cc); exact sdH64p; exact sdH64; exact sdH64; exact sdH64; exact sdH64)
    | ((with_reducible apply x_end); (first | exact .inl rfl | exact .inr rfl); exact sdH64; exact sdH64))
            all_goals exact ⟨rfl, rfl⟩
          have p2 : memB c.name sn = false := by simpa using p2
          by_cases p3 : c.kind = 3 ∨ c.kind = 4 ∨ c.kind = 5
          case neg =>
            have hf : c.okc sn = false := by simp [Col.okc, p3]
            rw [hw, hf, Bool.false_and, Bool.false_and] at hv
            rw [hv]
            simp only [not_or] at p3
            obtain ⟨k3, k4, k5⟩ := p3
            repeat' (first
    | ((with_reducible first | apply o_some | apply o_none | apply x_joined); exact sdH64; exact sdH64)
    | ((with_reducible first | apply d_some | apply d_none); exact sdH64; exact sdH64; exact sdH64)
    | ((with_reducible first | apply o_gT | apply d_gT); exact sdH64; exact sdH64)
    | ((with_reducible first | apply o_gF | apply d_gF); exact sdH64; exact sdH64; rfl)
    | ((with_reducible first | apply o_gU | apply d_gU); exact sdH64; exact sdH64)
    | ((with_reducible apply o_nilq); (exact ⟨by decide, by first | assumption | simp only [go_sem]⟩); exact sdH64; exact sdH64)
    | (with_reducible first | apply o_nil | apply x_next | apply x_seq | apply x_block | apply x_leave_normal | apply x_leave_ret | apply x_pass_ret | apply x_loop_exit | apply x_loop_ret | apply x_pass_exit | apply x_exit | apply x_ret | apply x_skip | apply x_label | apply x_join_ret | apply x_join_exit)
    | ((with_reducible apply d_end); kernel_rfl)
    | ((with_reducible apply x_region); exact sdH64)
    | ((with_reducible apply x_regionD); kernel_rfl; exact sdH64; exact sdH64)
    | ((with_reducible first | apply x_leave_exit | apply x_condT); exact sdH64)
    | ((with_reducible apply x_condF); exact sdH64)
    | ((first | ((with_reducible apply x_condB); exact sdH64) | ((with_reducible first | apply o_gB | apply d_gB); exact sdH64; exact sdH64)); all_goals intro hc; all_goals (try simp only [decide_eq_true_eq, decide_eq_false_iff_not, Bool.not_eq_true', Bool.not_eq_false', Bool.and_eq_true, Bool.or_eq_false_iff, Classical.not_not] at hc); all_goals (try (exfalso; omega)))
    | ((with_reducible apply o_call); exact sdH64; exact sdH64; exact sdH64; (first | exact cc); exact sdH64; exact sdH64)
    | ((with_reducible apply o_callN); exact sdH64; exact sdH64; exact sdH64; (first | exact cc); exact sdH64)
    | ((with_reducible apply d_callS); exact sdH64; exact sdH64; exact sdH64; (first | exact cc); exact sdH64p; exact sdH64; exact sdH64; exact sdH64; exact sdH64)
    | ((with_reducible apply x_end); (first | exact .inl rfl | exact .inr rfl); exact sdH64; exact sdH64))
            all_goals exact ⟨rfl, rfl⟩
          have hf : c.okc sn = true := by simp [Col.okc, p1, p2, p3]
          rw [hf, Bool.true_and] at hw
          clear hf
          rcases p3 with p3 | p3 | p3
          all_goals (repeat' (first
    | ((with_reducible first | apply o_some | apply o_none | apply x_joined); exact sdH64; exact sdH64)
    | ((with_reducible first | apply d_some | apply d_none); exact sdH64; exact sdH64; exact sdH64)
    | ((with_reducible first | apply o_gT | apply d_gT); exact sdH64; exact sdH64)
    | ((with_reducible first | apply o_gF | apply d_gF); exact sdH64; exact sdH64; rfl)
    | ((with_reducible first | apply o_gU | apply d_gU); exact sdH64; exact sdH64)
    | ((with_reducible apply o_nilq); (exact ⟨by decide, by first | assumption | simp only [go_sem]⟩); exact sdH64; exact sdH64)
    | (with_reducible first | apply o_nil | apply x_next | apply x_seq | apply x_block | apply x_leave_normal | apply x_leave_ret | apply x_pass_ret | apply x_loop_exit | apply x_loop_ret | apply x_pass_exit | apply x_exit | apply x_ret | apply x_skip | apply x_label | apply x_join_ret | apply x_join_exit)
    | ((with_reducible apply d_end); kernel_rfl)
    | ((with_reducible apply x_region); exact sdH64)
    | ((with_reducible apply x_regionD); kernel_rfl; exact sdH64; exact sdH64)
    | ((with_reducible first | apply x_leave_exit | apply x_condT); exact sdH64)
    | ((with_reducible apply x_condF); exact sdH64)
    | ((first | ((with_reducible apply x_condB); exact sdH64) | ((with_reducible first | apply o_gB | apply d_gB); exact sdH64; exact sdH64)); all_goals intro hc; all_goals (try simp only [decide_eq_true_eq, decide_eq_false_iff_not, Bool.not_eq_true', Bool.not_eq_false', Bool.and_eq_true, Bool.or_eq_false_iff, Classical.not_not] at hc); all_goals (try (exfalso; omega)))
    | ((with_reducible apply o_call); exact sdH64; exact sdH64; exact sdH64; (first | exact cc); exact sdH64; exact sdH64)
    | ((with_reducible apply o_callN); exact sdH64; exact sdH64; exact sdH64; (first | exact cc); exact sdH64)
    | ((with_reducible apply d_callS); exact sdH64; exact sdH64; exact sdH64; (first | exact cc); exact sdH64p; exact sdH64; exact sdH64; exact sdH64; exact sdH64)
    | ((with_reducible apply x_end); (first | exact .inl rfl | exact .inr rfl); exact sdH64; exact sdH64)))
          all_goals (refine x_again (j + 1, sn ++ [c.name]) ⟨by simp only; omega, hw⟩ (by simp only; omega) ?_)
          all_goals (exact sdH65)
        · have hjt' : ¬ (j : Int) < t.cols.length := by omega
          rw [List.drop_of_length_le (by omega), colsOk] at hw
          rw [hw, Bool.true_and] at hv
          repeat' (first
    | ((with_reducible first | apply o_some | apply o_none | apply x_joined); exact sdH6; exact sdH6)
    | ((with_reducible first | apply d_some | apply d_none); exact sdH6; exact sdH6; exact sdH6)
    | ((with_reducible first | apply o_gT | apply d_gT); exact sdH6; exact sdH6)
    | ((with_reducible first | apply o_gF | apply d_gF); exact sdH6; exact sdH6; rfl)
    | ((with_reducible first | apply o_gU | apply d_gU); exact sdH6; exact sdH6)
    | ((with_reducible apply o_nilq); (exact ⟨by decide, by first | assumption | simp only [go_sem]⟩); exact sdH6; exact sdH6)
    | (with_reducible first | apply o_nil | apply x_next | apply x_seq | apply x_block | apply x_leave_normal | apply x_leave_ret | apply x_pass_ret | apply x_loop_exit | apply x_loop_ret | apply x_pass_exit | apply x_exit | apply x_ret | apply x_skip | apply x_label | apply x_join_ret | apply x_join_exit)
    | ((with_reducible apply d_end); kernel_rfl)
    | ((with_reducible apply x_region); exact sdH6)
    | ((with_reducible apply x_regionD); kernel_rfl; exact sdH6; exact sdH6)
    | ((with_reducible first | apply x_leave_exit | apply x_condT); exact sdH6)
    | ((with_reducible apply x_condF); exact sdH6)
    | ((first | ((with_reducible apply x_condB); exact sdH6) | ((with_reducible first | apply o_gB | apply d_gB); exact sdH6; exact sdH6)); all_goals intro hc; all_goals (try simp only [decide_eq_true_eq, decide_eq_false_iff_not, Bool.not_eq_true', Bool.not_eq_false', Bool.and_eq_true, Bool.or_eq_false_iff, Classical.not_not] at hc); all_goals (try (exfalso; omega)))
    | ((with_reducible apply x_end); (first | exact .inl rfl | exact .inr rfl); exact sdH6; exact sdH6))
          refine x_again (i + 1, seen ++ [t.name]) ⟨by simp only; omega, hv⟩ (by simp only; omega) ?_
          exact sdH65
    · have hlt' : ¬ (i : Int) < s.tabs.length := by omega
      rw [List.drop_of_length_le (by omega), tabsOk] at hv
      rw [hv]
      clear hv
      repeat' (first
    | ((with_reducible first | apply o_some | apply o_none | apply x_joined); exact sdH6; exact sdH6)
    | ((with_reducible first | apply d_some | apply d_none); exact sdH6; exact sdH6; exact sdH6)
    | ((with_reducible first | apply o_gT | apply d_gT); exact sdH6; exact sdH6)
    | ((with_reducible first | apply o_gF | apply d_gF); exact sdH6; exact sdH6; rfl)
    | ((with_reducible first | apply o_gU | apply d_gU); exact sdH6; exact sdH6)
    | ((with_reducible apply o_nilq); (exact ⟨by decide, by first | assumption | simp only [go_sem]⟩); exact sdH6; exact sdH6)
    | (with_reducible first | apply o_nil | apply x_next | apply x_seq | apply x_block | apply x_leave_normal | apply x_leave_ret | apply x_pass_ret | apply x_loop_exit | apply x_loop_ret | apply x_pass_exit | apply x_exit | apply x_ret | apply x_skip | apply x_label | apply x_join_ret | apply x_join_exit)
    | ((with_reducible apply d_end); kernel_rfl)
    | ((with_reducible apply x_region); exact sdH6)
    | ((with_reducible apply x_regionD); kernel_rfl; exact sdH6; exact sdH6)
    | ((with_reducible first | apply x_leave_exit | apply x_condT); exact sdH6)
    | ((with_reducible apply x_condF); exact sdH6)
    | ((first | ((with_reducible apply x_condB); exact sdH6) | ((with_reducible first | apply o_gB | apply d_gB); exact sdH6; exact sdH6)); all_goals intro hc; all_goals (try simp only [decide_eq_true_eq, decide_eq_false_iff_not, Bool.not_eq_true', Bool.not_eq_false', Bool.and_eq_true, Bool.or_eq_false_iff, Classical.not_not] at hc); all_goals (try (exfalso; omega)))
    | ((with_reducible apply x_end); (first | exact .inl rfl | exact .inr rfl); exact sdH6; exact sdH6))
      refine x_loopG { ownRes := true } [1, 103, 104, 105] (fun (i : Nat) => [(1, .ptr 0 0 0), (103, .d (.fsl (s.tabs.map fun t => t.cells) false false)), (104, .d (.int .i64 s.tabs.length)), (105, .d (.int .i64 i))])
        (fun x => [some (.flat 2 [[.int .i64 s.ver, .fsl (s.tabs.map fun t => t.cells) false false]])]) (fun i => i ≤ s.tabs.length) (fun i => s.tabs.length - i) 0 ?_ (by omega) ?_
      · exact sdH6
      · intro i2 hi2
        by_cases hlt2 : i2 < s.tabs.length
        · have hlt2' : (i2 : Int) < s.tabs.length := by omega
          have hgi : s.tabs[i2]? = some s.tabs[i2] := List.getElem?_eq_getElem hlt2
          obtain ⟨hr, hcl⟩ := hR _ (List.getElem_mem hlt2)
          generalize s.tabs[i2] = t at hgi hr hcl
          have hrl : (t.refs.map fun r => r.cells) = [] := by rw [hr]; rfl
          repeat' (first
    | ((with_reducible first | apply o_some | apply o_none | apply x_joined); exact sdH63; exact sdH63)
    | ((with_reducible first | apply d_some | apply d_none); exact sdH63; exact sdH63; exact sdH63)
    | ((with_reducible first | apply o_gT | apply d_gT); exact sdH63; exact sdH63)
    | ((with_reducible first | apply o_gF | apply d_gF); exact sdH63; exact sdH63; rfl)
    | ((with_reducible first | apply o_gU | apply d_gU); exact sdH63; exact sdH63)
    | ((with_reducible apply o_nilq); (exact ⟨by decide, by first | assumption | simp only [go_sem]⟩); exact sdH63; exact sdH63)
    | (with_reducible first | apply o_nil | apply x_next | apply x_seq | apply x_block | apply x_leave_normal | apply x_leave_ret | apply x_pass_ret | apply x_loop_exit | apply x_loop_ret | apply x_pass_exit | apply x_exit | apply x_ret | apply x_skip | apply x_label | apply x_join_ret | apply x_join_exit)
    | ((with_reducible apply d_end); kernel_rfl)
    | ((with_reducible apply x_region); exact sdH63)
    | ((with_reducible apply x_regionD); kernel_rfl; exact sdH63; exact sdH63)
    | ((with_reducible first | apply x_leave_exit | apply x_condT); exact sdH63)
    | ((with_reducible apply x_condF); exact sdH63)
    | ((first | ((with_reducible apply x_condB); exact sdH63) | ((with_reducible first | apply o_gB | apply d_gB); exact sdH63; exact sdH63)); all_goals intro hc; all_goals (try simp only [decide_eq_true_eq, decide_eq_false_iff_not, Bool.not_eq_true', Bool.not_eq_false', Bool.and_eq_true, Bool.or_eq_false_iff, Classical.not_not] at hc); all_goals (try (exfalso; omega)))
    | ((with_reducible apply x_end); (first | exact .inl rfl | exact .inr rfl); exact sdH63; exact sdH63))
          refine x_loopG { ownRes := true } [1, 103, 104, 105, 110, 111, 112] (fun (_ : Nat) => [(1, .ptr 0 0 0), (103, .d (.fsl (s.tabs.map fun t => t.cells) false false)), (104, .d (.int .i64 s.tabs.length)), (105, .d (.int .i64 i2)), (110, .d (.fsl [] false false)), (111, .d (.int .i64 0)), (112, .d (.int .i64 0))])
            (fun x => [some (.flat 2 [[.int .i64 s.ver, .fsl (s.tabs.map fun t => t.cells) false false]])]) (fun _ => True) (fun _ => 0) 0 ?_ trivial ?_
          · exact sdH63
          · intro _ _
            repeat' (first
    | ((with_reducible first | apply o_some | apply o_none | apply x_joined); exact sdH6; exact sdH6)
    | ((with_reducible first | apply d_some | apply d_none); exact sdH6; exact sdH6; exact sdH6)
    | ((with_reducible first | apply o_gT | apply d_gT); exact sdH6; exact sdH6)
    | ((with_reducible first | apply o_gF | apply d_gF); exact sdH6; exact sdH6; rfl)
    | ((with_reducible first | apply o_gU | apply d_gU); exact sdH6; exact sdH6)
    | ((with_reducible apply o_nilq); (exact ⟨by decide, by first | assumption | simp only [go_sem]⟩); exact sdH6; exact sdH6)
    | (with_reducible first | apply o_nil | apply x_next | apply x_seq | apply x_block | apply x_leave_normal | apply x_leave_ret | apply x_pass_ret | apply x_loop_exit | apply x_loop_ret | apply x_pass_exit | apply x_exit | apply x_ret | apply x_skip | apply x_label | apply x_join_ret | apply x_join_exit)
    | ((with_reducible apply d_end); kernel_rfl)
    | ((with_reducible apply x_region); exact sdH6)
    | ((with_reducible apply x_regionD); kernel_rfl; exact sdH6; exact sdH6)
    | ((with_reducible first | apply x_leave_exit | apply x_condT); exact sdH6)
    | ((with_reducible apply x_condF); exact sdH6)
    | ((first | ((with_reducible apply x_condB); exact sdH6) | ((with_reducible first | apply o_gB | apply d_gB); exact sdH6; exact sdH6)); all_goals intro hc; all_goals (try simp only [decide_eq_true_eq, decide_eq_false_iff_not, Bool.not_eq_true', Bool.not_eq_false', Bool.and_eq_true, Bool.or_eq_false_iff, Classical.not_not] at hc); all_goals (try (exfalso; omega)))
    | ((with_reducible apply x_end); (first | exact .inl rfl | exact .inr rfl); exact sdH6; exact sdH6))
            refine x_again (i2 + 1) (by omega) (by omega) ?_
            exact sdH67
        · have hlt2' : ¬ (i2 : Int) < s.tabs.length := by omega
          repeat' (first
    | ((with_reducible first | apply o_some | apply o_none | apply x_joined); exact sdH6; exact sdH6)
    | ((with_reducible first | apply d_some | apply d_none); exact sdH6; exact sdH6; exact sdH6)
    | ((with_reducible first | apply o_gT | apply d_gT); exact sdH6; exact sdH6)
    | ((with_reducible first | apply o_gF | apply d_gF); exact sdH6; exact sdH6; rfl)
    | ((with_reducible first | apply o_gU | apply d_gU); exact sdH6; exact sdH6)
    | ((with_reducible apply o_nilq); (exact ⟨by decide, by first | assumption | simp only [go_sem]⟩); exact sdH6; exact sdH6)
    | (with_reducible first | apply o_nil | apply x_next | apply x_seq | apply x_block | apply x_leave_normal | apply x_leave_ret | apply x_pass_ret | apply x_loop_exit | apply x_loop_ret | apply x_pass_exit | apply x_exit | apply x_ret | apply x_skip | apply x_label | apply x_join_ret | apply x_join_exit)
    | ((with_reducible apply d_end); kernel_rfl)
    | ((with_reducible apply x_region); exact sdH6)
    | ((with_reducible apply x_regionD); kernel_rfl; exact sdH6; exact sdH6)
    | ((with_reducible first | apply x_leave_exit | apply x_condT); exact sdH6)
    | ((with_reducible apply x_condF); exact sdH6)
    | ((first | ((with_reducible apply x_condB); exact sdH6) | ((with_reducible first | apply o_gB | apply d_gB); exact sdH6; exact sdH6)); all_goals intro hc; all_goals (try simp only [decide_eq_true_eq, decide_eq_false_iff_not, Bool.not_eq_true', Bool.not_eq_false', Bool.and_eq_true, Bool.or_eq_false_iff, Classical.not_not] at hc); all_goals (try (exfalso; omega)))
    | ((with_reducible apply x_end); (first | exact .inl rfl | exact .inr rfl); exact sdH6; exact sdH6))
          all_goals exact ⟨rfl, rfl⟩
end Go.Proofs.Ytfdekggfdklfeaa
