/-
  Contracts: whether a row fits.
-/
import Derived.Test.YtfdekggfdklfeaaH4
set_option linter.all false
set_option linter.unusedVariables false
set_option linter.unusedSimpArgs false
namespace Go.Proofs.Ytfdekggfdklfeaa
open Go.Ab
attribute [local irreducible] seqK blockK loopK endK
set_option maxRecDepth 10000
set_option maxHeartbeats 64000000
abbrev rowsV (l : List Val) : List (List DV) := l.map fun v => v.cells
def cellFits (v : Val) (c : Col) (i : Nat) (key mode : Int) : Bool :=
  if v.ok = true ∧ v.k = c.kind then true else if v.ok = false ∨ (i : Int) < key then false else if v.k = 2 ∧ 2 ≤ mode then true else decide (v.k = 1 ∧ mode = 3)
def fitsFrom (key mode : Int) : Nat → List Val → List Col → Bool
  | _, [], _ => true
  | i, v :: r, c :: cs => cellFits v c i key mode && fitsFrom key mode (i + 1) r cs
  | _, _ :: _, [] => false
def Sch.fits (s : Sch) (t : Int) (row : List Val) (mode : Int) : Bool := if mode < 1 ∨ 3 < mode ∨ ¬ (0 ≤ t ∧ t < s.tabs.length) then false else
  match s.tabs[t.toNat]? with
  | none => false
  | some x => if row.length = x.cols.length then fitsFrom x.key mode 0 row x.cols else false
theorem sdH50 {α : Type _} {a b : α} (h : a = b := by (first | (simp (maxSteps := 2000000) (disch := first | assumption | omega | (simp only [go_sem] <;> with_reducible rfl)) only [go_sem, ↓reduceIte, ↓reduceDIte, Nat.reduceEqDiff, reduceCtorEq, Nat.reduceAdd, Nat.reduceSub, Nat.reduceMul, Nat.reduceBEq, Nat.reduceBNe, Nat.reduceLeDiff, Nat.reduceLT, Int.reduceLT, Int.reduceLE, Int.reduceToNat, Int.reduceEq, Int.reduceNeg, Int.reduceAdd, Int.reduceSub, Int.reduceMul, Nat.reduceMod, Nat.reduceDiv, Nat.reducePow, BEq.rfl, gt_iff_lt, ge_iff_le, *, Sch.cells] <;> with_reducible rfl) | with_reducible rfl)) : a = b := h
theorem sdH50p {a b : Nat} (h : a ≤ b := by (first | (simp (maxSteps := 2000000) (disch := first | assumption | omega | (simp only [go_sem] <;> with_reducible rfl)) only [go_sem, ↓reduceIte, ↓reduceDIte, Nat.reduceEqDiff, reduceCtorEq, Nat.reduceAdd, Nat.reduceSub, Nat.reduceMul, Nat.reduceBEq, Nat.reduceBNe, Nat.reduceLeDiff, Nat.reduceLT, Int.reduceLT, Int.reduceLE, Int.reduceToNat, Int.reduceEq, Int.reduceNeg, Int.reduceAdd, Int.reduceSub, Int.reduceMul, Nat.reduceMod, Nat.reduceDiv, Nat.reducePow, BEq.rfl, gt_iff_lt, ge_iff_le, *, Sch.cells] <;> with_reducible rfl) | with_reducible rfl)) : a ≤ b := h
theorem sdH51 {α : Type _} {a b : α} (h : a = b := by (first | (simp (maxSteps := 2000000) (disch := first | assumption | omega | (simp only [go_sem] <;> with_reducible rfl)) only [go_sem, ↓reduceIte, ↓reduceDIte, Nat.reduceEqDiff, reduceCtorEq, Nat.reduceAdd, Nat.reduceSub, Nat.reduceMul, Nat.reduceBEq, Nat.reduceBNe, Nat.reduceLeDiff, Nat.reduceLT, Int.reduceLT, Int.reduceLE, Int.reduceToNat, Int.reduceEq, Int.reduceNeg, Int.reduceAdd, Int.reduceSub, Int.reduceMul, Nat.reduceMod, Nat.reduceDiv, Nat.reducePow, BEq.rfl, gt_iff_lt, ge_iff_le, *, Sch.cells, Tab.cells] <;> with_reducible rfl) | with_reducible rfl)) : a = b := h
theorem sdH51p {a b : Nat} (h : a ≤ b := by (first | (simp (maxSteps := 2000000) (disch := first | assumption | omega | (simp only [go_sem] <;> with_reducible rfl)) only [go_sem, ↓reduceIte, ↓reduceDIte, Nat.reduceEqDiff, reduceCtorEq, Nat.reduceAdd, Nat.reduceSub, Nat.reduceMul, Nat.reduceBEq, Nat.reduceBNe, Nat.reduceLeDiff, Nat.reduceLT, Int.reduceLT, Int.reduceLE, Int.reduceToNat, Int.reduceEq, Int.reduceNeg, Int.reduceAdd, Int.reduceSub, Int.reduceMul, Nat.reduceMod, Nat.reduceDiv, Nat.reducePow, BEq.rfl, gt_iff_lt, ge_iff_le, *, Sch.cells, Tab.cells] <;> with_reducible rfl) | with_reducible rfl)) : a ≤ b := h
theorem sdH52 {α : Type _} {a b : α} (h : a = b := by (first | (simp (maxSteps := 2000000) (disch := first | assumption | omega | (simp only [go_sem] <;> with_reducible rfl)) only [go_sem, ↓reduceIte, ↓reduceDIte, Nat.reduceEqDiff, reduceCtorEq, Nat.reduceAdd, Nat.reduceSub, Nat.reduceMul, Nat.reduceBEq, Nat.reduceBNe, Nat.reduceLeDiff, Nat.reduceLT, Int.reduceLT, Int.reduceLE, Int.reduceToNat, Int.reduceEq, Int.reduceNeg, Int.reduceAdd, Int.reduceSub, Int.reduceMul, Nat.reduceMod, Nat.reduceDiv, Nat.reducePow, BEq.rfl, gt_iff_lt, ge_iff_le, *, Tab.cells] <;> with_reducible rfl) | with_reducible rfl)) : a = b := h
theorem sdH52p {a b : Nat} (h : a ≤ b := by (first | (simp (maxSteps := 2000000) (disch := first | assumption | omega | (simp only [go_sem] <;> with_reducible rfl)) only [go_sem, ↓reduceIte, ↓reduceDIte, Nat.reduceEqDiff, reduceCtorEq, Nat.reduceAdd, Nat.reduceSub, Nat.reduceMul, Nat.reduceBEq, Nat.reduceBNe, Nat.reduceLeDiff, Nat.reduceLT, Int.reduceLT, Int.reduceLE, Int.reduceToNat, Int.reduceEq, Int.reduceNeg, Int.reduceAdd, Int.reduceSub, Int.reduceMul, Nat.reduceMod, Nat.reduceDiv, Nat.reducePow, BEq.rfl, gt_iff_lt, ge_iff_le, *, Tab.cells] <;> with_reducible rfl) | with_reducible rfl)) : a ≤ b := h
theorem sdH53 {α : Type _} {a b : α} (h : a = b := by (first | (simp (maxSteps := 2000000) (disch := first | assumption | omega | (simp only [go_sem] <;> with_reducible rfl)) only [go_sem, ↓reduceIte, ↓reduceDIte, Nat.reduceEqDiff, reduceCtorEq, Nat.reduceAdd, Nat.reduceSub, Nat.reduceMul, Nat.reduceBEq, Nat.reduceBNe, Nat.reduceLeDiff, Nat.reduceLT, Int.reduceLT, Int.reduceLE, Int.reduceToNat, Int.reduceEq, Int.reduceNeg, Int.reduceAdd, Int.reduceSub, Int.reduceMul, Nat.reduceMod, Nat.reduceDiv, Nat.reducePow, BEq.rfl, gt_iff_lt, ge_iff_le, *, Sch.cells, Tab.cells, Col.cells, Val.cells] <;> with_reducible rfl) | with_reducible rfl)) : a = b := h
theorem sdH53p {a b : Nat} (h : a ≤ b := by (first | (simp (maxSteps := 2000000) (disch := first | assumption | omega | (simp only [go_sem] <;> with_reducible rfl)) only [go_sem, ↓reduceIte, ↓reduceDIte, Nat.reduceEqDiff, reduceCtorEq, Nat.reduceAdd, Nat.reduceSub, Nat.reduceMul, Nat.reduceBEq, Nat.reduceBNe, Nat.reduceLeDiff, Nat.reduceLT, Int.reduceLT, Int.reduceLE, Int.reduceToNat, Int.reduceEq, Int.reduceNeg, Int.reduceAdd, Int.reduceSub, Int.reduceMul, Nat.reduceMod, Nat.reduceDiv, Nat.reducePow, BEq.rfl, gt_iff_lt, ge_iff_le, *, Sch.cells, Tab.cells, Col.cells, Val.cells] <;> with_reducible rfl) | with_reducible rfl)) : a ≤ b := h
theorem sdH54 {α : Type _} {a b : α} (h : a = b := by (first | (simp (maxSteps := 2000000) (disch := first | assumption | omega | (simp only [go_sem] <;> with_reducible rfl)) only [go_sem, ↓reduceIte, ↓reduceDIte, Nat.reduceEqDiff, reduceCtorEq, Nat.reduceAdd, Nat.reduceSub, Nat.reduceMul, Nat.reduceBEq, Nat.reduceBNe, Nat.reduceLeDiff, Nat.reduceLT, Int.reduceLT, Int.reduceLE, Int.reduceToNat, Int.reduceEq, Int.reduceNeg, Int.reduceAdd, Int.reduceSub, Int.reduceMul, Nat.reduceMod, Nat.reduceDiv, Nat.reducePow, BEq.rfl, gt_iff_lt, ge_iff_le, *, Int.natCast_add, Int.natCast_one, Tab.cells, Col.cells] <;> with_reducible rfl) | with_reducible rfl)) : a = b := h
theorem sdH54p {a b : Nat} (h : a ≤ b := by (first | (simp (maxSteps := 2000000) (disch := first | assumption | omega | (simp only [go_sem] <;> with_reducible rfl)) only [go_sem, ↓reduceIte, ↓reduceDIte, Nat.reduceEqDiff, reduceCtorEq, Nat.reduceAdd, Nat.reduceSub, Nat.reduceMul, Nat.reduceBEq, Nat.reduceBNe, Nat.reduceLeDiff, Nat.reduceLT, Int.reduceLT, Int.reduceLE, Int.reduceToNat, Int.reduceEq, Int.reduceNeg, Int.reduceAdd, Int.reduceSub, Int.reduceMul, Nat.reduceMod, Nat.reduceDiv, Nat.reducePow, BEq.rfl, gt_iff_lt, ge_iff_le, *, Int.natCast_add, Int.natCast_one, Tab.cells, Col.cells] <;> with_reducible rfl) | with_reducible rfl)) : a ≤ b := h
theorem sdH5 {α : Type _} {a b : α} (h : a = b := by (first | (simp (maxSteps := 2000000) (disch := first | assumption | omega | (simp only [go_sem] <;> with_reducible rfl)) only [go_sem, ↓reduceIte, ↓reduceDIte, Nat.reduceEqDiff, reduceCtorEq, Nat.reduceAdd, Nat.reduceSub, Nat.reduceMul, Nat.reduceBEq, Nat.reduceBNe, Nat.reduceLeDiff, Nat.reduceLT, Int.reduceLT, Int.reduceLE, Int.reduceToNat, Int.reduceEq, Int.reduceNeg, Int.reduceAdd, Int.reduceSub, Int.reduceMul, Nat.reduceMod, Nat.reduceDiv, Nat.reducePow, BEq.rfl, gt_iff_lt, ge_iff_le, *] <;> with_reducible rfl) | with_reducible rfl)) : a = b := h
theorem sdH5p {a b : Nat} (h : a ≤ b := by (first | (simp (maxSteps := 2000000) (disch := first | assumption | omega | (simp only [go_sem] <;> with_reducible rfl)) only [go_sem, ↓reduceIte, ↓reduceDIte, Nat.reduceEqDiff, reduceCtorEq, Nat.reduceAdd, Nat.reduceSub, Nat.reduceMul, Nat.reduceBEq, Nat.reduceBNe, Nat.reduceLeDiff, Nat.reduceLT, Int.reduceLT, Int.reduceLE, Int.reduceToNat, Int.reduceEq, Int.reduceNeg, Int.reduceAdd, Int.reduceSub, Int.reduceMul, Nat.reduceMod, Nat.reduceDiv, Nat.reducePow, BEq.rfl, gt_iff_lt, ge_iff_le, *] <;> with_reducible rfl) | with_reducible rfl)) : a ≤ b := h
theorem c_fits (s : Sch) (t : Int) (row : List Val) (mode : Int) (hB : s.tabs.length ≤ 1000000) (hR : row.length ≤ 9223372036854775807) : CallA Try.prog C (.func 16) {} [.agg (s.cells.map .d), .d (.int .i64 t), .d (.fsl (rowsV row) false false), .d (.int .i64 mode)] [] fun v hs => v = .d (.bool (s.fits t row mode)) ∧ hs = [] := by
  refine call_func Try.func16 rfl (by decide) (by kernel_rfl) ⟨Nat.le_of_ble_eq_true rfl, Nat.le_of_ble_eq_true rfl⟩ ?_
  have hbig : 1000000 < big := by decide
  have ch := c_has s t hB
  unfold Sch.fits
  by_cases m1 : mode < 1
  · rw [if_pos (.inl m1)]
    repeat' (first
    | ((with_reducible first | apply o_some | apply o_none | apply x_joined); exact sdH50; exact sdH50)
    | ((with_reducible first | apply d_some | apply d_none); exact sdH50; exact sdH50; exact sdH50)
    | ((with_reducible first | apply o_gT | apply d_gT); exact sdH50; exact sdH50)
    | ((with_reducible first | apply o_gF | apply d_gF); exact sdH50; exact sdH50; rfl)
    | ((with_reducible first | apply o_gU | apply d_gU); exact sdH50; exact sdH50)
    | ((with_reducible apply o_nilq); (exact ⟨by decide, by first | assumption | simp only [go_sem]⟩); exact sdH50; exact sdH50)
    | (with_reducible first | apply o_nil | apply x_next | apply x_seq | apply x_block | apply x_leave_normal | apply x_leave_ret | apply x_pass_ret | apply x_loop_exit | apply x_loop_ret | apply x_pass_exit | apply x_exit | apply x_ret | apply x_skip | apply x_label | apply x_join_ret | apply x_join_exit)
    | ((with_reducible apply d_end); kernel_rfl)
    | ((with_reducible apply x_region); exact sdH50)
    | ((with_reducible apply x_regionD); kernel_rfl; exact sdH50; exact sdH50)
    | ((with_reducible first | apply x_leave_exit | apply x_condT); exact sdH50)
    | ((with_reducible apply x_condF); exact sdH50)
    | ((first | ((with_reducible apply x_condB); exact sdH50) | ((with_reducible first | apply o_gB | apply d_gB); exact sdH50; exact sdH50)); all_goals intro hc; all_goals (try simp only [decide_eq_true_eq, decide_eq_false_iff_not, Bool.not_eq_true', Bool.not_eq_false', Bool.and_eq_true, Bool.or_eq_false_iff, Classical.not_not] at hc); all_goals (try (exfalso; omega)))
    | ((with_reducible apply o_call); exact sdH50; exact sdH50; exact sdH50; (first | exact ch); exact sdH50; exact sdH50)
    | ((with_reducible apply o_callN); exact sdH50; exact sdH50; exact sdH50; (first | exact ch); exact sdH50)
    | ((with_reducible apply d_callS); exact sdH50; exact sdH50; exact sdH50; (first | exact ch); exact sdH50p; exact sdH50; exact sdH50; exact sdH50; exact sdH50)
    | ((with_reducible apply x_end); (first | exact .inl rfl | exact .inr rfl); exact sdH50; exact sdH50))
    all_goals exact ⟨rfl, rfl⟩
  by_cases m2 : 3 < mode
  · rw [if_pos (.inr (.inl m2))]
    repeat' (first
    | ((with_reducible first | apply o_some | apply o_none | apply x_joined); exact sdH50; exact sdH50)
    | ((with_reducible first | apply d_some | apply d_none); exact sdH50; exact sdH50; exact sdH50)
    | ((with_reducible first | apply o_gT | apply d_gT); exact sdH50; exact sdH50)
    | ((with_reducible first | apply o_gF | apply d_gF); exact sdH50; exact sdH50; rfl)
    | ((with_reducible first | apply o_gU | apply d_gU); exact sdH50; exact sdH50)
    | ((with_reducible apply o_nilq); (exact ⟨by decide, by first | assumption | simp only [go_sem]⟩); exact sdH50; exact sdH50)
    | (with_reducible first | apply o_nil | apply x_next | apply x_seq | apply x_block | apply x_leave_normal | apply x_leave_ret | apply x_pass_ret | apply x_loop_exit | apply x_loop_ret | apply x_pass_exit | apply x_exit | apply x_ret | apply x_skip | apply x_label | apply x_join_ret | apply x_join_exit)
    | ((with_reducible apply d_end); kernel_rfl)
    | ((with_reducible apply x_region); exact sdH50)
    | ((with_reducible apply x_regionD); kernel_rfl; exact sdH50; exact sdH50)
    | ((with_reducible first | apply x_leave_exit | apply x_condT); exact sdH50)
    | ((with_reducible apply x_condF); exact sdH50)
    | ((first | ((with_reducible apply x_condB); exact sdH50) | ((with_reducible first | apply o_gB | apply d_gB); exact sdH50; exact sdH50)); all_goals intro hc; all_goals (try simp only [decide_eq_true_eq, decide_eq_false_iff_not, Bool.not_eq_true', Bool.not_eq_false', Bool.and_eq_true, Bool.or_eq_false_iff, Classical.not_not] at hc); all_goals (try (exfalso; omega)))
    | ((with_reducible apply o_call); exact sdH50; exact sdH50; exact sdH50; (first | exact ch); exact sdH50; exact sdH50)
    | ((with_reducible apply o_callN); exact sdH50; exact sdH50; exact sdH50; (first | exact ch); exact sdH50)
    | ((with_reducible apply d_callS); exact sdH50; exact sdH50; exact sdH50; (first | exact ch); exact sdH50p; exact sdH50; exact sdH50; exact sdH50; exact sdH50)
    | ((with_reducible apply x_end); (first | exact .inl rfl | exact .inr rfl); exact sdH50; exact sdH50))
    all_goals exact ⟨rfl, rfl⟩
  by_cases ht : 0 ≤ t ∧ t < s.tabs.length
  · have hdt : decide (0 ≤ t ∧ t < s.tabs.length) = true := decide_eq_true ht
    rw [hdt] at ch
    rw [if_neg (by omega)]
    obtain ⟨t0, t1⟩ := ht
    have hgt : s.tabs[t.toNat]? = some s.tabs[t.toNat] := List.getElem?_eq_getElem (by omega)
    generalize s.tabs[t.toNat] = x at hgt
    rw [hgt]
    simp only
    by_cases hlen : row.length = x.cols.length
    · rw [if_pos hlen]
      have hlen' : (row.length : Int) = x.cols.length := by omega
      repeat' (first
    | ((with_reducible first | apply o_some | apply o_none | apply x_joined); exact sdH51; exact sdH51)
    | ((with_reducible first | apply d_some | apply d_none); exact sdH51; exact sdH51; exact sdH51)
    | ((with_reducible first | apply o_gT | apply d_gT); exact sdH51; exact sdH51)
    | ((with_reducible first | apply o_gF | apply d_gF); exact sdH51; exact sdH51; rfl)
    | ((with_reducible first | apply o_gU | apply d_gU); exact sdH51; exact sdH51)
    | ((with_reducible apply o_nilq); (exact ⟨by decide, by first | assumption | simp only [go_sem]⟩); exact sdH51; exact sdH51)
    | (with_reducible first | apply o_nil | apply x_next | apply x_seq | apply x_block | apply x_leave_normal | apply x_leave_ret | apply x_pass_ret | apply x_loop_exit | apply x_loop_ret | apply x_pass_exit | apply x_exit | apply x_ret | apply x_skip | apply x_label | apply x_join_ret | apply x_join_exit)
    | ((with_reducible apply d_end); kernel_rfl)
    | ((with_reducible apply x_region); exact sdH51)
    | ((with_reducible apply x_regionD); kernel_rfl; exact sdH51; exact sdH51)
    | ((with_reducible first | apply x_leave_exit | apply x_condT); exact sdH51)
    | ((with_reducible apply x_condF); exact sdH51)
    | ((first | ((with_reducible apply x_condB); exact sdH51) | ((with_reducible first | apply o_gB | apply d_gB); exact sdH51; exact sdH51)); all_goals intro hc; all_goals (try simp only [decide_eq_true_eq, decide_eq_false_iff_not, Bool.not_eq_true', Bool.not_eq_false', Bool.and_eq_true, Bool.or_eq_false_iff, Classical.not_not] at hc); all_goals (try (exfalso; omega)))
    | ((with_reducible apply o_call); exact sdH51; exact sdH51; exact sdH51; (first | exact ch); exact sdH51; exact sdH51)
    | ((with_reducible apply o_callN); exact sdH51; exact sdH51; exact sdH51; (first | exact ch); exact sdH51)
    | ((with_reducible apply d_callS); exact sdH51; exact sdH51; exact sdH51; (first | exact ch); exact sdH51p; exact sdH51; exact sdH51; exact sdH51; exact sdH51)
    | ((with_reducible apply x_end); (first | exact .inl rfl | exact .inr rfl); exact sdH51; exact sdH51))
      refine x_loopG { ownRes := true } [3, 9, 35, 36, 37] (fun i : Nat => [(3, .d (.int .i64 mode)), (9, .ptr 0 0 0), (35, .d (.fsl (rowsV row) false false)), (36, .d (.int .i64 row.length)), (37, .d (.int .i64 i))]) (fun _ => [some (.flat 5 [x.cells])]) (fun i => i ≤ row.length ∧ fitsFrom x.key mode 0 row x.cols = fitsFrom x.key mode i (row.drop i) (x.cols.drop i)) (fun i => row.length - i) 0 ?_ ⟨by omega, rfl⟩ ?_
      · exact sdH52
      · rintro i ⟨hi, hv⟩
        by_cases hlt : i < row.length
        · have hlt' : (i : Int) < row.length := by omega
          have hlt3 : (i : Int) < x.cols.length := by omega
          have hgi : row[i]? = some row[i] := List.getElem?_eq_getElem hlt
          have hlt2 : i < x.cols.length := by omega
          have hgj : x.cols[i]? = some x.cols[i] := List.getElem?_eq_getElem hlt2
          rw [List.drop_eq_getElem_cons hlt, List.drop_eq_getElem_cons hlt2, fitsFrom] at hv
          generalize row[i] = v at hgi hv
          generalize x.cols[i] = c at hgj hv
          have cv := c_valid v
          repeat' (first
    | ((with_reducible first | apply o_some | apply o_none | apply x_joined); exact sdH53; exact sdH53)
    | ((with_reducible first | apply d_some | apply d_none); exact sdH53; exact sdH53; exact sdH53)
    | ((with_reducible first | apply o_gT | apply d_gT); exact sdH53; exact sdH53)
    | ((with_reducible first | apply o_gF | apply d_gF); exact sdH53; exact sdH53; rfl)
    | ((with_reducible first | apply o_gU | apply d_gU); exact sdH53; exact sdH53)
    | ((with_reducible apply o_nilq); (exact ⟨by decide, by first | assumption | simp only [go_sem]⟩); exact sdH53; exact sdH53)
    | (with_reducible first | apply o_nil | apply x_next | apply x_seq | apply x_block | apply x_leave_normal | apply x_leave_ret | apply x_pass_ret | apply x_loop_exit | apply x_loop_ret | apply x_pass_exit | apply x_exit | apply x_ret | apply x_skip | apply x_label | apply x_join_ret | apply x_join_exit)
    | ((with_reducible apply d_end); kernel_rfl)
    | ((with_reducible apply x_region); exact sdH53)
    | ((with_reducible apply x_regionD); kernel_rfl; exact sdH53; exact sdH53)
    | ((with_reducible first | apply x_leave_exit | apply x_condT); exact sdH53)
    | ((with_reducible apply x_condF); exact sdH53)
    | ((first | ((with_reducible apply x_condB); exact sdH53) | ((with_reducible first | apply o_gB | apply d_gB); exact sdH53; exact sdH53)); all_goals intro hc; all_goals (try simp only [decide_eq_true_eq, decide_eq_false_iff_not, Bool.not_eq_true', Bool.not_eq_false', Bool.and_eq_true, Bool.or_eq_false_iff, Classical.not_not] at hc); all_goals (try (exfalso; omega)))
    | ((with_reducible apply o_call); exact sdH53; exact sdH53; exact sdH53; (first | exact cv); exact sdH53; exact sdH53)
    | ((with_reducible apply o_callN); exact sdH53; exact sdH53; exact sdH53; (first | exact cv); exact sdH53)
    | ((with_reducible apply d_callS); exact sdH53; exact sdH53; exact sdH53; (first | exact cv); exact sdH53p; exact sdH53; exact sdH53; exact sdH53; exact sdH53)
    | ((with_reducible apply x_end); (first | exact .inl rfl | exact .inr rfl); exact sdH53; exact sdH53))
          all_goals (first
            | (have hf : cellFits v c i x.key mode = false := by
                 clear hv cv ch hgi hgj hgt hdt
                 first | (simp [cellFits, *]; done) | (simp_all [cellFits]; done) | (simp_all [cellFits]; omega)
               rw [hf, Bool.false_and] at hv
               exact ⟨by rw [hv], rfl⟩)
            | (have hf : cellFits v c i x.key mode = true := by
                 clear hv cv ch hgi hgj hgt hdt
                 first | (simp [cellFits, *]; done) | (simp_all [cellFits]; done) | (simp_all [cellFits]; omega)
               rw [hf, Bool.true_and] at hv
               refine x_again (i + 1) ⟨by omega, hv⟩ (by omega) ?_
               exact sdH54)
            | trace_state)
        · have hlt' : ¬ (i : Int) < row.length := by omega
          rw [List.drop_of_length_le (by omega)] at hv
          have hv' : fitsFrom x.key mode 0 row x.cols = true := by rw [hv]; cases x.cols.drop i <;> rfl
          rw [hv']
          repeat' (first
    | ((with_reducible first | apply o_some | apply o_none | apply x_joined); exact sdH5; exact sdH5)
    | ((with_reducible first | apply d_some | apply d_none); exact sdH5; exact sdH5; exact sdH5)
    | ((with_reducible first | apply o_gT | apply d_gT); exact sdH5; exact sdH5)
    | ((with_reducible first | apply o_gF | apply d_gF); exact sdH5; exact sdH5; rfl)
    | ((with_reducible first | apply o_gU | apply d_gU); exact sdH5; exact sdH5)
    | ((with_reducible apply o_nilq); (exact ⟨by decide, by first | assumption | simp only [go_sem]⟩); exact sdH5; exact sdH5)
    | (with_reducible first | apply o_nil | apply x_next | apply x_seq | apply x_block | apply x_leave_normal | apply x_leave_ret | apply x_pass_ret | apply x_loop_exit | apply x_loop_ret | apply x_pass_exit | apply x_exit | apply x_ret | apply x_skip | apply x_label | apply x_join_ret | apply x_join_exit)
    | ((with_reducible apply d_end); kernel_rfl)
    | ((with_reducible apply x_region); exact sdH5)
    | ((with_reducible apply x_regionD); kernel_rfl; exact sdH5; exact sdH5)
    | ((with_reducible first | apply x_leave_exit | apply x_condT); exact sdH5)
    | ((with_reducible apply x_condF); exact sdH5)
    | ((first | ((with_reducible apply x_condB); exact sdH5) | ((with_reducible first | apply o_gB | apply d_gB); exact sdH5; exact sdH5)); all_goals intro hc; all_goals (try simp only [decide_eq_true_eq, decide_eq_false_iff_not, Bool.not_eq_true', Bool.not_eq_false', Bool.and_eq_true, Bool.or_eq_false_iff, Classical.not_not] at hc); all_goals (try (exfalso; omega)))
    | ((with_reducible apply x_end); (first | exact .inl rfl | exact .inr rfl); exact sdH5; exact sdH5))
          all_goals exact ⟨rfl, rfl⟩
    · rw [if_neg hlen]
      have hlen' : ¬ (row.length : Int) = x.cols.length := by omega
      repeat' (first
    | ((with_reducible first | apply o_some | apply o_none | apply x_joined); exact sdH51; exact sdH51)
    | ((with_reducible first | apply d_some | apply d_none); exact sdH51; exact sdH51; exact sdH51)
    | ((with_reducible first | apply o_gT | apply d_gT); exact sdH51; exact sdH51)
    | ((with_reducible first | apply o_gF | apply d_gF); exact sdH51; exact sdH51; rfl)
    | ((with_reducible first | apply o_gU | apply d_gU); exact sdH51; exact sdH51)
    | ((with_reducible apply o_nilq); (exact ⟨by decide, by first | assumption | simp only [go_sem]⟩); exact sdH51; exact sdH51)
    | (with_reducible first | apply o_nil | apply x_next | apply x_seq | apply x_block | apply x_leave_normal | apply x_leave_ret | apply x_pass_ret | apply x_loop_exit | apply x_loop_ret | apply x_pass_exit | apply x_exit | apply x_ret | apply x_skip | apply x_label | apply x_join_ret | apply x_join_exit)
    | ((with_reducible apply d_end); kernel_rfl)
    | ((with_reducible apply x_region); exact sdH51)
    | ((with_reducible apply x_regionD); kernel_rfl; exact sdH51; exact sdH51)
    | ((with_reducible first | apply x_leave_exit | apply x_condT); exact sdH51)
    | ((with_reducible apply x_condF); exact sdH51)
    | ((first | ((with_reducible apply x_condB); exact sdH51) | ((with_reducible first | apply o_gB | apply d_gB); exact sdH51; exact sdH51)); all_goals intro hc; all_goals (try simp only [decide_eq_true_eq, decide_eq_false_iff_not, Bool.not_eq_true', Bool.not_eq_false', Bool.and_eq_true, Bool.or_eq_false_iff, Classical.not_not] at hc); all_goals (try (exfalso; omega)))
    | ((with_reducible apply o_call); exact sdH51; exact sdH51; exact sdH51; (first | exact ch); exact sdH51; exact sdH51)
    | ((with_reducible apply o_callN); exact sdH51; exact sdH51; exact sdH51; (first | exact ch); exact sdH51)
    | ((with_reducible apply d_callS); exact sdH51; exact sdH51; exact sdH51; (first | exact ch); exact sdH51p; exact sdH51; exact sdH51; exact sdH51; exact sdH51)
    | ((with_reducible apply x_end); (first | exact .inl rfl | exact .inr rfl); exact sdH51; exact sdH51))
      all_goals exact ⟨rfl, rfl⟩
  · have hdt : decide (0 ≤ t ∧ t < s.tabs.length) = false := decide_eq_false ht
    rw [hdt] at ch
    rw [if_pos (.inr (.inr ht))]
    repeat' (first
    | ((with_reducible first | apply o_some | apply o_none | apply x_joined); exact sdH50; exact sdH50)
    | ((with_reducible first | apply d_some | apply d_none); exact sdH50; exact sdH50; exact sdH50)
    | ((with_reducible first | apply o_gT | apply d_gT); exact sdH50; exact sdH50)
    | ((with_reducible first | apply o_gF | apply d_gF); exact sdH50; exact sdH50; rfl)
    | ((with_reducible first | apply o_gU | apply d_gU); exact sdH50; exact sdH50)
    | ((with_reducible apply o_nilq); (exact ⟨by decide, by first | assumption | simp only [go_sem]⟩); exact sdH50; exact sdH50)
    | (with_reducible first | apply o_nil | apply x_next | apply x_seq | apply x_block | apply x_leave_normal | apply x_leave_ret | apply x_pass_ret | apply x_loop_exit | apply x_loop_ret | apply x_pass_exit | apply x_exit | apply x_ret | apply x_skip | apply x_label | apply x_join_ret | apply x_join_exit)
    | ((with_reducible apply d_end); kernel_rfl)
    | ((with_reducible apply x_region); exact sdH50)
    | ((with_reducible apply x_regionD); kernel_rfl; exact sdH50; exact sdH50)
    | ((with_reducible first | apply x_leave_exit | apply x_condT); exact sdH50)
    | ((with_reducible apply x_condF); exact sdH50)
    | ((first | ((with_reducible apply x_condB); exact sdH50) | ((with_reducible first | apply o_gB | apply d_gB); exact sdH50; exact sdH50)); all_goals intro hc; all_goals (try simp only [decide_eq_true_eq, decide_eq_false_iff_not, Bool.not_eq_true', Bool.not_eq_false', Bool.and_eq_true, Bool.or_eq_false_iff, Classical.not_not] at hc); all_goals (try (exfalso; omega)))
    | ((with_reducible apply o_call); exact sdH50; exact sdH50; exact sdH50; (first | exact ch); exact sdH50; exact sdH50)
    | ((with_reducible apply o_callN); exact sdH50; exact sdH50; exact sdH50; (first | exact ch); exact sdH50)
    | ((with_reducible apply d_callS); exact sdH50; exact sdH50; exact sdH50; (first | exact ch); exact sdH50p; exact sdH50; exact sdH50; exact sdH50; exact sdH50)
    | ((with_reducible apply x_end); (first | exact .inl rfl | exact .inr rfl); exact sdH50; exact sdH50))
    all_goals exact ⟨rfl, rfl⟩
end Go.Proofs.Ytfdekggfdklfeaa
