/-
  Contracts: the kinds of a table's columns and of its key, in the program.
-/
import Derived.Test.YtfdekggfdklfeaaH5
import Derived.Test.YtfdekggfdklfeaaG8
set_option linter.all false
set_option linter.unusedVariables false
set_option linter.unusedSimpArgs false
namespace Go.Proofs.Ytfdekggfdklfeaa
open Go.Ab
attribute [local irreducible] seqK blockK loopK endK
set_option maxRecDepth 10000
set_option maxHeartbeats 64000000
theorem sdM10 {α : Type _} {a b : α} (h : a = b := by (first | (simp (maxSteps := 2000000) (disch := first | assumption | omega | (simp only [go_sem] <;> with_reducible rfl)) only [go_sem, ↓reduceIte, ↓reduceDIte, Nat.reduceEqDiff, reduceCtorEq, Nat.reduceAdd, Nat.reduceSub, Nat.reduceMul, Nat.reduceBEq, Nat.reduceBNe, Nat.reduceLeDiff, Nat.reduceLT, Int.reduceLT, Int.reduceLE, Int.reduceToNat, Int.reduceEq, Int.reduceNeg, Int.reduceAdd, Int.reduceSub, Int.reduceMul, Nat.reduceMod, Nat.reduceDiv, Nat.reducePow, BEq.rfl, gt_iff_lt, ge_iff_le, *, Sch.cells] <;> with_reducible rfl) | with_reducible rfl)) : a = b := h
theorem sdM10p {a b : Nat} (h : a ≤ b := by (first | (simp (maxSteps := 2000000) (disch := first | assumption | omega | (simp only [go_sem] <;> with_reducible rfl)) only [go_sem, ↓reduceIte, ↓reduceDIte, Nat.reduceEqDiff, reduceCtorEq, Nat.reduceAdd, Nat.reduceSub, Nat.reduceMul, Nat.reduceBEq, Nat.reduceBNe, Nat.reduceLeDiff, Nat.reduceLT, Int.reduceLT, Int.reduceLE, Int.reduceToNat, Int.reduceEq, Int.reduceNeg, Int.reduceAdd, Int.reduceSub, Int.reduceMul, Nat.reduceMod, Nat.reduceDiv, Nat.reducePow, BEq.rfl, gt_iff_lt, ge_iff_le, *, Sch.cells] <;> with_reducible rfl) | with_reducible rfl)) : a ≤ b := h
theorem sdM11 {α : Type _} {a b : α} (h : a = b := by (first | (simp (maxSteps := 2000000) (disch := first | assumption | omega | (simp only [go_sem] <;> with_reducible rfl)) only [go_sem, ↓reduceIte, ↓reduceDIte, Nat.reduceEqDiff, reduceCtorEq, Nat.reduceAdd, Nat.reduceSub, Nat.reduceMul, Nat.reduceBEq, Nat.reduceBNe, Nat.reduceLeDiff, Nat.reduceLT, Int.reduceLT, Int.reduceLE, Int.reduceToNat, Int.reduceEq, Int.reduceNeg, Int.reduceAdd, Int.reduceSub, Int.reduceMul, Nat.reduceMod, Nat.reduceDiv, Nat.reducePow, BEq.rfl, gt_iff_lt, ge_iff_le, *, Sch.cells, Tab.cells] <;> with_reducible rfl) | with_reducible rfl)) : a = b := h
theorem sdM11p {a b : Nat} (h : a ≤ b := by (first | (simp (maxSteps := 2000000) (disch := first | assumption | omega | (simp only [go_sem] <;> with_reducible rfl)) only [go_sem, ↓reduceIte, ↓reduceDIte, Nat.reduceEqDiff, reduceCtorEq, Nat.reduceAdd, Nat.reduceSub, Nat.reduceMul, Nat.reduceBEq, Nat.reduceBNe, Nat.reduceLeDiff, Nat.reduceLT, Int.reduceLT, Int.reduceLE, Int.reduceToNat, Int.reduceEq, Int.reduceNeg, Int.reduceAdd, Int.reduceSub, Int.reduceMul, Nat.reduceMod, Nat.reduceDiv, Nat.reducePow, BEq.rfl, gt_iff_lt, ge_iff_le, *, Sch.cells, Tab.cells] <;> with_reducible rfl) | with_reducible rfl)) : a ≤ b := h
theorem sdM1 {α : Type _} {a b : α} (h : a = b := by (first | (simp (maxSteps := 2000000) (disch := first | assumption | omega | (simp only [go_sem] <;> with_reducible rfl)) only [go_sem, ↓reduceIte, ↓reduceDIte, Nat.reduceEqDiff, reduceCtorEq, Nat.reduceAdd, Nat.reduceSub, Nat.reduceMul, Nat.reduceBEq, Nat.reduceBNe, Nat.reduceLeDiff, Nat.reduceLT, Int.reduceLT, Int.reduceLE, Int.reduceToNat, Int.reduceEq, Int.reduceNeg, Int.reduceAdd, Int.reduceSub, Int.reduceMul, Nat.reduceMod, Nat.reduceDiv, Nat.reducePow, BEq.rfl, gt_iff_lt, ge_iff_le, *] <;> with_reducible rfl) | with_reducible rfl)) : a = b := h
theorem sdM1p {a b : Nat} (h : a ≤ b := by (first | (simp (maxSteps := 2000000) (disch := first | assumption | omega | (simp only [go_sem] <;> with_reducible rfl)) only [go_sem, ↓reduceIte, ↓reduceDIte, Nat.reduceEqDiff, reduceCtorEq, Nat.reduceAdd, Nat.reduceSub, Nat.reduceMul, Nat.reduceBEq, Nat.reduceBNe, Nat.reduceLeDiff, Nat.reduceLT, Int.reduceLT, Int.reduceLE, Int.reduceToNat, Int.reduceEq, Int.reduceNeg, Int.reduceAdd, Int.reduceSub, Int.reduceMul, Nat.reduceMod, Nat.reduceDiv, Nat.reducePow, BEq.rfl, gt_iff_lt, ge_iff_le, *] <;> with_reducible rfl) | with_reducible rfl)) : a ≤ b := h
theorem sdM13 {α : Type _} {a b : α} (h : a = b := by (first | (simp (maxSteps := 2000000) (disch := first | assumption | omega | (simp only [go_sem] <;> with_reducible rfl)) only [go_sem, ↓reduceIte, ↓reduceDIte, Nat.reduceEqDiff, reduceCtorEq, Nat.reduceAdd, Nat.reduceSub, Nat.reduceMul, Nat.reduceBEq, Nat.reduceBNe, Nat.reduceLeDiff, Nat.reduceLT, Int.reduceLT, Int.reduceLE, Int.reduceToNat, Int.reduceEq, Int.reduceNeg, Int.reduceAdd, Int.reduceSub, Int.reduceMul, Nat.reduceMod, Nat.reduceDiv, Nat.reducePow, BEq.rfl, gt_iff_lt, ge_iff_le, *, Col.cells, Int.natCast_zero] <;> with_reducible rfl) | with_reducible rfl)) : a = b := h
theorem sdM13p {a b : Nat} (h : a ≤ b := by (first | (simp (maxSteps := 2000000) (disch := first | assumption | omega | (simp only [go_sem] <;> with_reducible rfl)) only [go_sem, ↓reduceIte, ↓reduceDIte, Nat.reduceEqDiff, reduceCtorEq, Nat.reduceAdd, Nat.reduceSub, Nat.reduceMul, Nat.reduceBEq, Nat.reduceBNe, Nat.reduceLeDiff, Nat.reduceLT, Int.reduceLT, Int.reduceLE, Int.reduceToNat, Int.reduceEq, Int.reduceNeg, Int.reduceAdd, Int.reduceSub, Int.reduceMul, Nat.reduceMod, Nat.reduceDiv, Nat.reducePow, BEq.rfl, gt_iff_lt, ge_iff_le, *, Col.cells, Int.natCast_zero] <;> with_reducible rfl) | with_reducible rfl)) : a ≤ b := h
theorem sdM14 {α : Type _} {a b : α} (h : a = b := by (first | (simp (maxSteps := 2000000) (disch := first | assumption | omega | (simp only [go_sem] <;> with_reducible rfl)) only [go_sem, ↓reduceIte, ↓reduceDIte, Nat.reduceEqDiff, reduceCtorEq, Nat.reduceAdd, Nat.reduceSub, Nat.reduceMul, Nat.reduceBEq, Nat.reduceBNe, Nat.reduceLeDiff, Nat.reduceLT, Int.reduceLT, Int.reduceLE, Int.reduceToNat, Int.reduceEq, Int.reduceNeg, Int.reduceAdd, Int.reduceSub, Int.reduceMul, Nat.reduceMod, Nat.reduceDiv, Nat.reducePow, BEq.rfl, gt_iff_lt, ge_iff_le, *, Col.cells, Int.natCast_one] <;> with_reducible rfl) | with_reducible rfl)) : a = b := h
theorem sdM14p {a b : Nat} (h : a ≤ b := by (first | (simp (maxSteps := 2000000) (disch := first | assumption | omega | (simp only [go_sem] <;> with_reducible rfl)) only [go_sem, ↓reduceIte, ↓reduceDIte, Nat.reduceEqDiff, reduceCtorEq, Nat.reduceAdd, Nat.reduceSub, Nat.reduceMul, Nat.reduceBEq, Nat.reduceBNe, Nat.reduceLeDiff, Nat.reduceLT, Int.reduceLT, Int.reduceLE, Int.reduceToNat, Int.reduceEq, Int.reduceNeg, Int.reduceAdd, Int.reduceSub, Int.reduceMul, Nat.reduceMod, Nat.reduceDiv, Nat.reducePow, BEq.rfl, gt_iff_lt, ge_iff_le, *, Col.cells, Int.natCast_one] <;> with_reducible rfl) | with_reducible rfl)) : a ≤ b := h
theorem sdM15 {α : Type _} {a b : α} (h : a = b := by (first | (simp (maxSteps := 2000000) (disch := first | assumption | omega | (simp only [go_sem] <;> with_reducible rfl)) only [go_sem, ↓reduceIte, ↓reduceDIte, Nat.reduceEqDiff, reduceCtorEq, Nat.reduceAdd, Nat.reduceSub, Nat.reduceMul, Nat.reduceBEq, Nat.reduceBNe, Nat.reduceLeDiff, Nat.reduceLT, Int.reduceLT, Int.reduceLE, Int.reduceToNat, Int.reduceEq, Int.reduceNeg, Int.reduceAdd, Int.reduceSub, Int.reduceMul, Nat.reduceMod, Nat.reduceDiv, Nat.reducePow, BEq.rfl, gt_iff_lt, ge_iff_le, *, Col.cells] <;> with_reducible rfl) | with_reducible rfl)) : a = b := h
theorem sdM15p {a b : Nat} (h : a ≤ b := by (first | (simp (maxSteps := 2000000) (disch := first | assumption | omega | (simp only [go_sem] <;> with_reducible rfl)) only [go_sem, ↓reduceIte, ↓reduceDIte, Nat.reduceEqDiff, reduceCtorEq, Nat.reduceAdd, Nat.reduceSub, Nat.reduceMul, Nat.reduceBEq, Nat.reduceBNe, Nat.reduceLeDiff, Nat.reduceLT, Int.reduceLT, Int.reduceLE, Int.reduceToNat, Int.reduceEq, Int.reduceNeg, Int.reduceAdd, Int.reduceSub, Int.reduceMul, Nat.reduceMod, Nat.reduceDiv, Nat.reducePow, BEq.rfl, gt_iff_lt, ge_iff_le, *, Col.cells] <;> with_reducible rfl) | with_reducible rfl)) : a ≤ b := h
theorem sdM16 {α : Type _} {a b : α} (h : a = b := by (first | (simp (maxSteps := 2000000) (disch := first | assumption | omega | (simp only [go_sem] <;> with_reducible rfl)) only [go_sem, ↓reduceIte, ↓reduceDIte, Nat.reduceEqDiff, reduceCtorEq, Nat.reduceAdd, Nat.reduceSub, Nat.reduceMul, Nat.reduceBEq, Nat.reduceBNe, Nat.reduceLeDiff, Nat.reduceLT, Int.reduceLT, Int.reduceLE, Int.reduceToNat, Int.reduceEq, Int.reduceNeg, Int.reduceAdd, Int.reduceSub, Int.reduceMul, Nat.reduceMod, Nat.reduceDiv, Nat.reducePow, BEq.rfl, gt_iff_lt, ge_iff_le, *, Int.natCast_add, Int.natCast_one, List.map_append, Col.cells] <;> with_reducible rfl) | with_reducible rfl)) : a = b := h
theorem sdM16p {a b : Nat} (h : a ≤ b := by (first | (simp (maxSteps := 2000000) (disch := first | assumption | omega | (simp only [go_sem] <;> with_reducible rfl)) only [go_sem, ↓reduceIte, ↓reduceDIte, Nat.reduceEqDiff, reduceCtorEq, Nat.reduceAdd, Nat.reduceSub, Nat.reduceMul, Nat.reduceBEq, Nat.reduceBNe, Nat.reduceLeDiff, Nat.reduceLT, Int.reduceLT, Int.reduceLE, Int.reduceToNat, Int.reduceEq, Int.reduceNeg, Int.reduceAdd, Int.reduceSub, Int.reduceMul, Nat.reduceMod, Nat.reduceDiv, Nat.reducePow, BEq.rfl, gt_iff_lt, ge_iff_le, *, Int.natCast_add, Int.natCast_one, List.map_append, Col.cells] <;> with_reducible rfl) | with_reducible rfl)) : a ≤ b := h
theorem sdM17 {α : Type _} {a b : α} (h : a = b := by (first | (simp (maxSteps := 2000000) (disch := first | assumption | omega | (simp only [go_sem] <;> with_reducible rfl)) only [go_sem, ↓reduceIte, ↓reduceDIte, Nat.reduceEqDiff, reduceCtorEq, Nat.reduceAdd, Nat.reduceSub, Nat.reduceMul, Nat.reduceBEq, Nat.reduceBNe, Nat.reduceLeDiff, Nat.reduceLT, Int.reduceLT, Int.reduceLE, Int.reduceToNat, Int.reduceEq, Int.reduceNeg, Int.reduceAdd, Int.reduceSub, Int.reduceMul, Nat.reduceMod, Nat.reduceDiv, Nat.reducePow, BEq.rfl, gt_iff_lt, ge_iff_le, *, Int.natCast_zero] <;> with_reducible rfl) | with_reducible rfl)) : a = b := h
theorem sdM17p {a b : Nat} (h : a ≤ b := by (first | (simp (maxSteps := 2000000) (disch := first | assumption | omega | (simp only [go_sem] <;> with_reducible rfl)) only [go_sem, ↓reduceIte, ↓reduceDIte, Nat.reduceEqDiff, reduceCtorEq, Nat.reduceAdd, Nat.reduceSub, Nat.reduceMul, Nat.reduceBEq, Nat.reduceBNe, Nat.reduceLeDiff, Nat.reduceLT, Int.reduceLT, Int.reduceLE, Int.reduceToNat, Int.reduceEq, Int.reduceNeg, Int.reduceAdd, Int.reduceSub, Int.reduceMul, Nat.reduceMod, Nat.reduceDiv, Nat.reducePow, BEq.rfl, gt_iff_lt, ge_iff_le, *, Int.natCast_zero] <;> with_reducible rfl) | with_reducible rfl)) : a ≤ b := h
theorem c_kinds (s : Sch) (t : Int) (hS : s.tabs.length ≤ 1000000) (hB : ∀ x ∈ s.tabs, x.cols.length ≤ 1000000) : CallA Try.prog C (.func 17) {} [.agg (s.cells.map .d), .d (.int .i64 t)] [] fun v hs => v = .d (.fsl (rowsI (s.kinds t)) false false) ∧ hs = [] := by
  refine call_func Try.func17 rfl (by decide) (by kernel_rfl) ⟨Nat.le_of_ble_eq_true rfl, Nat.le_of_ble_eq_true rfl⟩ ?_
  have ch := c_has s t hS
  unfold Sch.kinds
  by_cases ht : 0 ≤ t ∧ t < s.tabs.length
  case neg =>
    rw [decide_eq_false ht] at ch
    rw [if_pos (by omega)]
    repeat' (first
    | ((with_reducible first | apply o_some | apply o_none | apply x_joined); exact sdM10; exact sdM10)
    | ((with_reducible first | apply d_some | apply d_none); exact sdM10; exact sdM10; exact sdM10)
    | ((with_reducible first | apply o_gT | apply d_gT); exact sdM10; exact sdM10)
    | ((with_reducible first | apply o_gF | apply d_gF); exact sdM10; exact sdM10; rfl)
    | ((with_reducible first | apply o_gU | apply d_gU); exact sdM10; exact sdM10)
    | ((with_reducible apply o_nilq); (exact ⟨by decide, by first | assumption | simp only [go_sem]⟩); exact sdM10; exact sdM10)
    | (with_reducible first | apply o_nil | apply x_next | apply x_seq | apply x_block | apply x_leave_normal | apply x_leave_ret | apply x_pass_ret | apply x_loop_exit | apply x_loop_ret | apply x_pass_exit | apply x_exit | apply x_ret | apply x_skip | apply x_label | apply x_join_ret | apply x_join_exit)
    | ((with_reducible apply d_end); kernel_rfl)
    | ((with_reducible apply x_region); exact sdM10)
    | ((with_reducible apply x_regionD); kernel_rfl; exact sdM10; exact sdM10)
    | ((with_reducible first | apply x_leave_exit | apply x_condT); exact sdM10)
    | ((with_reducible apply x_condF); exact sdM10)
    | ((first | ((with_reducible apply x_condB); exact sdM10) | ((with_reducible first | apply o_gB | apply d_gB); exact sdM10; exact sdM10)); all_goals intro hc; all_goals (try simp only [decide_eq_true_eq, decide_eq_false_iff_not, Bool.not_eq_true', Bool.not_eq_false', Bool.and_eq_true, Bool.or_eq_false_iff, Classical.not_not] at hc); all_goals (try (exfalso; omega)))
    | ((with_reducible apply o_call); exact sdM10; exact sdM10; exact sdM10; (first | exact ch); exact sdM10; exact sdM10)
    | ((with_reducible apply o_callN); exact sdM10; exact sdM10; exact sdM10; (first | exact ch); exact sdM10)
    | ((with_reducible apply d_callS); exact sdM10; exact sdM10; exact sdM10; (first | exact ch); exact sdM10p; exact sdM10; exact sdM10; exact sdM10; exact sdM10)
    | ((with_reducible apply x_end); (first | exact .inl rfl | exact .inr rfl); exact sdM10; exact sdM10))
    all_goals exact ⟨rfl, rfl⟩
  rw [decide_eq_true ht] at ch
  rw [if_neg (by omega)]
  obtain ⟨h3, h4⟩ := ht
  have h2 : t.toNat < s.tabs.length := by omega
  have hgt : s.tabs[t.toNat]? = some s.tabs[t.toNat] := List.getElem?_eq_getElem h2
  have hx := hB _ (List.getElem_mem h2)
  generalize s.tabs[t.toNat] = x at hgt hx
  rw [hgt]
  simp only
  have hbig : 1000000 < big := by decide
  repeat' (first
    | ((with_reducible first | apply o_some | apply o_none | apply x_joined); exact sdM11; exact sdM11)
    | ((with_reducible first | apply d_some | apply d_none); exact sdM11; exact sdM11; exact sdM11)
    | ((with_reducible first | apply o_gT | apply d_gT); exact sdM11; exact sdM11)
    | ((with_reducible first | apply o_gF | apply d_gF); exact sdM11; exact sdM11; rfl)
    | ((with_reducible first | apply o_gU | apply d_gU); exact sdM11; exact sdM11)
    | ((with_reducible apply o_nilq); (exact ⟨by decide, by first | assumption | simp only [go_sem]⟩); exact sdM11; exact sdM11)
    | (with_reducible first | apply o_nil | apply x_next | apply x_seq | apply x_block | apply x_leave_normal | apply x_leave_ret | apply x_pass_ret | apply x_loop_exit | apply x_loop_ret | apply x_pass_exit | apply x_exit | apply x_ret | apply x_skip | apply x_label | apply x_join_ret | apply x_join_exit)
    | ((with_reducible apply d_end); kernel_rfl)
    | ((with_reducible apply x_region); exact sdM11)
    | ((with_reducible apply x_regionD); kernel_rfl; exact sdM11; exact sdM11)
    | ((with_reducible first | apply x_leave_exit | apply x_condT); exact sdM11)
    | ((with_reducible apply x_condF); exact sdM11)
    | ((first | ((with_reducible apply x_condB); exact sdM11) | ((with_reducible first | apply o_gB | apply d_gB); exact sdM11; exact sdM11)); all_goals intro hc; all_goals (try simp only [decide_eq_true_eq, decide_eq_false_iff_not, Bool.not_eq_true', Bool.not_eq_false', Bool.and_eq_true, Bool.or_eq_false_iff, Classical.not_not] at hc); all_goals (try (exfalso; omega)))
    | ((with_reducible apply o_call); exact sdM11; exact sdM11; exact sdM11; (first | exact ch); exact sdM11; exact sdM11)
    | ((with_reducible apply o_callN); exact sdM11; exact sdM11; exact sdM11; (first | exact ch); exact sdM11)
    | ((with_reducible apply d_callS); exact sdM11; exact sdM11; exact sdM11; (first | exact ch); exact sdM11p; exact sdM11; exact sdM11; exact sdM11; exact sdM11)
    | ((with_reducible apply x_end); (first | exact .inl rfl | exact .inr rfl); exact sdM11; exact sdM11))
  refine x_loopG { ownRes := true } [5, 17, 18, 19] (fun (i : Nat) => [(5, match i with | 0 => .d .snil | j + 1 => .sl 0 0 (j + 1) false), (17, .d (.fsl (x.cols.map fun c => c.cells) false false)), (18, .d (.int .i64 x.cols.length)), (19, .d (.int .i64 i))])
    (fun i => match i with | 0 => [] | j + 1 => [some (.flat 1 (rowsI ((x.cols.take (j + 1)).map fun c => c.kind)))]) (fun i => i ≤ x.cols.length) (fun i => x.cols.length - i) 0 ?_ (by omega) ?_
  · exact sdM1
  · intro i hi
    by_cases hlt : i < x.cols.length
    · have hlt' : (i : Int) < x.cols.length := by omega
      have hgi : x.cols[i]? = some x.cols[i] := List.getElem?_eq_getElem hlt
      have hd : x.cols.take (i + 1) = x.cols.take i ++ [x.cols[i]] := List.take_succ_eq_append_getElem hlt
      generalize x.cols[i] = c at hgi hd
      rcases i with _ | j
      · repeat' (first
    | ((with_reducible first | apply o_some | apply o_none | apply x_joined); exact sdM13; exact sdM13)
    | ((with_reducible first | apply d_some | apply d_none); exact sdM13; exact sdM13; exact sdM13)
    | ((with_reducible first | apply o_gT | apply d_gT); exact sdM13; exact sdM13)
    | ((with_reducible first | apply o_gF | apply d_gF); exact sdM13; exact sdM13; rfl)
    | ((with_reducible first | apply o_gU | apply d_gU); exact sdM13; exact sdM13)
    | ((with_reducible apply o_nilq); (exact ⟨by decide, by first | assumption | simp only [go_sem]⟩); exact sdM13; exact sdM13)
    | (with_reducible first | apply o_nil | apply x_next | apply x_seq | apply x_block | apply x_leave_normal | apply x_leave_ret | apply x_pass_ret | apply x_loop_exit | apply x_loop_ret | apply x_pass_exit | apply x_exit | apply x_ret | apply x_skip | apply x_label | apply x_join_ret | apply x_join_exit)
    | ((with_reducible apply d_end); kernel_rfl)
    | ((with_reducible apply x_region); exact sdM13)
    | ((with_reducible apply x_regionD); kernel_rfl; exact sdM13; exact sdM13)
    | ((with_reducible first | apply x_leave_exit | apply x_condT); exact sdM13)
    | ((with_reducible apply x_condF); exact sdM13)
    | ((first | ((with_reducible apply x_condB); exact sdM13) | ((with_reducible first | apply o_gB | apply d_gB); exact sdM13; exact sdM13)); all_goals intro hc; all_goals (try simp only [decide_eq_true_eq, decide_eq_false_iff_not, Bool.not_eq_true', Bool.not_eq_false', Bool.and_eq_true, Bool.or_eq_false_iff, Classical.not_not] at hc); all_goals (try (exfalso; omega)))
    | ((with_reducible apply x_end); (first | exact .inl rfl | exact .inr rfl); exact sdM13; exact sdM13))
        refine x_again 1 (by omega) (by omega) ?_
        have hd1 : x.cols.take 1 = [c] := hd
        exact sdM14
      · have hd : x.cols.take (j + 1 + 1) = x.cols.take (j + 1) ++ [c] := hd
        repeat' (first
    | ((with_reducible first | apply o_some | apply o_none | apply x_joined); exact sdM15; exact sdM15)
    | ((with_reducible first | apply d_some | apply d_none); exact sdM15; exact sdM15; exact sdM15)
    | ((with_reducible first | apply o_gT | apply d_gT); exact sdM15; exact sdM15)
    | ((with_reducible first | apply o_gF | apply d_gF); exact sdM15; exact sdM15; rfl)
    | ((with_reducible first | apply o_gU | apply d_gU); exact sdM15; exact sdM15)
    | ((with_reducible apply o_nilq); (exact ⟨by decide, by first | assumption | simp only [go_sem]⟩); exact sdM15; exact sdM15)
    | (with_reducible first | apply o_nil | apply x_next | apply x_seq | apply x_block | apply x_leave_normal | apply x_leave_ret | apply x_pass_ret | apply x_loop_exit | apply x_loop_ret | apply x_pass_exit | apply x_exit | apply x_ret | apply x_skip | apply x_label | apply x_join_ret | apply x_join_exit)
    | ((with_reducible apply d_end); kernel_rfl)
    | ((with_reducible apply x_region); exact sdM15)
    | ((with_reducible apply x_regionD); kernel_rfl; exact sdM15; exact sdM15)
    | ((with_reducible first | apply x_leave_exit | apply x_condT); exact sdM15)
    | ((with_reducible apply x_condF); exact sdM15)
    | ((first | ((with_reducible apply x_condB); exact sdM15) | ((with_reducible first | apply o_gB | apply d_gB); exact sdM15; exact sdM15)); all_goals intro hc; all_goals (try simp only [decide_eq_true_eq, decide_eq_false_iff_not, Bool.not_eq_true', Bool.not_eq_false', Bool.and_eq_true, Bool.or_eq_false_iff, Classical.not_not] at hc); all_goals (try (exfalso; omega)))
    | ((with_reducible apply x_end); (first | exact .inl rfl | exact .inr rfl); exact sdM15; exact sdM15))
        refine x_again (j + 1 + 1) (by omega) (by omega) ?_
        exact sdM16
    · have hlt' : ¬ (i : Int) < x.cols.length := by omega
      have he : x.cols.length ≤ i := by omega
      rcases i with _ | j
      · have he : x.cols = [] := List.length_eq_zero_iff.1 (by omega)
        repeat' (first
    | ((with_reducible first | apply o_some | apply o_none | apply x_joined); exact sdM17; exact sdM17)
    | ((with_reducible first | apply d_some | apply d_none); exact sdM17; exact sdM17; exact sdM17)
    | ((with_reducible first | apply o_gT | apply d_gT); exact sdM17; exact sdM17)
    | ((with_reducible first | apply o_gF | apply d_gF); exact sdM17; exact sdM17; rfl)
    | ((with_reducible first | apply o_gU | apply d_gU); exact sdM17; exact sdM17)
    | ((with_reducible apply o_nilq); (exact ⟨by decide, by first | assumption | simp only [go_sem]⟩); exact sdM17; exact sdM17)
    | (with_reducible first | apply o_nil | apply x_next | apply x_seq | apply x_block | apply x_leave_normal | apply x_leave_ret | apply x_pass_ret | apply x_loop_exit | apply x_loop_ret | apply x_pass_exit | apply x_exit | apply x_ret | apply x_skip | apply x_label | apply x_join_ret | apply x_join_exit)
    | ((with_reducible apply d_end); kernel_rfl)
    | ((with_reducible apply x_region); exact sdM17)
    | ((with_reducible apply x_regionD); kernel_rfl; exact sdM17; exact sdM17)
    | ((with_reducible first | apply x_leave_exit | apply x_condT); exact sdM17)
    | ((with_reducible apply x_condF); exact sdM17)
    | ((first | ((with_reducible apply x_condB); exact sdM17) | ((with_reducible first | apply o_gB | apply d_gB); exact sdM17; exact sdM17)); all_goals intro hc; all_goals (try simp only [decide_eq_true_eq, decide_eq_false_iff_not, Bool.not_eq_true', Bool.not_eq_false', Bool.and_eq_true, Bool.or_eq_false_iff, Classical.not_not] at hc); all_goals (try (exfalso; omega)))
    | ((with_reducible apply x_end); (first | exact .inl rfl | exact .inr rfl); exact sdM17; exact sdM17))
        exact ⟨by rw [he]; rfl, rfl⟩
      · repeat' (first
    | ((with_reducible first | apply o_some | apply o_none | apply x_joined); exact sdM1; exact sdM1)
    | ((with_reducible first | apply d_some | apply d_none); exact sdM1; exact sdM1; exact sdM1)
    | ((with_reducible first | apply o_gT | apply d_gT); exact sdM1; exact sdM1)
    | ((with_reducible first | apply o_gF | apply d_gF); exact sdM1; exact sdM1; rfl)
    | ((with_reducible first | apply o_gU | apply d_gU); exact sdM1; exact sdM1)
    | ((with_reducible apply o_nilq); (exact ⟨by decide, by first | assumption | simp only [go_sem]⟩); exact sdM1; exact sdM1)
    | (with_reducible first | apply o_nil | apply x_next | apply x_seq | apply x_block | apply x_leave_normal | apply x_leave_ret | apply x_pass_ret | apply x_loop_exit | apply x_loop_ret | apply x_pass_exit | apply x_exit | apply x_ret | apply x_skip | apply x_label | apply x_join_ret | apply x_join_exit)
    | ((with_reducible apply d_end); kernel_rfl)
    | ((with_reducible apply x_region); exact sdM1)
    | ((with_reducible apply x_regionD); kernel_rfl; exact sdM1; exact sdM1)
    | ((with_reducible first | apply x_leave_exit | apply x_condT); exact sdM1)
    | ((with_reducible apply x_condF); exact sdM1)
    | ((first | ((with_reducible apply x_condB); exact sdM1) | ((with_reducible first | apply o_gB | apply d_gB); exact sdM1; exact sdM1)); all_goals intro hc; all_goals (try simp only [decide_eq_true_eq, decide_eq_false_iff_not, Bool.not_eq_true', Bool.not_eq_false', Bool.and_eq_true, Bool.or_eq_false_iff, Classical.not_not] at hc); all_goals (try (exfalso; omega)))
    | ((with_reducible apply x_end); (first | exact .inl rfl | exact .inr rfl); exact sdM1; exact sdM1))
        exact ⟨by rw [List.take_of_length_le he]; simp [rowsI], rfl⟩
def sameL : List Int → List Int → Bool
  | [], [] => true
  | a :: r, b :: q => decide (a = b) && sameL r q
  | _, _ => false
theorem sameL_len : ∀ {l r : List Int}, l.length ≠ r.length → sameL l r = false
  | [], [], h => absurd rfl h
  | [], _ :: _, _ => rfl
  | _ :: _, [], _ => rfl
  | a :: l, b :: r, h => by
    rw [sameL, sameL_len (l := l) (r := r) (by simpa using h)]; simp
theorem sameL_iff : ∀ {l r : List Int}, sameL l r = true ↔ l = r
  | [], [] => by simp [sameL]
  | [], _ :: _ => by simp [sameL]
  | _ :: _, [] => by simp [sameL]
  | a :: l, b :: r => by simp [sameL, sameL_iff (l := l) (r := r)]
theorem sdM18 {α : Type _} {a b : α} (h : a = b := by (first | (simp (maxSteps := 2000000) (disch := first | assumption | omega | (simp only [go_sem] <;> with_reducible rfl)) only [go_sem, ↓reduceIte, ↓reduceDIte, Nat.reduceEqDiff, reduceCtorEq, Nat.reduceAdd, Nat.reduceSub, Nat.reduceMul, Nat.reduceBEq, Nat.reduceBNe, Nat.reduceLeDiff, Nat.reduceLT, Int.reduceLT, Int.reduceLE, Int.reduceToNat, Int.reduceEq, Int.reduceNeg, Int.reduceAdd, Int.reduceSub, Int.reduceMul, Nat.reduceMod, Nat.reduceDiv, Nat.reducePow, BEq.rfl, gt_iff_lt, ge_iff_le, *, Int.natCast_add, Int.natCast_one] <;> with_reducible rfl) | with_reducible rfl)) : a = b := h
theorem sdM18p {a b : Nat} (h : a ≤ b := by (first | (simp (maxSteps := 2000000) (disch := first | assumption | omega | (simp only [go_sem] <;> with_reducible rfl)) only [go_sem, ↓reduceIte, ↓reduceDIte, Nat.reduceEqDiff, reduceCtorEq, Nat.reduceAdd, Nat.reduceSub, Nat.reduceMul, Nat.reduceBEq, Nat.reduceBNe, Nat.reduceLeDiff, Nat.reduceLT, Int.reduceLT, Int.reduceLE, Int.reduceToNat, Int.reduceEq, Int.reduceNeg, Int.reduceAdd, Int.reduceSub, Int.reduceMul, Nat.reduceMod, Nat.reduceDiv, Nat.reducePow, BEq.rfl, gt_iff_lt, ge_iff_le, *, Int.natCast_add, Int.natCast_one] <;> with_reducible rfl) | with_reducible rfl)) : a ≤ b := h
theorem c_same (l r : List Int) (hB : l.length ≤ 1000000) : CallA Try.prog C (.func 18) {} [.d (.fsl (rowsI l) false false), .d (.fsl (rowsI r) false false)] [] fun v hs => v = .d (.bool (sameL l r)) ∧ hs = [] := by
  refine call_func Try.func18 rfl (by decide) (by kernel_rfl) ⟨Nat.le_of_ble_eq_true rfl, Nat.le_of_ble_eq_true rfl⟩ ?_
  have hbig : 1000000 < big := by decide
  by_cases hlen : l.length = r.length
  case neg =>
    rw [sameL_len hlen]
    have hlen' : ¬ (l.length : Int) = r.length := by omega
    repeat' (first
    | ((with_reducible first | apply o_some | apply o_none | apply x_joined); exact sdM1; exact sdM1)
    | ((with_reducible first | apply d_some | apply d_none); exact sdM1; exact sdM1; exact sdM1)
    | ((with_reducible first | apply o_gT | apply d_gT); exact sdM1; exact sdM1)
    | ((with_reducible first | apply o_gF | apply d_gF); exact sdM1; exact sdM1; rfl)
    | ((with_reducible first | apply o_gU | apply d_gU); exact sdM1; exact sdM1)
    | ((with_reducible apply o_nilq); (exact ⟨by decide, by first | assumption | simp only [go_sem]⟩); exact sdM1; exact sdM1)
    | (with_reducible first | apply o_nil | apply x_next | apply x_seq | apply x_block | apply x_leave_normal | apply x_leave_ret | apply x_pass_ret | apply x_loop_exit | apply x_loop_ret | apply x_pass_exit | apply x_exit | apply x_ret | apply x_skip | apply x_label | apply x_join_ret | apply x_join_exit)
    | ((with_reducible apply d_end); kernel_rfl)
    | ((with_reducible apply x_region); exact sdM1)
    | ((with_reducible apply x_regionD); kernel_rfl; exact sdM1; exact sdM1)
    | ((with_reducible first | apply x_leave_exit | apply x_condT); exact sdM1)
    | ((with_reducible apply x_condF); exact sdM1)
    | ((first | ((with_reducible apply x_condB); exact sdM1) | ((with_reducible first | apply o_gB | apply d_gB); exact sdM1; exact sdM1)); all_goals intro hc; all_goals (try simp only [decide_eq_true_eq, decide_eq_false_iff_not, Bool.not_eq_true', Bool.not_eq_false', Bool.and_eq_true, Bool.or_eq_false_iff, Classical.not_not] at hc); all_goals (try (exfalso; omega)))
    | ((with_reducible apply x_end); (first | exact .inl rfl | exact .inr rfl); exact sdM1; exact sdM1))
    all_goals exact ⟨rfl, rfl⟩
  have hlen' : (l.length : Int) = r.length := by omega
  repeat' (first
    | ((with_reducible first | apply o_some | apply o_none | apply x_joined); exact sdM1; exact sdM1)
    | ((with_reducible first | apply d_some | apply d_none); exact sdM1; exact sdM1; exact sdM1)
    | ((with_reducible first | apply o_gT | apply d_gT); exact sdM1; exact sdM1)
    | ((with_reducible first | apply o_gF | apply d_gF); exact sdM1; exact sdM1; rfl)
    | ((with_reducible first | apply o_gU | apply d_gU); exact sdM1; exact sdM1)
    | ((with_reducible apply o_nilq); (exact ⟨by decide, by first | assumption | simp only [go_sem]⟩); exact sdM1; exact sdM1)
    | (with_reducible first | apply o_nil | apply x_next | apply x_seq | apply x_block | apply x_leave_normal | apply x_leave_ret | apply x_pass_ret | apply x_loop_exit | apply x_loop_ret | apply x_pass_exit | apply x_exit | apply x_ret | apply x_skip | apply x_label | apply x_join_ret | apply x_join_exit)
    | ((with_reducible apply d_end); kernel_rfl)
    | ((with_reducible apply x_region); exact sdM1)
    | ((with_reducible apply x_regionD); kernel_rfl; exact sdM1; exact sdM1)
    | ((with_reducible first | apply x_leave_exit | apply x_condT); exact sdM1)
    | ((with_reducible apply x_condF); exact sdM1)
    | ((first | ((with_reducible apply x_condB); exact sdM1) | ((with_reducible first | apply o_gB | apply d_gB); exact sdM1; exact sdM1)); all_goals intro hc; all_goals (try simp only [decide_eq_true_eq, decide_eq_false_iff_not, Bool.not_eq_true', Bool.not_eq_false', Bool.and_eq_true, Bool.or_eq_false_iff, Classical.not_not] at hc); all_goals (try (exfalso; omega)))
    | ((with_reducible apply x_end); (first | exact .inl rfl | exact .inr rfl); exact sdM1; exact sdM1))
  refine x_loopG { ownRes := true } [0, 1, 12, 13] (fun (i : Nat) => [(0, .d (.fsl (rowsI l) false false)), (1, .d (.fsl (rowsI r) false false)), (12, .d (.int .i64 l.length)), (13, .d (.int .i64 i))])
    (fun _ => []) (fun i => i ≤ l.length ∧ sameL l r = sameL (l.drop i) (r.drop i)) (fun i => l.length - i) 0 ?_ ⟨by omega, rfl⟩ ?_
  · exact sdM1
  · rintro i ⟨hi, hv⟩
    by_cases hlt : i < l.length
    · have hlt' : (i : Int) < l.length := by omega
      have hlt2 : (i : Int) < r.length := by omega
      have hgi : l[i]? = some l[i] := List.getElem?_eq_getElem hlt
      have hgj : r[i]? = some r[i] := List.getElem?_eq_getElem (by omega)
      rw [List.drop_eq_getElem_cons hlt, List.drop_eq_getElem_cons (show i < r.length by omega), sameL] at hv
      generalize l[i] = a at hgi hv
      generalize r[i] = b at hgj hv
      by_cases hab : a = b
      · rw [decide_eq_true hab, Bool.true_and] at hv
        repeat' (first
    | ((with_reducible first | apply o_some | apply o_none | apply x_joined); exact sdM1; exact sdM1)
    | ((with_reducible first | apply d_some | apply d_none); exact sdM1; exact sdM1; exact sdM1)
    | ((with_reducible first | apply o_gT | apply d_gT); exact sdM1; exact sdM1)
    | ((with_reducible first | apply o_gF | apply d_gF); exact sdM1; exact sdM1; rfl)
    | ((with_reducible first | apply o_gU | apply d_gU); exact sdM1; exact sdM1)
    | ((with_reducible apply o_nilq); (exact ⟨by decide, by first | assumption | simp only [go_sem]⟩); exact sdM1; exact sdM1)
    | (with_reducible first | apply o_nil | apply x_next | apply x_seq | apply x_block | apply x_leave_normal | apply x_leave_ret | apply x_pass_ret | apply x_loop_exit | apply x_loop_ret | apply x_pass_exit | apply x_exit | apply x_ret | apply x_skip | apply x_label | apply x_join_ret | apply x_join_exit)
    | ((with_reducible apply d_end); kernel_rfl)
    | ((with_reducible apply x_region); exact sdM1)
    | ((with_reducible apply x_regionD); kernel_rfl; exact sdM1; exact sdM1)
    | ((with_reducible first | apply x_leave_exit | apply x_condT); exact sdM1)
    | ((with_reducible apply x_condF); exact sdM1)
    | ((first | ((with_reducible apply x_condB); exact sdM1) | ((with_reducible first | apply o_gB | apply d_gB); exact sdM1; exact sdM1)); all_goals intro hc; all_goals (try simp only [decide_eq_true_eq, decide_eq_false_iff_not, Bool.not_eq_true', Bool.not_eq_false', Bool.and_eq_true, Bool.or_eq_false_iff, Classical.not_not] at hc); all_goals (try (exfalso; omega)))
    | ((with_reducible apply x_end); (first | exact .inl rfl | exact .inr rfl); exact sdM1; exact sdM1))
        all_goals (refine x_again (i + 1) ⟨by omega, hv⟩ (by omega) ?_)
        all_goals (exact sdM18)
      · rw [decide_eq_false hab, Bool.false_and] at hv
        rw [hv]
        repeat' (first
    | ((with_reducible first | apply o_some | apply o_none | apply x_joined); exact sdM1; exact sdM1)
    | ((with_reducible first | apply d_some | apply d_none); exact sdM1; exact sdM1; exact sdM1)
    | ((with_reducible first | apply o_gT | apply d_gT); exact sdM1; exact sdM1)
    | ((with_reducible first | apply o_gF | apply d_gF); exact sdM1; exact sdM1; rfl)
    | ((with_reducible first | apply o_gU | apply d_gU); exact sdM1; exact sdM1)
    | ((with_reducible apply o_nilq); (exact ⟨by decide, by first | assumption | simp only [go_sem]⟩); exact sdM1; exact sdM1)
    | (with_reducible first | apply o_nil | apply x_next | apply x_seq | apply x_block | apply x_leave_normal | apply x_leave_ret | apply x_pass_ret | apply x_loop_exit | apply x_loop_ret | apply x_pass_exit | apply x_exit | apply x_ret | apply x_skip | apply x_label | apply x_join_ret | apply x_join_exit)
    | ((with_reducible apply d_end); kernel_rfl)
    | ((with_reducible apply x_region); exact sdM1)
    | ((with_reducible apply x_regionD); kernel_rfl; exact sdM1; exact sdM1)
    | ((with_reducible first | apply x_leave_exit | apply x_condT); exact sdM1)
    | ((with_reducible apply x_condF); exact sdM1)
    | ((first | ((with_reducible apply x_condB); exact sdM1) | ((with_reducible first | apply o_gB | apply d_gB); exact sdM1; exact sdM1)); all_goals intro hc; all_goals (try simp only [decide_eq_true_eq, decide_eq_false_iff_not, Bool.not_eq_true', Bool.not_eq_false', Bool.and_eq_true, Bool.or_eq_false_iff, Classical.not_not] at hc); all_goals (try (exfalso; omega)))
    | ((with_reducible apply x_end); (first | exact .inl rfl | exact .inr rfl); exact sdM1; exact sdM1))
        all_goals exact ⟨rfl, rfl⟩
    · have hlt' : ¬ (i : Int) < l.length := by omega
      rw [List.drop_of_length_le (by omega), List.drop_of_length_le (by omega)] at hv
      rw [show sameL l r = true from hv]
      repeat' (first
    | ((with_reducible first | apply o_some | apply o_none | apply x_joined); exact sdM1; exact sdM1)
    | ((with_reducible first | apply d_some | apply d_none); exact sdM1; exact sdM1; exact sdM1)
    | ((with_reducible first | apply o_gT | apply d_gT); exact sdM1; exact sdM1)
    | ((with_reducible first | apply o_gF | apply d_gF); exact sdM1; exact sdM1; rfl)
    | ((with_reducible first | apply o_gU | apply d_gU); exact sdM1; exact sdM1)
    | ((with_reducible apply o_nilq); (exact ⟨by decide, by first | assumption | simp only [go_sem]⟩); exact sdM1; exact sdM1)
    | (with_reducible first | apply o_nil | apply x_next | apply x_seq | apply x_block | apply x_leave_normal | apply x_leave_ret | apply x_pass_ret | apply x_loop_exit | apply x_loop_ret | apply x_pass_exit | apply x_exit | apply x_ret | apply x_skip | apply x_label | apply x_join_ret | apply x_join_exit)
    | ((with_reducible apply d_end); kernel_rfl)
    | ((with_reducible apply x_region); exact sdM1)
    | ((with_reducible apply x_regionD); kernel_rfl; exact sdM1; exact sdM1)
    | ((with_reducible first | apply x_leave_exit | apply x_condT); exact sdM1)
    | ((with_reducible apply x_condF); exact sdM1)
    | ((first | ((with_reducible apply x_condB); exact sdM1) | ((with_reducible first | apply o_gB | apply d_gB); exact sdM1; exact sdM1)); all_goals intro hc; all_goals (try simp only [decide_eq_true_eq, decide_eq_false_iff_not, Bool.not_eq_true', Bool.not_eq_false', Bool.and_eq_true, Bool.or_eq_false_iff, Classical.not_not] at hc); all_goals (try (exfalso; omega)))
    | ((with_reducible apply x_end); (first | exact .inl rfl | exact .inr rfl); exact sdM1; exact sdM1))
      all_goals exact ⟨rfl, rfl⟩
def Sch.keyKinds (s : Sch) (t : Int) : List Int := if t < 0 ∨ (s.tabs.length : Int) ≤ t then [] else match s.tabs[t.toNat]? with
  | some x => if x.key < 0 then [] else (s.kinds t).take x.key.toNat
  | none => []
theorem c_keyKinds (s : Sch) (t : Int) (x : Tab) (h0 : 0 ≤ t) (h1 : t < s.tabs.length) (hgt : s.tabs[t.toNat]? = some x) (hk : 0 ≤ x.key) (hl : x.key ≤ (s.kinds t).length) (hS : s.tabs.length ≤ 1000000) (hB : ∀ x ∈ s.tabs, x.cols.length ≤ 1000000) :
    CallA Try.prog C (.func 19) {} [.agg (s.cells.map .d), .d (.int .i64 t)] [] fun v hs => v = .d (.fsl (rowsI (s.keyKinds t)) false false) ∧ hs = [] := by
  refine call_func Try.func19 rfl (by decide) (by kernel_rfl) ⟨Nat.le_of_ble_eq_true rfl, Nat.le_of_ble_eq_true rfl⟩ ?_
  have ch := c_has s t hS
  have ck := c_kinds s t hS hB
  rw [decide_eq_true ⟨h0, h1⟩] at ch
  have e : s.keyKinds t = (s.kinds t).take x.key.toNat := by
    rw [Sch.keyKinds, if_neg (by omega), hgt]
    simp only
    rw [if_neg (by omega)]
  rw [e]
  generalize s.kinds t = l at *
  have hk' : ¬ x.key < 0 := by omega
  have hkn : x.key.toNat ≤ l.length := by omega
  have hm : (if x.key < (l.length : Int) then x.key else (l.length : Int)) = x.key := by split <;> omega
  repeat' (first
    | ((with_reducible first | apply o_some | apply o_none | apply x_joined); exact sdM11; exact sdM11)
    | ((with_reducible first | apply d_some | apply d_none); exact sdM11; exact sdM11; exact sdM11)
    | ((with_reducible first | apply o_gT | apply d_gT); exact sdM11; exact sdM11)
    | ((with_reducible first | apply o_gF | apply d_gF); exact sdM11; exact sdM11; rfl)
    | ((with_reducible first | apply o_gU | apply d_gU); exact sdM11; exact sdM11)
    | ((with_reducible apply o_nilq); (exact ⟨by decide, by first | assumption | simp only [go_sem]⟩); exact sdM11; exact sdM11)
    | (with_reducible first | apply o_nil | apply x_next | apply x_seq | apply x_block | apply x_leave_normal | apply x_leave_ret | apply x_pass_ret | apply x_loop_exit | apply x_loop_ret | apply x_pass_exit | apply x_exit | apply x_ret | apply x_skip | apply x_label | apply x_join_ret | apply x_join_exit)
    | ((with_reducible apply d_end); kernel_rfl)
    | ((with_reducible apply x_region); exact sdM11)
    | ((with_reducible apply x_regionD); kernel_rfl; exact sdM11; exact sdM11)
    | ((with_reducible first | apply x_leave_exit | apply x_condT); exact sdM11)
    | ((with_reducible apply x_condF); exact sdM11)
    | ((first | ((with_reducible apply x_condB); exact sdM11) | ((with_reducible first | apply o_gB | apply d_gB); exact sdM11; exact sdM11)); all_goals intro hc; all_goals (try simp only [decide_eq_true_eq, decide_eq_false_iff_not, Bool.not_eq_true', Bool.not_eq_false', Bool.and_eq_true, Bool.or_eq_false_iff, Classical.not_not] at hc); all_goals (try (exfalso; omega)))
    | ((with_reducible apply o_call); exact sdM11; exact sdM11; exact sdM11; (first | exact ch | exact ck); exact sdM11; exact sdM11)
    | ((with_reducible apply o_callN); exact sdM11; exact sdM11; exact sdM11; (first | exact ch | exact ck); exact sdM11)
    | ((with_reducible apply d_callS); exact sdM11; exact sdM11; exact sdM11; (first | exact ch | exact ck); exact sdM11p; exact sdM11; exact sdM11; exact sdM11; exact sdM11)
    | ((with_reducible apply x_end); (first | exact .inl rfl | exact .inr rfl); exact sdM11; exact sdM11))
  all_goals exact ⟨rfl, rfl⟩

end Go.Proofs.Ytfdekggfdklfeaa
