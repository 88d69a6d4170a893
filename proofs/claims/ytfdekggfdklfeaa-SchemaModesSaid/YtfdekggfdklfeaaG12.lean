/-
  Contracts: a valid predicate of a case.
-/
import Derived.Test.YtfdekggfdklfeaaG11
set_option linter.all false
set_option linter.unusedVariables false
set_option linter.unusedSimpArgs false
namespace Go.Proofs.Ytfdekggfdklfeaa
open Go.Ab
attribute [local irreducible] seqK blockK loopK endK
set_option maxRecDepth 10000
set_option maxHeartbeats 16000000
theorem sdG12 {α : Type _} {a b : α} (h : a = b := by (first | (simp (maxSteps := 2000000) (disch := first | assumption | omega | (simp only [go_sem] <;> with_reducible rfl)) only [go_sem, ↓reduceIte, ↓reduceDIte, Nat.reduceEqDiff, reduceCtorEq, Nat.reduceAdd, Nat.reduceSub, Nat.reduceMul, Nat.reduceBEq, Nat.reduceBNe, Nat.reduceLeDiff, Nat.reduceLT, Int.reduceLT, Int.reduceLE, Int.reduceToNat, Int.reduceEq, Int.reduceNeg, Int.reduceAdd, Int.reduceSub, Int.reduceMul, Nat.reduceMod, Nat.reduceDiv, Nat.reducePow, BEq.rfl, gt_iff_lt, ge_iff_le, *] <;> with_reducible rfl) | with_reducible rfl)) : a = b := h
theorem sdG12p {a b : Nat} (h : a ≤ b := by (first | (simp (maxSteps := 2000000) (disch := first | assumption | omega | (simp only [go_sem] <;> with_reducible rfl)) only [go_sem, ↓reduceIte, ↓reduceDIte, Nat.reduceEqDiff, reduceCtorEq, Nat.reduceAdd, Nat.reduceSub, Nat.reduceMul, Nat.reduceBEq, Nat.reduceBNe, Nat.reduceLeDiff, Nat.reduceLT, Int.reduceLT, Int.reduceLE, Int.reduceToNat, Int.reduceEq, Int.reduceNeg, Int.reduceAdd, Int.reduceSub, Int.reduceMul, Nat.reduceMod, Nat.reduceDiv, Nat.reducePow, BEq.rfl, gt_iff_lt, ge_iff_le, *] <;> with_reducible rfl) | with_reducible rfl)) : a ≤ b := h
theorem e_predicate (codes : List UInt8) (cols params : List Int) (hb : codes.length ≤ 1000) (h1 : cols.length ≤ 1000) (h2 : params.length ≤ 1000) (a : Nat) :
    ∃ (p : Pred) (a' : Nat), p.sz ≤ 10 ∧ CallA Try.prog C (.func 31) {} [.ptr 0 0 0, .d (.fsl (rowsI cols) false false), .d (.fsl (rowsI params) false false), .d (.int .i64 1)] (hC codes a) fun v hs => v = .agg (p.cells.map .d) ∧ hs = hC codes a' := by
  obtain ⟨p, a1, hp, c1⟩ := e_tree1 codes cols params hb h1 h2 a
  have c2 := c_pcheck cols params p h1 h2 (by omega)
  obtain ⟨q, a2, hq, c3⟩ := e_tree1 codes cols params hb h1 h2 a1
  by_cases hch : p.check cols params = 2
  · refine ⟨q, a2, hq, ?_⟩
    refine call_func Try.func31 rfl (by decide) (by kernel_rfl) ⟨Nat.le_of_ble_eq_true rfl, Nat.le_of_ble_eq_true rfl⟩ ?_
    repeat' (first
    | ((with_reducible first | apply o_some | apply o_none | apply x_joined); exact sdG12; exact sdG12)
    | ((with_reducible first | apply d_some | apply d_none); exact sdG12; exact sdG12; exact sdG12)
    | ((with_reducible first | apply o_gT | apply d_gT); exact sdG12; exact sdG12)
    | ((with_reducible first | apply o_gF | apply d_gF); exact sdG12; exact sdG12; rfl)
    | ((with_reducible first | apply o_gU | apply d_gU); exact sdG12; exact sdG12)
    | ((with_reducible apply o_nilq); (exact ⟨by decide, by first | assumption | simp only [go_sem]⟩); exact sdG12; exact sdG12)
    | (with_reducible first | apply o_nil | apply x_next | apply x_seq | apply x_block | apply x_leave_normal | apply x_leave_ret | apply x_pass_ret | apply x_loop_exit | apply x_loop_ret | apply x_pass_exit | apply x_exit | apply x_ret | apply x_skip | apply x_label | apply x_join_ret | apply x_join_exit)
    | ((with_reducible apply d_end); kernel_rfl)
    | ((with_reducible apply x_region); exact sdG12)
    | ((with_reducible apply x_regionD); kernel_rfl; exact sdG12; exact sdG12)
    | ((with_reducible first | apply x_leave_exit | apply x_condT); exact sdG12)
    | ((with_reducible apply x_condF); exact sdG12)
    | ((first | ((with_reducible apply x_condB); exact sdG12) | ((with_reducible first | apply o_gB | apply d_gB); exact sdG12; exact sdG12)); all_goals intro hc; all_goals (try simp only [decide_eq_true_eq, decide_eq_false_iff_not, Bool.not_eq_true', Bool.not_eq_false', Bool.and_eq_true, Bool.or_eq_false_iff, Classical.not_not] at hc); all_goals (try (exfalso; omega)))
    | ((with_reducible apply o_call); exact sdG12; exact sdG12; exact sdG12; (first | assumption); exact sdG12; exact sdG12)
    | ((with_reducible apply o_callN); exact sdG12; exact sdG12; exact sdG12; (first | assumption); exact sdG12)
    | ((with_reducible apply d_callS); exact sdG12; exact sdG12; exact sdG12; (first | assumption); exact sdG12p; exact sdG12; exact sdG12; exact sdG12; exact sdG12)
    | ((with_reducible apply x_end); (first | exact .inl rfl | exact .inr rfl); exact sdG12; exact sdG12))
    all_goals exact ⟨rfl, rfl⟩
  · refine ⟨p, a1, hp, ?_⟩
    refine call_func Try.func31 rfl (by decide) (by kernel_rfl) ⟨Nat.le_of_ble_eq_true rfl, Nat.le_of_ble_eq_true rfl⟩ ?_
    repeat' (first
    | ((with_reducible first | apply o_some | apply o_none | apply x_joined); exact sdG12; exact sdG12)
    | ((with_reducible first | apply d_some | apply d_none); exact sdG12; exact sdG12; exact sdG12)
    | ((with_reducible first | apply o_gT | apply d_gT); exact sdG12; exact sdG12)
    | ((with_reducible first | apply o_gF | apply d_gF); exact sdG12; exact sdG12; rfl)
    | ((with_reducible first | apply o_gU | apply d_gU); exact sdG12; exact sdG12)
    | ((with_reducible apply o_nilq); (exact ⟨by decide, by first | assumption | simp only [go_sem]⟩); exact sdG12; exact sdG12)
    | (with_reducible first | apply o_nil | apply x_next | apply x_seq | apply x_block | apply x_leave_normal | apply x_leave_ret | apply x_pass_ret | apply x_loop_exit | apply x_loop_ret | apply x_pass_exit | apply x_exit | apply x_ret | apply x_skip | apply x_label | apply x_join_ret | apply x_join_exit)
    | ((with_reducible apply d_end); kernel_rfl)
    | ((with_reducible apply x_region); exact sdG12)
    | ((with_reducible apply x_regionD); kernel_rfl; exact sdG12; exact sdG12)
    | ((with_reducible first | apply x_leave_exit | apply x_condT); exact sdG12)
    | ((with_reducible apply x_condF); exact sdG12)
    | ((first | ((with_reducible apply x_condB); exact sdG12) | ((with_reducible first | apply o_gB | apply d_gB); exact sdG12; exact sdG12)); all_goals intro hc; all_goals (try simp only [decide_eq_true_eq, decide_eq_false_iff_not, Bool.not_eq_true', Bool.not_eq_false', Bool.and_eq_true, Bool.or_eq_false_iff, Classical.not_not] at hc); all_goals (try (exfalso; omega)))
    | ((with_reducible apply o_call); exact sdG12; exact sdG12; exact sdG12; (first | assumption); exact sdG12; exact sdG12)
    | ((with_reducible apply o_callN); exact sdG12; exact sdG12; exact sdG12; (first | assumption); exact sdG12)
    | ((with_reducible apply d_callS); exact sdG12; exact sdG12; exact sdG12; (first | assumption); exact sdG12p; exact sdG12; exact sdG12; exact sdG12; exact sdG12)
    | ((with_reducible apply x_end); (first | exact .inl rfl | exact .inr rfl); exact sdG12; exact sdG12))
    all_goals exact ⟨rfl, rfl⟩
end Go.Proofs.Ytfdekggfdklfeaa
