/-
  Contracts: valid values.
-/
import Derived.Test.YtfdekggfdklfeaaH3
import Derived.Test.YtfdekggfdklfeaaG4
set_option linter.all false
set_option linter.unusedVariables false
set_option linter.unusedSimpArgs false
namespace Go.Proofs.Ytfdekggfdklfeaa
open Go.Ab
attribute [local irreducible] seqK blockK loopK endK
set_option maxRecDepth 10000
set_option maxHeartbeats 16000000
theorem sdH40 {α : Type _} {a b : α} (h : a = b := by (first | (simp (maxSteps := 2000000) (disch := first | assumption | omega | (simp only [go_sem] <;> with_reducible rfl)) only [go_sem, ↓reduceIte, ↓reduceDIte, Nat.reduceEqDiff, reduceCtorEq, Nat.reduceAdd, Nat.reduceSub, Nat.reduceMul, Nat.reduceBEq, Nat.reduceBNe, Nat.reduceLeDiff, Nat.reduceLT, Int.reduceLT, Int.reduceLE, Int.reduceToNat, Int.reduceEq, Int.reduceNeg, Int.reduceAdd, Int.reduceSub, Int.reduceMul, Nat.reduceMod, Nat.reduceDiv, Nat.reducePow, BEq.rfl, gt_iff_lt, ge_iff_le, *, Val.cells] <;> with_reducible rfl) | with_reducible rfl)) : a = b := h
theorem sdH40p {a b : Nat} (h : a ≤ b := by (first | (simp (maxSteps := 2000000) (disch := first | assumption | omega | (simp only [go_sem] <;> with_reducible rfl)) only [go_sem, ↓reduceIte, ↓reduceDIte, Nat.reduceEqDiff, reduceCtorEq, Nat.reduceAdd, Nat.reduceSub, Nat.reduceMul, Nat.reduceBEq, Nat.reduceBNe, Nat.reduceLeDiff, Nat.reduceLT, Int.reduceLT, Int.reduceLE, Int.reduceToNat, Int.reduceEq, Int.reduceNeg, Int.reduceAdd, Int.reduceSub, Int.reduceMul, Nat.reduceMod, Nat.reduceDiv, Nat.reducePow, BEq.rfl, gt_iff_lt, ge_iff_le, *, Val.cells] <;> with_reducible rfl) | with_reducible rfl)) : a ≤ b := h
theorem c_valid (v : Val) : CallA Try.prog C (.func 34) {} [.agg (v.cells.map .d)] [] fun x hs => x = .d (.bool v.ok) ∧ hs = [] := by
  refine call_func Try.func34 rfl (by decide) (by kernel_rfl) ⟨Nat.le_of_ble_eq_true rfl, Nat.le_of_ble_eq_true rfl⟩ ?_
  unfold Val.ok
  repeat' (first
    | ((with_reducible first | apply o_some | apply o_none | apply x_joined); exact sdH40; exact sdH40)
    | ((with_reducible first | apply d_some | apply d_none); exact sdH40; exact sdH40; exact sdH40)
    | ((with_reducible first | apply o_gT | apply d_gT); exact sdH40; exact sdH40)
    | ((with_reducible first | apply o_gF | apply d_gF); exact sdH40; exact sdH40; rfl)
    | ((with_reducible first | apply o_gU | apply d_gU); exact sdH40; exact sdH40)
    | ((with_reducible apply o_nilq); (exact ⟨by decide, by first | assumption | simp only [go_sem]⟩); exact sdH40; exact sdH40)
    | (with_reducible first | apply o_nil | apply x_next | apply x_seq | apply x_block | apply x_leave_normal | apply x_leave_ret | apply x_pass_ret | apply x_loop_exit | apply x_loop_ret | apply x_pass_exit | apply x_exit | apply x_ret | apply x_skip | apply x_label | apply x_join_ret | apply x_join_exit)
    | ((with_reducible apply d_end); kernel_rfl)
    | ((with_reducible apply x_region); exact sdH40)
    | ((with_reducible apply x_regionD); kernel_rfl; exact sdH40; exact sdH40)
    | ((with_reducible first | apply x_leave_exit | apply x_condT); exact sdH40)
    | ((with_reducible apply x_condF); exact sdH40)
    | ((first | ((with_reducible apply x_condB); exact sdH40) | ((with_reducible first | apply o_gB | apply d_gB); exact sdH40; exact sdH40)); all_goals intro hc; all_goals (try simp only [decide_eq_true_eq, decide_eq_false_iff_not, Bool.not_eq_true', Bool.not_eq_false', Bool.and_eq_true, Bool.or_eq_false_iff, Classical.not_not] at hc); all_goals (try (exfalso; omega)))
    | ((with_reducible apply x_end); (first | exact .inl rfl | exact .inr rfl); exact sdH40; exact sdH40))
  all_goals (first | exact ⟨rfl, rfl⟩ | exact ⟨by simp [*], rfl⟩ | exact ⟨by simp_all, rfl⟩ | trace_state)
theorem c_realP (v : Val) : CallA Try.prog C (.func 54) {} [.agg (v.cells.map .d)] [] fun x hs => x = .d (.bool v.real) ∧ hs = [] := by
  refine call_func Try.func54 rfl (by decide) (by kernel_rfl) ⟨Nat.le_of_ble_eq_true rfl, Nat.le_of_ble_eq_true rfl⟩ ?_
  unfold Val.real
  repeat' (first
    | ((with_reducible first | apply o_some | apply o_none | apply x_joined); exact sdH40; exact sdH40)
    | ((with_reducible first | apply d_some | apply d_none); exact sdH40; exact sdH40; exact sdH40)
    | ((with_reducible first | apply o_gT | apply d_gT); exact sdH40; exact sdH40)
    | ((with_reducible first | apply o_gF | apply d_gF); exact sdH40; exact sdH40; rfl)
    | ((with_reducible first | apply o_gU | apply d_gU); exact sdH40; exact sdH40)
    | ((with_reducible apply o_nilq); (exact ⟨by decide, by first | assumption | simp only [go_sem]⟩); exact sdH40; exact sdH40)
    | (with_reducible first | apply o_nil | apply x_next | apply x_seq | apply x_block | apply x_leave_normal | apply x_leave_ret | apply x_pass_ret | apply x_loop_exit | apply x_loop_ret | apply x_pass_exit | apply x_exit | apply x_ret | apply x_skip | apply x_label | apply x_join_ret | apply x_join_exit)
    | ((with_reducible apply d_end); kernel_rfl)
    | ((with_reducible apply x_region); exact sdH40)
    | ((with_reducible apply x_regionD); kernel_rfl; exact sdH40; exact sdH40)
    | ((with_reducible first | apply x_leave_exit | apply x_condT); exact sdH40)
    | ((with_reducible apply x_condF); exact sdH40)
    | ((first | ((with_reducible apply x_condB); exact sdH40) | ((with_reducible first | apply o_gB | apply d_gB); exact sdH40; exact sdH40)); all_goals intro hc; all_goals (try simp only [decide_eq_true_eq, decide_eq_false_iff_not, Bool.not_eq_true', Bool.not_eq_false', Bool.and_eq_true, Bool.or_eq_false_iff, Classical.not_not] at hc); all_goals (try (exfalso; omega)))
    | ((with_reducible apply o_call); exact sdH40; exact sdH40; exact sdH40; (first | exact c_valid v); exact sdH40; exact sdH40)
    | ((with_reducible apply o_callN); exact sdH40; exact sdH40; exact sdH40; (first | exact c_valid v); exact sdH40)
    | ((with_reducible apply d_callS); exact sdH40; exact sdH40; exact sdH40; (first | exact c_valid v); exact sdH40p; exact sdH40; exact sdH40; exact sdH40; exact sdH40)
    | ((with_reducible apply x_end); (first | exact .inl rfl | exact .inr rfl); exact sdH40; exact sdH40))
  all_goals (first | exact ⟨rfl, rfl⟩ | exact ⟨by simp [*], rfl⟩ | exact ⟨by simp_all, rfl⟩ | trace_state)
end Go.Proofs.Ytfdekggfdklfeaa
