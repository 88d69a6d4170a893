/-
  Contracts: the reference's check of a predicate: the error.
-/
import Derived.Test.YtfdekggfdklfeaaG6
set_option linter.all false
set_option linter.unusedVariables false
set_option linter.unusedSimpArgs false
namespace Go.Proofs.Ytfdekggfdklfeaa
open Go.Ab
attribute [local irreducible] seqK blockK loopK endK
set_option maxRecDepth 10000
set_option maxHeartbeats 8000000
/-- the error of a predicate -/
def Pred.check (cols params : List Int) (p : Pred) : Int := if colKs cols = false ∨ colKs params = false then 1 else if 24 < p.nodes 0 ∨ p.deeper 8 = true then 2 else if p.valid cols params = false then 50 else 0
theorem sdG7 {α : Type _} {a b : α} (h : a = b := by (first | (simp (maxSteps := 2000000) (disch := first | assumption | omega | (simp only [go_sem] <;> with_reducible rfl)) only [go_sem, ↓reduceIte, ↓reduceDIte, Nat.reduceEqDiff, reduceCtorEq, Nat.reduceAdd, Nat.reduceSub, Nat.reduceMul, Nat.reduceBEq, Nat.reduceBNe, Nat.reduceLeDiff, Nat.reduceLT, Int.reduceLT, Int.reduceLE, Int.reduceToNat, Int.reduceEq, Int.reduceNeg, Int.reduceAdd, Int.reduceSub, Int.reduceMul, Nat.reduceMod, Nat.reduceDiv, Nat.reducePow, BEq.rfl, gt_iff_lt, ge_iff_le, *] <;> with_reducible rfl) | with_reducible rfl)) : a = b := h
theorem sdG7p {a b : Nat} (h : a ≤ b := by (first | (simp (maxSteps := 2000000) (disch := first | assumption | omega | (simp only [go_sem] <;> with_reducible rfl)) only [go_sem, ↓reduceIte, ↓reduceDIte, Nat.reduceEqDiff, reduceCtorEq, Nat.reduceAdd, Nat.reduceSub, Nat.reduceMul, Nat.reduceBEq, Nat.reduceBNe, Nat.reduceLeDiff, Nat.reduceLT, Int.reduceLT, Int.reduceLE, Int.reduceToNat, Int.reduceEq, Int.reduceNeg, Int.reduceAdd, Int.reduceSub, Int.reduceMul, Nat.reduceMod, Nat.reduceDiv, Nat.reducePow, BEq.rfl, gt_iff_lt, ge_iff_le, *] <;> with_reducible rfl) | with_reducible rfl)) : a ≤ b := h
theorem c_pcheck (cols params : List Int) (p : Pred) (h1 : cols.length ≤ 1000) (h2 : params.length ≤ 1000) (h3 : p.sz ≤ 3000000) : CallA Try.prog C (.func 44) {} [.d (.fsl (rowsI cols) false false), .d (.fsl (rowsI params) false false), .agg (p.cells.map .d)] [] fun x hs => x = .d (.int .i64 (p.check cols params)) ∧ hs = [] := by
  refine call_func Try.func44 rfl (by decide) (by kernel_rfl) ⟨Nat.le_of_ble_eq_true rfl, Nat.le_of_ble_eq_true rfl⟩ ?_
  unfold Pred.check
  repeat' (first
    | ((with_reducible first | apply o_some | apply o_none | apply x_joined); exact sdG7; exact sdG7)
    | ((with_reducible first | apply d_some | apply d_none); exact sdG7; exact sdG7; exact sdG7)
    | ((with_reducible first | apply o_gT | apply d_gT); exact sdG7; exact sdG7)
    | ((with_reducible first | apply o_gF | apply d_gF); exact sdG7; exact sdG7; rfl)
    | ((with_reducible first | apply o_gU | apply d_gU); exact sdG7; exact sdG7)
    | ((with_reducible apply o_nilq); (exact ⟨by decide, by first | assumption | simp only [go_sem]⟩); exact sdG7; exact sdG7)
    | (with_reducible first | apply o_nil | apply x_next | apply x_seq | apply x_block | apply x_leave_normal | apply x_leave_ret | apply x_pass_ret | apply x_loop_exit | apply x_loop_ret | apply x_pass_exit | apply x_exit | apply x_ret | apply x_skip | apply x_label | apply x_join_ret | apply x_join_exit)
    | ((with_reducible apply d_end); kernel_rfl)
    | ((with_reducible apply x_region); exact sdG7)
    | ((with_reducible apply x_regionD); kernel_rfl; exact sdG7; exact sdG7)
    | ((with_reducible first | apply x_leave_exit | apply x_condT); exact sdG7)
    | ((with_reducible apply x_condF); exact sdG7)
    | ((first | ((with_reducible apply x_condB); exact sdG7) | ((with_reducible first | apply o_gB | apply d_gB); exact sdG7; exact sdG7)); all_goals intro hc; all_goals (try simp only [decide_eq_true_eq, decide_eq_false_iff_not, Bool.not_eq_true', Bool.not_eq_false', Bool.and_eq_true, Bool.or_eq_false_iff, Classical.not_not] at hc); all_goals (try (exfalso; omega)))
    | ((with_reducible apply o_call); exact sdG7; exact sdG7; exact sdG7; (first | exact c_colKs cols h1 | exact c_colKs params h2 | exact c_nodes 3000000 p 0 h3 (by omega) (by omega) (by omega) | exact c_deeper 3000000 p 8 h3 (by omega) (by omega) (by omega) | exact c_pvalid cols params 3000000 p h3 (by omega)); exact sdG7; exact sdG7)
    | ((with_reducible apply o_callN); exact sdG7; exact sdG7; exact sdG7; (first | exact c_colKs cols h1 | exact c_colKs params h2 | exact c_nodes 3000000 p 0 h3 (by omega) (by omega) (by omega) | exact c_deeper 3000000 p 8 h3 (by omega) (by omega) (by omega) | exact c_pvalid cols params 3000000 p h3 (by omega)); exact sdG7)
    | ((with_reducible apply d_callS); exact sdG7; exact sdG7; exact sdG7; (first | exact c_colKs cols h1 | exact c_colKs params h2 | exact c_nodes 3000000 p 0 h3 (by omega) (by omega) (by omega) | exact c_deeper 3000000 p 8 h3 (by omega) (by omega) (by omega) | exact c_pvalid cols params 3000000 p h3 (by omega)); exact sdG7p; exact sdG7; exact sdG7; exact sdG7; exact sdG7)
    | ((with_reducible apply x_end); (first | exact .inl rfl | exact .inr rfl); exact sdG7; exact sdG7))
  all_goals (first | exact ⟨rfl, rfl⟩ | exact ⟨by simp [*], rfl⟩ | exact ⟨by simp_all, rfl⟩ | trace_state)
end Go.Proofs.Ytfdekggfdklfeaa
