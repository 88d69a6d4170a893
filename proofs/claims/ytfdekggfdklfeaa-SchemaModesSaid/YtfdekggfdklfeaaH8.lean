/-
  Contracts: the chapter's example.
-/
import Derived.Test.YtfdekggfdklfeaaH7
set_option linter.all false
set_option linter.unusedVariables false
set_option linter.unusedSimpArgs false
namespace Go.Proofs.Ytfdekggfdklfeaa
open Go.Ab
attribute [local irreducible] seqK blockK loopK endK
set_option maxRecDepth 10000
set_option maxHeartbeats 64000000
def s0 : Sch := ⟨0, [⟨⟨#[116]⟩, [⟨⟨#[105, 100]⟩, 4⟩, ⟨⟨#[111, 119, 110, 101, 114]⟩, 5⟩], 1, [], []⟩]⟩
theorem sdH8 {α : Type _} {a b : α} (h : a = b := by (first | (simp (maxSteps := 2000000) (disch := first | assumption | omega | (simp only [go_sem] <;> with_reducible rfl)) only [go_sem, ↓reduceIte, ↓reduceDIte, Nat.reduceEqDiff, reduceCtorEq, Nat.reduceAdd, Nat.reduceSub, Nat.reduceMul, Nat.reduceBEq, Nat.reduceBNe, Nat.reduceLeDiff, Nat.reduceLT, Int.reduceLT, Int.reduceLE, Int.reduceToNat, Int.reduceEq, Int.reduceNeg, Int.reduceAdd, Int.reduceSub, Int.reduceMul, Nat.reduceMod, Nat.reduceDiv, Nat.reducePow, BEq.rfl, gt_iff_lt, ge_iff_le, *] <;> with_reducible rfl) | with_reducible rfl)) : a = b := h
theorem sdH8p {a b : Nat} (h : a ≤ b := by (first | (simp (maxSteps := 2000000) (disch := first | assumption | omega | (simp only [go_sem] <;> with_reducible rfl)) only [go_sem, ↓reduceIte, ↓reduceDIte, Nat.reduceEqDiff, reduceCtorEq, Nat.reduceAdd, Nat.reduceSub, Nat.reduceMul, Nat.reduceBEq, Nat.reduceBNe, Nat.reduceLeDiff, Nat.reduceLT, Int.reduceLT, Int.reduceLE, Int.reduceToNat, Int.reduceEq, Int.reduceNeg, Int.reduceAdd, Int.reduceSub, Int.reduceMul, Nat.reduceMod, Nat.reduceDiv, Nat.reducePow, BEq.rfl, gt_iff_lt, ge_iff_le, *] <;> with_reducible rfl) | with_reducible rfl)) : a ≤ b := h
theorem c_begun : CallA Try.prog C (.func 10) {} [] [] fun v hs => v = .d (.bool true) ∧ hs = [] := by
  refine call_func Try.func10 rfl (by decide) (by kernel_rfl) ⟨Nat.le_of_ble_eq_true rfl, Nat.le_of_ble_eq_true rfl⟩ ?_
  have hB : s0.tabs.length ≤ 1000000 := Nat.le_of_ble_eq_true rfl
  have k1 : CallA Try.prog C (.func 11) {} [.agg (s0.cells.map .d)] [] fun v hs => v = .d (.int .i64 0) ∧ hs = [] := by
    have := c_check s0 hB (by
      intro t ht
      simp only [s0, List.mem_cons, List.not_mem_nil, or_false] at ht
      subst ht
      exact ⟨rfl, rfl, Nat.le_of_ble_eq_true rfl⟩)
    rw [show s0.chkN = 0 by decide] at this
    exact this
  have k2 : CallA Try.prog C (.func 25) {} [.agg (s0.cells.map .d), .d (.str ⟨#[116]⟩)] [] fun v hs => v = .d (.int .i64 0) ∧ hs = [] := by
    have := c_find s0 ⟨#[116]⟩ hB
    rw [show s0.find ⟨#[116]⟩ = 0 by decide] at this
    exact this
  have k3 : CallA Try.prog C (.func 25) {} [.agg (s0.cells.map .d), .d (.str ⟨#[117]⟩)] [] fun v hs => v = .d (.int .i64 (-1)) ∧ hs = [] := by
    have := c_find s0 ⟨#[117]⟩ hB
    rw [show s0.find ⟨#[117]⟩ = -1 by decide] at this
    exact this
  have k4 : CallA Try.prog C (.func 16) {} [.agg (s0.cells.map .d), .d (.int .i64 0), .d (.fsl (rowsV [⟨4, 1, ⟨#[]⟩⟩, ⟨2, 0, ⟨#[]⟩⟩]) false false), .d (.int .i64 2)] [] fun v hs => v = .d (.bool true) ∧ hs = [] := by
    have := c_fits s0 0 [⟨4, 1, ⟨#[]⟩⟩, ⟨2, 0, ⟨#[]⟩⟩] 2 hB (Nat.le_of_ble_eq_true rfl)
    rw [show s0.fits 0 [⟨4, 1, ⟨#[]⟩⟩, ⟨2, 0, ⟨#[]⟩⟩] 2 = true by decide] at this
    exact this
  have k5 : CallA Try.prog C (.func 16) {} [.agg (s0.cells.map .d), .d (.int .i64 0), .d (.fsl (rowsV [⟨2, 0, ⟨#[]⟩⟩, ⟨4, 1, ⟨#[]⟩⟩]) false false), .d (.int .i64 3)] [] fun v hs => v = .d (.bool false) ∧ hs = [] := by
    have := c_fits s0 0 [⟨2, 0, ⟨#[]⟩⟩, ⟨4, 1, ⟨#[]⟩⟩] 3 hB (Nat.le_of_ble_eq_true rfl)
    rw [show s0.fits 0 [⟨2, 0, ⟨#[]⟩⟩, ⟨4, 1, ⟨#[]⟩⟩] 3 = false by decide] at this
    exact this
  have k6 : CallA Try.prog C (.func 16) {} [.agg (s0.cells.map .d), .d (.int .i64 0), .d (.fsl (rowsV [⟨4, 1, ⟨#[]⟩⟩, ⟨1, 0, ⟨#[]⟩⟩]) false false), .d (.int .i64 3)] [] fun v hs => v = .d (.bool true) ∧ hs = [] := by
    have := c_fits s0 0 [⟨4, 1, ⟨#[]⟩⟩, ⟨1, 0, ⟨#[]⟩⟩] 3 hB (Nat.le_of_ble_eq_true rfl)
    rw [show s0.fits 0 [⟨4, 1, ⟨#[]⟩⟩, ⟨1, 0, ⟨#[]⟩⟩] 3 = true by decide] at this
    exact this
  repeat' (first
    | ((with_reducible first | apply o_some | apply o_none | apply x_joined); exact sdH8; exact sdH8)
    | ((with_reducible first | apply d_some | apply d_none); exact sdH8; exact sdH8; exact sdH8)
    | ((with_reducible first | apply o_gT | apply d_gT); exact sdH8; exact sdH8)
    | ((with_reducible first | apply o_gF | apply d_gF); exact sdH8; exact sdH8; rfl)
    | ((with_reducible first | apply o_gU | apply d_gU); exact sdH8; exact sdH8)
    | ((with_reducible apply o_nilq); (exact ⟨by decide, by first | assumption | simp only [go_sem]⟩); exact sdH8; exact sdH8)
    | (with_reducible first | apply o_nil | apply x_next | apply x_seq | apply x_block | apply x_leave_normal | apply x_leave_ret | apply x_pass_ret | apply x_loop_exit | apply x_loop_ret | apply x_pass_exit | apply x_exit | apply x_ret | apply x_skip | apply x_label | apply x_join_ret | apply x_join_exit)
    | ((with_reducible apply d_end); kernel_rfl)
    | ((with_reducible apply x_region); exact sdH8)
    | ((with_reducible apply x_regionD); kernel_rfl; exact sdH8; exact sdH8)
    | ((with_reducible first | apply x_leave_exit | apply x_condT); exact sdH8)
    | ((with_reducible apply x_condF); exact sdH8)
    | ((first | ((with_reducible apply x_condB); exact sdH8) | ((with_reducible first | apply o_gB | apply d_gB); exact sdH8; exact sdH8)); all_goals intro hc; all_goals (try simp only [decide_eq_true_eq, decide_eq_false_iff_not, Bool.not_eq_true', Bool.not_eq_false', Bool.and_eq_true, Bool.or_eq_false_iff, Classical.not_not] at hc); all_goals (try (exfalso; omega)))
    | ((with_reducible apply o_call); exact sdH8; exact sdH8; exact sdH8; (first | exact k1 | exact k2 | exact k3 | exact k4 | exact k5 | exact k6); exact sdH8; exact sdH8)
    | ((with_reducible apply o_callN); exact sdH8; exact sdH8; exact sdH8; (first | exact k1 | exact k2 | exact k3 | exact k4 | exact k5 | exact k6); exact sdH8)
    | ((with_reducible apply d_callS); exact sdH8; exact sdH8; exact sdH8; (first | exact k1 | exact k2 | exact k3 | exact k4 | exact k5 | exact k6); exact sdH8p; exact sdH8; exact sdH8; exact sdH8; exact sdH8)
    | ((with_reducible apply x_end); (first | exact .inl rfl | exact .inr rfl); exact sdH8; exact sdH8))
  all_goals exact ⟨rfl, rfl⟩
end Go.Proofs.Ytfdekggfdklfeaa
