/-
  Contracts: numbers, texts, values of a case.
-/
import Derived.Test.YtfdekggfdklfeaaF1
set_option linter.all false
set_option linter.unusedVariables false
set_option linter.unusedSimpArgs false
namespace Go.Proofs.Ytfdekggfdklfeaa
open Go.Ab
attribute [local irreducible] seqK blockK loopK endK
set_option maxRecDepth 10000
set_option maxHeartbeats 4000000
theorem sdG2 {α : Type _} {a b : α} (h : a = b := by (first | (simp (maxSteps := 2000000) (disch := first | assumption | omega | (simp only [go_sem] <;> with_reducible rfl)) only [go_sem, ↓reduceIte, ↓reduceDIte, Nat.reduceEqDiff, reduceCtorEq, Nat.reduceAdd, Nat.reduceSub, Nat.reduceMul, Nat.reduceBEq, Nat.reduceBNe, Nat.reduceLeDiff, Nat.reduceLT, Int.reduceLT, Int.reduceLE, Int.reduceToNat, Int.reduceEq, Int.reduceNeg, Int.reduceAdd, Int.reduceSub, Int.reduceMul, Nat.reduceMod, Nat.reduceDiv, Nat.reducePow, BEq.rfl, gt_iff_lt, ge_iff_le, *] <;> with_reducible rfl) | with_reducible rfl)) : a = b := h
theorem sdG2p {a b : Nat} (h : a ≤ b := by (first | (simp (maxSteps := 2000000) (disch := first | assumption | omega | (simp only [go_sem] <;> with_reducible rfl)) only [go_sem, ↓reduceIte, ↓reduceDIte, Nat.reduceEqDiff, reduceCtorEq, Nat.reduceAdd, Nat.reduceSub, Nat.reduceMul, Nat.reduceBEq, Nat.reduceBNe, Nat.reduceLeDiff, Nat.reduceLT, Int.reduceLT, Int.reduceLE, Int.reduceToNat, Int.reduceEq, Int.reduceNeg, Int.reduceAdd, Int.reduceSub, Int.reduceMul, Nat.reduceMod, Nat.reduceDiv, Nat.reducePow, BEq.rfl, gt_iff_lt, ge_iff_le, *] <;> with_reducible rfl) | with_reducible rfl)) : a ≤ b := h
theorem c_new (cs : List UInt8) (n : Int) (hn : 0 ≤ n) (hn2 : n ≤ 1000) :
    CallA Try.prog C (.func 6) { own1 := true } [.d (.fsl (cs.map fun b => [.int .u8 b.toNat]) false false), .d (.int .i64 n)] [] fun v hs => v = .ptr 0 0 0 ∧ hs = hC (cs.take n.toNat) 0 := by
  refine call_func Try.func6 rfl (by decide) (by kernel_rfl) ⟨Nat.le_of_ble_eq_true rfl, Nat.le_of_ble_eq_true rfl⟩ ?_
  have hk : n.toNat ≤ 1000 := by omega
  have hbig : 1000 ≤ big := by decide
  by_cases hm : n < cs.length
  · have hm2 : n.toNat ≤ cs.length := by omega
    by_cases hz : n.toNat = 0
    · repeat' (first
    | ((with_reducible first | apply o_some | apply o_none | apply x_joined); exact sdG2; exact sdG2)
    | ((with_reducible first | apply d_some | apply d_none); exact sdG2; exact sdG2; exact sdG2)
    | ((with_reducible first | apply o_gT | apply d_gT); exact sdG2; exact sdG2)
    | ((with_reducible first | apply o_gF | apply d_gF); exact sdG2; exact sdG2; rfl)
    | ((with_reducible first | apply o_gU | apply d_gU); exact sdG2; exact sdG2)
    | ((with_reducible apply o_nilq); (exact ⟨by decide, by first | assumption | simp only [go_sem]⟩); exact sdG2; exact sdG2)
    | (with_reducible first | apply o_nil | apply x_next | apply x_seq | apply x_block | apply x_leave_normal | apply x_leave_ret | apply x_pass_ret | apply x_loop_exit | apply x_loop_ret | apply x_pass_exit | apply x_exit | apply x_ret | apply x_skip | apply x_label | apply x_join_ret | apply x_join_exit)
    | ((with_reducible apply d_end); kernel_rfl)
    | ((with_reducible apply x_region); exact sdG2)
    | ((with_reducible apply x_regionD); kernel_rfl; exact sdG2; exact sdG2)
    | ((with_reducible first | apply x_leave_exit | apply x_condT); exact sdG2)
    | ((with_reducible apply x_condF); exact sdG2)
    | ((first | ((with_reducible apply x_condB); exact sdG2) | ((with_reducible first | apply o_gB | apply d_gB); exact sdG2; exact sdG2)); all_goals intro hc; all_goals (try simp only [decide_eq_true_eq, decide_eq_false_iff_not, Bool.not_eq_true', Bool.not_eq_false', Bool.and_eq_true, Bool.or_eq_false_iff, Classical.not_not] at hc); all_goals (try (exfalso; omega)))
    | ((with_reducible apply x_end); (first | exact .inl rfl | exact .inr rfl); exact sdG2; exact sdG2))
      all_goals first | exact ⟨rfl, rfl⟩ | (rw [List.take_of_length_le hm3]; exact ⟨rfl, rfl⟩) | (rw [hz]; exact ⟨rfl, rfl⟩) | (simp; done) | trace_state
    · repeat' (first
    | ((with_reducible first | apply o_some | apply o_none | apply x_joined); exact sdG2; exact sdG2)
    | ((with_reducible first | apply d_some | apply d_none); exact sdG2; exact sdG2; exact sdG2)
    | ((with_reducible first | apply o_gT | apply d_gT); exact sdG2; exact sdG2)
    | ((with_reducible first | apply o_gF | apply d_gF); exact sdG2; exact sdG2; rfl)
    | ((with_reducible first | apply o_gU | apply d_gU); exact sdG2; exact sdG2)
    | ((with_reducible apply o_nilq); (exact ⟨by decide, by first | assumption | simp only [go_sem]⟩); exact sdG2; exact sdG2)
    | (with_reducible first | apply o_nil | apply x_next | apply x_seq | apply x_block | apply x_leave_normal | apply x_leave_ret | apply x_pass_ret | apply x_loop_exit | apply x_loop_ret | apply x_pass_exit | apply x_exit | apply x_ret | apply x_skip | apply x_label | apply x_join_ret | apply x_join_exit)
    | ((with_reducible apply d_end); kernel_rfl)
    | ((with_reducible apply x_region); exact sdG2)
    | ((with_reducible apply x_regionD); kernel_rfl; exact sdG2; exact sdG2)
    | ((with_reducible first | apply x_leave_exit | apply x_condT); exact sdG2)
    | ((with_reducible apply x_condF); exact sdG2)
    | ((first | ((with_reducible apply x_condB); exact sdG2) | ((with_reducible first | apply o_gB | apply d_gB); exact sdG2; exact sdG2)); all_goals intro hc; all_goals (try simp only [decide_eq_true_eq, decide_eq_false_iff_not, Bool.not_eq_true', Bool.not_eq_false', Bool.and_eq_true, Bool.or_eq_false_iff, Classical.not_not] at hc); all_goals (try (exfalso; omega)))
    | ((with_reducible apply x_end); (first | exact .inl rfl | exact .inr rfl); exact sdG2; exact sdG2))
      all_goals first | exact ⟨rfl, rfl⟩ | (rw [List.take_of_length_le hm3]; exact ⟨rfl, rfl⟩) | (rw [hz]; exact ⟨rfl, rfl⟩) | (simp; done) | trace_state
  · have hm3 : cs.length ≤ n.toNat := by omega
    by_cases hz : cs = []
    · subst hz
      have hm4 : ¬ n < 0 := by omega
      repeat' (first
    | ((with_reducible first | apply o_some | apply o_none | apply x_joined); exact sdG2; exact sdG2)
    | ((with_reducible first | apply d_some | apply d_none); exact sdG2; exact sdG2; exact sdG2)
    | ((with_reducible first | apply o_gT | apply d_gT); exact sdG2; exact sdG2)
    | ((with_reducible first | apply o_gF | apply d_gF); exact sdG2; exact sdG2; rfl)
    | ((with_reducible first | apply o_gU | apply d_gU); exact sdG2; exact sdG2)
    | ((with_reducible apply o_nilq); (exact ⟨by decide, by first | assumption | simp only [go_sem]⟩); exact sdG2; exact sdG2)
    | (with_reducible first | apply o_nil | apply x_next | apply x_seq | apply x_block | apply x_leave_normal | apply x_leave_ret | apply x_pass_ret | apply x_loop_exit | apply x_loop_ret | apply x_pass_exit | apply x_exit | apply x_ret | apply x_skip | apply x_label | apply x_join_ret | apply x_join_exit)
    | ((with_reducible apply d_end); kernel_rfl)
    | ((with_reducible apply x_region); exact sdG2)
    | ((with_reducible apply x_regionD); kernel_rfl; exact sdG2; exact sdG2)
    | ((with_reducible first | apply x_leave_exit | apply x_condT); exact sdG2)
    | ((with_reducible apply x_condF); exact sdG2)
    | ((first | ((with_reducible apply x_condB); exact sdG2) | ((with_reducible first | apply o_gB | apply d_gB); exact sdG2; exact sdG2)); all_goals intro hc; all_goals (try simp only [decide_eq_true_eq, decide_eq_false_iff_not, Bool.not_eq_true', Bool.not_eq_false', Bool.and_eq_true, Bool.or_eq_false_iff, Classical.not_not] at hc); all_goals (try (exfalso; omega)))
    | ((with_reducible apply x_end); (first | exact .inl rfl | exact .inr rfl); exact sdG2; exact sdG2))
      all_goals first | exact ⟨rfl, rfl⟩ | (rw [List.take_of_length_le hm3]; exact ⟨rfl, rfl⟩) | (rw [hz]; exact ⟨rfl, rfl⟩) | (simp; done) | trace_state
    · have hz2 : cs.length ≠ 0 := fun h => hz (List.length_eq_zero_iff.1 h)
      repeat' (first
    | ((with_reducible first | apply o_some | apply o_none | apply x_joined); exact sdG2; exact sdG2)
    | ((with_reducible first | apply d_some | apply d_none); exact sdG2; exact sdG2; exact sdG2)
    | ((with_reducible first | apply o_gT | apply d_gT); exact sdG2; exact sdG2)
    | ((with_reducible first | apply o_gF | apply d_gF); exact sdG2; exact sdG2; rfl)
    | ((with_reducible first | apply o_gU | apply d_gU); exact sdG2; exact sdG2)
    | ((with_reducible apply o_nilq); (exact ⟨by decide, by first | assumption | simp only [go_sem]⟩); exact sdG2; exact sdG2)
    | (with_reducible first | apply o_nil | apply x_next | apply x_seq | apply x_block | apply x_leave_normal | apply x_leave_ret | apply x_pass_ret | apply x_loop_exit | apply x_loop_ret | apply x_pass_exit | apply x_exit | apply x_ret | apply x_skip | apply x_label | apply x_join_ret | apply x_join_exit)
    | ((with_reducible apply d_end); kernel_rfl)
    | ((with_reducible apply x_region); exact sdG2)
    | ((with_reducible apply x_regionD); kernel_rfl; exact sdG2; exact sdG2)
    | ((with_reducible first | apply x_leave_exit | apply x_condT); exact sdG2)
    | ((with_reducible apply x_condF); exact sdG2)
    | ((first | ((with_reducible apply x_condB); exact sdG2) | ((with_reducible first | apply o_gB | apply d_gB); exact sdG2; exact sdG2)); all_goals intro hc; all_goals (try simp only [decide_eq_true_eq, decide_eq_false_iff_not, Bool.not_eq_true', Bool.not_eq_false', Bool.and_eq_true, Bool.or_eq_false_iff, Classical.not_not] at hc); all_goals (try (exfalso; omega)))
    | ((with_reducible apply x_end); (first | exact .inl rfl | exact .inr rfl); exact sdG2; exact sdG2))
      all_goals first | exact ⟨rfl, rfl⟩ | (rw [List.take_of_length_le hm3]; exact ⟨rfl, rfl⟩) | (rw [hz]; exact ⟨rfl, rfl⟩) | (simp; done) | trace_state
theorem c_column (s : ByteArray) (k : Int) : CallA Try.prog C (.func 30) {} [.d (.str s), .d (.int .i64 k)] [] fun v hs => v = .agg [.d (.str s), .d (.int .i64 k)] ∧ hs = [] := by
  refine call_func Try.func30 rfl (by decide) (by kernel_rfl) ⟨Nat.le_of_ble_eq_true rfl, Nat.le_of_ble_eq_true rfl⟩ ?_
  repeat' (first
    | ((with_reducible first | apply o_some | apply o_none | apply x_joined); exact sdG2; exact sdG2)
    | ((with_reducible first | apply d_some | apply d_none); exact sdG2; exact sdG2; exact sdG2)
    | ((with_reducible first | apply o_gT | apply d_gT); exact sdG2; exact sdG2)
    | ((with_reducible first | apply o_gF | apply d_gF); exact sdG2; exact sdG2; rfl)
    | ((with_reducible first | apply o_gU | apply d_gU); exact sdG2; exact sdG2)
    | ((with_reducible apply o_nilq); (exact ⟨by decide, by first | assumption | simp only [go_sem]⟩); exact sdG2; exact sdG2)
    | (with_reducible first | apply o_nil | apply x_next | apply x_seq | apply x_block | apply x_leave_normal | apply x_leave_ret | apply x_pass_ret | apply x_loop_exit | apply x_loop_ret | apply x_pass_exit | apply x_exit | apply x_ret | apply x_skip | apply x_label | apply x_join_ret | apply x_join_exit)
    | ((with_reducible apply d_end); kernel_rfl)
    | ((with_reducible apply x_region); exact sdG2)
    | ((with_reducible apply x_regionD); kernel_rfl; exact sdG2; exact sdG2)
    | ((with_reducible first | apply x_leave_exit | apply x_condT); exact sdG2)
    | ((with_reducible apply x_condF); exact sdG2)
    | ((first | ((with_reducible apply x_condB); exact sdG2) | ((with_reducible first | apply o_gB | apply d_gB); exact sdG2; exact sdG2)); all_goals intro hc; all_goals (try simp only [decide_eq_true_eq, decide_eq_false_iff_not, Bool.not_eq_true', Bool.not_eq_false', Bool.and_eq_true, Bool.or_eq_false_iff, Classical.not_not] at hc); all_goals (try (exfalso; omega)))
    | ((with_reducible apply x_end); (first | exact .inl rfl | exact .inr rfl); exact sdG2; exact sdG2))
  all_goals exact ⟨rfl, rfl⟩
def numV (codes : List UInt8) (a : Nat) : Int := if nxI codes a 12 = 9 then -1 else if nxI codes a 12 = 10 then 9223372036854775807 else if nxI codes a 12 = 11 then -9223372036854775808 else (nxI codes a 12).tmod 4
theorem c_number (codes : List UInt8) (a : Nat) (hb : codes.length ≤ 1000) :
    CallA Try.prog C (.func 45) {} [.ptr 0 0 0] (hC codes a) fun v hs => v = .d (.int .i64 (numV codes a)) ∧ hs = hC codes (nxA codes a 12 : Nat) := by
  refine call_func Try.func45 rfl (by decide) (by kernel_rfl) ⟨Nat.le_of_ble_eq_true rfl, Nat.le_of_ble_eq_true rfl⟩ ?_
  unfold numV
  repeat' (first
    | ((with_reducible first | apply o_some | apply o_none | apply x_joined); exact sdG2; exact sdG2)
    | ((with_reducible first | apply d_some | apply d_none); exact sdG2; exact sdG2; exact sdG2)
    | ((with_reducible first | apply o_gT | apply d_gT); exact sdG2; exact sdG2)
    | ((with_reducible first | apply o_gF | apply d_gF); exact sdG2; exact sdG2; rfl)
    | ((with_reducible first | apply o_gU | apply d_gU); exact sdG2; exact sdG2)
    | ((with_reducible apply o_nilq); (exact ⟨by decide, by first | assumption | simp only [go_sem]⟩); exact sdG2; exact sdG2)
    | (with_reducible first | apply o_nil | apply x_next | apply x_seq | apply x_block | apply x_leave_normal | apply x_leave_ret | apply x_pass_ret | apply x_loop_exit | apply x_loop_ret | apply x_pass_exit | apply x_exit | apply x_ret | apply x_skip | apply x_label | apply x_join_ret | apply x_join_exit)
    | ((with_reducible apply d_end); kernel_rfl)
    | ((with_reducible apply x_region); exact sdG2)
    | ((with_reducible apply x_regionD); kernel_rfl; exact sdG2; exact sdG2)
    | ((with_reducible first | apply x_leave_exit | apply x_condT); exact sdG2)
    | ((with_reducible apply x_condF); exact sdG2)
    | ((first | ((with_reducible apply x_condB); exact sdG2) | ((with_reducible first | apply o_gB | apply d_gB); exact sdG2; exact sdG2)); all_goals intro hc; all_goals (try simp only [decide_eq_true_eq, decide_eq_false_iff_not, Bool.not_eq_true', Bool.not_eq_false', Bool.and_eq_true, Bool.or_eq_false_iff, Classical.not_not] at hc); all_goals (try (exfalso; omega)))
    | ((with_reducible apply o_call); exact sdG2; exact sdG2; exact sdG2; (first | exact c_int codes a _ hb); exact sdG2; exact sdG2)
    | ((with_reducible apply o_callN); exact sdG2; exact sdG2; exact sdG2; (first | exact c_int codes a _ hb); exact sdG2)
    | ((with_reducible apply d_callS); exact sdG2; exact sdG2; exact sdG2; (first | exact c_int codes a _ hb); exact sdG2p; exact sdG2; exact sdG2; exact sdG2; exact sdG2)
    | ((with_reducible apply x_end); (first | exact .inl rfl | exact .inr rfl); exact sdG2; exact sdG2))
  all_goals exact ⟨by simp [*], rfl⟩
attribute [irreducible] numV
end Go.Proofs.Ytfdekggfdklfeaa
