/-
  Contracts: the reference's check of a predicate: which are valid.
-/
import Derived.Test.YtfdekggfdklfeaaG5
set_option linter.all false
set_option linter.unusedVariables false
set_option linter.unusedSimpArgs false
namespace Go.Proofs.Ytfdekggfdklfeaa
open Go.Ab
attribute [local irreducible] seqK blockK loopK endK
set_option maxRecDepth 10000
set_option maxHeartbeats 8000000
mutual
def Pred.valid (cols params : List Int) : Pred → Bool
  | .mk op cmp l r args =>
    if op = 1 ∨ op = 2 then (decide (cmp = 0) && l.z && r.z) && decide (args = []) else
    if op = 3 then decide (args = []) && (decide (1 ≤ cmp) && (decide (cmp ≤ 6) && (decide (¬ l.kind cols params = 0) && decide (l.kind cols params = r.kind cols params)))) else
    if op = 4 ∨ op = 5 ∨ (op = 6 ∧ args.length = 1) then (decide (cmp = 0) && l.z && r.z) && Pred.validL cols params args else false
def Pred.validL (cols params : List Int) : List Pred → Bool
  | [] => true
  | q :: r => q.valid cols params && Pred.validL cols params r
end
theorem c_plain2 (op cmp : Int) (l r : Opd) (args : List Pred) : CallA Try.prog C (.func 56) {} [.agg ((predC op cmp l r args).map .d)] [] fun v hs => v = .d (.bool (decide (cmp = 0) && l.z && r.z)) ∧ hs = [] := by
  have := c_plain (.mk op cmp l r args)
  rw [Pred.cells_eq] at this
  exact this
theorem sdG6 {α : Type _} {a b : α} (h : a = b := by (first | (simp (maxSteps := 2000000) (disch := first | assumption | omega | (simp only [go_sem] <;> with_reducible rfl)) only [go_sem, ↓reduceIte, ↓reduceDIte, Nat.reduceEqDiff, reduceCtorEq, Nat.reduceAdd, Nat.reduceSub, Nat.reduceMul, Nat.reduceBEq, Nat.reduceBNe, Nat.reduceLeDiff, Nat.reduceLT, Int.reduceLT, Int.reduceLE, Int.reduceToNat, Int.reduceEq, Int.reduceNeg, Int.reduceAdd, Int.reduceSub, Int.reduceMul, Nat.reduceMod, Nat.reduceDiv, Nat.reducePow, BEq.rfl, gt_iff_lt, ge_iff_le, *] <;> with_reducible rfl) | with_reducible rfl)) : a = b := h
theorem sdG6p {a b : Nat} (h : a ≤ b := by (first | (simp (maxSteps := 2000000) (disch := first | assumption | omega | (simp only [go_sem] <;> with_reducible rfl)) only [go_sem, ↓reduceIte, ↓reduceDIte, Nat.reduceEqDiff, reduceCtorEq, Nat.reduceAdd, Nat.reduceSub, Nat.reduceMul, Nat.reduceBEq, Nat.reduceBNe, Nat.reduceLeDiff, Nat.reduceLT, Int.reduceLT, Int.reduceLE, Int.reduceToNat, Int.reduceEq, Int.reduceNeg, Int.reduceAdd, Int.reduceSub, Int.reduceMul, Nat.reduceMod, Nat.reduceDiv, Nat.reducePow, BEq.rfl, gt_iff_lt, ge_iff_le, *] <;> with_reducible rfl) | with_reducible rfl)) : a ≤ b := h
theorem sdG61 {α : Type _} {a b : α} (h : a = b := by (first | (simp (maxSteps := 2000000) (disch := first | assumption | omega | (simp only [go_sem] <;> with_reducible rfl)) only [go_sem, ↓reduceIte, ↓reduceDIte, Nat.reduceEqDiff, reduceCtorEq, Nat.reduceAdd, Nat.reduceSub, Nat.reduceMul, Nat.reduceBEq, Nat.reduceBNe, Nat.reduceLeDiff, Nat.reduceLT, Int.reduceLT, Int.reduceLE, Int.reduceToNat, Int.reduceEq, Int.reduceNeg, Int.reduceAdd, Int.reduceSub, Int.reduceMul, Nat.reduceMod, Nat.reduceDiv, Nat.reducePow, BEq.rfl, gt_iff_lt, ge_iff_le, *, Int.natCast_add, Int.natCast_one] <;> with_reducible rfl) | with_reducible rfl)) : a = b := h
theorem sdG61p {a b : Nat} (h : a ≤ b := by (first | (simp (maxSteps := 2000000) (disch := first | assumption | omega | (simp only [go_sem] <;> with_reducible rfl)) only [go_sem, ↓reduceIte, ↓reduceDIte, Nat.reduceEqDiff, reduceCtorEq, Nat.reduceAdd, Nat.reduceSub, Nat.reduceMul, Nat.reduceBEq, Nat.reduceBNe, Nat.reduceLeDiff, Nat.reduceLT, Int.reduceLT, Int.reduceLE, Int.reduceToNat, Int.reduceEq, Int.reduceNeg, Int.reduceAdd, Int.reduceSub, Int.reduceMul, Nat.reduceMod, Nat.reduceDiv, Nat.reducePow, BEq.rfl, gt_iff_lt, ge_iff_le, *, Int.natCast_add, Int.natCast_one] <;> with_reducible rfl) | with_reducible rfl)) : a ≤ b := h
theorem c_pvalid (cols params : List Int) : ∀ (N : Nat) (p : Pred), p.sz ≤ N → N ≤ 4000000 → CallA Try.prog C (.func 53) {} [.d (.fsl (rowsI cols) false false), .d (.fsl (rowsI params) false false), .agg (p.cells.map .d)] [] fun x hs => x = .d (.bool (p.valid cols params)) ∧ hs = []
  | 0, .mk _ _ _ _ args, h, _ => by rw [Pred.sz] at h; omega
  | N + 1, .mk op cmp l r args, hN, hB => by
    rw [Pred.sz] at hN
    have hlen := Pred.szL_len (l := args)
    refine call_func Try.func53 rfl (by decide) (by kernel_rfl) ⟨Nat.le_of_ble_eq_true rfl, Nat.le_of_ble_eq_true rfl⟩ ?_
    rw [Pred.valid, Pred.cells_eq]
    have hl0 : args = [] ∨ args.length ≠ 0 := by cases args <;> simp
    by_cases hop : op = 4 ∨ op = 5 ∨ (op = 6 ∧ args.length = 1)
    · have h1 : ¬ (op = 1 ∨ op = 2) := by omega
      have h3 : ¬ op = 3 := by omega
      have h1a : ¬ op = 1 := by omega
      have h1b : ¬ op = 2 := by omega
      rw [if_neg h1, if_neg h3, if_pos hop]
      cases hp : (decide (cmp = 0) && l.z && r.z) with
      | false =>
        rcases hop with rfl | rfl | ⟨rfl, h5⟩
        all_goals
          repeat' (first
    | ((with_reducible first | apply o_some | apply o_none | apply x_joined); exact sdG6; exact sdG6)
    | ((with_reducible first | apply d_some | apply d_none); exact sdG6; exact sdG6; exact sdG6)
    | ((with_reducible first | apply o_gT | apply d_gT); exact sdG6; exact sdG6)
    | ((with_reducible first | apply o_gF | apply d_gF); exact sdG6; exact sdG6; rfl)
    | ((with_reducible first | apply o_gU | apply d_gU); exact sdG6; exact sdG6)
    | ((with_reducible apply o_nilq); (exact ⟨by decide, by first | assumption | simp only [go_sem]⟩); exact sdG6; exact sdG6)
    | (with_reducible first | apply o_nil | apply x_next | apply x_seq | apply x_block | apply x_leave_normal | apply x_leave_ret | apply x_pass_ret | apply x_loop_exit | apply x_loop_ret | apply x_pass_exit | apply x_exit | apply x_ret | apply x_skip | apply x_label | apply x_join_ret | apply x_join_exit)
    | ((with_reducible apply d_end); kernel_rfl)
    | ((with_reducible apply x_region); exact sdG6)
    | ((with_reducible apply x_regionD); kernel_rfl; exact sdG6; exact sdG6)
    | ((with_reducible first | apply x_leave_exit | apply x_condT); exact sdG6)
    | ((with_reducible apply x_condF); exact sdG6)
    | ((first | ((with_reducible apply x_condB); exact sdG6) | ((with_reducible first | apply o_gB | apply d_gB); exact sdG6; exact sdG6)); all_goals intro hc; all_goals (try simp only [decide_eq_true_eq, decide_eq_false_iff_not, Bool.not_eq_true', Bool.not_eq_false', Bool.and_eq_true, Bool.or_eq_false_iff, Classical.not_not] at hc); all_goals (try (exfalso; omega)))
    | ((with_reducible apply o_call); exact sdG6; exact sdG6; exact sdG6; (first | exact c_plain2 _ cmp l r args); exact sdG6; exact sdG6)
    | ((with_reducible apply o_callN); exact sdG6; exact sdG6; exact sdG6; (first | exact c_plain2 _ cmp l r args); exact sdG6)
    | ((with_reducible apply d_callS); exact sdG6; exact sdG6; exact sdG6; (first | exact c_plain2 _ cmp l r args); exact sdG6p; exact sdG6; exact sdG6; exact sdG6; exact sdG6)
    | ((with_reducible apply x_end); (first | exact .inl rfl | exact .inr rfl); exact sdG6; exact sdG6))
          all_goals (first | exact ⟨rfl, rfl⟩ | exact ⟨by simp [*], rfl⟩ | exact ⟨by simp_all, rfl⟩ | trace_state)
      | true =>
        rcases hop with rfl | rfl | ⟨rfl, h5⟩
        · repeat' (first
    | ((with_reducible first | apply o_some | apply o_none | apply x_joined); exact sdG6; exact sdG6)
    | ((with_reducible first | apply d_some | apply d_none); exact sdG6; exact sdG6; exact sdG6)
    | ((with_reducible first | apply o_gT | apply d_gT); exact sdG6; exact sdG6)
    | ((with_reducible first | apply o_gF | apply d_gF); exact sdG6; exact sdG6; rfl)
    | ((with_reducible first | apply o_gU | apply d_gU); exact sdG6; exact sdG6)
    | ((with_reducible apply o_nilq); (exact ⟨by decide, by first | assumption | simp only [go_sem]⟩); exact sdG6; exact sdG6)
    | (with_reducible first | apply o_nil | apply x_next | apply x_seq | apply x_block | apply x_leave_normal | apply x_leave_ret | apply x_pass_ret | apply x_loop_exit | apply x_loop_ret | apply x_pass_exit | apply x_exit | apply x_ret | apply x_skip | apply x_label | apply x_join_ret | apply x_join_exit)
    | ((with_reducible apply d_end); kernel_rfl)
    | ((with_reducible apply x_region); exact sdG6)
    | ((with_reducible apply x_regionD); kernel_rfl; exact sdG6; exact sdG6)
    | ((with_reducible first | apply x_leave_exit | apply x_condT); exact sdG6)
    | ((with_reducible apply x_condF); exact sdG6)
    | ((first | ((with_reducible apply x_condB); exact sdG6) | ((with_reducible first | apply o_gB | apply d_gB); exact sdG6; exact sdG6)); all_goals intro hc; all_goals (try simp only [decide_eq_true_eq, decide_eq_false_iff_not, Bool.not_eq_true', Bool.not_eq_false', Bool.and_eq_true, Bool.or_eq_false_iff, Classical.not_not] at hc); all_goals (try (exfalso; omega)))
    | ((with_reducible apply o_call); exact sdG6; exact sdG6; exact sdG6; (first | exact c_plain2 4 cmp l r args); exact sdG6; exact sdG6)
    | ((with_reducible apply o_callN); exact sdG6; exact sdG6; exact sdG6; (first | exact c_plain2 4 cmp l r args); exact sdG6)
    | ((with_reducible apply d_callS); exact sdG6; exact sdG6; exact sdG6; (first | exact c_plain2 4 cmp l r args); exact sdG6p; exact sdG6; exact sdG6; exact sdG6; exact sdG6)
    | ((with_reducible apply x_end); (first | exact .inl rfl | exact .inr rfl); exact sdG6; exact sdG6))
          refine x_loopG { ownRes := true } [0, 1, 5, 70, 71] (fun (i : Nat) => [(0, .d (.fsl (rowsI cols) false false)), (1, .d (.fsl (rowsI params) false false)), (5, .ptr 0 0 0), (70, .d (.int .i64 args.length)), (71, .d (.int .i64 i))]) (fun _ => [some (predO 4 cmp l r args)])
            (fun i => i ≤ args.length ∧ Pred.validL cols params args = Pred.validL cols params (args.drop i)) (fun i => args.length - i) 0 ?_ ⟨by omega, rfl⟩ ?_
          · exact sdG6
          · rintro i ⟨hi, hk⟩
            by_cases hlt : i < args.length
            · have hlt' : (i : Int) < args.length := by omega
              have hgi : args[i]? = some args[i] := List.getElem?_eq_getElem hlt
              have hd : args.drop i = args[i] :: args.drop (i + 1) := List.drop_eq_getElem_cons hlt
              have hmem : args[i] ∈ args := List.getElem_mem hlt
              generalize args[i] = q at hgi hd hmem
              have hq := Pred.sz_mem hmem
              cases hx : q.valid cols params with
              | true =>
                repeat' (first
    | ((with_reducible first | apply o_some | apply o_none | apply x_joined); exact sdG6; exact sdG6)
    | ((with_reducible first | apply d_some | apply d_none); exact sdG6; exact sdG6; exact sdG6)
    | ((with_reducible first | apply o_gT | apply d_gT); exact sdG6; exact sdG6)
    | ((with_reducible first | apply o_gF | apply d_gF); exact sdG6; exact sdG6; rfl)
    | ((with_reducible first | apply o_gU | apply d_gU); exact sdG6; exact sdG6)
    | ((with_reducible apply o_nilq); (exact ⟨by decide, by first | assumption | simp only [go_sem]⟩); exact sdG6; exact sdG6)
    | (with_reducible first | apply o_nil | apply x_next | apply x_seq | apply x_block | apply x_leave_normal | apply x_leave_ret | apply x_pass_ret | apply x_loop_exit | apply x_loop_ret | apply x_pass_exit | apply x_exit | apply x_ret | apply x_skip | apply x_label | apply x_join_ret | apply x_join_exit)
    | ((with_reducible apply d_end); kernel_rfl)
    | ((with_reducible apply x_region); exact sdG6)
    | ((with_reducible apply x_regionD); kernel_rfl; exact sdG6; exact sdG6)
    | ((with_reducible first | apply x_leave_exit | apply x_condT); exact sdG6)
    | ((with_reducible apply x_condF); exact sdG6)
    | ((first | ((with_reducible apply x_condB); exact sdG6) | ((with_reducible first | apply o_gB | apply d_gB); exact sdG6; exact sdG6)); all_goals intro hc; all_goals (try simp only [decide_eq_true_eq, decide_eq_false_iff_not, Bool.not_eq_true', Bool.not_eq_false', Bool.and_eq_true, Bool.or_eq_false_iff, Classical.not_not] at hc); all_goals (try (exfalso; omega)))
    | ((with_reducible apply o_call); exact sdG6; exact sdG6; exact sdG6; (first | exact c_pvalid cols params N q (by omega) (by omega)); exact sdG6; exact sdG6)
    | ((with_reducible apply o_callN); exact sdG6; exact sdG6; exact sdG6; (first | exact c_pvalid cols params N q (by omega) (by omega)); exact sdG6)
    | ((with_reducible apply d_callS); exact sdG6; exact sdG6; exact sdG6; (first | exact c_pvalid cols params N q (by omega) (by omega)); exact sdG6p; exact sdG6; exact sdG6; exact sdG6; exact sdG6)
    | ((with_reducible apply x_end); (first | exact .inl rfl | exact .inr rfl); exact sdG6; exact sdG6))
                refine x_again (i + 1) ⟨by omega, by rw [hk, hd, Pred.validL, hx]; rfl⟩ (by omega) ?_
                exact sdG61
              | false =>
                repeat' (first
    | ((with_reducible first | apply o_some | apply o_none | apply x_joined); exact sdG6; exact sdG6)
    | ((with_reducible first | apply d_some | apply d_none); exact sdG6; exact sdG6; exact sdG6)
    | ((with_reducible first | apply o_gT | apply d_gT); exact sdG6; exact sdG6)
    | ((with_reducible first | apply o_gF | apply d_gF); exact sdG6; exact sdG6; rfl)
    | ((with_reducible first | apply o_gU | apply d_gU); exact sdG6; exact sdG6)
    | ((with_reducible apply o_nilq); (exact ⟨by decide, by first | assumption | simp only [go_sem]⟩); exact sdG6; exact sdG6)
    | (with_reducible first | apply o_nil | apply x_next | apply x_seq | apply x_block | apply x_leave_normal | apply x_leave_ret | apply x_pass_ret | apply x_loop_exit | apply x_loop_ret | apply x_pass_exit | apply x_exit | apply x_ret | apply x_skip | apply x_label | apply x_join_ret | apply x_join_exit)
    | ((with_reducible apply d_end); kernel_rfl)
    | ((with_reducible apply x_region); exact sdG6)
    | ((with_reducible apply x_regionD); kernel_rfl; exact sdG6; exact sdG6)
    | ((with_reducible first | apply x_leave_exit | apply x_condT); exact sdG6)
    | ((with_reducible apply x_condF); exact sdG6)
    | ((first | ((with_reducible apply x_condB); exact sdG6) | ((with_reducible first | apply o_gB | apply d_gB); exact sdG6; exact sdG6)); all_goals intro hc; all_goals (try simp only [decide_eq_true_eq, decide_eq_false_iff_not, Bool.not_eq_true', Bool.not_eq_false', Bool.and_eq_true, Bool.or_eq_false_iff, Classical.not_not] at hc); all_goals (try (exfalso; omega)))
    | ((with_reducible apply o_call); exact sdG6; exact sdG6; exact sdG6; (first | exact c_pvalid cols params N q (by omega) (by omega)); exact sdG6; exact sdG6)
    | ((with_reducible apply o_callN); exact sdG6; exact sdG6; exact sdG6; (first | exact c_pvalid cols params N q (by omega) (by omega)); exact sdG6)
    | ((with_reducible apply d_callS); exact sdG6; exact sdG6; exact sdG6; (first | exact c_pvalid cols params N q (by omega) (by omega)); exact sdG6p; exact sdG6; exact sdG6; exact sdG6; exact sdG6)
    | ((with_reducible apply x_end); (first | exact .inl rfl | exact .inr rfl); exact sdG6; exact sdG6))
                exact ⟨by rw [hk, hd, Pred.validL, hx]; rfl, rfl⟩
            · have hlt' : ¬ (i : Int) < args.length := by omega
              repeat' (first
    | ((with_reducible first | apply o_some | apply o_none | apply x_joined); exact sdG6; exact sdG6)
    | ((with_reducible first | apply d_some | apply d_none); exact sdG6; exact sdG6; exact sdG6)
    | ((with_reducible first | apply o_gT | apply d_gT); exact sdG6; exact sdG6)
    | ((with_reducible first | apply o_gF | apply d_gF); exact sdG6; exact sdG6; rfl)
    | ((with_reducible first | apply o_gU | apply d_gU); exact sdG6; exact sdG6)
    | ((with_reducible apply o_nilq); (exact ⟨by decide, by first | assumption | simp only [go_sem]⟩); exact sdG6; exact sdG6)
    | (with_reducible first | apply o_nil | apply x_next | apply x_seq | apply x_block | apply x_leave_normal | apply x_leave_ret | apply x_pass_ret | apply x_loop_exit | apply x_loop_ret | apply x_pass_exit | apply x_exit | apply x_ret | apply x_skip | apply x_label | apply x_join_ret | apply x_join_exit)
    | ((with_reducible apply d_end); kernel_rfl)
    | ((with_reducible apply x_region); exact sdG6)
    | ((with_reducible apply x_regionD); kernel_rfl; exact sdG6; exact sdG6)
    | ((with_reducible first | apply x_leave_exit | apply x_condT); exact sdG6)
    | ((with_reducible apply x_condF); exact sdG6)
    | ((first | ((with_reducible apply x_condB); exact sdG6) | ((with_reducible first | apply o_gB | apply d_gB); exact sdG6; exact sdG6)); all_goals intro hc; all_goals (try simp only [decide_eq_true_eq, decide_eq_false_iff_not, Bool.not_eq_true', Bool.not_eq_false', Bool.and_eq_true, Bool.or_eq_false_iff, Classical.not_not] at hc); all_goals (try (exfalso; omega)))
    | ((with_reducible apply x_end); (first | exact .inl rfl | exact .inr rfl); exact sdG6; exact sdG6))
              have he : i = args.length := by omega
              exact ⟨by rw [hk, he, List.drop_length, Pred.validL]; rfl, rfl⟩
        · repeat' (first
    | ((with_reducible first | apply o_some | apply o_none | apply x_joined); exact sdG6; exact sdG6)
    | ((with_reducible first | apply d_some | apply d_none); exact sdG6; exact sdG6; exact sdG6)
    | ((with_reducible first | apply o_gT | apply d_gT); exact sdG6; exact sdG6)
    | ((with_reducible first | apply o_gF | apply d_gF); exact sdG6; exact sdG6; rfl)
    | ((with_reducible first | apply o_gU | apply d_gU); exact sdG6; exact sdG6)
    | ((with_reducible apply o_nilq); (exact ⟨by decide, by first | assumption | simp only [go_sem]⟩); exact sdG6; exact sdG6)
    | (with_reducible first | apply o_nil | apply x_next | apply x_seq | apply x_block | apply x_leave_normal | apply x_leave_ret | apply x_pass_ret | apply x_loop_exit | apply x_loop_ret | apply x_pass_exit | apply x_exit | apply x_ret | apply x_skip | apply x_label | apply x_join_ret | apply x_join_exit)
    | ((with_reducible apply d_end); kernel_rfl)
    | ((with_reducible apply x_region); exact sdG6)
    | ((with_reducible apply x_regionD); kernel_rfl; exact sdG6; exact sdG6)
    | ((with_reducible first | apply x_leave_exit | apply x_condT); exact sdG6)
    | ((with_reducible apply x_condF); exact sdG6)
    | ((first | ((with_reducible apply x_condB); exact sdG6) | ((with_reducible first | apply o_gB | apply d_gB); exact sdG6; exact sdG6)); all_goals intro hc; all_goals (try simp only [decide_eq_true_eq, decide_eq_false_iff_not, Bool.not_eq_true', Bool.not_eq_false', Bool.and_eq_true, Bool.or_eq_false_iff, Classical.not_not] at hc); all_goals (try (exfalso; omega)))
    | ((with_reducible apply o_call); exact sdG6; exact sdG6; exact sdG6; (first | exact c_plain2 5 cmp l r args); exact sdG6; exact sdG6)
    | ((with_reducible apply o_callN); exact sdG6; exact sdG6; exact sdG6; (first | exact c_plain2 5 cmp l r args); exact sdG6)
    | ((with_reducible apply d_callS); exact sdG6; exact sdG6; exact sdG6; (first | exact c_plain2 5 cmp l r args); exact sdG6p; exact sdG6; exact sdG6; exact sdG6; exact sdG6)
    | ((with_reducible apply x_end); (first | exact .inl rfl | exact .inr rfl); exact sdG6; exact sdG6))
          refine x_loopG { ownRes := true } [0, 1, 5, 70, 71] (fun (i : Nat) => [(0, .d (.fsl (rowsI cols) false false)), (1, .d (.fsl (rowsI params) false false)), (5, .ptr 0 0 0), (70, .d (.int .i64 args.length)), (71, .d (.int .i64 i))]) (fun _ => [some (predO 5 cmp l r args)])
            (fun i => i ≤ args.length ∧ Pred.validL cols params args = Pred.validL cols params (args.drop i)) (fun i => args.length - i) 0 ?_ ⟨by omega, rfl⟩ ?_
          · exact sdG6
          · rintro i ⟨hi, hk⟩
            by_cases hlt : i < args.length
            · have hlt' : (i : Int) < args.length := by omega
              have hgi : args[i]? = some args[i] := List.getElem?_eq_getElem hlt
              have hd : args.drop i = args[i] :: args.drop (i + 1) := List.drop_eq_getElem_cons hlt
              have hmem : args[i] ∈ args := List.getElem_mem hlt
              generalize args[i] = q at hgi hd hmem
              have hq := Pred.sz_mem hmem
              cases hx : q.valid cols params with
              | true =>
                repeat' (first
    | ((with_reducible first | apply o_some | apply o_none | apply x_joined); exact sdG6; exact sdG6)
    | ((with_reducible first | apply d_some | apply d_none); exact sdG6; exact sdG6; exact sdG6)
    | ((with_reducible first | apply o_gT | apply d_gT); exact sdG6; exact sdG6)
    | ((with_reducible first | apply o_gF | apply d_gF); exact sdG6; exact sdG6; rfl)
    | ((with_reducible first | apply o_gU | apply d_gU); exact sdG6; exact sdG6)
    | ((with_reducible apply o_nilq); (exact ⟨by decide, by first | assumption | simp only [go_sem]⟩); exact sdG6; exact sdG6)
    | (with_reducible first | apply o_nil | apply x_next | apply x_seq | apply x_block | apply x_leave_normal | apply x_leave_ret | apply x_pass_ret | apply x_loop_exit | apply x_loop_ret | apply x_pass_exit | apply x_exit | apply x_ret | apply x_skip | apply x_label | apply x_join_ret | apply x_join_exit)
    | ((with_reducible apply d_end); kernel_rfl)
    | ((with_reducible apply x_region); exact sdG6)
    | ((with_reducible apply x_regionD); kernel_rfl; exact sdG6; exact sdG6)
    | ((with_reducible first | apply x_leave_exit | apply x_condT); exact sdG6)
    | ((with_reducible apply x_condF); exact sdG6)
    | ((first | ((with_reducible apply x_condB); exact sdG6) | ((with_reducible first | apply o_gB | apply d_gB); exact sdG6; exact sdG6)); all_goals intro hc; all_goals (try simp only [decide_eq_true_eq, decide_eq_false_iff_not, Bool.not_eq_true', Bool.not_eq_false', Bool.and_eq_true, Bool.or_eq_false_iff, Classical.not_not] at hc); all_goals (try (exfalso; omega)))
    | ((with_reducible apply o_call); exact sdG6; exact sdG6; exact sdG6; (first | exact c_pvalid cols params N q (by omega) (by omega)); exact sdG6; exact sdG6)
    | ((with_reducible apply o_callN); exact sdG6; exact sdG6; exact sdG6; (first | exact c_pvalid cols params N q (by omega) (by omega)); exact sdG6)
    | ((with_reducible apply d_callS); exact sdG6; exact sdG6; exact sdG6; (first | exact c_pvalid cols params N q (by omega) (by omega)); exact sdG6p; exact sdG6; exact sdG6; exact sdG6; exact sdG6)
    | ((with_reducible apply x_end); (first | exact .inl rfl | exact .inr rfl); exact sdG6; exact sdG6))
                refine x_again (i + 1) ⟨by omega, by rw [hk, hd, Pred.validL, hx]; rfl⟩ (by omega) ?_
                exact sdG61
              | false =>
                repeat' (first
    | ((with_reducible first | apply o_some | apply o_none | apply x_joined); exact sdG6; exact sdG6)
    | ((with_reducible first | apply d_some | apply d_none); exact sdG6; exact sdG6; exact sdG6)
    | ((with_reducible first | apply o_gT | apply d_gT); exact sdG6; exact sdG6)
    | ((with_reducible first | apply o_gF | apply d_gF); exact sdG6; exact sdG6; rfl)
    | ((with_reducible first | apply o_gU | apply d_gU); exact sdG6; exact sdG6)
    | ((with_reducible apply o_nilq); (exact ⟨by decide, by first | assumption | simp only [go_sem]⟩); exact sdG6; exact sdG6)
    | (with_reducible first | apply o_nil | apply x_next | apply x_seq | apply x_block | apply x_leave_normal | apply x_leave_ret | apply x_pass_ret | apply x_loop_exit | apply x_loop_ret | apply x_pass_exit | apply x_exit | apply x_ret | apply x_skip | apply x_label | apply x_join_ret | apply x_join_exit)
    | ((with_reducible apply d_end); kernel_rfl)
    | ((with_reducible apply x_region); exact sdG6)
    | ((with_reducible apply x_regionD); kernel_rfl; exact sdG6; exact sdG6)
    | ((with_reducible first | apply x_leave_exit | apply x_condT); exact sdG6)
    | ((with_reducible apply x_condF); exact sdG6)
    | ((first | ((with_reducible apply x_condB); exact sdG6) | ((with_reducible first | apply o_gB | apply d_gB); exact sdG6; exact sdG6)); all_goals intro hc; all_goals (try simp only [decide_eq_true_eq, decide_eq_false_iff_not, Bool.not_eq_true', Bool.not_eq_false', Bool.and_eq_true, Bool.or_eq_false_iff, Classical.not_not] at hc); all_goals (try (exfalso; omega)))
    | ((with_reducible apply o_call); exact sdG6; exact sdG6; exact sdG6; (first | exact c_pvalid cols params N q (by omega) (by omega)); exact sdG6; exact sdG6)
    | ((with_reducible apply o_callN); exact sdG6; exact sdG6; exact sdG6; (first | exact c_pvalid cols params N q (by omega) (by omega)); exact sdG6)
    | ((with_reducible apply d_callS); exact sdG6; exact sdG6; exact sdG6; (first | exact c_pvalid cols params N q (by omega) (by omega)); exact sdG6p; exact sdG6; exact sdG6; exact sdG6; exact sdG6)
    | ((with_reducible apply x_end); (first | exact .inl rfl | exact .inr rfl); exact sdG6; exact sdG6))
                exact ⟨by rw [hk, hd, Pred.validL, hx]; rfl, rfl⟩
            · have hlt' : ¬ (i : Int) < args.length := by omega
              repeat' (first
    | ((with_reducible first | apply o_some | apply o_none | apply x_joined); exact sdG6; exact sdG6)
    | ((with_reducible first | apply d_some | apply d_none); exact sdG6; exact sdG6; exact sdG6)
    | ((with_reducible first | apply o_gT | apply d_gT); exact sdG6; exact sdG6)
    | ((with_reducible first | apply o_gF | apply d_gF); exact sdG6; exact sdG6; rfl)
    | ((with_reducible first | apply o_gU | apply d_gU); exact sdG6; exact sdG6)
    | ((with_reducible apply o_nilq); (exact ⟨by decide, by first | assumption | simp only [go_sem]⟩); exact sdG6; exact sdG6)
    | (with_reducible first | apply o_nil | apply x_next | apply x_seq | apply x_block | apply x_leave_normal | apply x_leave_ret | apply x_pass_ret | apply x_loop_exit | apply x_loop_ret | apply x_pass_exit | apply x_exit | apply x_ret | apply x_skip | apply x_label | apply x_join_ret | apply x_join_exit)
    | ((with_reducible apply d_end); kernel_rfl)
    | ((with_reducible apply x_region); exact sdG6)
    | ((with_reducible apply x_regionD); kernel_rfl; exact sdG6; exact sdG6)
    | ((with_reducible first | apply x_leave_exit | apply x_condT); exact sdG6)
    | ((with_reducible apply x_condF); exact sdG6)
    | ((first | ((with_reducible apply x_condB); exact sdG6) | ((with_reducible first | apply o_gB | apply d_gB); exact sdG6; exact sdG6)); all_goals intro hc; all_goals (try simp only [decide_eq_true_eq, decide_eq_false_iff_not, Bool.not_eq_true', Bool.not_eq_false', Bool.and_eq_true, Bool.or_eq_false_iff, Classical.not_not] at hc); all_goals (try (exfalso; omega)))
    | ((with_reducible apply x_end); (first | exact .inl rfl | exact .inr rfl); exact sdG6; exact sdG6))
              have he : i = args.length := by omega
              exact ⟨by rw [hk, he, List.drop_length, Pred.validL]; rfl, rfl⟩
        · repeat' (first
    | ((with_reducible first | apply o_some | apply o_none | apply x_joined); exact sdG6; exact sdG6)
    | ((with_reducible first | apply d_some | apply d_none); exact sdG6; exact sdG6; exact sdG6)
    | ((with_reducible first | apply o_gT | apply d_gT); exact sdG6; exact sdG6)
    | ((with_reducible first | apply o_gF | apply d_gF); exact sdG6; exact sdG6; rfl)
    | ((with_reducible first | apply o_gU | apply d_gU); exact sdG6; exact sdG6)
    | ((with_reducible apply o_nilq); (exact ⟨by decide, by first | assumption | simp only [go_sem]⟩); exact sdG6; exact sdG6)
    | (with_reducible first | apply o_nil | apply x_next | apply x_seq | apply x_block | apply x_leave_normal | apply x_leave_ret | apply x_pass_ret | apply x_loop_exit | apply x_loop_ret | apply x_pass_exit | apply x_exit | apply x_ret | apply x_skip | apply x_label | apply x_join_ret | apply x_join_exit)
    | ((with_reducible apply d_end); kernel_rfl)
    | ((with_reducible apply x_region); exact sdG6)
    | ((with_reducible apply x_regionD); kernel_rfl; exact sdG6; exact sdG6)
    | ((with_reducible first | apply x_leave_exit | apply x_condT); exact sdG6)
    | ((with_reducible apply x_condF); exact sdG6)
    | ((first | ((with_reducible apply x_condB); exact sdG6) | ((with_reducible first | apply o_gB | apply d_gB); exact sdG6; exact sdG6)); all_goals intro hc; all_goals (try simp only [decide_eq_true_eq, decide_eq_false_iff_not, Bool.not_eq_true', Bool.not_eq_false', Bool.and_eq_true, Bool.or_eq_false_iff, Classical.not_not] at hc); all_goals (try (exfalso; omega)))
    | ((with_reducible apply o_call); exact sdG6; exact sdG6; exact sdG6; (first | exact c_plain2 6 cmp l r args); exact sdG6; exact sdG6)
    | ((with_reducible apply o_callN); exact sdG6; exact sdG6; exact sdG6; (first | exact c_plain2 6 cmp l r args); exact sdG6)
    | ((with_reducible apply d_callS); exact sdG6; exact sdG6; exact sdG6; (first | exact c_plain2 6 cmp l r args); exact sdG6p; exact sdG6; exact sdG6; exact sdG6; exact sdG6)
    | ((with_reducible apply x_end); (first | exact .inl rfl | exact .inr rfl); exact sdG6; exact sdG6))
          refine x_loopG { ownRes := true } [0, 1, 5, 70, 71] (fun (i : Nat) => [(0, .d (.fsl (rowsI cols) false false)), (1, .d (.fsl (rowsI params) false false)), (5, .ptr 0 0 0), (70, .d (.int .i64 args.length)), (71, .d (.int .i64 i))]) (fun _ => [some (predO 6 cmp l r args)])
            (fun i => i ≤ args.length ∧ Pred.validL cols params args = Pred.validL cols params (args.drop i)) (fun i => args.length - i) 0 ?_ ⟨by omega, rfl⟩ ?_
          · exact sdG6
          · rintro i ⟨hi, hk⟩
            by_cases hlt : i < args.length
            · have hlt' : (i : Int) < args.length := by omega
              have hgi : args[i]? = some args[i] := List.getElem?_eq_getElem hlt
              have hd : args.drop i = args[i] :: args.drop (i + 1) := List.drop_eq_getElem_cons hlt
              have hmem : args[i] ∈ args := List.getElem_mem hlt
              generalize args[i] = q at hgi hd hmem
              have hq := Pred.sz_mem hmem
              cases hx : q.valid cols params with
              | true =>
                repeat' (first
    | ((with_reducible first | apply o_some | apply o_none | apply x_joined); exact sdG6; exact sdG6)
    | ((with_reducible first | apply d_some | apply d_none); exact sdG6; exact sdG6; exact sdG6)
    | ((with_reducible first | apply o_gT | apply d_gT); exact sdG6; exact sdG6)
    | ((with_reducible first | apply o_gF | apply d_gF); exact sdG6; exact sdG6; rfl)
    | ((with_reducible first | apply o_gU | apply d_gU); exact sdG6; exact sdG6)
    | ((with_reducible apply o_nilq); (exact ⟨by decide, by first | assumption | simp only [go_sem]⟩); exact sdG6; exact sdG6)
    | (with_reducible first | apply o_nil | apply x_next | apply x_seq | apply x_block | apply x_leave_normal | apply x_leave_ret | apply x_pass_ret | apply x_loop_exit | apply x_loop_ret | apply x_pass_exit | apply x_exit | apply x_ret | apply x_skip | apply x_label | apply x_join_ret | apply x_join_exit)
    | ((with_reducible apply d_end); kernel_rfl)
    | ((with_reducible apply x_region); exact sdG6)
    | ((with_reducible apply x_regionD); kernel_rfl; exact sdG6; exact sdG6)
    | ((with_reducible first | apply x_leave_exit | apply x_condT); exact sdG6)
    | ((with_reducible apply x_condF); exact sdG6)
    | ((first | ((with_reducible apply x_condB); exact sdG6) | ((with_reducible first | apply o_gB | apply d_gB); exact sdG6; exact sdG6)); all_goals intro hc; all_goals (try simp only [decide_eq_true_eq, decide_eq_false_iff_not, Bool.not_eq_true', Bool.not_eq_false', Bool.and_eq_true, Bool.or_eq_false_iff, Classical.not_not] at hc); all_goals (try (exfalso; omega)))
    | ((with_reducible apply o_call); exact sdG6; exact sdG6; exact sdG6; (first | exact c_pvalid cols params N q (by omega) (by omega)); exact sdG6; exact sdG6)
    | ((with_reducible apply o_callN); exact sdG6; exact sdG6; exact sdG6; (first | exact c_pvalid cols params N q (by omega) (by omega)); exact sdG6)
    | ((with_reducible apply d_callS); exact sdG6; exact sdG6; exact sdG6; (first | exact c_pvalid cols params N q (by omega) (by omega)); exact sdG6p; exact sdG6; exact sdG6; exact sdG6; exact sdG6)
    | ((with_reducible apply x_end); (first | exact .inl rfl | exact .inr rfl); exact sdG6; exact sdG6))
                refine x_again (i + 1) ⟨by omega, by rw [hk, hd, Pred.validL, hx]; rfl⟩ (by omega) ?_
                exact sdG61
              | false =>
                repeat' (first
    | ((with_reducible first | apply o_some | apply o_none | apply x_joined); exact sdG6; exact sdG6)
    | ((with_reducible first | apply d_some | apply d_none); exact sdG6; exact sdG6; exact sdG6)
    | ((with_reducible first | apply o_gT | apply d_gT); exact sdG6; exact sdG6)
    | ((with_reducible first | apply o_gF | apply d_gF); exact sdG6; exact sdG6; rfl)
    | ((with_reducible first | apply o_gU | apply d_gU); exact sdG6; exact sdG6)
    | ((with_reducible apply o_nilq); (exact ⟨by decide, by first | assumption | simp only [go_sem]⟩); exact sdG6; exact sdG6)
    | (with_reducible first | apply o_nil | apply x_next | apply x_seq | apply x_block | apply x_leave_normal | apply x_leave_ret | apply x_pass_ret | apply x_loop_exit | apply x_loop_ret | apply x_pass_exit | apply x_exit | apply x_ret | apply x_skip | apply x_label | apply x_join_ret | apply x_join_exit)
    | ((with_reducible apply d_end); kernel_rfl)
    | ((with_reducible apply x_region); exact sdG6)
    | ((with_reducible apply x_regionD); kernel_rfl; exact sdG6; exact sdG6)
    | ((with_reducible first | apply x_leave_exit | apply x_condT); exact sdG6)
    | ((with_reducible apply x_condF); exact sdG6)
    | ((first | ((with_reducible apply x_condB); exact sdG6) | ((with_reducible first | apply o_gB | apply d_gB); exact sdG6; exact sdG6)); all_goals intro hc; all_goals (try simp only [decide_eq_true_eq, decide_eq_false_iff_not, Bool.not_eq_true', Bool.not_eq_false', Bool.and_eq_true, Bool.or_eq_false_iff, Classical.not_not] at hc); all_goals (try (exfalso; omega)))
    | ((with_reducible apply o_call); exact sdG6; exact sdG6; exact sdG6; (first | exact c_pvalid cols params N q (by omega) (by omega)); exact sdG6; exact sdG6)
    | ((with_reducible apply o_callN); exact sdG6; exact sdG6; exact sdG6; (first | exact c_pvalid cols params N q (by omega) (by omega)); exact sdG6)
    | ((with_reducible apply d_callS); exact sdG6; exact sdG6; exact sdG6; (first | exact c_pvalid cols params N q (by omega) (by omega)); exact sdG6p; exact sdG6; exact sdG6; exact sdG6; exact sdG6)
    | ((with_reducible apply x_end); (first | exact .inl rfl | exact .inr rfl); exact sdG6; exact sdG6))
                exact ⟨by rw [hk, hd, Pred.validL, hx]; rfl, rfl⟩
            · have hlt' : ¬ (i : Int) < args.length := by omega
              repeat' (first
    | ((with_reducible first | apply o_some | apply o_none | apply x_joined); exact sdG6; exact sdG6)
    | ((with_reducible first | apply d_some | apply d_none); exact sdG6; exact sdG6; exact sdG6)
    | ((with_reducible first | apply o_gT | apply d_gT); exact sdG6; exact sdG6)
    | ((with_reducible first | apply o_gF | apply d_gF); exact sdG6; exact sdG6; rfl)
    | ((with_reducible first | apply o_gU | apply d_gU); exact sdG6; exact sdG6)
    | ((with_reducible apply o_nilq); (exact ⟨by decide, by first | assumption | simp only [go_sem]⟩); exact sdG6; exact sdG6)
    | (with_reducible first | apply o_nil | apply x_next | apply x_seq | apply x_block | apply x_leave_normal | apply x_leave_ret | apply x_pass_ret | apply x_loop_exit | apply x_loop_ret | apply x_pass_exit | apply x_exit | apply x_ret | apply x_skip | apply x_label | apply x_join_ret | apply x_join_exit)
    | ((with_reducible apply d_end); kernel_rfl)
    | ((with_reducible apply x_region); exact sdG6)
    | ((with_reducible apply x_regionD); kernel_rfl; exact sdG6; exact sdG6)
    | ((with_reducible first | apply x_leave_exit | apply x_condT); exact sdG6)
    | ((with_reducible apply x_condF); exact sdG6)
    | ((first | ((with_reducible apply x_condB); exact sdG6) | ((with_reducible first | apply o_gB | apply d_gB); exact sdG6; exact sdG6)); all_goals intro hc; all_goals (try simp only [decide_eq_true_eq, decide_eq_false_iff_not, Bool.not_eq_true', Bool.not_eq_false', Bool.and_eq_true, Bool.or_eq_false_iff, Classical.not_not] at hc); all_goals (try (exfalso; omega)))
    | ((with_reducible apply x_end); (first | exact .inl rfl | exact .inr rfl); exact sdG6; exact sdG6))
              have he : i = args.length := by omega
              exact ⟨by rw [hk, he, List.drop_length, Pred.validL]; rfl, rfl⟩
    · rcases hl0 with hl0 | hl0
      · subst hl0
        repeat' (first
    | ((with_reducible first | apply o_some | apply o_none | apply x_joined); exact sdG6; exact sdG6)
    | ((with_reducible first | apply d_some | apply d_none); exact sdG6; exact sdG6; exact sdG6)
    | ((with_reducible first | apply o_gT | apply d_gT); exact sdG6; exact sdG6)
    | ((with_reducible first | apply o_gF | apply d_gF); exact sdG6; exact sdG6; rfl)
    | ((with_reducible first | apply o_gU | apply d_gU); exact sdG6; exact sdG6)
    | ((with_reducible apply o_nilq); (exact ⟨by decide, by first | assumption | simp only [go_sem]⟩); exact sdG6; exact sdG6)
    | (with_reducible first | apply o_nil | apply x_next | apply x_seq | apply x_block | apply x_leave_normal | apply x_leave_ret | apply x_pass_ret | apply x_loop_exit | apply x_loop_ret | apply x_pass_exit | apply x_exit | apply x_ret | apply x_skip | apply x_label | apply x_join_ret | apply x_join_exit)
    | ((with_reducible apply d_end); kernel_rfl)
    | ((with_reducible apply x_region); exact sdG6)
    | ((with_reducible apply x_regionD); kernel_rfl; exact sdG6; exact sdG6)
    | ((with_reducible first | apply x_leave_exit | apply x_condT); exact sdG6)
    | ((with_reducible apply x_condF); exact sdG6)
    | ((first | ((with_reducible apply x_condB); exact sdG6) | ((with_reducible first | apply o_gB | apply d_gB); exact sdG6; exact sdG6)); all_goals intro hc; all_goals (try simp only [decide_eq_true_eq, decide_eq_false_iff_not, Bool.not_eq_true', Bool.not_eq_false', Bool.and_eq_true, Bool.or_eq_false_iff, Classical.not_not] at hc); all_goals (try (exfalso; omega)))
    | ((with_reducible apply o_call); exact sdG6; exact sdG6; exact sdG6; (first | exact c_plain2 _ cmp l r List.nil | exact c_kind cols params l | exact c_kind cols params r); exact sdG6; exact sdG6)
    | ((with_reducible apply o_callN); exact sdG6; exact sdG6; exact sdG6; (first | exact c_plain2 _ cmp l r List.nil | exact c_kind cols params l | exact c_kind cols params r); exact sdG6)
    | ((with_reducible apply d_callS); exact sdG6; exact sdG6; exact sdG6; (first | exact c_plain2 _ cmp l r List.nil | exact c_kind cols params l | exact c_kind cols params r); exact sdG6p; exact sdG6; exact sdG6; exact sdG6; exact sdG6)
    | ((with_reducible apply x_end); (first | exact .inl rfl | exact .inr rfl); exact sdG6; exact sdG6))
        all_goals (first | exact ⟨rfl, rfl⟩ | exact ⟨by simp [*], rfl⟩ | exact ⟨by simp_all, rfl⟩ | trace_state)
      · have hl1 : args ≠ [] := fun h => hl0 (by rw [h]; rfl)
        have hl2 : ¬ (args.length : Int) = 0 := by omega
        by_cases h6 : op = 6
        · have h7 : ¬ (args.length : Int) = 1 := by omega
          have h8 : ¬ args.length = 1 := by omega
          repeat' (first
    | ((with_reducible first | apply o_some | apply o_none | apply x_joined); exact sdG6; exact sdG6)
    | ((with_reducible first | apply d_some | apply d_none); exact sdG6; exact sdG6; exact sdG6)
    | ((with_reducible first | apply o_gT | apply d_gT); exact sdG6; exact sdG6)
    | ((with_reducible first | apply o_gF | apply d_gF); exact sdG6; exact sdG6; rfl)
    | ((with_reducible first | apply o_gU | apply d_gU); exact sdG6; exact sdG6)
    | ((with_reducible apply o_nilq); (exact ⟨by decide, by first | assumption | simp only [go_sem]⟩); exact sdG6; exact sdG6)
    | (with_reducible first | apply o_nil | apply x_next | apply x_seq | apply x_block | apply x_leave_normal | apply x_leave_ret | apply x_pass_ret | apply x_loop_exit | apply x_loop_ret | apply x_pass_exit | apply x_exit | apply x_ret | apply x_skip | apply x_label | apply x_join_ret | apply x_join_exit)
    | ((with_reducible apply d_end); kernel_rfl)
    | ((with_reducible apply x_region); exact sdG6)
    | ((with_reducible apply x_regionD); kernel_rfl; exact sdG6; exact sdG6)
    | ((with_reducible first | apply x_leave_exit | apply x_condT); exact sdG6)
    | ((with_reducible apply x_condF); exact sdG6)
    | ((first | ((with_reducible apply x_condB); exact sdG6) | ((with_reducible first | apply o_gB | apply d_gB); exact sdG6; exact sdG6)); all_goals intro hc; all_goals (try simp only [decide_eq_true_eq, decide_eq_false_iff_not, Bool.not_eq_true', Bool.not_eq_false', Bool.and_eq_true, Bool.or_eq_false_iff, Classical.not_not] at hc); all_goals (try (exfalso; omega)))
    | ((with_reducible apply o_call); exact sdG6; exact sdG6; exact sdG6; (first | exact c_plain2 _ cmp l r args | exact c_kind cols params l | exact c_kind cols params r); exact sdG6; exact sdG6)
    | ((with_reducible apply o_callN); exact sdG6; exact sdG6; exact sdG6; (first | exact c_plain2 _ cmp l r args | exact c_kind cols params l | exact c_kind cols params r); exact sdG6)
    | ((with_reducible apply d_callS); exact sdG6; exact sdG6; exact sdG6; (first | exact c_plain2 _ cmp l r args | exact c_kind cols params l | exact c_kind cols params r); exact sdG6p; exact sdG6; exact sdG6; exact sdG6; exact sdG6)
    | ((with_reducible apply x_end); (first | exact .inl rfl | exact .inr rfl); exact sdG6; exact sdG6))
          all_goals (first | exact ⟨rfl, rfl⟩ | exact ⟨by simp [*], rfl⟩ | exact ⟨by simp_all, rfl⟩ | trace_state)
        · repeat' (first
    | ((with_reducible first | apply o_some | apply o_none | apply x_joined); exact sdG6; exact sdG6)
    | ((with_reducible first | apply d_some | apply d_none); exact sdG6; exact sdG6; exact sdG6)
    | ((with_reducible first | apply o_gT | apply d_gT); exact sdG6; exact sdG6)
    | ((with_reducible first | apply o_gF | apply d_gF); exact sdG6; exact sdG6; rfl)
    | ((with_reducible first | apply o_gU | apply d_gU); exact sdG6; exact sdG6)
    | ((with_reducible apply o_nilq); (exact ⟨by decide, by first | assumption | simp only [go_sem]⟩); exact sdG6; exact sdG6)
    | (with_reducible first | apply o_nil | apply x_next | apply x_seq | apply x_block | apply x_leave_normal | apply x_leave_ret | apply x_pass_ret | apply x_loop_exit | apply x_loop_ret | apply x_pass_exit | apply x_exit | apply x_ret | apply x_skip | apply x_label | apply x_join_ret | apply x_join_exit)
    | ((with_reducible apply d_end); kernel_rfl)
    | ((with_reducible apply x_region); exact sdG6)
    | ((with_reducible apply x_regionD); kernel_rfl; exact sdG6; exact sdG6)
    | ((with_reducible first | apply x_leave_exit | apply x_condT); exact sdG6)
    | ((with_reducible apply x_condF); exact sdG6)
    | ((first | ((with_reducible apply x_condB); exact sdG6) | ((with_reducible first | apply o_gB | apply d_gB); exact sdG6; exact sdG6)); all_goals intro hc; all_goals (try simp only [decide_eq_true_eq, decide_eq_false_iff_not, Bool.not_eq_true', Bool.not_eq_false', Bool.and_eq_true, Bool.or_eq_false_iff, Classical.not_not] at hc); all_goals (try (exfalso; omega)))
    | ((with_reducible apply o_call); exact sdG6; exact sdG6; exact sdG6; (first | exact c_plain2 _ cmp l r args | exact c_kind cols params l | exact c_kind cols params r); exact sdG6; exact sdG6)
    | ((with_reducible apply o_callN); exact sdG6; exact sdG6; exact sdG6; (first | exact c_plain2 _ cmp l r args | exact c_kind cols params l | exact c_kind cols params r); exact sdG6)
    | ((with_reducible apply d_callS); exact sdG6; exact sdG6; exact sdG6; (first | exact c_plain2 _ cmp l r args | exact c_kind cols params l | exact c_kind cols params r); exact sdG6p; exact sdG6; exact sdG6; exact sdG6; exact sdG6)
    | ((with_reducible apply x_end); (first | exact .inl rfl | exact .inr rfl); exact sdG6; exact sdG6))
          all_goals (first | exact ⟨rfl, rfl⟩ | exact ⟨by simp [*], rfl⟩ | exact ⟨by simp_all, rfl⟩ | trace_state)
end Go.Proofs.Ytfdekggfdklfeaa
