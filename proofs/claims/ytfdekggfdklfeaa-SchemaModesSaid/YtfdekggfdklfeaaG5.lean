/-
  Contracts: the reference's check of a predicate.
-/
import Derived.Test.YtfdekggfdklfeaaG4
set_option linter.all false
set_option linter.unusedVariables false
set_option linter.unusedSimpArgs false
namespace Go.Proofs.Ytfdekggfdklfeaa
open Go.Ab
attribute [local irreducible] seqK blockK loopK endK
set_option maxRecDepth 10000
set_option maxHeartbeats 8000000
mutual
def Pred.nodes : Pred → Int → Int
  | .mk _ _ _ _ args, n => Pred.nodesL args (n + 1)
def Pred.nodesL : List Pred → Int → Int
  | [], n => n
  | q :: r, n => if n ≤ 24 then Pred.nodesL r (q.nodes n) else n
end
mutual
theorem Pred.nodes_rng : ∀ (p : Pred) (n : Int), n ≤ 24 → n < p.nodes n ∧ p.nodes n ≤ 25
  | .mk _ _ _ _ args, n, h => by
    rw [Pred.nodes]
    have := Pred.nodesL_rng args (n + 1) (by omega)
    omega
theorem Pred.nodesL_rng : ∀ (l : List Pred) (n : Int), n ≤ 25 → n ≤ Pred.nodesL l n ∧ Pred.nodesL l n ≤ 25
  | [], n, h => by rw [Pred.nodesL]; omega
  | q :: r, n, h => by
    rw [Pred.nodesL]
    split
    · rename_i hn
      have h1 := Pred.nodes_rng q n hn
      have h2 := Pred.nodesL_rng r (q.nodes n) h1.2
      omega
    · omega
end
theorem sdG5 {α : Type _} {a b : α} (h : a = b := by (first | (simp (maxSteps := 2000000) (disch := first | assumption | omega | (simp only [go_sem] <;> with_reducible rfl)) only [go_sem, ↓reduceIte, ↓reduceDIte, Nat.reduceEqDiff, reduceCtorEq, Nat.reduceAdd, Nat.reduceSub, Nat.reduceMul, Nat.reduceBEq, Nat.reduceBNe, Nat.reduceLeDiff, Nat.reduceLT, Int.reduceLT, Int.reduceLE, Int.reduceToNat, Int.reduceEq, Int.reduceNeg, Int.reduceAdd, Int.reduceSub, Int.reduceMul, Nat.reduceMod, Nat.reduceDiv, Nat.reducePow, BEq.rfl, gt_iff_lt, ge_iff_le, *] <;> with_reducible rfl) | with_reducible rfl)) : a = b := h
theorem sdG5p {a b : Nat} (h : a ≤ b := by (first | (simp (maxSteps := 2000000) (disch := first | assumption | omega | (simp only [go_sem] <;> with_reducible rfl)) only [go_sem, ↓reduceIte, ↓reduceDIte, Nat.reduceEqDiff, reduceCtorEq, Nat.reduceAdd, Nat.reduceSub, Nat.reduceMul, Nat.reduceBEq, Nat.reduceBNe, Nat.reduceLeDiff, Nat.reduceLT, Int.reduceLT, Int.reduceLE, Int.reduceToNat, Int.reduceEq, Int.reduceNeg, Int.reduceAdd, Int.reduceSub, Int.reduceMul, Nat.reduceMod, Nat.reduceDiv, Nat.reducePow, BEq.rfl, gt_iff_lt, ge_iff_le, *] <;> with_reducible rfl) | with_reducible rfl)) : a ≤ b := h
theorem sdG51 {α : Type _} {a b : α} (h : a = b := by (first | (simp (maxSteps := 2000000) (disch := first | assumption | omega | (simp only [go_sem] <;> with_reducible rfl)) only [go_sem, ↓reduceIte, ↓reduceDIte, Nat.reduceEqDiff, reduceCtorEq, Nat.reduceAdd, Nat.reduceSub, Nat.reduceMul, Nat.reduceBEq, Nat.reduceBNe, Nat.reduceLeDiff, Nat.reduceLT, Int.reduceLT, Int.reduceLE, Int.reduceToNat, Int.reduceEq, Int.reduceNeg, Int.reduceAdd, Int.reduceSub, Int.reduceMul, Nat.reduceMod, Nat.reduceDiv, Nat.reducePow, BEq.rfl, gt_iff_lt, ge_iff_le, *, Int.natCast_add, Int.natCast_one] <;> with_reducible rfl) | with_reducible rfl)) : a = b := h
theorem sdG51p {a b : Nat} (h : a ≤ b := by (first | (simp (maxSteps := 2000000) (disch := first | assumption | omega | (simp only [go_sem] <;> with_reducible rfl)) only [go_sem, ↓reduceIte, ↓reduceDIte, Nat.reduceEqDiff, reduceCtorEq, Nat.reduceAdd, Nat.reduceSub, Nat.reduceMul, Nat.reduceBEq, Nat.reduceBNe, Nat.reduceLeDiff, Nat.reduceLT, Int.reduceLT, Int.reduceLE, Int.reduceToNat, Int.reduceEq, Int.reduceNeg, Int.reduceAdd, Int.reduceSub, Int.reduceMul, Nat.reduceMod, Nat.reduceDiv, Nat.reducePow, BEq.rfl, gt_iff_lt, ge_iff_le, *, Int.natCast_add, Int.natCast_one] <;> with_reducible rfl) | with_reducible rfl)) : a ≤ b := h
theorem c_nodes : ∀ (N : Nat) (p : Pred) (n : Int), p.sz ≤ N → N ≤ 4000000 → 0 ≤ n → n ≤ 24 → CallA Try.prog C (.func 51) {} [.agg (p.cells.map .d), .d (.int .i64 n)] [] fun x hs => x = .d (.int .i64 (p.nodes n)) ∧ hs = []
  | 0, .mk _ _ _ _ args, n, h, _, _, _ => by rw [Pred.sz] at h; omega
  | N + 1, .mk op cmp l r args, n, hN, hB, h0, h1 => by
    rw [Pred.sz] at hN
    have hlen := Pred.szL_len (l := args)
    refine call_func Try.func51 rfl (by decide) (by kernel_rfl) ⟨Nat.le_of_ble_eq_true rfl, Nat.le_of_ble_eq_true rfl⟩ ?_
    rw [Pred.nodes, Pred.cells, Pred.cellsL_eq]
    repeat' (first
    | ((with_reducible first | apply o_some | apply o_none | apply x_joined); exact sdG5; exact sdG5)
    | ((with_reducible first | apply d_some | apply d_none); exact sdG5; exact sdG5; exact sdG5)
    | ((with_reducible first | apply o_gT | apply d_gT); exact sdG5; exact sdG5)
    | ((with_reducible first | apply o_gF | apply d_gF); exact sdG5; exact sdG5; rfl)
    | ((with_reducible first | apply o_gU | apply d_gU); exact sdG5; exact sdG5)
    | ((with_reducible apply o_nilq); (exact ⟨by decide, by first | assumption | simp only [go_sem]⟩); exact sdG5; exact sdG5)
    | (with_reducible first | apply o_nil | apply x_next | apply x_seq | apply x_block | apply x_leave_normal | apply x_leave_ret | apply x_pass_ret | apply x_loop_exit | apply x_loop_ret | apply x_pass_exit | apply x_exit | apply x_ret | apply x_skip | apply x_label | apply x_join_ret | apply x_join_exit)
    | ((with_reducible apply d_end); kernel_rfl)
    | ((with_reducible apply x_region); exact sdG5)
    | ((with_reducible apply x_regionD); kernel_rfl; exact sdG5; exact sdG5)
    | ((with_reducible first | apply x_leave_exit | apply x_condT); exact sdG5)
    | ((with_reducible apply x_condF); exact sdG5)
    | ((first | ((with_reducible apply x_condB); exact sdG5) | ((with_reducible first | apply o_gB | apply d_gB); exact sdG5; exact sdG5)); all_goals intro hc; all_goals (try simp only [decide_eq_true_eq, decide_eq_false_iff_not, Bool.not_eq_true', Bool.not_eq_false', Bool.and_eq_true, Bool.or_eq_false_iff, Classical.not_not] at hc); all_goals (try (exfalso; omega)))
    | ((with_reducible apply x_end); (first | exact .inl rfl | exact .inr rfl); exact sdG5; exact sdG5))
    refine x_loopG { ownRes := true } [1, 2, 5] (fun (x : Nat × Int) => [(1, .d (.int .i64 x.2)), (2, .ptr 0 0 0), (5, .d (.int .i64 x.1))]) (fun _ => [some (predO op cmp l r args)])
      (fun x => x.1 ≤ args.length ∧ 0 ≤ x.2 ∧ x.2 ≤ 25 ∧ Pred.nodesL args (n + 1) = Pred.nodesL (args.drop x.1) x.2) (fun x => args.length - x.1) (0, n + 1) ?_ ⟨by omega, by omega, by omega, rfl⟩ ?_
    · exact sdG5
    · rintro ⟨i, k⟩ ⟨hi, hk0, hk1, hk⟩
      simp only at hi hk0 hk1 hk ⊢
      by_cases hlt : i < args.length
      · have hlt' : (i : Int) < args.length := by omega
        have hgi : args[i]? = some args[i] := List.getElem?_eq_getElem hlt
        have hd : args.drop i = args[i] :: args.drop (i + 1) := List.drop_eq_getElem_cons hlt
        have hmem : args[i] ∈ args := List.getElem_mem hlt
        generalize args[i] = q at hgi hd hmem
        have hq := Pred.sz_mem hmem
        by_cases hk2 : k ≤ 24
        · have hr := Pred.nodes_rng q k hk2
          repeat' (first
    | ((with_reducible first | apply o_some | apply o_none | apply x_joined); exact sdG5; exact sdG5)
    | ((with_reducible first | apply d_some | apply d_none); exact sdG5; exact sdG5; exact sdG5)
    | ((with_reducible first | apply o_gT | apply d_gT); exact sdG5; exact sdG5)
    | ((with_reducible first | apply o_gF | apply d_gF); exact sdG5; exact sdG5; rfl)
    | ((with_reducible first | apply o_gU | apply d_gU); exact sdG5; exact sdG5)
    | ((with_reducible apply o_nilq); (exact ⟨by decide, by first | assumption | simp only [go_sem]⟩); exact sdG5; exact sdG5)
    | (with_reducible first | apply o_nil | apply x_next | apply x_seq | apply x_block | apply x_leave_normal | apply x_leave_ret | apply x_pass_ret | apply x_loop_exit | apply x_loop_ret | apply x_pass_exit | apply x_exit | apply x_ret | apply x_skip | apply x_label | apply x_join_ret | apply x_join_exit)
    | ((with_reducible apply d_end); kernel_rfl)
    | ((with_reducible apply x_region); exact sdG5)
    | ((with_reducible apply x_regionD); kernel_rfl; exact sdG5; exact sdG5)
    | ((with_reducible first | apply x_leave_exit | apply x_condT); exact sdG5)
    | ((with_reducible apply x_condF); exact sdG5)
    | ((first | ((with_reducible apply x_condB); exact sdG5) | ((with_reducible first | apply o_gB | apply d_gB); exact sdG5; exact sdG5)); all_goals intro hc; all_goals (try simp only [decide_eq_true_eq, decide_eq_false_iff_not, Bool.not_eq_true', Bool.not_eq_false', Bool.and_eq_true, Bool.or_eq_false_iff, Classical.not_not] at hc); all_goals (try (exfalso; omega)))
    | ((with_reducible apply o_call); exact sdG5; exact sdG5; exact sdG5; (first | exact c_nodes N q k (by omega) (by omega) hk0 hk2); exact sdG5; exact sdG5)
    | ((with_reducible apply o_callN); exact sdG5; exact sdG5; exact sdG5; (first | exact c_nodes N q k (by omega) (by omega) hk0 hk2); exact sdG5)
    | ((with_reducible apply d_callS); exact sdG5; exact sdG5; exact sdG5; (first | exact c_nodes N q k (by omega) (by omega) hk0 hk2); exact sdG5p; exact sdG5; exact sdG5; exact sdG5; exact sdG5)
    | ((with_reducible apply x_end); (first | exact .inl rfl | exact .inr rfl); exact sdG5; exact sdG5))
          refine x_again (i + 1, q.nodes k) ⟨by simp only; omega, by simp only; omega, by simp only; omega, by rw [hk, hd, Pred.nodesL, if_pos hk2]⟩ (by simp only; omega) ?_
          exact sdG51
        · repeat' (first
    | ((with_reducible first | apply o_some | apply o_none | apply x_joined); exact sdG5; exact sdG5)
    | ((with_reducible first | apply d_some | apply d_none); exact sdG5; exact sdG5; exact sdG5)
    | ((with_reducible first | apply o_gT | apply d_gT); exact sdG5; exact sdG5)
    | ((with_reducible first | apply o_gF | apply d_gF); exact sdG5; exact sdG5; rfl)
    | ((with_reducible first | apply o_gU | apply d_gU); exact sdG5; exact sdG5)
    | ((with_reducible apply o_nilq); (exact ⟨by decide, by first | assumption | simp only [go_sem]⟩); exact sdG5; exact sdG5)
    | (with_reducible first | apply o_nil | apply x_next | apply x_seq | apply x_block | apply x_leave_normal | apply x_leave_ret | apply x_pass_ret | apply x_loop_exit | apply x_loop_ret | apply x_pass_exit | apply x_exit | apply x_ret | apply x_skip | apply x_label | apply x_join_ret | apply x_join_exit)
    | ((with_reducible apply d_end); kernel_rfl)
    | ((with_reducible apply x_region); exact sdG5)
    | ((with_reducible apply x_regionD); kernel_rfl; exact sdG5; exact sdG5)
    | ((with_reducible first | apply x_leave_exit | apply x_condT); exact sdG5)
    | ((with_reducible apply x_condF); exact sdG5)
    | ((first | ((with_reducible apply x_condB); exact sdG5) | ((with_reducible first | apply o_gB | apply d_gB); exact sdG5; exact sdG5)); all_goals intro hc; all_goals (try simp only [decide_eq_true_eq, decide_eq_false_iff_not, Bool.not_eq_true', Bool.not_eq_false', Bool.and_eq_true, Bool.or_eq_false_iff, Classical.not_not] at hc); all_goals (try (exfalso; omega)))
    | ((with_reducible apply x_end); (first | exact .inl rfl | exact .inr rfl); exact sdG5; exact sdG5))
          exact ⟨by rw [hk, hd, Pred.nodesL, if_neg hk2], rfl⟩
      · have hlt' : ¬ (i : Int) < args.length := by omega
        repeat' (first
    | ((with_reducible first | apply o_some | apply o_none | apply x_joined); exact sdG5; exact sdG5)
    | ((with_reducible first | apply d_some | apply d_none); exact sdG5; exact sdG5; exact sdG5)
    | ((with_reducible first | apply o_gT | apply d_gT); exact sdG5; exact sdG5)
    | ((with_reducible first | apply o_gF | apply d_gF); exact sdG5; exact sdG5; rfl)
    | ((with_reducible first | apply o_gU | apply d_gU); exact sdG5; exact sdG5)
    | ((with_reducible apply o_nilq); (exact ⟨by decide, by first | assumption | simp only [go_sem]⟩); exact sdG5; exact sdG5)
    | (with_reducible first | apply o_nil | apply x_next | apply x_seq | apply x_block | apply x_leave_normal | apply x_leave_ret | apply x_pass_ret | apply x_loop_exit | apply x_loop_ret | apply x_pass_exit | apply x_exit | apply x_ret | apply x_skip | apply x_label | apply x_join_ret | apply x_join_exit)
    | ((with_reducible apply d_end); kernel_rfl)
    | ((with_reducible apply x_region); exact sdG5)
    | ((with_reducible apply x_regionD); kernel_rfl; exact sdG5; exact sdG5)
    | ((with_reducible first | apply x_leave_exit | apply x_condT); exact sdG5)
    | ((with_reducible apply x_condF); exact sdG5)
    | ((first | ((with_reducible apply x_condB); exact sdG5) | ((with_reducible first | apply o_gB | apply d_gB); exact sdG5; exact sdG5)); all_goals intro hc; all_goals (try simp only [decide_eq_true_eq, decide_eq_false_iff_not, Bool.not_eq_true', Bool.not_eq_false', Bool.and_eq_true, Bool.or_eq_false_iff, Classical.not_not] at hc); all_goals (try (exfalso; omega)))
    | ((with_reducible apply x_end); (first | exact .inl rfl | exact .inr rfl); exact sdG5; exact sdG5))
        have he : i = args.length := by omega
        exact ⟨by rw [hk, he, List.drop_length, Pred.nodesL], rfl⟩
mutual
def Pred.deeper : Pred → Int → Bool
  | .mk _ _ _ _ args, n => if n = 0 then true else Pred.deeperL args (n - 1)
def Pred.deeperL : List Pred → Int → Bool
  | [], _ => false
  | q :: r, n => q.deeper n || Pred.deeperL r n
end
theorem c_deeper : ∀ (N : Nat) (p : Pred) (n : Int), p.sz ≤ N → N ≤ 4000000 → 0 ≤ n → n ≤ 100 → CallA Try.prog C (.func 52) {} [.agg (p.cells.map .d), .d (.int .i64 n)] [] fun x hs => x = .d (.bool (p.deeper n)) ∧ hs = []
  | 0, .mk _ _ _ _ args, n, h, _, _, _ => by rw [Pred.sz] at h; omega
  | N + 1, .mk op cmp l r args, n, hN, hB, h0, h1 => by
    rw [Pred.sz] at hN
    have hlen := Pred.szL_len (l := args)
    refine call_func Try.func52 rfl (by decide) (by kernel_rfl) ⟨Nat.le_of_ble_eq_true rfl, Nat.le_of_ble_eq_true rfl⟩ ?_
    rw [Pred.deeper, Pred.cells, Pred.cellsL_eq]
    by_cases hz : n = 0
    · repeat' (first
    | ((with_reducible first | apply o_some | apply o_none | apply x_joined); exact sdG5; exact sdG5)
    | ((with_reducible first | apply d_some | apply d_none); exact sdG5; exact sdG5; exact sdG5)
    | ((with_reducible first | apply o_gT | apply d_gT); exact sdG5; exact sdG5)
    | ((with_reducible first | apply o_gF | apply d_gF); exact sdG5; exact sdG5; rfl)
    | ((with_reducible first | apply o_gU | apply d_gU); exact sdG5; exact sdG5)
    | ((with_reducible apply o_nilq); (exact ⟨by decide, by first | assumption | simp only [go_sem]⟩); exact sdG5; exact sdG5)
    | (with_reducible first | apply o_nil | apply x_next | apply x_seq | apply x_block | apply x_leave_normal | apply x_leave_ret | apply x_pass_ret | apply x_loop_exit | apply x_loop_ret | apply x_pass_exit | apply x_exit | apply x_ret | apply x_skip | apply x_label | apply x_join_ret | apply x_join_exit)
    | ((with_reducible apply d_end); kernel_rfl)
    | ((with_reducible apply x_region); exact sdG5)
    | ((with_reducible apply x_regionD); kernel_rfl; exact sdG5; exact sdG5)
    | ((with_reducible first | apply x_leave_exit | apply x_condT); exact sdG5)
    | ((with_reducible apply x_condF); exact sdG5)
    | ((first | ((with_reducible apply x_condB); exact sdG5) | ((with_reducible first | apply o_gB | apply d_gB); exact sdG5; exact sdG5)); all_goals intro hc; all_goals (try simp only [decide_eq_true_eq, decide_eq_false_iff_not, Bool.not_eq_true', Bool.not_eq_false', Bool.and_eq_true, Bool.or_eq_false_iff, Classical.not_not] at hc); all_goals (try (exfalso; omega)))
    | ((with_reducible apply x_end); (first | exact .inl rfl | exact .inr rfl); exact sdG5; exact sdG5))
      exact ⟨by rw [if_pos hz], rfl⟩
    rw [if_neg hz]
    repeat' (first
    | ((with_reducible first | apply o_some | apply o_none | apply x_joined); exact sdG5; exact sdG5)
    | ((with_reducible first | apply d_some | apply d_none); exact sdG5; exact sdG5; exact sdG5)
    | ((with_reducible first | apply o_gT | apply d_gT); exact sdG5; exact sdG5)
    | ((with_reducible first | apply o_gF | apply d_gF); exact sdG5; exact sdG5; rfl)
    | ((with_reducible first | apply o_gU | apply d_gU); exact sdG5; exact sdG5)
    | ((with_reducible apply o_nilq); (exact ⟨by decide, by first | assumption | simp only [go_sem]⟩); exact sdG5; exact sdG5)
    | (with_reducible first | apply o_nil | apply x_next | apply x_seq | apply x_block | apply x_leave_normal | apply x_leave_ret | apply x_pass_ret | apply x_loop_exit | apply x_loop_ret | apply x_pass_exit | apply x_exit | apply x_ret | apply x_skip | apply x_label | apply x_join_ret | apply x_join_exit)
    | ((with_reducible apply d_end); kernel_rfl)
    | ((with_reducible apply x_region); exact sdG5)
    | ((with_reducible apply x_regionD); kernel_rfl; exact sdG5; exact sdG5)
    | ((with_reducible first | apply x_leave_exit | apply x_condT); exact sdG5)
    | ((with_reducible apply x_condF); exact sdG5)
    | ((first | ((with_reducible apply x_condB); exact sdG5) | ((with_reducible first | apply o_gB | apply d_gB); exact sdG5; exact sdG5)); all_goals intro hc; all_goals (try simp only [decide_eq_true_eq, decide_eq_false_iff_not, Bool.not_eq_true', Bool.not_eq_false', Bool.and_eq_true, Bool.or_eq_false_iff, Classical.not_not] at hc); all_goals (try (exfalso; omega)))
    | ((with_reducible apply x_end); (first | exact .inl rfl | exact .inr rfl); exact sdG5; exact sdG5))
    refine x_loopG { ownRes := true } [1, 2, 10, 11] (fun (i : Nat) => [(1, .d (.int .i64 n)), (2, .ptr 0 0 0), (10, .d (.int .i64 args.length)), (11, .d (.int .i64 i))]) (fun _ => [some (predO op cmp l r args)])
      (fun i => i ≤ args.length ∧ Pred.deeperL args (n - 1) = Pred.deeperL (args.drop i) (n - 1)) (fun i => args.length - i) 0 ?_ ⟨by omega, rfl⟩ ?_
    · exact sdG5
    · rintro i ⟨hi, hk⟩
      by_cases hlt : i < args.length
      · have hlt' : (i : Int) < args.length := by omega
        have hgi : args[i]? = some args[i] := List.getElem?_eq_getElem hlt
        have hd : args.drop i = args[i] :: args.drop (i + 1) := List.drop_eq_getElem_cons hlt
        have hmem : args[i] ∈ args := List.getElem_mem hlt
        generalize args[i] = q at hgi hd hmem
        have hq := Pred.sz_mem hmem
        cases hx : q.deeper (n - 1) with
        | true =>
          repeat' (first
    | ((with_reducible first | apply o_some | apply o_none | apply x_joined); exact sdG5; exact sdG5)
    | ((with_reducible first | apply d_some | apply d_none); exact sdG5; exact sdG5; exact sdG5)
    | ((with_reducible first | apply o_gT | apply d_gT); exact sdG5; exact sdG5)
    | ((with_reducible first | apply o_gF | apply d_gF); exact sdG5; exact sdG5; rfl)
    | ((with_reducible first | apply o_gU | apply d_gU); exact sdG5; exact sdG5)
    | ((with_reducible apply o_nilq); (exact ⟨by decide, by first | assumption | simp only [go_sem]⟩); exact sdG5; exact sdG5)
    | (with_reducible first | apply o_nil | apply x_next | apply x_seq | apply x_block | apply x_leave_normal | apply x_leave_ret | apply x_pass_ret | apply x_loop_exit | apply x_loop_ret | apply x_pass_exit | apply x_exit | apply x_ret | apply x_skip | apply x_label | apply x_join_ret | apply x_join_exit)
    | ((with_reducible apply d_end); kernel_rfl)
    | ((with_reducible apply x_region); exact sdG5)
    | ((with_reducible apply x_regionD); kernel_rfl; exact sdG5; exact sdG5)
    | ((with_reducible first | apply x_leave_exit | apply x_condT); exact sdG5)
    | ((with_reducible apply x_condF); exact sdG5)
    | ((first | ((with_reducible apply x_condB); exact sdG5) | ((with_reducible first | apply o_gB | apply d_gB); exact sdG5; exact sdG5)); all_goals intro hc; all_goals (try simp only [decide_eq_true_eq, decide_eq_false_iff_not, Bool.not_eq_true', Bool.not_eq_false', Bool.and_eq_true, Bool.or_eq_false_iff, Classical.not_not] at hc); all_goals (try (exfalso; omega)))
    | ((with_reducible apply o_call); exact sdG5; exact sdG5; exact sdG5; (first | exact c_deeper N q (n - 1) (by omega) (by omega) (by omega) (by omega)); exact sdG5; exact sdG5)
    | ((with_reducible apply o_callN); exact sdG5; exact sdG5; exact sdG5; (first | exact c_deeper N q (n - 1) (by omega) (by omega) (by omega) (by omega)); exact sdG5)
    | ((with_reducible apply d_callS); exact sdG5; exact sdG5; exact sdG5; (first | exact c_deeper N q (n - 1) (by omega) (by omega) (by omega) (by omega)); exact sdG5p; exact sdG5; exact sdG5; exact sdG5; exact sdG5)
    | ((with_reducible apply x_end); (first | exact .inl rfl | exact .inr rfl); exact sdG5; exact sdG5))
          exact ⟨by rw [hk, hd, Pred.deeperL, hx]; rfl, rfl⟩
        | false =>
          repeat' (first
    | ((with_reducible first | apply o_some | apply o_none | apply x_joined); exact sdG5; exact sdG5)
    | ((with_reducible first | apply d_some | apply d_none); exact sdG5; exact sdG5; exact sdG5)
    | ((with_reducible first | apply o_gT | apply d_gT); exact sdG5; exact sdG5)
    | ((with_reducible first | apply o_gF | apply d_gF); exact sdG5; exact sdG5; rfl)
    | ((with_reducible first | apply o_gU | apply d_gU); exact sdG5; exact sdG5)
    | ((with_reducible apply o_nilq); (exact ⟨by decide, by first | assumption | simp only [go_sem]⟩); exact sdG5; exact sdG5)
    | (with_reducible first | apply o_nil | apply x_next | apply x_seq | apply x_block | apply x_leave_normal | apply x_leave_ret | apply x_pass_ret | apply x_loop_exit | apply x_loop_ret | apply x_pass_exit | apply x_exit | apply x_ret | apply x_skip | apply x_label | apply x_join_ret | apply x_join_exit)
    | ((with_reducible apply d_end); kernel_rfl)
    | ((with_reducible apply x_region); exact sdG5)
    | ((with_reducible apply x_regionD); kernel_rfl; exact sdG5; exact sdG5)
    | ((with_reducible first | apply x_leave_exit | apply x_condT); exact sdG5)
    | ((with_reducible apply x_condF); exact sdG5)
    | ((first | ((with_reducible apply x_condB); exact sdG5) | ((with_reducible first | apply o_gB | apply d_gB); exact sdG5; exact sdG5)); all_goals intro hc; all_goals (try simp only [decide_eq_true_eq, decide_eq_false_iff_not, Bool.not_eq_true', Bool.not_eq_false', Bool.and_eq_true, Bool.or_eq_false_iff, Classical.not_not] at hc); all_goals (try (exfalso; omega)))
    | ((with_reducible apply o_call); exact sdG5; exact sdG5; exact sdG5; (first | exact c_deeper N q (n - 1) (by omega) (by omega) (by omega) (by omega)); exact sdG5; exact sdG5)
    | ((with_reducible apply o_callN); exact sdG5; exact sdG5; exact sdG5; (first | exact c_deeper N q (n - 1) (by omega) (by omega) (by omega) (by omega)); exact sdG5)
    | ((with_reducible apply d_callS); exact sdG5; exact sdG5; exact sdG5; (first | exact c_deeper N q (n - 1) (by omega) (by omega) (by omega) (by omega)); exact sdG5p; exact sdG5; exact sdG5; exact sdG5; exact sdG5)
    | ((with_reducible apply x_end); (first | exact .inl rfl | exact .inr rfl); exact sdG5; exact sdG5))
          refine x_again (i + 1) ⟨by omega, by rw [hk, hd, Pred.deeperL, hx]; rfl⟩ (by omega) ?_
          exact sdG51
      · have hlt' : ¬ (i : Int) < args.length := by omega
        repeat' (first
    | ((with_reducible first | apply o_some | apply o_none | apply x_joined); exact sdG5; exact sdG5)
    | ((with_reducible first | apply d_some | apply d_none); exact sdG5; exact sdG5; exact sdG5)
    | ((with_reducible first | apply o_gT | apply d_gT); exact sdG5; exact sdG5)
    | ((with_reducible first | apply o_gF | apply d_gF); exact sdG5; exact sdG5; rfl)
    | ((with_reducible first | apply o_gU | apply d_gU); exact sdG5; exact sdG5)
    | ((with_reducible apply o_nilq); (exact ⟨by decide, by first | assumption | simp only [go_sem]⟩); exact sdG5; exact sdG5)
    | (with_reducible first | apply o_nil | apply x_next | apply x_seq | apply x_block | apply x_leave_normal | apply x_leave_ret | apply x_pass_ret | apply x_loop_exit | apply x_loop_ret | apply x_pass_exit | apply x_exit | apply x_ret | apply x_skip | apply x_label | apply x_join_ret | apply x_join_exit)
    | ((with_reducible apply d_end); kernel_rfl)
    | ((with_reducible apply x_region); exact sdG5)
    | ((with_reducible apply x_regionD); kernel_rfl; exact sdG5; exact sdG5)
    | ((with_reducible first | apply x_leave_exit | apply x_condT); exact sdG5)
    | ((with_reducible apply x_condF); exact sdG5)
    | ((first | ((with_reducible apply x_condB); exact sdG5) | ((with_reducible first | apply o_gB | apply d_gB); exact sdG5; exact sdG5)); all_goals intro hc; all_goals (try simp only [decide_eq_true_eq, decide_eq_false_iff_not, Bool.not_eq_true', Bool.not_eq_false', Bool.and_eq_true, Bool.or_eq_false_iff, Classical.not_not] at hc); all_goals (try (exfalso; omega)))
    | ((with_reducible apply x_end); (first | exact .inl rfl | exact .inr rfl); exact sdG5; exact sdG5))
        have he : i = args.length := by omega
        exact ⟨by rw [hk, he, List.drop_length, Pred.deeperL], rfl⟩
end Go.Proofs.Ytfdekggfdklfeaa
