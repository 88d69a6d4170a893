/-
  Contracts: a schema of a case without references and checks.
-/
import Derived.Test.YtfdekggfdklfeaaG13
set_option linter.all false
set_option linter.unusedVariables false
set_option linter.unusedSimpArgs false
namespace Go.Proofs.Ytfdekggfdklfeaa
open Go.Ab
attribute [local irreducible] seqK blockK loopK endK
set_option maxRecDepth 10000
set_option maxHeartbeats 64000000
abbrev fE : DV := .fsl [] false false
def rowsP (id : Int) (i : Nat) (x1 y1 x2 x3 : DV) : List (List DV) :=
    [[.str ⟨#[112, 114, 111, 106, 101, 99, 116, 115]⟩, .fsl [[.str ⟨#[105, 100]⟩, .int .i64 4], [.str ⟨#[111, 119, 110, 101, 114]⟩, .int .i64 4]] false false, .int .i64 1, if 0 < i then .snil else fE, if 0 < i then .snil else fE],
     [.str ⟨#[116, 97, 115, 107, 115]⟩, .fsl [[.str ⟨#[105, 100]⟩, .int .i64 id], [.str ⟨#[112, 114, 111, 106, 101, 99, 116]⟩, .int .i64 4], [.str ⟨#[116, 105, 116, 108, 101]⟩, .int .i64 5], [.str ⟨#[100, 111, 110, 101]⟩, .int .i64 3]] false false, .int .i64 1, if 1 < i then .snil else x1, if 1 < i then .snil else y1],
     [.str ⟨#[109, 101, 109, 98, 101, 114, 115]⟩, .fsl [[.str ⟨#[112, 114, 111, 106, 101, 99, 116]⟩, .int .i64 4], [.str ⟨#[112, 101, 114, 115, 111, 110]⟩, .int .i64 4]] false false, .int .i64 2, if 2 < i then .snil else x2, if 2 < i then .snil else fE],
     [.str ⟨#[97, 114, 99, 104, 105, 118, 101, 100]⟩, .fsl [[.str ⟨#[116, 97, 115, 107]⟩, .int .i64 id]] false false, .int .i64 1, if 3 < i then .snil else x3, if 3 < i then .snil else fE]]
theorem sdG14 {α : Type _} {a b : α} (h : a = b := by (first | (simp (maxSteps := 2000000) (disch := first | assumption | omega | (simp only [go_sem] <;> with_reducible rfl)) only [go_sem, ↓reduceIte, ↓reduceDIte, Nat.reduceEqDiff, reduceCtorEq, Nat.reduceAdd, Nat.reduceSub, Nat.reduceMul, Nat.reduceBEq, Nat.reduceBNe, Nat.reduceLeDiff, Nat.reduceLT, Int.reduceLT, Int.reduceLE, Int.reduceToNat, Int.reduceEq, Int.reduceNeg, Int.reduceAdd, Int.reduceSub, Int.reduceMul, Nat.reduceMod, Nat.reduceDiv, Nat.reducePow, BEq.rfl, gt_iff_lt, ge_iff_le, *] <;> with_reducible rfl) | with_reducible rfl)) : a = b := h
theorem sdG14p {a b : Nat} (h : a ≤ b := by (first | (simp (maxSteps := 2000000) (disch := first | assumption | omega | (simp only [go_sem] <;> with_reducible rfl)) only [go_sem, ↓reduceIte, ↓reduceDIte, Nat.reduceEqDiff, reduceCtorEq, Nat.reduceAdd, Nat.reduceSub, Nat.reduceMul, Nat.reduceBEq, Nat.reduceBNe, Nat.reduceLeDiff, Nat.reduceLT, Int.reduceLT, Int.reduceLE, Int.reduceToNat, Int.reduceEq, Int.reduceNeg, Int.reduceAdd, Int.reduceSub, Int.reduceMul, Nat.reduceMod, Nat.reduceDiv, Nat.reducePow, BEq.rfl, gt_iff_lt, ge_iff_le, *] <;> with_reducible rfl) | with_reducible rfl)) : a ≤ b := h
theorem sdG141 {α : Type _} {a b : α} (h : a = b := by (first | (simp (maxSteps := 2000000) (disch := first | assumption | omega | (simp only [go_sem] <;> with_reducible rfl)) only [go_sem, ↓reduceIte, ↓reduceDIte, Nat.reduceEqDiff, reduceCtorEq, Nat.reduceAdd, Nat.reduceSub, Nat.reduceMul, Nat.reduceBEq, Nat.reduceBNe, Nat.reduceLeDiff, Nat.reduceLT, Int.reduceLT, Int.reduceLE, Int.reduceToNat, Int.reduceEq, Int.reduceNeg, Int.reduceAdd, Int.reduceSub, Int.reduceMul, Nat.reduceMod, Nat.reduceDiv, Nat.reducePow, BEq.rfl, gt_iff_lt, ge_iff_le, *, rowsP] <;> with_reducible rfl) | with_reducible rfl)) : a = b := h
theorem sdG141p {a b : Nat} (h : a ≤ b := by (first | (simp (maxSteps := 2000000) (disch := first | assumption | omega | (simp only [go_sem] <;> with_reducible rfl)) only [go_sem, ↓reduceIte, ↓reduceDIte, Nat.reduceEqDiff, reduceCtorEq, Nat.reduceAdd, Nat.reduceSub, Nat.reduceMul, Nat.reduceBEq, Nat.reduceBNe, Nat.reduceLeDiff, Nat.reduceLT, Int.reduceLT, Int.reduceLE, Int.reduceToNat, Int.reduceEq, Int.reduceNeg, Int.reduceAdd, Int.reduceSub, Int.reduceMul, Nat.reduceMod, Nat.reduceDiv, Nat.reducePow, BEq.rfl, gt_iff_lt, ge_iff_le, *, rowsP] <;> with_reducible rfl) | with_reducible rfl)) : a ≤ b := h
theorem e_plain (codes : List UInt8) (hb : codes.length ≤ 1000) (a : Nat) :
    ∃ (n : Nat) (v id : Int) (a' : Nat), (n = 2 ∨ n = 3 ∨ n = 4) ∧ (0 ≤ v ∧ v < 3) ∧ (id = 4 ∨ id = 5) ∧
      CallA Try.prog C (.func 7) {} [.ptr 0 0 0] (hC codes a) fun x hs => x = .agg ((schV n v id false false false []).cells.map .d) ∧ hs = hC codes a' := by
  obtain ⟨n, v, id, b2, b3, b4, ch, a1, hn, hv, hid, hch, c1⟩ := e_schemaO codes hb a
  obtain ⟨x1, y1, x2, x3, hrows⟩ : ∃ x1 y1 x2 x3, ((schT id b2 b3 b4 ch).map fun t => t.cells) = rowsP id 0 x1 y1 x2 x3 := ⟨_, _, _, _, rfl⟩
  rw [hrows] at c1
  clear hrows
  refine ⟨n, v, id, a1, hn, hv, hid, ?_⟩
  refine call_func Try.func7 rfl (by decide) (by kernel_rfl) ⟨Nat.le_of_ble_eq_true rfl, Nat.le_of_ble_eq_true rfl⟩ ?_
  repeat' (first
    | ((with_reducible first | apply o_some | apply o_none | apply x_joined); exact sdG14; exact sdG14)
    | ((with_reducible first | apply d_some | apply d_none); exact sdG14; exact sdG14; exact sdG14)
    | ((with_reducible first | apply o_gT | apply d_gT); exact sdG14; exact sdG14)
    | ((with_reducible first | apply o_gF | apply d_gF); exact sdG14; exact sdG14; rfl)
    | ((with_reducible first | apply o_gU | apply d_gU); exact sdG14; exact sdG14)
    | ((with_reducible apply o_nilq); (exact ⟨by decide, by first | assumption | simp only [go_sem]⟩); exact sdG14; exact sdG14)
    | (with_reducible first | apply o_nil | apply x_next | apply x_seq | apply x_block | apply x_leave_normal | apply x_leave_ret | apply x_pass_ret | apply x_loop_exit | apply x_loop_ret | apply x_pass_exit | apply x_exit | apply x_ret | apply x_skip | apply x_label | apply x_join_ret | apply x_join_exit)
    | ((with_reducible apply d_end); kernel_rfl)
    | ((with_reducible apply x_region); exact sdG14)
    | ((with_reducible apply x_regionD); kernel_rfl; exact sdG14; exact sdG14)
    | ((with_reducible first | apply x_leave_exit | apply x_condT); exact sdG14)
    | ((with_reducible apply x_condF); exact sdG14)
    | ((first | ((with_reducible apply x_condB); exact sdG14) | ((with_reducible first | apply o_gB | apply d_gB); exact sdG14; exact sdG14)); all_goals intro hc; all_goals (try simp only [decide_eq_true_eq, decide_eq_false_iff_not, Bool.not_eq_true', Bool.not_eq_false', Bool.and_eq_true, Bool.or_eq_false_iff, Classical.not_not] at hc); all_goals (try (exfalso; omega)))
    | ((with_reducible apply o_call); exact sdG14; exact sdG14; exact sdG14; (first | assumption); exact sdG14; exact sdG14)
    | ((with_reducible apply o_callN); exact sdG14; exact sdG14; exact sdG14; (first | assumption); exact sdG14)
    | ((with_reducible apply d_callS); exact sdG14; exact sdG14; exact sdG14; (first | assumption); exact sdG14p; exact sdG14; exact sdG14; exact sdG14; exact sdG14)
    | ((with_reducible apply x_end); (first | exact .inl rfl | exact .inr rfl); exact sdG14; exact sdG14))
  refine x_loopG { ownRes := true } [0, 2, 3, 9, 10] (fun i : Nat => [(0, .ptr 0 0 0), (2, .ptr 1 0 0), (3, .ptr 2 0 0), (9, .d (.int .i64 n)), (10, .d (.int .i64 i))])
    (fun i => [some (caseO codes a1), some (.flat 2 [[.int .i64 0, .snil]]), some (.cells 2 [[.d (.int .i64 v), .sl 3 0 n false]]), some (.flat 5 (rowsP id i x1 y1 x2 x3))]) (fun i => i ≤ n) (fun i => n - i) 0 ?_ (by omega) ?_
  · exact sdG14
  · intro i hi
    by_cases hin : i = n
    · subst hin
      rcases hn with rfl | rfl | rfl
      all_goals (repeat' (first
    | ((with_reducible first | apply o_some | apply o_none | apply x_joined); exact sdG141; exact sdG141)
    | ((with_reducible first | apply d_some | apply d_none); exact sdG141; exact sdG141; exact sdG141)
    | ((with_reducible first | apply o_gT | apply d_gT); exact sdG141; exact sdG141)
    | ((with_reducible first | apply o_gF | apply d_gF); exact sdG141; exact sdG141; rfl)
    | ((with_reducible first | apply o_gU | apply d_gU); exact sdG141; exact sdG141)
    | ((with_reducible apply o_nilq); (exact ⟨by decide, by first | assumption | simp only [go_sem]⟩); exact sdG141; exact sdG141)
    | (with_reducible first | apply o_nil | apply x_next | apply x_seq | apply x_block | apply x_leave_normal | apply x_leave_ret | apply x_pass_ret | apply x_loop_exit | apply x_loop_ret | apply x_pass_exit | apply x_exit | apply x_ret | apply x_skip | apply x_label | apply x_join_ret | apply x_join_exit)
    | ((with_reducible apply d_end); kernel_rfl)
    | ((with_reducible apply x_region); exact sdG141)
    | ((with_reducible apply x_regionD); kernel_rfl; exact sdG141; exact sdG141)
    | ((with_reducible first | apply x_leave_exit | apply x_condT); exact sdG141)
    | ((with_reducible apply x_condF); exact sdG141)
    | ((first | ((with_reducible apply x_condB); exact sdG141) | ((with_reducible first | apply o_gB | apply d_gB); exact sdG141; exact sdG141)); all_goals intro hc; all_goals (try simp only [decide_eq_true_eq, decide_eq_false_iff_not, Bool.not_eq_true', Bool.not_eq_false', Bool.and_eq_true, Bool.or_eq_false_iff, Classical.not_not] at hc); all_goals (try (exfalso; omega)))
    | ((with_reducible apply o_call); exact sdG141; exact sdG141; exact sdG141; (first | assumption); exact sdG141; exact sdG141)
    | ((with_reducible apply o_callN); exact sdG141; exact sdG141; exact sdG141; (first | assumption); exact sdG141)
    | ((with_reducible apply d_callS); exact sdG141; exact sdG141; exact sdG141; (first | assumption); exact sdG141p; exact sdG141; exact sdG141; exact sdG141; exact sdG141)
    | ((with_reducible apply x_end); (first | exact .inl rfl | exact .inr rfl); exact sdG141; exact sdG141)))
      all_goals exact ⟨rfl, rfl⟩
    · have hlt : (i : Int) < n := by omega
      have hn4 : n ≤ 4 := by omega
      obtain rfl | rfl | rfl | rfl : i = 0 ∨ i = 1 ∨ i = 2 ∨ i = 3 := by omega
      · repeat' (first
    | ((with_reducible first | apply o_some | apply o_none | apply x_joined); exact sdG141; exact sdG141)
    | ((with_reducible first | apply d_some | apply d_none); exact sdG141; exact sdG141; exact sdG141)
    | ((with_reducible first | apply o_gT | apply d_gT); exact sdG141; exact sdG141)
    | ((with_reducible first | apply o_gF | apply d_gF); exact sdG141; exact sdG141; rfl)
    | ((with_reducible first | apply o_gU | apply d_gU); exact sdG141; exact sdG141)
    | ((with_reducible apply o_nilq); (exact ⟨by decide, by first | assumption | simp only [go_sem]⟩); exact sdG141; exact sdG141)
    | (with_reducible first | apply o_nil | apply x_next | apply x_seq | apply x_block | apply x_leave_normal | apply x_leave_ret | apply x_pass_ret | apply x_loop_exit | apply x_loop_ret | apply x_pass_exit | apply x_exit | apply x_ret | apply x_skip | apply x_label | apply x_join_ret | apply x_join_exit)
    | ((with_reducible apply d_end); kernel_rfl)
    | ((with_reducible apply x_region); exact sdG141)
    | ((with_reducible apply x_regionD); kernel_rfl; exact sdG141; exact sdG141)
    | ((with_reducible first | apply x_leave_exit | apply x_condT); exact sdG141)
    | ((with_reducible apply x_condF); exact sdG141)
    | ((first | ((with_reducible apply x_condB); exact sdG141) | ((with_reducible first | apply o_gB | apply d_gB); exact sdG141; exact sdG141)); all_goals intro hc; all_goals (try simp only [decide_eq_true_eq, decide_eq_false_iff_not, Bool.not_eq_true', Bool.not_eq_false', Bool.and_eq_true, Bool.or_eq_false_iff, Classical.not_not] at hc); all_goals (try (exfalso; omega)))
    | ((with_reducible apply o_call); exact sdG141; exact sdG141; exact sdG141; (first | assumption); exact sdG141; exact sdG141)
    | ((with_reducible apply o_callN); exact sdG141; exact sdG141; exact sdG141; (first | assumption); exact sdG141)
    | ((with_reducible apply d_callS); exact sdG141; exact sdG141; exact sdG141; (first | assumption); exact sdG141p; exact sdG141; exact sdG141; exact sdG141; exact sdG141)
    | ((with_reducible apply x_end); (first | exact .inl rfl | exact .inr rfl); exact sdG141; exact sdG141))
        refine x_again 1 (by omega) (by omega) ?_
        exact sdG141
      · repeat' (first
    | ((with_reducible first | apply o_some | apply o_none | apply x_joined); exact sdG141; exact sdG141)
    | ((with_reducible first | apply d_some | apply d_none); exact sdG141; exact sdG141; exact sdG141)
    | ((with_reducible first | apply o_gT | apply d_gT); exact sdG141; exact sdG141)
    | ((with_reducible first | apply o_gF | apply d_gF); exact sdG141; exact sdG141; rfl)
    | ((with_reducible first | apply o_gU | apply d_gU); exact sdG141; exact sdG141)
    | ((with_reducible apply o_nilq); (exact ⟨by decide, by first | assumption | simp only [go_sem]⟩); exact sdG141; exact sdG141)
    | (with_reducible first | apply o_nil | apply x_next | apply x_seq | apply x_block | apply x_leave_normal | apply x_leave_ret | apply x_pass_ret | apply x_loop_exit | apply x_loop_ret | apply x_pass_exit | apply x_exit | apply x_ret | apply x_skip | apply x_label | apply x_join_ret | apply x_join_exit)
    | ((with_reducible apply d_end); kernel_rfl)
    | ((with_reducible apply x_region); exact sdG141)
    | ((with_reducible apply x_regionD); kernel_rfl; exact sdG141; exact sdG141)
    | ((with_reducible first | apply x_leave_exit | apply x_condT); exact sdG141)
    | ((with_reducible apply x_condF); exact sdG141)
    | ((first | ((with_reducible apply x_condB); exact sdG141) | ((with_reducible first | apply o_gB | apply d_gB); exact sdG141; exact sdG141)); all_goals intro hc; all_goals (try simp only [decide_eq_true_eq, decide_eq_false_iff_not, Bool.not_eq_true', Bool.not_eq_false', Bool.and_eq_true, Bool.or_eq_false_iff, Classical.not_not] at hc); all_goals (try (exfalso; omega)))
    | ((with_reducible apply o_call); exact sdG141; exact sdG141; exact sdG141; (first | assumption); exact sdG141; exact sdG141)
    | ((with_reducible apply o_callN); exact sdG141; exact sdG141; exact sdG141; (first | assumption); exact sdG141)
    | ((with_reducible apply d_callS); exact sdG141; exact sdG141; exact sdG141; (first | assumption); exact sdG141p; exact sdG141; exact sdG141; exact sdG141; exact sdG141)
    | ((with_reducible apply x_end); (first | exact .inl rfl | exact .inr rfl); exact sdG141; exact sdG141))
        refine x_again 2 (by omega) (by omega) ?_
        exact sdG141
      · repeat' (first
    | ((with_reducible first | apply o_some | apply o_none | apply x_joined); exact sdG141; exact sdG141)
    | ((with_reducible first | apply d_some | apply d_none); exact sdG141; exact sdG141; exact sdG141)
    | ((with_reducible first | apply o_gT | apply d_gT); exact sdG141; exact sdG141)
    | ((with_reducible first | apply o_gF | apply d_gF); exact sdG141; exact sdG141; rfl)
    | ((with_reducible first | apply o_gU | apply d_gU); exact sdG141; exact sdG141)
    | ((with_reducible apply o_nilq); (exact ⟨by decide, by first | assumption | simp only [go_sem]⟩); exact sdG141; exact sdG141)
    | (with_reducible first | apply o_nil | apply x_next | apply x_seq | apply x_block | apply x_leave_normal | apply x_leave_ret | apply x_pass_ret | apply x_loop_exit | apply x_loop_ret | apply x_pass_exit | apply x_exit | apply x_ret | apply x_skip | apply x_label | apply x_join_ret | apply x_join_exit)
    | ((with_reducible apply d_end); kernel_rfl)
    | ((with_reducible apply x_region); exact sdG141)
    | ((with_reducible apply x_regionD); kernel_rfl; exact sdG141; exact sdG141)
    | ((with_reducible first | apply x_leave_exit | apply x_condT); exact sdG141)
    | ((with_reducible apply x_condF); exact sdG141)
    | ((first | ((with_reducible apply x_condB); exact sdG141) | ((with_reducible first | apply o_gB | apply d_gB); exact sdG141; exact sdG141)); all_goals intro hc; all_goals (try simp only [decide_eq_true_eq, decide_eq_false_iff_not, Bool.not_eq_true', Bool.not_eq_false', Bool.and_eq_true, Bool.or_eq_false_iff, Classical.not_not] at hc); all_goals (try (exfalso; omega)))
    | ((with_reducible apply o_call); exact sdG141; exact sdG141; exact sdG141; (first | assumption); exact sdG141; exact sdG141)
    | ((with_reducible apply o_callN); exact sdG141; exact sdG141; exact sdG141; (first | assumption); exact sdG141)
    | ((with_reducible apply d_callS); exact sdG141; exact sdG141; exact sdG141; (first | assumption); exact sdG141p; exact sdG141; exact sdG141; exact sdG141; exact sdG141)
    | ((with_reducible apply x_end); (first | exact .inl rfl | exact .inr rfl); exact sdG141; exact sdG141))
        refine x_again 3 (by omega) (by omega) ?_
        exact sdG141
      · repeat' (first
    | ((with_reducible first | apply o_some | apply o_none | apply x_joined); exact sdG141; exact sdG141)
    | ((with_reducible first | apply d_some | apply d_none); exact sdG141; exact sdG141; exact sdG141)
    | ((with_reducible first | apply o_gT | apply d_gT); exact sdG141; exact sdG141)
    | ((with_reducible first | apply o_gF | apply d_gF); exact sdG141; exact sdG141; rfl)
    | ((with_reducible first | apply o_gU | apply d_gU); exact sdG141; exact sdG141)
    | ((with_reducible apply o_nilq); (exact ⟨by decide, by first | assumption | simp only [go_sem]⟩); exact sdG141; exact sdG141)
    | (with_reducible first | apply o_nil | apply x_next | apply x_seq | apply x_block | apply x_leave_normal | apply x_leave_ret | apply x_pass_ret | apply x_loop_exit | apply x_loop_ret | apply x_pass_exit | apply x_exit | apply x_ret | apply x_skip | apply x_label | apply x_join_ret | apply x_join_exit)
    | ((with_reducible apply d_end); kernel_rfl)
    | ((with_reducible apply x_region); exact sdG141)
    | ((with_reducible apply x_regionD); kernel_rfl; exact sdG141; exact sdG141)
    | ((with_reducible first | apply x_leave_exit | apply x_condT); exact sdG141)
    | ((with_reducible apply x_condF); exact sdG141)
    | ((first | ((with_reducible apply x_condB); exact sdG141) | ((with_reducible first | apply o_gB | apply d_gB); exact sdG141; exact sdG141)); all_goals intro hc; all_goals (try simp only [decide_eq_true_eq, decide_eq_false_iff_not, Bool.not_eq_true', Bool.not_eq_false', Bool.and_eq_true, Bool.or_eq_false_iff, Classical.not_not] at hc); all_goals (try (exfalso; omega)))
    | ((with_reducible apply o_call); exact sdG141; exact sdG141; exact sdG141; (first | assumption); exact sdG141; exact sdG141)
    | ((with_reducible apply o_callN); exact sdG141; exact sdG141; exact sdG141; (first | assumption); exact sdG141)
    | ((with_reducible apply d_callS); exact sdG141; exact sdG141; exact sdG141; (first | assumption); exact sdG141p; exact sdG141; exact sdG141; exact sdG141; exact sdG141)
    | ((with_reducible apply x_end); (first | exact .inl rfl | exact .inr rfl); exact sdG141; exact sdG141))
        refine x_again 4 (by omega) (by omega) ?_
        exact sdG141
end Go.Proofs.Ytfdekggfdklfeaa
