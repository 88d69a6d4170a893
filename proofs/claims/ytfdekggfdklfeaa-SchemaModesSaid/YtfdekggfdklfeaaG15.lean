/-
  Contracts: a schema of a case, all of it given away. (substhc)
-/
import Derived.Test.YtfdekggfdklfeaaG13
set_option linter.all false
set_option linter.unusedVariables false
set_option linter.unusedSimpArgs false
namespace Go.Proofs.Ytfdekggfdklfeaa
open Go.Ab
attribute [local irreducible] seqK blockK loopK endK
set_option maxRecDepth 10000
set_option maxHeartbeats 64000000
theorem sdG15 {α : Type _} {a b : α} (h : a = b := by (first | (simp (maxSteps := 2000000) (disch := first | assumption | omega | (simp only [go_sem] <;> with_reducible rfl)) only [go_sem, ↓reduceIte, ↓reduceDIte, Nat.reduceEqDiff, reduceCtorEq, Nat.reduceAdd, Nat.reduceSub, Nat.reduceMul, Nat.reduceBEq, Nat.reduceBNe, Nat.reduceLeDiff, Nat.reduceLT, Int.reduceLT, Int.reduceLE, Int.reduceToNat, Int.reduceEq, Int.reduceNeg, Int.reduceAdd, Int.reduceSub, Int.reduceMul, Nat.reduceMod, Nat.reduceDiv, Nat.reducePow, BEq.rfl, gt_iff_lt, ge_iff_le, *] <;> with_reducible rfl) | with_reducible rfl)) : a = b := h
theorem sdG15p {a b : Nat} (h : a ≤ b := by (first | (simp (maxSteps := 2000000) (disch := first | assumption | omega | (simp only [go_sem] <;> with_reducible rfl)) only [go_sem, ↓reduceIte, ↓reduceDIte, Nat.reduceEqDiff, reduceCtorEq, Nat.reduceAdd, Nat.reduceSub, Nat.reduceMul, Nat.reduceBEq, Nat.reduceBNe, Nat.reduceLeDiff, Nat.reduceLT, Int.reduceLT, Int.reduceLE, Int.reduceToNat, Int.reduceEq, Int.reduceNeg, Int.reduceAdd, Int.reduceSub, Int.reduceMul, Nat.reduceMod, Nat.reduceDiv, Nat.reducePow, BEq.rfl, gt_iff_lt, ge_iff_le, *] <;> with_reducible rfl) | with_reducible rfl)) : a ≤ b := h
theorem sdG151 {α : Type _} {a b : α} (h : a = b := by (first | (simp (maxSteps := 2000000) (disch := first | assumption | omega | (simp only [go_sem] <;> with_reducible rfl)) only [go_sem, ↓reduceIte, ↓reduceDIte, Nat.reduceEqDiff, reduceCtorEq, Nat.reduceAdd, Nat.reduceSub, Nat.reduceMul, Nat.reduceBEq, Nat.reduceBNe, Nat.reduceLeDiff, Nat.reduceLT, Int.reduceLT, Int.reduceLE, Int.reduceToNat, Int.reduceEq, Int.reduceNeg, Int.reduceAdd, Int.reduceSub, Int.reduceMul, Nat.reduceMod, Nat.reduceDiv, Nat.reducePow, BEq.rfl, gt_iff_lt, ge_iff_le, *, cond_true, cond_false] <;> with_reducible rfl) | with_reducible rfl)) : a = b := h
theorem sdG151p {a b : Nat} (h : a ≤ b := by (first | (simp (maxSteps := 2000000) (disch := first | assumption | omega | (simp only [go_sem] <;> with_reducible rfl)) only [go_sem, ↓reduceIte, ↓reduceDIte, Nat.reduceEqDiff, reduceCtorEq, Nat.reduceAdd, Nat.reduceSub, Nat.reduceMul, Nat.reduceBEq, Nat.reduceBNe, Nat.reduceLeDiff, Nat.reduceLT, Int.reduceLT, Int.reduceLE, Int.reduceToNat, Int.reduceEq, Int.reduceNeg, Int.reduceAdd, Int.reduceSub, Int.reduceMul, Nat.reduceMod, Nat.reduceDiv, Nat.reducePow, BEq.rfl, gt_iff_lt, ge_iff_le, *, cond_true, cond_false] <;> with_reducible rfl) | with_reducible rfl)) : a ≤ b := h
theorem sdG152 {α : Type _} {a b : α} (h : a = b := by (first | (simp (maxSteps := 2000000) (disch := first | assumption | omega | (simp only [go_sem] <;> with_reducible rfl)) only [go_sem, ↓reduceIte, ↓reduceDIte, Nat.reduceEqDiff, reduceCtorEq, Nat.reduceAdd, Nat.reduceSub, Nat.reduceMul, Nat.reduceBEq, Nat.reduceBNe, Nat.reduceLeDiff, Nat.reduceLT, Int.reduceLT, Int.reduceLE, Int.reduceToNat, Int.reduceEq, Int.reduceNeg, Int.reduceAdd, Int.reduceSub, Int.reduceMul, Nat.reduceMod, Nat.reduceDiv, Nat.reducePow, BEq.rfl, gt_iff_lt, ge_iff_le, *, Nat.zero_le, decide_true, Bool.and_true, Nat.sub_zero] <;> with_reducible rfl) | with_reducible rfl)) : a = b := h
theorem sdG152p {a b : Nat} (h : a ≤ b := by (first | (simp (maxSteps := 2000000) (disch := first | assumption | omega | (simp only [go_sem] <;> with_reducible rfl)) only [go_sem, ↓reduceIte, ↓reduceDIte, Nat.reduceEqDiff, reduceCtorEq, Nat.reduceAdd, Nat.reduceSub, Nat.reduceMul, Nat.reduceBEq, Nat.reduceBNe, Nat.reduceLeDiff, Nat.reduceLT, Int.reduceLT, Int.reduceLE, Int.reduceToNat, Int.reduceEq, Int.reduceNeg, Int.reduceAdd, Int.reduceSub, Int.reduceMul, Nat.reduceMod, Nat.reduceDiv, Nat.reducePow, BEq.rfl, gt_iff_lt, ge_iff_le, *, Nat.zero_le, decide_true, Bool.and_true, Nat.sub_zero] <;> with_reducible rfl) | with_reducible rfl)) : a ≤ b := h
theorem e_schema (codes : List UInt8) (hb : codes.length ≤ 1000) (a : Nat) :
    ∃ (n : Nat) (v id : Int) (b2 b3 b4 : Bool) (ch : List Pred) (a' : Nat), (n = 2 ∨ n = 3 ∨ n = 4) ∧ (0 ≤ v ∧ v < 3) ∧ (id = 4 ∨ id = 5) ∧ Pred.szL ch ≤ 10 ∧
      CallA Try.prog C (.func 12) {} [.ptr 0 0 0] (hC codes a) fun x hs => x = .agg ((schV n v id b2 b3 b4 ch).cells.map .d) ∧ hs = hC codes a' := by
  obtain ⟨n, a1, ⟨n1, n2, n3⟩, c1⟩ := e_int codes a 3 hb (by omega)
  have w1 := wrap_i64 (x := 2 + n) (by omega) (by omega)
  have hn0 : 0 ≤ 2 + n := by omega
  have hn4 : (2 + n).toNat ≤ 4 := by omega
  obtain ⟨b1, a2, c2⟩ := e_bool codes a1 5 hb (by omega) (by omega)
  obtain ⟨v, a3, ⟨v1, v2, v3⟩, c3⟩ := e_int codes a2 3 hb (by omega)
  obtain ⟨b2, a4, c4⟩ := e_bool codes a3 2 hb (by omega) (by omega)
  obtain ⟨b3, a5, h3⟩ : ∃ (b3 : Bool) (a5 : Nat), (n = 0 ∧ b3 = false ∧ a5 = a4) ∨ ((n = 1 ∨ n = 2) ∧ CallA Try.prog C (.func 29) {} [.ptr 0 0 0, .d (.int .i64 3)] (hC codes a4) fun v hs => v = .d (.bool b3) ∧ hs = hC codes a5) := by
    by_cases hn : n = 0
    · exact ⟨_, _, .inl ⟨hn, rfl, rfl⟩⟩
    · obtain ⟨b3, a5, c5⟩ := e_bool codes a4 3 hb (by omega) (by omega)
      exact ⟨_, _, .inr ⟨by omega, c5⟩⟩
  obtain ⟨b4, a6, h4⟩ : ∃ (b4 : Bool) (a6 : Nat), (¬ n = 2 ∧ b4 = false ∧ a6 = a5) ∨ (n = 2 ∧ CallA Try.prog C (.func 29) {} [.ptr 0 0 0, .d (.int .i64 3)] (hC codes a5) fun v hs => v = .d (.bool b4) ∧ hs = hC codes a6) := by
    by_cases hn : n = 2
    · obtain ⟨b4, a6, c6⟩ := e_bool codes a5 3 hb (by omega) (by omega)
      exact ⟨_, _, .inr ⟨hn, c6⟩⟩
    · exact ⟨_, _, .inl ⟨hn, rfl, rfl⟩⟩
  obtain ⟨b5, a7, c7⟩ := e_bool codes a6 3 hb (by omega) (by omega)
  obtain ⟨id, hid⟩ : ∃ id : Int, id = bif b1 then 5 else 4 := ⟨_, rfl⟩
  obtain ⟨p, a8, hp, c8⟩ := e_predicate codes [id, 4, 5, 3] [] hb (Nat.le_of_ble_eq_true rfl) (Nat.le_of_ble_eq_true rfl) a7
  have hk : CallA Try.prog C (.func 15) { own1 := true } [.agg ((schV (n + 2).toNat v id b2 b3 b4 []).cells.map .d), .d (.int .i64 1)] [] fun v hs => v = .sl 0 0 4 false ∧ hs = [some (.flat 1 (rowsI [id, 4, 5, 3]))] := by
    obtain rfl | rfl | rfl : n = 0 ∨ n = 1 ∨ n = 2 := by omega
    all_goals exact c_kinds07o _ 1 ⟨⟨#[116, 97, 115, 107, 115]⟩, [⟨⟨#[105, 100]⟩, id⟩, ⟨⟨#[112, 114, 111, 106, 101, 99, 116]⟩, 4⟩, ⟨⟨#[116, 105, 116, 108, 101]⟩, 5⟩, ⟨⟨#[100, 111, 110, 101]⟩, 3⟩], 1, bif b2 then [⟨[1], 0⟩] else [], []⟩ (by omega) (by first | (show ¬ ((2 : Nat) : Int) ≤ 1; omega) | (show ¬ ((3 : Nat) : Int) ≤ 1; omega) | (show ¬ ((4 : Nat) : Int) ≤ 1; omega)) rfl (by simp only [List.length_cons, List.length_nil]; omega) (by simp only [List.length_cons, List.length_nil]; omega)
  refine ⟨(n + 2).toNat, v, id, b2, b3, b4, bif b5 then [p] else [], bif b5 then a8 else a7, by omega, ⟨v1, v2⟩, by cases b1 <;> simp_all, by cases b5 <;> (simp only [cond, Pred.szL]; omega), ?_⟩
  refine call_func Try.func12 rfl (by decide) (by kernel_rfl) ⟨Nat.le_of_ble_eq_true rfl, Nat.le_of_ble_eq_true rfl⟩ ?_
  iterate 25 (first
    | ((with_reducible first | apply o_some | apply o_none | apply x_joined); exact sdG15; exact sdG15)
    | ((with_reducible first | apply d_some | apply d_none); exact sdG15; exact sdG15; exact sdG15)
    | ((with_reducible first | apply o_gT | apply d_gT); exact sdG15; exact sdG15)
    | ((with_reducible first | apply o_gF | apply d_gF); exact sdG15; exact sdG15; rfl)
    | ((with_reducible first | apply o_gU | apply d_gU); exact sdG15; exact sdG15)
    | ((with_reducible apply o_nilq); (exact ⟨by decide, by first | assumption | simp only [go_sem]⟩); exact sdG15; exact sdG15)
    | (with_reducible first | apply o_nil | apply x_next | apply x_seq | apply x_block | apply x_leave_normal | apply x_leave_ret | apply x_pass_ret | apply x_loop_exit | apply x_loop_ret | apply x_pass_exit | apply x_exit | apply x_ret | apply x_skip | apply x_label | apply x_join_ret | apply x_join_exit)
    | ((with_reducible apply d_end); kernel_rfl)
    | ((with_reducible apply x_region); (first | assumption | exact sdG15))
    | ((with_reducible apply x_regionD); kernel_rfl; (first | assumption | exact sdG15); exact sdG15)
    | ((with_reducible first | apply x_leave_exit | apply x_condT); exact sdG15)
    | ((with_reducible apply x_condF); exact sdG15)
    | ((first | ((with_reducible apply x_condB); exact sdG15) | ((with_reducible first | apply o_gB | apply d_gB); exact sdG15; exact sdG15)); all_goals intro hc; all_goals (try simp only [decide_eq_true_eq, decide_eq_false_iff_not, Bool.not_eq_true', Bool.not_eq_false', Bool.and_eq_true, Bool.or_eq_false_iff, Classical.not_not] at hc); all_goals (try (exfalso; omega)); all_goals (try subst hc))
    | ((with_reducible apply o_call); exact sdG15; exact sdG15; exact sdG15; (first | assumption | exact c_column _ _); exact sdG15; exact sdG15)
    | ((with_reducible apply o_callN); exact sdG15; exact sdG15; exact sdG15; (first | assumption | exact c_column _ _); exact sdG15)
    | ((with_reducible apply d_callS); exact sdG15; exact sdG15; exact sdG15; (first | assumption | exact c_column _ _); exact sdG15p; exact sdG15; exact sdG15; exact sdG15; exact sdG15)
    | ((with_reducible apply x_end); (first | exact .inl rfl | exact .inr rfl); exact sdG15; exact sdG15))
  refine x_join [(0, .ptr 0 0 0), (2, .ptr 1 0 0), (3, .d (.int .i64 (2 + n))), (4, .d (.int .i64 id)), (5, .top)] [some (caseO codes a2), some (.flat 2 [[.int .i64 0, .snil]])] ?_ (fun e' he' => ?_)
  · subst hid
    cases b1
    all_goals (repeat' (first
    | ((with_reducible first | apply o_some | apply o_none | apply x_joined); exact sdG151; exact sdG151)
    | ((with_reducible first | apply d_some | apply d_none); exact sdG151; exact sdG151; exact sdG151)
    | ((with_reducible first | apply o_gT | apply d_gT); exact sdG151; exact sdG151)
    | ((with_reducible first | apply o_gF | apply d_gF); exact sdG151; exact sdG151; rfl)
    | ((with_reducible first | apply o_gU | apply d_gU); exact sdG151; exact sdG151)
    | ((with_reducible apply o_nilq); (exact ⟨by decide, by first | assumption | simp only [go_sem]⟩); exact sdG151; exact sdG151)
    | (with_reducible first | apply o_nil | apply x_next | apply x_seq | apply x_block | apply x_leave_normal | apply x_leave_ret | apply x_pass_ret | apply x_loop_exit | apply x_loop_ret | apply x_pass_exit | apply x_exit | apply x_ret | apply x_skip | apply x_label | apply x_join_ret | apply x_join_exit)
    | ((with_reducible apply d_end); kernel_rfl)
    | ((with_reducible apply x_region); (first | assumption | exact sdG151))
    | ((with_reducible apply x_regionD); kernel_rfl; (first | assumption | exact sdG151); exact sdG151)
    | ((with_reducible first | apply x_leave_exit | apply x_condT); exact sdG151)
    | ((with_reducible apply x_condF); exact sdG151)
    | ((first | ((with_reducible apply x_condB); exact sdG151) | ((with_reducible first | apply o_gB | apply d_gB); exact sdG151; exact sdG151)); all_goals intro hc; all_goals (try simp only [decide_eq_true_eq, decide_eq_false_iff_not, Bool.not_eq_true', Bool.not_eq_false', Bool.and_eq_true, Bool.or_eq_false_iff, Classical.not_not] at hc); all_goals (try (exfalso; omega)); all_goals (try subst hc))
    | ((with_reducible apply o_call); exact sdG151; exact sdG151; exact sdG151; (first | assumption | exact c_column _ _); exact sdG151; exact sdG151)
    | ((with_reducible apply o_callN); exact sdG151; exact sdG151; exact sdG151; (first | assumption | exact c_column _ _); exact sdG151)
    | ((with_reducible apply d_callS); exact sdG151; exact sdG151; exact sdG151; (first | assumption | exact c_column _ _); exact sdG151p; exact sdG151; exact sdG151; exact sdG151; exact sdG151)
    | ((with_reducible apply x_end); (first | exact .inl rfl | exact .inr rfl); exact sdG151; exact sdG151)))
  · clear c2 hid c1
    obtain rfl | rfl | rfl : n = 0 ∨ n = 1 ∨ n = 2 := by omega
    · rcases h3 with ⟨_, rfl, rfl⟩ | ⟨h, _⟩
      · rcases h4 with ⟨_, rfl, rfl⟩ | ⟨h, _⟩
        · repeat' (first
    | ((with_reducible first | apply o_some | apply o_none | apply x_joined); exact sdG152; exact sdG152)
    | ((with_reducible first | apply d_some | apply d_none); exact sdG152; exact sdG152; exact sdG152)
    | ((with_reducible first | apply o_gT | apply d_gT); exact sdG152; exact sdG152)
    | ((with_reducible first | apply o_gF | apply d_gF); exact sdG152; exact sdG152; rfl)
    | ((with_reducible first | apply o_gU | apply d_gU); exact sdG152; exact sdG152)
    | ((with_reducible apply o_nilq); (exact ⟨by decide, by first | assumption | simp only [go_sem]⟩); exact sdG152; exact sdG152)
    | (with_reducible first | apply o_nil | apply x_next | apply x_seq | apply x_block | apply x_leave_normal | apply x_leave_ret | apply x_pass_ret | apply x_loop_exit | apply x_loop_ret | apply x_pass_exit | apply x_exit | apply x_ret | apply x_skip | apply x_label | apply x_join_ret | apply x_join_exit)
    | ((with_reducible apply d_end); kernel_rfl)
    | ((with_reducible apply x_region); (first | assumption | exact sdG152))
    | ((with_reducible apply x_regionD); kernel_rfl; (first | assumption | exact sdG152); exact sdG152)
    | ((with_reducible first | apply x_leave_exit | apply x_condT); exact sdG152)
    | ((with_reducible apply x_condF); exact sdG152)
    | ((first | ((with_reducible apply x_condB); exact sdG152) | ((with_reducible first | apply o_gB | apply d_gB); exact sdG152; exact sdG152)); all_goals intro hc; all_goals (try simp only [decide_eq_true_eq, decide_eq_false_iff_not, Bool.not_eq_true', Bool.not_eq_false', Bool.and_eq_true, Bool.or_eq_false_iff, Classical.not_not] at hc); all_goals (try (exfalso; omega)); all_goals (try subst hc))
    | ((with_reducible apply o_call); exact sdG152; exact sdG152; exact sdG152; (first | assumption | exact c_column _ _); exact sdG152; exact sdG152)
    | ((with_reducible apply o_callN); exact sdG152; exact sdG152; exact sdG152; (first | assumption | exact c_column _ _); exact sdG152)
    | ((with_reducible apply d_callS); exact sdG152; exact sdG152; exact sdG152; (first | assumption | exact c_column _ _); exact sdG152p; exact sdG152; exact sdG152; exact sdG152; exact sdG152)
    | ((with_reducible apply x_end); (first | exact .inl rfl | exact .inr rfl); exact sdG152; exact sdG152))
          all_goals exact ⟨rfl, rfl⟩
        · omega
      · omega
    · rcases h3 with ⟨h, _, _⟩ | ⟨_, c5⟩
      · omega
      · rcases h4 with ⟨_, rfl, rfl⟩ | ⟨h, _⟩
        · repeat' (first
    | ((with_reducible first | apply o_some | apply o_none | apply x_joined); exact sdG152; exact sdG152)
    | ((with_reducible first | apply d_some | apply d_none); exact sdG152; exact sdG152; exact sdG152)
    | ((with_reducible first | apply o_gT | apply d_gT); exact sdG152; exact sdG152)
    | ((with_reducible first | apply o_gF | apply d_gF); exact sdG152; exact sdG152; rfl)
    | ((with_reducible first | apply o_gU | apply d_gU); exact sdG152; exact sdG152)
    | ((with_reducible apply o_nilq); (exact ⟨by decide, by first | assumption | simp only [go_sem]⟩); exact sdG152; exact sdG152)
    | (with_reducible first | apply o_nil | apply x_next | apply x_seq | apply x_block | apply x_leave_normal | apply x_leave_ret | apply x_pass_ret | apply x_loop_exit | apply x_loop_ret | apply x_pass_exit | apply x_exit | apply x_ret | apply x_skip | apply x_label | apply x_join_ret | apply x_join_exit)
    | ((with_reducible apply d_end); kernel_rfl)
    | ((with_reducible apply x_region); (first | assumption | exact sdG152))
    | ((with_reducible apply x_regionD); kernel_rfl; (first | assumption | exact sdG152); exact sdG152)
    | ((with_reducible first | apply x_leave_exit | apply x_condT); exact sdG152)
    | ((with_reducible apply x_condF); exact sdG152)
    | ((first | ((with_reducible apply x_condB); exact sdG152) | ((with_reducible first | apply o_gB | apply d_gB); exact sdG152; exact sdG152)); all_goals intro hc; all_goals (try simp only [decide_eq_true_eq, decide_eq_false_iff_not, Bool.not_eq_true', Bool.not_eq_false', Bool.and_eq_true, Bool.or_eq_false_iff, Classical.not_not] at hc); all_goals (try (exfalso; omega)); all_goals (try subst hc))
    | ((with_reducible apply o_call); exact sdG152; exact sdG152; exact sdG152; (first | assumption | exact c_column _ _); exact sdG152; exact sdG152)
    | ((with_reducible apply o_callN); exact sdG152; exact sdG152; exact sdG152; (first | assumption | exact c_column _ _); exact sdG152)
    | ((with_reducible apply d_callS); exact sdG152; exact sdG152; exact sdG152; (first | assumption | exact c_column _ _); exact sdG152p; exact sdG152; exact sdG152; exact sdG152; exact sdG152)
    | ((with_reducible apply x_end); (first | exact .inl rfl | exact .inr rfl); exact sdG152; exact sdG152))
          all_goals exact ⟨rfl, rfl⟩
        · omega
    · rcases h3 with ⟨h, _, _⟩ | ⟨_, c5⟩
      · omega
      · rcases h4 with ⟨h, _, _⟩ | ⟨_, c6⟩
        · omega
        · repeat' (first
    | ((with_reducible first | apply o_some | apply o_none | apply x_joined); exact sdG152; exact sdG152)
    | ((with_reducible first | apply d_some | apply d_none); exact sdG152; exact sdG152; exact sdG152)
    | ((with_reducible first | apply o_gT | apply d_gT); exact sdG152; exact sdG152)
    | ((with_reducible first | apply o_gF | apply d_gF); exact sdG152; exact sdG152; rfl)
    | ((with_reducible first | apply o_gU | apply d_gU); exact sdG152; exact sdG152)
    | ((with_reducible apply o_nilq); (exact ⟨by decide, by first | assumption | simp only [go_sem]⟩); exact sdG152; exact sdG152)
    | (with_reducible first | apply o_nil | apply x_next | apply x_seq | apply x_block | apply x_leave_normal | apply x_leave_ret | apply x_pass_ret | apply x_loop_exit | apply x_loop_ret | apply x_pass_exit | apply x_exit | apply x_ret | apply x_skip | apply x_label | apply x_join_ret | apply x_join_exit)
    | ((with_reducible apply d_end); kernel_rfl)
    | ((with_reducible apply x_region); (first | assumption | exact sdG152))
    | ((with_reducible apply x_regionD); kernel_rfl; (first | assumption | exact sdG152); exact sdG152)
    | ((with_reducible first | apply x_leave_exit | apply x_condT); exact sdG152)
    | ((with_reducible apply x_condF); exact sdG152)
    | ((first | ((with_reducible apply x_condB); exact sdG152) | ((with_reducible first | apply o_gB | apply d_gB); exact sdG152; exact sdG152)); all_goals intro hc; all_goals (try simp only [decide_eq_true_eq, decide_eq_false_iff_not, Bool.not_eq_true', Bool.not_eq_false', Bool.and_eq_true, Bool.or_eq_false_iff, Classical.not_not] at hc); all_goals (try (exfalso; omega)); all_goals (try subst hc))
    | ((with_reducible apply o_call); exact sdG152; exact sdG152; exact sdG152; (first | assumption | exact c_column _ _); exact sdG152; exact sdG152)
    | ((with_reducible apply o_callN); exact sdG152; exact sdG152; exact sdG152; (first | assumption | exact c_column _ _); exact sdG152)
    | ((with_reducible apply d_callS); exact sdG152; exact sdG152; exact sdG152; (first | assumption | exact c_column _ _); exact sdG152p; exact sdG152; exact sdG152; exact sdG152; exact sdG152)
    | ((with_reducible apply x_end); (first | exact .inl rfl | exact .inr rfl); exact sdG152; exact sdG152))
          all_goals exact ⟨rfl, rfl⟩
end Go.Proofs.Ytfdekggfdklfeaa
