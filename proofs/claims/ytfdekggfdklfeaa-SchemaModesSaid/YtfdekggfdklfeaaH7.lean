/-
  Contracts: the first error of a schema without references and checks.
-/
import Derived.Test.YtfdekggfdklfeaaH6
import Derived.Test.YtfdekggfdklfeaaH5
set_option linter.all false
set_option linter.unusedVariables false
set_option linter.unusedSimpArgs false
namespace Go.Proofs.Ytfdekggfdklfeaa
open Go.Ab
attribute [local irreducible] seqK blockK loopK endK
set_option maxRecDepth 10000
set_option maxHeartbeats 64000000
def Sch.chkN (s : Sch) : Int := bif s.lim then (bif s.soundN then 0 else 70) else 2
theorem sdH70 {α : Type _} {a b : α} (h : a = b := by (first | (simp (maxSteps := 2000000) (disch := first | assumption | omega | (simp only [go_sem] <;> with_reducible rfl)) only [go_sem, ↓reduceIte, ↓reduceDIte, Nat.reduceEqDiff, reduceCtorEq, Nat.reduceAdd, Nat.reduceSub, Nat.reduceMul, Nat.reduceBEq, Nat.reduceBNe, Nat.reduceLeDiff, Nat.reduceLT, Int.reduceLT, Int.reduceLE, Int.reduceToNat, Int.reduceEq, Int.reduceNeg, Int.reduceAdd, Int.reduceSub, Int.reduceMul, Nat.reduceMod, Nat.reduceDiv, Nat.reducePow, BEq.rfl, gt_iff_lt, ge_iff_le, *, Sch.cells] <;> with_reducible rfl) | with_reducible rfl)) : a = b := h
theorem sdH70p {a b : Nat} (h : a ≤ b := by (first | (simp (maxSteps := 2000000) (disch := first | assumption | omega | (simp only [go_sem] <;> with_reducible rfl)) only [go_sem, ↓reduceIte, ↓reduceDIte, Nat.reduceEqDiff, reduceCtorEq, Nat.reduceAdd, Nat.reduceSub, Nat.reduceMul, Nat.reduceBEq, Nat.reduceBNe, Nat.reduceLeDiff, Nat.reduceLT, Int.reduceLT, Int.reduceLE, Int.reduceToNat, Int.reduceEq, Int.reduceNeg, Int.reduceAdd, Int.reduceSub, Int.reduceMul, Nat.reduceMod, Nat.reduceDiv, Nat.reducePow, BEq.rfl, gt_iff_lt, ge_iff_le, *, Sch.cells] <;> with_reducible rfl) | with_reducible rfl)) : a ≤ b := h
theorem sdH7 {α : Type _} {a b : α} (h : a = b := by (first | (simp (maxSteps := 2000000) (disch := first | assumption | omega | (simp only [go_sem] <;> with_reducible rfl)) only [go_sem, ↓reduceIte, ↓reduceDIte, Nat.reduceEqDiff, reduceCtorEq, Nat.reduceAdd, Nat.reduceSub, Nat.reduceMul, Nat.reduceBEq, Nat.reduceBNe, Nat.reduceLeDiff, Nat.reduceLT, Int.reduceLT, Int.reduceLE, Int.reduceToNat, Int.reduceEq, Int.reduceNeg, Int.reduceAdd, Int.reduceSub, Int.reduceMul, Nat.reduceMod, Nat.reduceDiv, Nat.reducePow, BEq.rfl, gt_iff_lt, ge_iff_le, *] <;> with_reducible rfl) | with_reducible rfl)) : a = b := h
theorem sdH7p {a b : Nat} (h : a ≤ b := by (first | (simp (maxSteps := 2000000) (disch := first | assumption | omega | (simp only [go_sem] <;> with_reducible rfl)) only [go_sem, ↓reduceIte, ↓reduceDIte, Nat.reduceEqDiff, reduceCtorEq, Nat.reduceAdd, Nat.reduceSub, Nat.reduceMul, Nat.reduceBEq, Nat.reduceBNe, Nat.reduceLeDiff, Nat.reduceLT, Int.reduceLT, Int.reduceLE, Int.reduceToNat, Int.reduceEq, Int.reduceNeg, Int.reduceAdd, Int.reduceSub, Int.reduceMul, Nat.reduceMod, Nat.reduceDiv, Nat.reducePow, BEq.rfl, gt_iff_lt, ge_iff_le, *] <;> with_reducible rfl) | with_reducible rfl)) : a ≤ b := h
theorem sdH72 {α : Type _} {a b : α} (h : a = b := by (first | (simp (maxSteps := 2000000) (disch := first | assumption | omega | (simp only [go_sem] <;> with_reducible rfl)) only [go_sem, ↓reduceIte, ↓reduceDIte, Nat.reduceEqDiff, reduceCtorEq, Nat.reduceAdd, Nat.reduceSub, Nat.reduceMul, Nat.reduceBEq, Nat.reduceBNe, Nat.reduceLeDiff, Nat.reduceLT, Int.reduceLT, Int.reduceLE, Int.reduceToNat, Int.reduceEq, Int.reduceNeg, Int.reduceAdd, Int.reduceSub, Int.reduceMul, Nat.reduceMod, Nat.reduceDiv, Nat.reducePow, BEq.rfl, gt_iff_lt, ge_iff_le, *, Tab.cells] <;> with_reducible rfl) | with_reducible rfl)) : a = b := h
theorem sdH72p {a b : Nat} (h : a ≤ b := by (first | (simp (maxSteps := 2000000) (disch := first | assumption | omega | (simp only [go_sem] <;> with_reducible rfl)) only [go_sem, ↓reduceIte, ↓reduceDIte, Nat.reduceEqDiff, reduceCtorEq, Nat.reduceAdd, Nat.reduceSub, Nat.reduceMul, Nat.reduceBEq, Nat.reduceBNe, Nat.reduceLeDiff, Nat.reduceLT, Int.reduceLT, Int.reduceLE, Int.reduceToNat, Int.reduceEq, Int.reduceNeg, Int.reduceAdd, Int.reduceSub, Int.reduceMul, Nat.reduceMod, Nat.reduceDiv, Nat.reducePow, BEq.rfl, gt_iff_lt, ge_iff_le, *, Tab.cells] <;> with_reducible rfl) | with_reducible rfl)) : a ≤ b := h
theorem sdH73 {α : Type _} {a b : α} (h : a = b := by (first | (simp (maxSteps := 2000000) (disch := first | assumption | omega | (simp only [go_sem] <;> with_reducible rfl)) only [go_sem, ↓reduceIte, ↓reduceDIte, Nat.reduceEqDiff, reduceCtorEq, Nat.reduceAdd, Nat.reduceSub, Nat.reduceMul, Nat.reduceBEq, Nat.reduceBNe, Nat.reduceLeDiff, Nat.reduceLT, Int.reduceLT, Int.reduceLE, Int.reduceToNat, Int.reduceEq, Int.reduceNeg, Int.reduceAdd, Int.reduceSub, Int.reduceMul, Nat.reduceMod, Nat.reduceDiv, Nat.reducePow, BEq.rfl, gt_iff_lt, ge_iff_le, *, Int.natCast_add, Int.natCast_one, Tab.cells] <;> with_reducible rfl) | with_reducible rfl)) : a = b := h
theorem sdH73p {a b : Nat} (h : a ≤ b := by (first | (simp (maxSteps := 2000000) (disch := first | assumption | omega | (simp only [go_sem] <;> with_reducible rfl)) only [go_sem, ↓reduceIte, ↓reduceDIte, Nat.reduceEqDiff, reduceCtorEq, Nat.reduceAdd, Nat.reduceSub, Nat.reduceMul, Nat.reduceBEq, Nat.reduceBNe, Nat.reduceLeDiff, Nat.reduceLT, Int.reduceLT, Int.reduceLE, Int.reduceToNat, Int.reduceEq, Int.reduceNeg, Int.reduceAdd, Int.reduceSub, Int.reduceMul, Nat.reduceMod, Nat.reduceDiv, Nat.reducePow, BEq.rfl, gt_iff_lt, ge_iff_le, *, Int.natCast_add, Int.natCast_one, Tab.cells] <;> with_reducible rfl) | with_reducible rfl)) : a ≤ b := h
theorem c_check (s : Sch) (hB : s.tabs.length ≤ 1000000) (hR : ∀ t ∈ s.tabs, t.refs = [] ∧ t.checks = [] ∧ t.cols.length ≤ 1000000) : CallA Try.prog C (.func 11) {} [.agg (s.cells.map .d)] [] fun v hs => v = .d (.int .i64 s.chkN) ∧ hs = [] := by
  refine call_func Try.func11 rfl (by decide) (by kernel_rfl) ⟨Nat.le_of_ble_eq_true rfl, Nat.le_of_ble_eq_true rfl⟩ ?_
  have hbig : 1000000 < big := by decide
  have cl := c_limits s hB
  have cs := c_sound s hB (fun t ht => ⟨(hR t ht).1, (hR t ht).2.2⟩)
  unfold Sch.chkN
  by_cases k1 : s.lim = true
  case neg =>
    have k1 : s.lim = false := by simpa using k1
    rw [k1] at cl ⊢
    repeat' (first
    | ((with_reducible first | apply o_some | apply o_none | apply x_joined); exact sdH70; exact sdH70)
    | ((with_reducible first | apply d_some | apply d_none); exact sdH70; exact sdH70; exact sdH70)
    | ((with_reducible first | apply o_gT | apply d_gT); exact sdH70; exact sdH70)
    | ((with_reducible first | apply o_gF | apply d_gF); exact sdH70; exact sdH70; rfl)
    | ((with_reducible first | apply o_gU | apply d_gU); exact sdH70; exact sdH70)
    | ((with_reducible apply o_nilq); (exact ⟨by decide, by first | assumption | simp only [go_sem]⟩); exact sdH70; exact sdH70)
    | (with_reducible first | apply o_nil | apply x_next | apply x_seq | apply x_block | apply x_leave_normal | apply x_leave_ret | apply x_pass_ret | apply x_loop_exit | apply x_loop_ret | apply x_pass_exit | apply x_exit | apply x_ret | apply x_skip | apply x_label | apply x_join_ret | apply x_join_exit)
    | ((with_reducible apply d_end); kernel_rfl)
    | ((with_reducible apply x_region); exact sdH70)
    | ((with_reducible apply x_regionD); kernel_rfl; exact sdH70; exact sdH70)
    | ((with_reducible first | apply x_leave_exit | apply x_condT); exact sdH70)
    | ((with_reducible apply x_condF); exact sdH70)
    | ((first | ((with_reducible apply x_condB); exact sdH70) | ((with_reducible first | apply o_gB | apply d_gB); exact sdH70; exact sdH70)); all_goals intro hc; all_goals (try simp only [decide_eq_true_eq, decide_eq_false_iff_not, Bool.not_eq_true', Bool.not_eq_false', Bool.and_eq_true, Bool.or_eq_false_iff, Classical.not_not] at hc); all_goals (try (exfalso; omega)))
    | ((with_reducible apply o_call); exact sdH70; exact sdH70; exact sdH70; (first | exact cl | exact cs); exact sdH70; exact sdH70)
    | ((with_reducible apply o_callN); exact sdH70; exact sdH70; exact sdH70; (first | exact cl | exact cs); exact sdH70)
    | ((with_reducible apply d_callS); exact sdH70; exact sdH70; exact sdH70; (first | exact cl | exact cs); exact sdH70p; exact sdH70; exact sdH70; exact sdH70; exact sdH70)
    | ((with_reducible apply x_end); (first | exact .inl rfl | exact .inr rfl); exact sdH70; exact sdH70))
    all_goals exact ⟨rfl, rfl⟩
  by_cases k2 : s.soundN = true
  case neg =>
    have k2 : s.soundN = false := by simpa using k2
    rw [k1] at cl ⊢
    rw [k2] at cs ⊢
    repeat' (first
    | ((with_reducible first | apply o_some | apply o_none | apply x_joined); exact sdH70; exact sdH70)
    | ((with_reducible first | apply d_some | apply d_none); exact sdH70; exact sdH70; exact sdH70)
    | ((with_reducible first | apply o_gT | apply d_gT); exact sdH70; exact sdH70)
    | ((with_reducible first | apply o_gF | apply d_gF); exact sdH70; exact sdH70; rfl)
    | ((with_reducible first | apply o_gU | apply d_gU); exact sdH70; exact sdH70)
    | ((with_reducible apply o_nilq); (exact ⟨by decide, by first | assumption | simp only [go_sem]⟩); exact sdH70; exact sdH70)
    | (with_reducible first | apply o_nil | apply x_next | apply x_seq | apply x_block | apply x_leave_normal | apply x_leave_ret | apply x_pass_ret | apply x_loop_exit | apply x_loop_ret | apply x_pass_exit | apply x_exit | apply x_ret | apply x_skip | apply x_label | apply x_join_ret | apply x_join_exit)
    | ((with_reducible apply d_end); kernel_rfl)
    | ((with_reducible apply x_region); exact sdH70)
    | ((with_reducible apply x_regionD); kernel_rfl; exact sdH70; exact sdH70)
    | ((with_reducible first | apply x_leave_exit | apply x_condT); exact sdH70)
    | ((with_reducible apply x_condF); exact sdH70)
    | ((first | ((with_reducible apply x_condB); exact sdH70) | ((with_reducible first | apply o_gB | apply d_gB); exact sdH70; exact sdH70)); all_goals intro hc; all_goals (try simp only [decide_eq_true_eq, decide_eq_false_iff_not, Bool.not_eq_true', Bool.not_eq_false', Bool.and_eq_true, Bool.or_eq_false_iff, Classical.not_not] at hc); all_goals (try (exfalso; omega)))
    | ((with_reducible apply o_call); exact sdH70; exact sdH70; exact sdH70; (first | exact cl | exact cs); exact sdH70; exact sdH70)
    | ((with_reducible apply o_callN); exact sdH70; exact sdH70; exact sdH70; (first | exact cl | exact cs); exact sdH70)
    | ((with_reducible apply d_callS); exact sdH70; exact sdH70; exact sdH70; (first | exact cl | exact cs); exact sdH70p; exact sdH70; exact sdH70; exact sdH70; exact sdH70)
    | ((with_reducible apply x_end); (first | exact .inl rfl | exact .inr rfl); exact sdH70; exact sdH70))
    all_goals exact ⟨rfl, rfl⟩
  rw [k1] at cl ⊢
  rw [k2] at cs ⊢
  repeat' (first
    | ((with_reducible first | apply o_some | apply o_none | apply x_joined); exact sdH70; exact sdH70)
    | ((with_reducible first | apply d_some | apply d_none); exact sdH70; exact sdH70; exact sdH70)
    | ((with_reducible first | apply o_gT | apply d_gT); exact sdH70; exact sdH70)
    | ((with_reducible first | apply o_gF | apply d_gF); exact sdH70; exact sdH70; rfl)
    | ((with_reducible first | apply o_gU | apply d_gU); exact sdH70; exact sdH70)
    | ((with_reducible apply o_nilq); (exact ⟨by decide, by first | assumption | simp only [go_sem]⟩); exact sdH70; exact sdH70)
    | (with_reducible first | apply o_nil | apply x_next | apply x_seq | apply x_block | apply x_leave_normal | apply x_leave_ret | apply x_pass_ret | apply x_loop_exit | apply x_loop_ret | apply x_pass_exit | apply x_exit | apply x_ret | apply x_skip | apply x_label | apply x_join_ret | apply x_join_exit)
    | ((with_reducible apply d_end); kernel_rfl)
    | ((with_reducible apply x_region); exact sdH70)
    | ((with_reducible apply x_regionD); kernel_rfl; exact sdH70; exact sdH70)
    | ((with_reducible first | apply x_leave_exit | apply x_condT); exact sdH70)
    | ((with_reducible apply x_condF); exact sdH70)
    | ((first | ((with_reducible apply x_condB); exact sdH70) | ((with_reducible first | apply o_gB | apply d_gB); exact sdH70; exact sdH70)); all_goals intro hc; all_goals (try simp only [decide_eq_true_eq, decide_eq_false_iff_not, Bool.not_eq_true', Bool.not_eq_false', Bool.and_eq_true, Bool.or_eq_false_iff, Classical.not_not] at hc); all_goals (try (exfalso; omega)))
    | ((with_reducible apply o_call); exact sdH70; exact sdH70; exact sdH70; (first | exact cl | exact cs); exact sdH70; exact sdH70)
    | ((with_reducible apply o_callN); exact sdH70; exact sdH70; exact sdH70; (first | exact cl | exact cs); exact sdH70)
    | ((with_reducible apply d_callS); exact sdH70; exact sdH70; exact sdH70; (first | exact cl | exact cs); exact sdH70p; exact sdH70; exact sdH70; exact sdH70; exact sdH70)
    | ((with_reducible apply x_end); (first | exact .inl rfl | exact .inr rfl); exact sdH70; exact sdH70))
  refine x_loopG { ownRes := true } [15, 16, 17] (fun (i : Nat) => [(15, .d (.fsl (s.tabs.map fun t => t.cells) false false)), (16, .d (.int .i64 s.tabs.length)), (17, .d (.int .i64 i))])
    (fun _ => []) (fun i => i ≤ s.tabs.length) (fun i => s.tabs.length - i) 0 ?_ (by omega) ?_
  · exact sdH7
  · intro i hi
    by_cases hlt : i < s.tabs.length
    · have hlt' : (i : Int) < s.tabs.length := by omega
      have hgi : s.tabs[i]? = some s.tabs[i] := List.getElem?_eq_getElem hlt
      obtain ⟨_, hr, _⟩ := hR _ (List.getElem_mem hlt)
      generalize s.tabs[i] = t at hgi hr
      have hrl : (t.checks.map fun p => p.cells) = [] := by rw [hr]; rfl
      repeat' (first
    | ((with_reducible first | apply o_some | apply o_none | apply x_joined); exact sdH72; exact sdH72)
    | ((with_reducible first | apply d_some | apply d_none); exact sdH72; exact sdH72; exact sdH72)
    | ((with_reducible first | apply o_gT | apply d_gT); exact sdH72; exact sdH72)
    | ((with_reducible first | apply o_gF | apply d_gF); exact sdH72; exact sdH72; rfl)
    | ((with_reducible first | apply o_gU | apply d_gU); exact sdH72; exact sdH72)
    | ((with_reducible apply o_nilq); (exact ⟨by decide, by first | assumption | simp only [go_sem]⟩); exact sdH72; exact sdH72)
    | (with_reducible first | apply o_nil | apply x_next | apply x_seq | apply x_block | apply x_leave_normal | apply x_leave_ret | apply x_pass_ret | apply x_loop_exit | apply x_loop_ret | apply x_pass_exit | apply x_exit | apply x_ret | apply x_skip | apply x_label | apply x_join_ret | apply x_join_exit)
    | ((with_reducible apply d_end); kernel_rfl)
    | ((with_reducible apply x_region); exact sdH72)
    | ((with_reducible apply x_regionD); kernel_rfl; exact sdH72; exact sdH72)
    | ((with_reducible first | apply x_leave_exit | apply x_condT); exact sdH72)
    | ((with_reducible apply x_condF); exact sdH72)
    | ((first | ((with_reducible apply x_condB); exact sdH72) | ((with_reducible first | apply o_gB | apply d_gB); exact sdH72; exact sdH72)); all_goals intro hc; all_goals (try simp only [decide_eq_true_eq, decide_eq_false_iff_not, Bool.not_eq_true', Bool.not_eq_false', Bool.and_eq_true, Bool.or_eq_false_iff, Classical.not_not] at hc); all_goals (try (exfalso; omega)))
    | ((with_reducible apply x_end); (first | exact .inl rfl | exact .inr rfl); exact sdH72; exact sdH72))
      refine x_loopG { ownRes := true } [15, 16, 17, 23, 24, 25] (fun (_ : Nat) => [(15, .d (.fsl (s.tabs.map fun t => t.cells) false false)), (16, .d (.int .i64 s.tabs.length)), (17, .d (.int .i64 i)), (23, .d (.fsl [] false false)), (24, .d (.int .i64 0)), (25, .d (.int .i64 0))])
        (fun _ => []) (fun _ => True) (fun _ => 0) 0 ?_ trivial ?_
      · exact sdH72
      · intro _ _
        repeat' (first
    | ((with_reducible first | apply o_some | apply o_none | apply x_joined); exact sdH7; exact sdH7)
    | ((with_reducible first | apply d_some | apply d_none); exact sdH7; exact sdH7; exact sdH7)
    | ((with_reducible first | apply o_gT | apply d_gT); exact sdH7; exact sdH7)
    | ((with_reducible first | apply o_gF | apply d_gF); exact sdH7; exact sdH7; rfl)
    | ((with_reducible first | apply o_gU | apply d_gU); exact sdH7; exact sdH7)
    | ((with_reducible apply o_nilq); (exact ⟨by decide, by first | assumption | simp only [go_sem]⟩); exact sdH7; exact sdH7)
    | (with_reducible first | apply o_nil | apply x_next | apply x_seq | apply x_block | apply x_leave_normal | apply x_leave_ret | apply x_pass_ret | apply x_loop_exit | apply x_loop_ret | apply x_pass_exit | apply x_exit | apply x_ret | apply x_skip | apply x_label | apply x_join_ret | apply x_join_exit)
    | ((with_reducible apply d_end); kernel_rfl)
    | ((with_reducible apply x_region); exact sdH7)
    | ((with_reducible apply x_regionD); kernel_rfl; exact sdH7; exact sdH7)
    | ((with_reducible first | apply x_leave_exit | apply x_condT); exact sdH7)
    | ((with_reducible apply x_condF); exact sdH7)
    | ((first | ((with_reducible apply x_condB); exact sdH7) | ((with_reducible first | apply o_gB | apply d_gB); exact sdH7; exact sdH7)); all_goals intro hc; all_goals (try simp only [decide_eq_true_eq, decide_eq_false_iff_not, Bool.not_eq_true', Bool.not_eq_false', Bool.and_eq_true, Bool.or_eq_false_iff, Classical.not_not] at hc); all_goals (try (exfalso; omega)))
    | ((with_reducible apply x_end); (first | exact .inl rfl | exact .inr rfl); exact sdH7; exact sdH7))
        refine x_again (i + 1) (by omega) (by omega) ?_
        exact sdH73
    · have hlt' : ¬ (i : Int) < s.tabs.length := by omega
      repeat' (first
    | ((with_reducible first | apply o_some | apply o_none | apply x_joined); exact sdH7; exact sdH7)
    | ((with_reducible first | apply d_some | apply d_none); exact sdH7; exact sdH7; exact sdH7)
    | ((with_reducible first | apply o_gT | apply d_gT); exact sdH7; exact sdH7)
    | ((with_reducible first | apply o_gF | apply d_gF); exact sdH7; exact sdH7; rfl)
    | ((with_reducible first | apply o_gU | apply d_gU); exact sdH7; exact sdH7)
    | ((with_reducible apply o_nilq); (exact ⟨by decide, by first | assumption | simp only [go_sem]⟩); exact sdH7; exact sdH7)
    | (with_reducible first | apply o_nil | apply x_next | apply x_seq | apply x_block | apply x_leave_normal | apply x_leave_ret | apply x_pass_ret | apply x_loop_exit | apply x_loop_ret | apply x_pass_exit | apply x_exit | apply x_ret | apply x_skip | apply x_label | apply x_join_ret | apply x_join_exit)
    | ((with_reducible apply d_end); kernel_rfl)
    | ((with_reducible apply x_region); exact sdH7)
    | ((with_reducible apply x_regionD); kernel_rfl; exact sdH7; exact sdH7)
    | ((with_reducible first | apply x_leave_exit | apply x_condT); exact sdH7)
    | ((with_reducible apply x_condF); exact sdH7)
    | ((first | ((with_reducible apply x_condB); exact sdH7) | ((with_reducible first | apply o_gB | apply d_gB); exact sdH7; exact sdH7)); all_goals intro hc; all_goals (try simp only [decide_eq_true_eq, decide_eq_false_iff_not, Bool.not_eq_true', Bool.not_eq_false', Bool.and_eq_true, Bool.or_eq_false_iff, Classical.not_not] at hc); all_goals (try (exfalso; omega)))
    | ((with_reducible apply x_end); (first | exact .inl rfl | exact .inr rfl); exact sdH7; exact sdH7))
      all_goals exact ⟨rfl, rfl⟩
end Go.Proofs.Ytfdekggfdklfeaa
