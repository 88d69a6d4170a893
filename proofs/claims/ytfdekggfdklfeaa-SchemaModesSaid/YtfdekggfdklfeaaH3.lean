/-
  Contracts: the index of a table.
-/
import Derived.Test.YtfdekggfdklfeaaH2
set_option linter.all false
set_option linter.unusedVariables false
set_option linter.unusedSimpArgs false
namespace Go.Proofs.Ytfdekggfdklfeaa
open Go.Ab
attribute [local irreducible] seqK blockK loopK endK
set_option maxRecDepth 10000
set_option maxHeartbeats 16000000
def findT (nm : ByteArray) : Nat → List Tab → Int
  | _, [] => -1
  | i, t :: r => if t.name = nm then i else findT nm (i + 1) r
def Sch.find (s : Sch) (nm : ByteArray) : Int := findT nm 0 s.tabs
theorem sdH30 {α : Type _} {a b : α} (h : a = b := by (first | (simp (maxSteps := 2000000) (disch := first | assumption | omega | (simp only [go_sem] <;> with_reducible rfl)) only [go_sem, ↓reduceIte, ↓reduceDIte, Nat.reduceEqDiff, reduceCtorEq, Nat.reduceAdd, Nat.reduceSub, Nat.reduceMul, Nat.reduceBEq, Nat.reduceBNe, Nat.reduceLeDiff, Nat.reduceLT, Int.reduceLT, Int.reduceLE, Int.reduceToNat, Int.reduceEq, Int.reduceNeg, Int.reduceAdd, Int.reduceSub, Int.reduceMul, Nat.reduceMod, Nat.reduceDiv, Nat.reducePow, BEq.rfl, gt_iff_lt, ge_iff_le, *, Sch.cells] <;> with_reducible rfl) | with_reducible rfl)) : a = b := h
theorem sdH30p {a b : Nat} (h : a ≤ b := by (first | (simp (maxSteps := 2000000) (disch := first | assumption | omega | (simp only [go_sem] <;> with_reducible rfl)) only [go_sem, ↓reduceIte, ↓reduceDIte, Nat.reduceEqDiff, reduceCtorEq, Nat.reduceAdd, Nat.reduceSub, Nat.reduceMul, Nat.reduceBEq, Nat.reduceBNe, Nat.reduceLeDiff, Nat.reduceLT, Int.reduceLT, Int.reduceLE, Int.reduceToNat, Int.reduceEq, Int.reduceNeg, Int.reduceAdd, Int.reduceSub, Int.reduceMul, Nat.reduceMod, Nat.reduceDiv, Nat.reducePow, BEq.rfl, gt_iff_lt, ge_iff_le, *, Sch.cells] <;> with_reducible rfl) | with_reducible rfl)) : a ≤ b := h
theorem sdH3 {α : Type _} {a b : α} (h : a = b := by (first | (simp (maxSteps := 2000000) (disch := first | assumption | omega | (simp only [go_sem] <;> with_reducible rfl)) only [go_sem, ↓reduceIte, ↓reduceDIte, Nat.reduceEqDiff, reduceCtorEq, Nat.reduceAdd, Nat.reduceSub, Nat.reduceMul, Nat.reduceBEq, Nat.reduceBNe, Nat.reduceLeDiff, Nat.reduceLT, Int.reduceLT, Int.reduceLE, Int.reduceToNat, Int.reduceEq, Int.reduceNeg, Int.reduceAdd, Int.reduceSub, Int.reduceMul, Nat.reduceMod, Nat.reduceDiv, Nat.reducePow, BEq.rfl, gt_iff_lt, ge_iff_le, *] <;> with_reducible rfl) | with_reducible rfl)) : a = b := h
theorem sdH3p {a b : Nat} (h : a ≤ b := by (first | (simp (maxSteps := 2000000) (disch := first | assumption | omega | (simp only [go_sem] <;> with_reducible rfl)) only [go_sem, ↓reduceIte, ↓reduceDIte, Nat.reduceEqDiff, reduceCtorEq, Nat.reduceAdd, Nat.reduceSub, Nat.reduceMul, Nat.reduceBEq, Nat.reduceBNe, Nat.reduceLeDiff, Nat.reduceLT, Int.reduceLT, Int.reduceLE, Int.reduceToNat, Int.reduceEq, Int.reduceNeg, Int.reduceAdd, Int.reduceSub, Int.reduceMul, Nat.reduceMod, Nat.reduceDiv, Nat.reducePow, BEq.rfl, gt_iff_lt, ge_iff_le, *] <;> with_reducible rfl) | with_reducible rfl)) : a ≤ b := h
theorem sdH32 {α : Type _} {a b : α} (h : a = b := by (first | (simp (maxSteps := 2000000) (disch := first | assumption | omega | (simp only [go_sem] <;> with_reducible rfl)) only [go_sem, ↓reduceIte, ↓reduceDIte, Nat.reduceEqDiff, reduceCtorEq, Nat.reduceAdd, Nat.reduceSub, Nat.reduceMul, Nat.reduceBEq, Nat.reduceBNe, Nat.reduceLeDiff, Nat.reduceLT, Int.reduceLT, Int.reduceLE, Int.reduceToNat, Int.reduceEq, Int.reduceNeg, Int.reduceAdd, Int.reduceSub, Int.reduceMul, Nat.reduceMod, Nat.reduceDiv, Nat.reducePow, BEq.rfl, gt_iff_lt, ge_iff_le, *, Tab.cells] <;> with_reducible rfl) | with_reducible rfl)) : a = b := h
theorem sdH32p {a b : Nat} (h : a ≤ b := by (first | (simp (maxSteps := 2000000) (disch := first | assumption | omega | (simp only [go_sem] <;> with_reducible rfl)) only [go_sem, ↓reduceIte, ↓reduceDIte, Nat.reduceEqDiff, reduceCtorEq, Nat.reduceAdd, Nat.reduceSub, Nat.reduceMul, Nat.reduceBEq, Nat.reduceBNe, Nat.reduceLeDiff, Nat.reduceLT, Int.reduceLT, Int.reduceLE, Int.reduceToNat, Int.reduceEq, Int.reduceNeg, Int.reduceAdd, Int.reduceSub, Int.reduceMul, Nat.reduceMod, Nat.reduceDiv, Nat.reducePow, BEq.rfl, gt_iff_lt, ge_iff_le, *, Tab.cells] <;> with_reducible rfl) | with_reducible rfl)) : a ≤ b := h
theorem sdH33 {α : Type _} {a b : α} (h : a = b := by (first | (simp (maxSteps := 2000000) (disch := first | assumption | omega | (simp only [go_sem] <;> with_reducible rfl)) only [go_sem, ↓reduceIte, ↓reduceDIte, Nat.reduceEqDiff, reduceCtorEq, Nat.reduceAdd, Nat.reduceSub, Nat.reduceMul, Nat.reduceBEq, Nat.reduceBNe, Nat.reduceLeDiff, Nat.reduceLT, Int.reduceLT, Int.reduceLE, Int.reduceToNat, Int.reduceEq, Int.reduceNeg, Int.reduceAdd, Int.reduceSub, Int.reduceMul, Nat.reduceMod, Nat.reduceDiv, Nat.reducePow, BEq.rfl, gt_iff_lt, ge_iff_le, *, Int.natCast_add, Int.natCast_one, Tab.cells] <;> with_reducible rfl) | with_reducible rfl)) : a = b := h
theorem sdH33p {a b : Nat} (h : a ≤ b := by (first | (simp (maxSteps := 2000000) (disch := first | assumption | omega | (simp only [go_sem] <;> with_reducible rfl)) only [go_sem, ↓reduceIte, ↓reduceDIte, Nat.reduceEqDiff, reduceCtorEq, Nat.reduceAdd, Nat.reduceSub, Nat.reduceMul, Nat.reduceBEq, Nat.reduceBNe, Nat.reduceLeDiff, Nat.reduceLT, Int.reduceLT, Int.reduceLE, Int.reduceToNat, Int.reduceEq, Int.reduceNeg, Int.reduceAdd, Int.reduceSub, Int.reduceMul, Nat.reduceMod, Nat.reduceDiv, Nat.reducePow, BEq.rfl, gt_iff_lt, ge_iff_le, *, Int.natCast_add, Int.natCast_one, Tab.cells] <;> with_reducible rfl) | with_reducible rfl)) : a ≤ b := h
theorem c_find07 (s : Sch) (nm : ByteArray) (hB : s.tabs.length ≤ 1000000) : CallA Try.prog C (.func 9) {} [.agg (s.cells.map .d), .d (.str nm)] [] fun v hs => v = .d (.int .i64 (s.find nm)) ∧ hs = [] := by
  refine call_func Try.func9 rfl (by decide) (by kernel_rfl) ⟨Nat.le_of_ble_eq_true rfl, Nat.le_of_ble_eq_true rfl⟩ ?_
  have hbig : 1000000 < big := by decide
  repeat' (first
    | ((with_reducible first | apply o_some | apply o_none | apply x_joined); exact sdH30; exact sdH30)
    | ((with_reducible first | apply d_some | apply d_none); exact sdH30; exact sdH30; exact sdH30)
    | ((with_reducible first | apply o_gT | apply d_gT); exact sdH30; exact sdH30)
    | ((with_reducible first | apply o_gF | apply d_gF); exact sdH30; exact sdH30; rfl)
    | ((with_reducible first | apply o_gU | apply d_gU); exact sdH30; exact sdH30)
    | ((with_reducible apply o_nilq); (exact ⟨by decide, by first | assumption | simp only [go_sem]⟩); exact sdH30; exact sdH30)
    | (with_reducible first | apply o_nil | apply x_next | apply x_seq | apply x_block | apply x_leave_normal | apply x_leave_ret | apply x_pass_ret | apply x_loop_exit | apply x_loop_ret | apply x_pass_exit | apply x_exit | apply x_ret | apply x_skip | apply x_label | apply x_join_ret | apply x_join_exit)
    | ((with_reducible apply d_end); kernel_rfl)
    | ((with_reducible apply x_region); exact sdH30)
    | ((with_reducible apply x_regionD); kernel_rfl; exact sdH30; exact sdH30)
    | ((with_reducible first | apply x_leave_exit | apply x_condT); exact sdH30)
    | ((with_reducible apply x_condF); exact sdH30)
    | ((first | ((with_reducible apply x_condB); exact sdH30) | ((with_reducible first | apply o_gB | apply d_gB); exact sdH30; exact sdH30)); all_goals intro hc; all_goals (try simp only [decide_eq_true_eq, decide_eq_false_iff_not, Bool.not_eq_true', Bool.not_eq_false', Bool.and_eq_true, Bool.or_eq_false_iff, Classical.not_not] at hc); all_goals (try (exfalso; omega)))
    | ((with_reducible apply x_end); (first | exact .inl rfl | exact .inr rfl); exact sdH30; exact sdH30))
  refine x_loopG { ownRes := true } [1, 2, 8, 9] (fun i : Nat => [(1, .d (.str nm)), (2, .ptr 0 0 0), (8, .d (.int .i64 s.tabs.length)), (9, .d (.int .i64 i))]) (fun _ => [some (.flat 2 [[.int .i64 s.ver, .fsl (s.tabs.map fun t => t.cells) false false]])]) (fun i => i ≤ s.tabs.length ∧ s.find nm = findT nm i (s.tabs.drop i)) (fun i => s.tabs.length - i) 0 ?_ ⟨by omega, rfl⟩ ?_
  · exact sdH3
  · rintro i ⟨hi, hv⟩
    by_cases hlt : i < s.tabs.length
    · have hlt' : (i : Int) < s.tabs.length := by omega
      have hgi : s.tabs[i]? = some s.tabs[i] := List.getElem?_eq_getElem hlt
      rw [List.drop_eq_getElem_cons hlt, findT] at hv
      generalize s.tabs[i] = c at hgi hv
      by_cases hc : c.name = nm
      · rw [if_pos hc] at hv
        repeat' (first
    | ((with_reducible first | apply o_some | apply o_none | apply x_joined); exact sdH32; exact sdH32)
    | ((with_reducible first | apply d_some | apply d_none); exact sdH32; exact sdH32; exact sdH32)
    | ((with_reducible first | apply o_gT | apply d_gT); exact sdH32; exact sdH32)
    | ((with_reducible first | apply o_gF | apply d_gF); exact sdH32; exact sdH32; rfl)
    | ((with_reducible first | apply o_gU | apply d_gU); exact sdH32; exact sdH32)
    | ((with_reducible apply o_nilq); (exact ⟨by decide, by first | assumption | simp only [go_sem]⟩); exact sdH32; exact sdH32)
    | (with_reducible first | apply o_nil | apply x_next | apply x_seq | apply x_block | apply x_leave_normal | apply x_leave_ret | apply x_pass_ret | apply x_loop_exit | apply x_loop_ret | apply x_pass_exit | apply x_exit | apply x_ret | apply x_skip | apply x_label | apply x_join_ret | apply x_join_exit)
    | ((with_reducible apply d_end); kernel_rfl)
    | ((with_reducible apply x_region); exact sdH32)
    | ((with_reducible apply x_regionD); kernel_rfl; exact sdH32; exact sdH32)
    | ((with_reducible first | apply x_leave_exit | apply x_condT); exact sdH32)
    | ((with_reducible apply x_condF); exact sdH32)
    | ((first | ((with_reducible apply x_condB); exact sdH32) | ((with_reducible first | apply o_gB | apply d_gB); exact sdH32; exact sdH32)); all_goals intro hc; all_goals (try simp only [decide_eq_true_eq, decide_eq_false_iff_not, Bool.not_eq_true', Bool.not_eq_false', Bool.and_eq_true, Bool.or_eq_false_iff, Classical.not_not] at hc); all_goals (try (exfalso; omega)))
    | ((with_reducible apply x_end); (first | exact .inl rfl | exact .inr rfl); exact sdH32; exact sdH32))
        all_goals (first | exact ⟨rfl, rfl⟩ | exact ⟨by rw [hv], rfl⟩ | trace_state)
      · rw [if_neg hc] at hv
        repeat' (first
    | ((with_reducible first | apply o_some | apply o_none | apply x_joined); exact sdH32; exact sdH32)
    | ((with_reducible first | apply d_some | apply d_none); exact sdH32; exact sdH32; exact sdH32)
    | ((with_reducible first | apply o_gT | apply d_gT); exact sdH32; exact sdH32)
    | ((with_reducible first | apply o_gF | apply d_gF); exact sdH32; exact sdH32; rfl)
    | ((with_reducible first | apply o_gU | apply d_gU); exact sdH32; exact sdH32)
    | ((with_reducible apply o_nilq); (exact ⟨by decide, by first | assumption | simp only [go_sem]⟩); exact sdH32; exact sdH32)
    | (with_reducible first | apply o_nil | apply x_next | apply x_seq | apply x_block | apply x_leave_normal | apply x_leave_ret | apply x_pass_ret | apply x_loop_exit | apply x_loop_ret | apply x_pass_exit | apply x_exit | apply x_ret | apply x_skip | apply x_label | apply x_join_ret | apply x_join_exit)
    | ((with_reducible apply d_end); kernel_rfl)
    | ((with_reducible apply x_region); exact sdH32)
    | ((with_reducible apply x_regionD); kernel_rfl; exact sdH32; exact sdH32)
    | ((with_reducible first | apply x_leave_exit | apply x_condT); exact sdH32)
    | ((with_reducible apply x_condF); exact sdH32)
    | ((first | ((with_reducible apply x_condB); exact sdH32) | ((with_reducible first | apply o_gB | apply d_gB); exact sdH32; exact sdH32)); all_goals intro hc; all_goals (try simp only [decide_eq_true_eq, decide_eq_false_iff_not, Bool.not_eq_true', Bool.not_eq_false', Bool.and_eq_true, Bool.or_eq_false_iff, Classical.not_not] at hc); all_goals (try (exfalso; omega)))
    | ((with_reducible apply x_end); (first | exact .inl rfl | exact .inr rfl); exact sdH32; exact sdH32))
        all_goals (refine x_again (i + 1) ⟨by omega, hv⟩ (by omega) ?_)
        all_goals (exact sdH33)
    · have hlt' : ¬ (i : Int) < s.tabs.length := by omega
      rw [List.drop_of_length_le (by omega), findT] at hv
      repeat' (first
    | ((with_reducible first | apply o_some | apply o_none | apply x_joined); exact sdH3; exact sdH3)
    | ((with_reducible first | apply d_some | apply d_none); exact sdH3; exact sdH3; exact sdH3)
    | ((with_reducible first | apply o_gT | apply d_gT); exact sdH3; exact sdH3)
    | ((with_reducible first | apply o_gF | apply d_gF); exact sdH3; exact sdH3; rfl)
    | ((with_reducible first | apply o_gU | apply d_gU); exact sdH3; exact sdH3)
    | ((with_reducible apply o_nilq); (exact ⟨by decide, by first | assumption | simp only [go_sem]⟩); exact sdH3; exact sdH3)
    | (with_reducible first | apply o_nil | apply x_next | apply x_seq | apply x_block | apply x_leave_normal | apply x_leave_ret | apply x_pass_ret | apply x_loop_exit | apply x_loop_ret | apply x_pass_exit | apply x_exit | apply x_ret | apply x_skip | apply x_label | apply x_join_ret | apply x_join_exit)
    | ((with_reducible apply d_end); kernel_rfl)
    | ((with_reducible apply x_region); exact sdH3)
    | ((with_reducible apply x_regionD); kernel_rfl; exact sdH3; exact sdH3)
    | ((with_reducible first | apply x_leave_exit | apply x_condT); exact sdH3)
    | ((with_reducible apply x_condF); exact sdH3)
    | ((first | ((with_reducible apply x_condB); exact sdH3) | ((with_reducible first | apply o_gB | apply d_gB); exact sdH3; exact sdH3)); all_goals intro hc; all_goals (try simp only [decide_eq_true_eq, decide_eq_false_iff_not, Bool.not_eq_true', Bool.not_eq_false', Bool.and_eq_true, Bool.or_eq_false_iff, Classical.not_not] at hc); all_goals (try (exfalso; omega)))
    | ((with_reducible apply x_end); (first | exact .inl rfl | exact .inr rfl); exact sdH3; exact sdH3))
      all_goals (first | exact ⟨rfl, rfl⟩ | exact ⟨by rw [hv], rfl⟩ | trace_state)
theorem c_find (s : Sch) (nm : ByteArray) (hB : s.tabs.length ≤ 1000000) : CallA Try.prog C (.func 25) {} [.agg (s.cells.map .d), .d (.str nm)] [] fun v hs => v = .d (.int .i64 (s.find nm)) ∧ hs = [] := by
  refine call_func Try.func25 rfl (by decide) (by kernel_rfl) ⟨Nat.le_of_ble_eq_true rfl, Nat.le_of_ble_eq_true rfl⟩ ?_
  have hbig : 1000000 < big := by decide
  repeat' (first
    | ((with_reducible first | apply o_some | apply o_none | apply x_joined); exact sdH30; exact sdH30)
    | ((with_reducible first | apply d_some | apply d_none); exact sdH30; exact sdH30; exact sdH30)
    | ((with_reducible first | apply o_gT | apply d_gT); exact sdH30; exact sdH30)
    | ((with_reducible first | apply o_gF | apply d_gF); exact sdH30; exact sdH30; rfl)
    | ((with_reducible first | apply o_gU | apply d_gU); exact sdH30; exact sdH30)
    | ((with_reducible apply o_nilq); (exact ⟨by decide, by first | assumption | simp only [go_sem]⟩); exact sdH30; exact sdH30)
    | (with_reducible first | apply o_nil | apply x_next | apply x_seq | apply x_block | apply x_leave_normal | apply x_leave_ret | apply x_pass_ret | apply x_loop_exit | apply x_loop_ret | apply x_pass_exit | apply x_exit | apply x_ret | apply x_skip | apply x_label | apply x_join_ret | apply x_join_exit)
    | ((with_reducible apply d_end); kernel_rfl)
    | ((with_reducible apply x_region); exact sdH30)
    | ((with_reducible apply x_regionD); kernel_rfl; exact sdH30; exact sdH30)
    | ((with_reducible first | apply x_leave_exit | apply x_condT); exact sdH30)
    | ((with_reducible apply x_condF); exact sdH30)
    | ((first | ((with_reducible apply x_condB); exact sdH30) | ((with_reducible first | apply o_gB | apply d_gB); exact sdH30; exact sdH30)); all_goals intro hc; all_goals (try simp only [decide_eq_true_eq, decide_eq_false_iff_not, Bool.not_eq_true', Bool.not_eq_false', Bool.and_eq_true, Bool.or_eq_false_iff, Classical.not_not] at hc); all_goals (try (exfalso; omega)))
    | ((with_reducible apply x_end); (first | exact .inl rfl | exact .inr rfl); exact sdH30; exact sdH30))
  refine x_loopG { ownRes := true } [1, 8, 9, 10] (fun i : Nat => [(1, .d (.str nm)), (8, .d (.fsl (s.tabs.map fun t => t.cells) false false)), (9, .d (.int .i64 s.tabs.length)), (10, .d (.int .i64 i))]) (fun _ => []) (fun i => i ≤ s.tabs.length ∧ s.find nm = findT nm i (s.tabs.drop i)) (fun i => s.tabs.length - i) 0 ?_ ⟨by omega, rfl⟩ ?_
  · exact sdH3
  · rintro i ⟨hi, hv⟩
    by_cases hlt : i < s.tabs.length
    · have hlt' : (i : Int) < s.tabs.length := by omega
      have hgi : s.tabs[i]? = some s.tabs[i] := List.getElem?_eq_getElem hlt
      rw [List.drop_eq_getElem_cons hlt, findT] at hv
      generalize s.tabs[i] = c at hgi hv
      by_cases hc : c.name = nm
      · rw [if_pos hc] at hv
        repeat' (first
    | ((with_reducible first | apply o_some | apply o_none | apply x_joined); exact sdH32; exact sdH32)
    | ((with_reducible first | apply d_some | apply d_none); exact sdH32; exact sdH32; exact sdH32)
    | ((with_reducible first | apply o_gT | apply d_gT); exact sdH32; exact sdH32)
    | ((with_reducible first | apply o_gF | apply d_gF); exact sdH32; exact sdH32; rfl)
    | ((with_reducible first | apply o_gU | apply d_gU); exact sdH32; exact sdH32)
    | ((with_reducible apply o_nilq); (exact ⟨by decide, by first | assumption | simp only [go_sem]⟩); exact sdH32; exact sdH32)
    | (with_reducible first | apply o_nil | apply x_next | apply x_seq | apply x_block | apply x_leave_normal | apply x_leave_ret | apply x_pass_ret | apply x_loop_exit | apply x_loop_ret | apply x_pass_exit | apply x_exit | apply x_ret | apply x_skip | apply x_label | apply x_join_ret | apply x_join_exit)
    | ((with_reducible apply d_end); kernel_rfl)
    | ((with_reducible apply x_region); exact sdH32)
    | ((with_reducible apply x_regionD); kernel_rfl; exact sdH32; exact sdH32)
    | ((with_reducible first | apply x_leave_exit | apply x_condT); exact sdH32)
    | ((with_reducible apply x_condF); exact sdH32)
    | ((first | ((with_reducible apply x_condB); exact sdH32) | ((with_reducible first | apply o_gB | apply d_gB); exact sdH32; exact sdH32)); all_goals intro hc; all_goals (try simp only [decide_eq_true_eq, decide_eq_false_iff_not, Bool.not_eq_true', Bool.not_eq_false', Bool.and_eq_true, Bool.or_eq_false_iff, Classical.not_not] at hc); all_goals (try (exfalso; omega)))
    | ((with_reducible apply x_end); (first | exact .inl rfl | exact .inr rfl); exact sdH32; exact sdH32))
        all_goals (first | exact ⟨rfl, rfl⟩ | exact ⟨by rw [hv], rfl⟩ | trace_state)
      · rw [if_neg hc] at hv
        repeat' (first
    | ((with_reducible first | apply o_some | apply o_none | apply x_joined); exact sdH32; exact sdH32)
    | ((with_reducible first | apply d_some | apply d_none); exact sdH32; exact sdH32; exact sdH32)
    | ((with_reducible first | apply o_gT | apply d_gT); exact sdH32; exact sdH32)
    | ((with_reducible first | apply o_gF | apply d_gF); exact sdH32; exact sdH32; rfl)
    | ((with_reducible first | apply o_gU | apply d_gU); exact sdH32; exact sdH32)
    | ((with_reducible apply o_nilq); (exact ⟨by decide, by first | assumption | simp only [go_sem]⟩); exact sdH32; exact sdH32)
    | (with_reducible first | apply o_nil | apply x_next | apply x_seq | apply x_block | apply x_leave_normal | apply x_leave_ret | apply x_pass_ret | apply x_loop_exit | apply x_loop_ret | apply x_pass_exit | apply x_exit | apply x_ret | apply x_skip | apply x_label | apply x_join_ret | apply x_join_exit)
    | ((with_reducible apply d_end); kernel_rfl)
    | ((with_reducible apply x_region); exact sdH32)
    | ((with_reducible apply x_regionD); kernel_rfl; exact sdH32; exact sdH32)
    | ((with_reducible first | apply x_leave_exit | apply x_condT); exact sdH32)
    | ((with_reducible apply x_condF); exact sdH32)
    | ((first | ((with_reducible apply x_condB); exact sdH32) | ((with_reducible first | apply o_gB | apply d_gB); exact sdH32; exact sdH32)); all_goals intro hc; all_goals (try simp only [decide_eq_true_eq, decide_eq_false_iff_not, Bool.not_eq_true', Bool.not_eq_false', Bool.and_eq_true, Bool.or_eq_false_iff, Classical.not_not] at hc); all_goals (try (exfalso; omega)))
    | ((with_reducible apply x_end); (first | exact .inl rfl | exact .inr rfl); exact sdH32; exact sdH32))
        all_goals (refine x_again (i + 1) ⟨by omega, hv⟩ (by omega) ?_)
        all_goals (exact sdH33)
    · have hlt' : ¬ (i : Int) < s.tabs.length := by omega
      rw [List.drop_of_length_le (by omega), findT] at hv
      repeat' (first
    | ((with_reducible first | apply o_some | apply o_none | apply x_joined); exact sdH3; exact sdH3)
    | ((with_reducible first | apply d_some | apply d_none); exact sdH3; exact sdH3; exact sdH3)
    | ((with_reducible first | apply o_gT | apply d_gT); exact sdH3; exact sdH3)
    | ((with_reducible first | apply o_gF | apply d_gF); exact sdH3; exact sdH3; rfl)
    | ((with_reducible first | apply o_gU | apply d_gU); exact sdH3; exact sdH3)
    | ((with_reducible apply o_nilq); (exact ⟨by decide, by first | assumption | simp only [go_sem]⟩); exact sdH3; exact sdH3)
    | (with_reducible first | apply o_nil | apply x_next | apply x_seq | apply x_block | apply x_leave_normal | apply x_leave_ret | apply x_pass_ret | apply x_loop_exit | apply x_loop_ret | apply x_pass_exit | apply x_exit | apply x_ret | apply x_skip | apply x_label | apply x_join_ret | apply x_join_exit)
    | ((with_reducible apply d_end); kernel_rfl)
    | ((with_reducible apply x_region); exact sdH3)
    | ((with_reducible apply x_regionD); kernel_rfl; exact sdH3; exact sdH3)
    | ((with_reducible first | apply x_leave_exit | apply x_condT); exact sdH3)
    | ((with_reducible apply x_condF); exact sdH3)
    | ((first | ((with_reducible apply x_condB); exact sdH3) | ((with_reducible first | apply o_gB | apply d_gB); exact sdH3; exact sdH3)); all_goals intro hc; all_goals (try simp only [decide_eq_true_eq, decide_eq_false_iff_not, Bool.not_eq_true', Bool.not_eq_false', Bool.and_eq_true, Bool.or_eq_false_iff, Classical.not_not] at hc); all_goals (try (exfalso; omega)))
    | ((with_reducible apply x_end); (first | exact .inl rfl | exact .inr rfl); exact sdH3; exact sdH3))
      all_goals (first | exact ⟨rfl, rfl⟩ | exact ⟨by rw [hv], rfl⟩ | trace_state)
theorem c_has (s : Sch) (t : Int) (hB : s.tabs.length ≤ 1000000) : CallA Try.prog C (.func 33) {} [.agg (s.cells.map .d), .d (.int .i64 t)] [] fun v hs => v = .d (.bool (decide (0 ≤ t ∧ t < s.tabs.length))) ∧ hs = [] := by
  refine call_func Try.func33 rfl (by decide) (by kernel_rfl) ⟨Nat.le_of_ble_eq_true rfl, Nat.le_of_ble_eq_true rfl⟩ ?_
  by_cases h1 : 0 ≤ t
  · by_cases h2 : t < s.tabs.length
    · have : decide (0 ≤ t ∧ t < s.tabs.length) = true := by simp [h1, h2]
      rw [this]
      repeat' (first
    | ((with_reducible first | apply o_some | apply o_none | apply x_joined); exact sdH30; exact sdH30)
    | ((with_reducible first | apply d_some | apply d_none); exact sdH30; exact sdH30; exact sdH30)
    | ((with_reducible first | apply o_gT | apply d_gT); exact sdH30; exact sdH30)
    | ((with_reducible first | apply o_gF | apply d_gF); exact sdH30; exact sdH30; rfl)
    | ((with_reducible first | apply o_gU | apply d_gU); exact sdH30; exact sdH30)
    | ((with_reducible apply o_nilq); (exact ⟨by decide, by first | assumption | simp only [go_sem]⟩); exact sdH30; exact sdH30)
    | (with_reducible first | apply o_nil | apply x_next | apply x_seq | apply x_block | apply x_leave_normal | apply x_leave_ret | apply x_pass_ret | apply x_loop_exit | apply x_loop_ret | apply x_pass_exit | apply x_exit | apply x_ret | apply x_skip | apply x_label | apply x_join_ret | apply x_join_exit)
    | ((with_reducible apply d_end); kernel_rfl)
    | ((with_reducible apply x_region); exact sdH30)
    | ((with_reducible apply x_regionD); kernel_rfl; exact sdH30; exact sdH30)
    | ((with_reducible first | apply x_leave_exit | apply x_condT); exact sdH30)
    | ((with_reducible apply x_condF); exact sdH30)
    | ((first | ((with_reducible apply x_condB); exact sdH30) | ((with_reducible first | apply o_gB | apply d_gB); exact sdH30; exact sdH30)); all_goals intro hc; all_goals (try simp only [decide_eq_true_eq, decide_eq_false_iff_not, Bool.not_eq_true', Bool.not_eq_false', Bool.and_eq_true, Bool.or_eq_false_iff, Classical.not_not] at hc); all_goals (try (exfalso; omega)))
    | ((with_reducible apply x_end); (first | exact .inl rfl | exact .inr rfl); exact sdH30; exact sdH30))
      all_goals (first | exact ⟨rfl, rfl⟩ | trace_state)
    · have : decide (0 ≤ t ∧ t < s.tabs.length) = false := by simp [h1, h2]
      rw [this]
      repeat' (first
    | ((with_reducible first | apply o_some | apply o_none | apply x_joined); exact sdH30; exact sdH30)
    | ((with_reducible first | apply d_some | apply d_none); exact sdH30; exact sdH30; exact sdH30)
    | ((with_reducible first | apply o_gT | apply d_gT); exact sdH30; exact sdH30)
    | ((with_reducible first | apply o_gF | apply d_gF); exact sdH30; exact sdH30; rfl)
    | ((with_reducible first | apply o_gU | apply d_gU); exact sdH30; exact sdH30)
    | ((with_reducible apply o_nilq); (exact ⟨by decide, by first | assumption | simp only [go_sem]⟩); exact sdH30; exact sdH30)
    | (with_reducible first | apply o_nil | apply x_next | apply x_seq | apply x_block | apply x_leave_normal | apply x_leave_ret | apply x_pass_ret | apply x_loop_exit | apply x_loop_ret | apply x_pass_exit | apply x_exit | apply x_ret | apply x_skip | apply x_label | apply x_join_ret | apply x_join_exit)
    | ((with_reducible apply d_end); kernel_rfl)
    | ((with_reducible apply x_region); exact sdH30)
    | ((with_reducible apply x_regionD); kernel_rfl; exact sdH30; exact sdH30)
    | ((with_reducible first | apply x_leave_exit | apply x_condT); exact sdH30)
    | ((with_reducible apply x_condF); exact sdH30)
    | ((first | ((with_reducible apply x_condB); exact sdH30) | ((with_reducible first | apply o_gB | apply d_gB); exact sdH30; exact sdH30)); all_goals intro hc; all_goals (try simp only [decide_eq_true_eq, decide_eq_false_iff_not, Bool.not_eq_true', Bool.not_eq_false', Bool.and_eq_true, Bool.or_eq_false_iff, Classical.not_not] at hc); all_goals (try (exfalso; omega)))
    | ((with_reducible apply x_end); (first | exact .inl rfl | exact .inr rfl); exact sdH30; exact sdH30))
      all_goals (first | exact ⟨rfl, rfl⟩ | trace_state)
  · have : decide (0 ≤ t ∧ t < s.tabs.length) = false := by simp [h1]
    rw [this]
    repeat' (first
    | ((with_reducible first | apply o_some | apply o_none | apply x_joined); exact sdH30; exact sdH30)
    | ((with_reducible first | apply d_some | apply d_none); exact sdH30; exact sdH30; exact sdH30)
    | ((with_reducible first | apply o_gT | apply d_gT); exact sdH30; exact sdH30)
    | ((with_reducible first | apply o_gF | apply d_gF); exact sdH30; exact sdH30; rfl)
    | ((with_reducible first | apply o_gU | apply d_gU); exact sdH30; exact sdH30)
    | ((with_reducible apply o_nilq); (exact ⟨by decide, by first | assumption | simp only [go_sem]⟩); exact sdH30; exact sdH30)
    | (with_reducible first | apply o_nil | apply x_next | apply x_seq | apply x_block | apply x_leave_normal | apply x_leave_ret | apply x_pass_ret | apply x_loop_exit | apply x_loop_ret | apply x_pass_exit | apply x_exit | apply x_ret | apply x_skip | apply x_label | apply x_join_ret | apply x_join_exit)
    | ((with_reducible apply d_end); kernel_rfl)
    | ((with_reducible apply x_region); exact sdH30)
    | ((with_reducible apply x_regionD); kernel_rfl; exact sdH30; exact sdH30)
    | ((with_reducible first | apply x_leave_exit | apply x_condT); exact sdH30)
    | ((with_reducible apply x_condF); exact sdH30)
    | ((first | ((with_reducible apply x_condB); exact sdH30) | ((with_reducible first | apply o_gB | apply d_gB); exact sdH30; exact sdH30)); all_goals intro hc; all_goals (try simp only [decide_eq_true_eq, decide_eq_false_iff_not, Bool.not_eq_true', Bool.not_eq_false', Bool.and_eq_true, Bool.or_eq_false_iff, Classical.not_not] at hc); all_goals (try (exfalso; omega)))
    | ((with_reducible apply x_end); (first | exact .inl rfl | exact .inr rfl); exact sdH30; exact sdH30))
    all_goals (first | exact ⟨rfl, rfl⟩ | trace_state)
def Tab.lim (t : Tab) : Bool := decide (t.cols.length ≤ 8) && decide (t.refs.length ≤ 4) && decide (t.checks.length ≤ 4)
def Sch.lim (s : Sch) : Bool := decide (s.tabs.length ≤ 8) && s.tabs.all Tab.lim
theorem c_limits (s : Sch) (hB : s.tabs.length ≤ 1000000) : CallA Try.prog C (.func 26) {} [.agg (s.cells.map .d)] [] fun v hs => v = .d (.bool s.lim) ∧ hs = [] := by
  refine call_func Try.func26 rfl (by decide) (by kernel_rfl) ⟨Nat.le_of_ble_eq_true rfl, Nat.le_of_ble_eq_true rfl⟩ ?_
  have hbig : 1000000 < big := by decide
  by_cases h1 : 8 < (s.tabs.length : Int)
  · have hf : s.lim = false := by
      have : ¬ s.tabs.length ≤ 8 := by omega
      simp [Sch.lim, this]
    rw [hf]
    repeat' (first
    | ((with_reducible first | apply o_some | apply o_none | apply x_joined); exact sdH30; exact sdH30)
    | ((with_reducible first | apply d_some | apply d_none); exact sdH30; exact sdH30; exact sdH30)
    | ((with_reducible first | apply o_gT | apply d_gT); exact sdH30; exact sdH30)
    | ((with_reducible first | apply o_gF | apply d_gF); exact sdH30; exact sdH30; rfl)
    | ((with_reducible first | apply o_gU | apply d_gU); exact sdH30; exact sdH30)
    | ((with_reducible apply o_nilq); (exact ⟨by decide, by first | assumption | simp only [go_sem]⟩); exact sdH30; exact sdH30)
    | (with_reducible first | apply o_nil | apply x_next | apply x_seq | apply x_block | apply x_leave_normal | apply x_leave_ret | apply x_pass_ret | apply x_loop_exit | apply x_loop_ret | apply x_pass_exit | apply x_exit | apply x_ret | apply x_skip | apply x_label | apply x_join_ret | apply x_join_exit)
    | ((with_reducible apply d_end); kernel_rfl)
    | ((with_reducible apply x_region); exact sdH30)
    | ((with_reducible apply x_regionD); kernel_rfl; exact sdH30; exact sdH30)
    | ((with_reducible first | apply x_leave_exit | apply x_condT); exact sdH30)
    | ((with_reducible apply x_condF); exact sdH30)
    | ((first | ((with_reducible apply x_condB); exact sdH30) | ((with_reducible first | apply o_gB | apply d_gB); exact sdH30; exact sdH30)); all_goals intro hc; all_goals (try simp only [decide_eq_true_eq, decide_eq_false_iff_not, Bool.not_eq_true', Bool.not_eq_false', Bool.and_eq_true, Bool.or_eq_false_iff, Classical.not_not] at hc); all_goals (try (exfalso; omega)))
    | ((with_reducible apply x_end); (first | exact .inl rfl | exact .inr rfl); exact sdH30; exact sdH30))
    all_goals exact ⟨rfl, rfl⟩
  · have h8 : s.lim = (s.tabs.drop 0).all Tab.lim := by
      have : s.tabs.length ≤ 8 := by omega
      simp [Sch.lim, this]
    repeat' (first
    | ((with_reducible first | apply o_some | apply o_none | apply x_joined); exact sdH30; exact sdH30)
    | ((with_reducible first | apply d_some | apply d_none); exact sdH30; exact sdH30; exact sdH30)
    | ((with_reducible first | apply o_gT | apply d_gT); exact sdH30; exact sdH30)
    | ((with_reducible first | apply o_gF | apply d_gF); exact sdH30; exact sdH30; rfl)
    | ((with_reducible first | apply o_gU | apply d_gU); exact sdH30; exact sdH30)
    | ((with_reducible apply o_nilq); (exact ⟨by decide, by first | assumption | simp only [go_sem]⟩); exact sdH30; exact sdH30)
    | (with_reducible first | apply o_nil | apply x_next | apply x_seq | apply x_block | apply x_leave_normal | apply x_leave_ret | apply x_pass_ret | apply x_loop_exit | apply x_loop_ret | apply x_pass_exit | apply x_exit | apply x_ret | apply x_skip | apply x_label | apply x_join_ret | apply x_join_exit)
    | ((with_reducible apply d_end); kernel_rfl)
    | ((with_reducible apply x_region); exact sdH30)
    | ((with_reducible apply x_regionD); kernel_rfl; exact sdH30; exact sdH30)
    | ((with_reducible first | apply x_leave_exit | apply x_condT); exact sdH30)
    | ((with_reducible apply x_condF); exact sdH30)
    | ((first | ((with_reducible apply x_condB); exact sdH30) | ((with_reducible first | apply o_gB | apply d_gB); exact sdH30; exact sdH30)); all_goals intro hc; all_goals (try simp only [decide_eq_true_eq, decide_eq_false_iff_not, Bool.not_eq_true', Bool.not_eq_false', Bool.and_eq_true, Bool.or_eq_false_iff, Classical.not_not] at hc); all_goals (try (exfalso; omega)))
    | ((with_reducible apply x_end); (first | exact .inl rfl | exact .inr rfl); exact sdH30; exact sdH30))
    refine x_loopG { ownRes := true } [10, 11, 12] (fun i : Nat => [(10, .d (.fsl (s.tabs.map fun t => t.cells) false false)), (11, .d (.int .i64 s.tabs.length)), (12, .d (.int .i64 i))]) (fun _ => []) (fun i => i ≤ s.tabs.length ∧ s.lim = (s.tabs.drop i).all Tab.lim) (fun i => s.tabs.length - i) 0 ?_ ⟨by omega, h8⟩ ?_
    · exact sdH3
    · rintro i ⟨hi, hv⟩
      by_cases hlt : i < s.tabs.length
      · have hlt' : (i : Int) < s.tabs.length := by omega
        have hgi : s.tabs[i]? = some s.tabs[i] := List.getElem?_eq_getElem hlt
        rw [List.drop_eq_getElem_cons hlt, List.all_cons] at hv
        generalize s.tabs[i] = c at hgi hv
        by_cases hc : c.lim = true
        · rw [hc, Bool.true_and] at hv
          simp only [Tab.lim, Bool.and_eq_true, decide_eq_true_eq] at hc
          obtain ⟨⟨k1, k2⟩, k3⟩ := hc
          repeat' (first
    | ((with_reducible first | apply o_some | apply o_none | apply x_joined); exact sdH32; exact sdH32)
    | ((with_reducible first | apply d_some | apply d_none); exact sdH32; exact sdH32; exact sdH32)
    | ((with_reducible first | apply o_gT | apply d_gT); exact sdH32; exact sdH32)
    | ((with_reducible first | apply o_gF | apply d_gF); exact sdH32; exact sdH32; rfl)
    | ((with_reducible first | apply o_gU | apply d_gU); exact sdH32; exact sdH32)
    | ((with_reducible apply o_nilq); (exact ⟨by decide, by first | assumption | simp only [go_sem]⟩); exact sdH32; exact sdH32)
    | (with_reducible first | apply o_nil | apply x_next | apply x_seq | apply x_block | apply x_leave_normal | apply x_leave_ret | apply x_pass_ret | apply x_loop_exit | apply x_loop_ret | apply x_pass_exit | apply x_exit | apply x_ret | apply x_skip | apply x_label | apply x_join_ret | apply x_join_exit)
    | ((with_reducible apply d_end); kernel_rfl)
    | ((with_reducible apply x_region); exact sdH32)
    | ((with_reducible apply x_regionD); kernel_rfl; exact sdH32; exact sdH32)
    | ((with_reducible first | apply x_leave_exit | apply x_condT); exact sdH32)
    | ((with_reducible apply x_condF); exact sdH32)
    | ((first | ((with_reducible apply x_condB); exact sdH32) | ((with_reducible first | apply o_gB | apply d_gB); exact sdH32; exact sdH32)); all_goals intro hc; all_goals (try simp only [decide_eq_true_eq, decide_eq_false_iff_not, Bool.not_eq_true', Bool.not_eq_false', Bool.and_eq_true, Bool.or_eq_false_iff, Classical.not_not] at hc); all_goals (try (exfalso; omega)))
    | ((with_reducible apply x_end); (first | exact .inl rfl | exact .inr rfl); exact sdH32; exact sdH32))
          all_goals (refine x_again (i + 1) ⟨by omega, hv⟩ (by omega) ?_)
          all_goals (exact sdH33)
        · have hc' : c.lim = false := by simpa using hc
          rw [hc', Bool.false_and] at hv
          rw [hv]
          have hk : ¬ (c.cols.length ≤ 8 ∧ c.refs.length ≤ 4 ∧ c.checks.length ≤ 4) := by
            intro ⟨a, b, d⟩
            simp [Tab.lim, a, b, d] at hc'
          repeat' (first
    | ((with_reducible first | apply o_some | apply o_none | apply x_joined); exact sdH32; exact sdH32)
    | ((with_reducible first | apply d_some | apply d_none); exact sdH32; exact sdH32; exact sdH32)
    | ((with_reducible first | apply o_gT | apply d_gT); exact sdH32; exact sdH32)
    | ((with_reducible first | apply o_gF | apply d_gF); exact sdH32; exact sdH32; rfl)
    | ((with_reducible first | apply o_gU | apply d_gU); exact sdH32; exact sdH32)
    | ((with_reducible apply o_nilq); (exact ⟨by decide, by first | assumption | simp only [go_sem]⟩); exact sdH32; exact sdH32)
    | (with_reducible first | apply o_nil | apply x_next | apply x_seq | apply x_block | apply x_leave_normal | apply x_leave_ret | apply x_pass_ret | apply x_loop_exit | apply x_loop_ret | apply x_pass_exit | apply x_exit | apply x_ret | apply x_skip | apply x_label | apply x_join_ret | apply x_join_exit)
    | ((with_reducible apply d_end); kernel_rfl)
    | ((with_reducible apply x_region); exact sdH32)
    | ((with_reducible apply x_regionD); kernel_rfl; exact sdH32; exact sdH32)
    | ((with_reducible first | apply x_leave_exit | apply x_condT); exact sdH32)
    | ((with_reducible apply x_condF); exact sdH32)
    | ((first | ((with_reducible apply x_condB); exact sdH32) | ((with_reducible first | apply o_gB | apply d_gB); exact sdH32; exact sdH32)); all_goals intro hc; all_goals (try simp only [decide_eq_true_eq, decide_eq_false_iff_not, Bool.not_eq_true', Bool.not_eq_false', Bool.and_eq_true, Bool.or_eq_false_iff, Classical.not_not] at hc); all_goals (try (exfalso; omega)))
    | ((with_reducible apply x_end); (first | exact .inl rfl | exact .inr rfl); exact sdH32; exact sdH32))
          all_goals (first | exact ⟨rfl, rfl⟩ | trace_state)
      · have hlt' : ¬ (i : Int) < s.tabs.length := by omega
        rw [List.drop_of_length_le (by omega)] at hv
        have hv' : s.lim = true := hv
        repeat' (first
    | ((with_reducible first | apply o_some | apply o_none | apply x_joined); exact sdH3; exact sdH3)
    | ((with_reducible first | apply d_some | apply d_none); exact sdH3; exact sdH3; exact sdH3)
    | ((with_reducible first | apply o_gT | apply d_gT); exact sdH3; exact sdH3)
    | ((with_reducible first | apply o_gF | apply d_gF); exact sdH3; exact sdH3; rfl)
    | ((with_reducible first | apply o_gU | apply d_gU); exact sdH3; exact sdH3)
    | ((with_reducible apply o_nilq); (exact ⟨by decide, by first | assumption | simp only [go_sem]⟩); exact sdH3; exact sdH3)
    | (with_reducible first | apply o_nil | apply x_next | apply x_seq | apply x_block | apply x_leave_normal | apply x_leave_ret | apply x_pass_ret | apply x_loop_exit | apply x_loop_ret | apply x_pass_exit | apply x_exit | apply x_ret | apply x_skip | apply x_label | apply x_join_ret | apply x_join_exit)
    | ((with_reducible apply d_end); kernel_rfl)
    | ((with_reducible apply x_region); exact sdH3)
    | ((with_reducible apply x_regionD); kernel_rfl; exact sdH3; exact sdH3)
    | ((with_reducible first | apply x_leave_exit | apply x_condT); exact sdH3)
    | ((with_reducible apply x_condF); exact sdH3)
    | ((first | ((with_reducible apply x_condB); exact sdH3) | ((with_reducible first | apply o_gB | apply d_gB); exact sdH3; exact sdH3)); all_goals intro hc; all_goals (try simp only [decide_eq_true_eq, decide_eq_false_iff_not, Bool.not_eq_true', Bool.not_eq_false', Bool.and_eq_true, Bool.or_eq_false_iff, Classical.not_not] at hc); all_goals (try (exfalso; omega)))
    | ((with_reducible apply x_end); (first | exact .inl rfl | exact .inr rfl); exact sdH3; exact sdH3))
        all_goals (first | exact ⟨rfl, rfl⟩ | exact ⟨by rw [hv'], rfl⟩ | trace_state)
end Go.Proofs.Ytfdekggfdklfeaa
