/-
  Contracts: the reference's check of a predicate, its first functions.
-/
import Derived.Test.YtfdekggfdklfeaaF1
set_option linter.all false
set_option linter.unusedVariables false
set_option linter.unusedSimpArgs false
namespace Go.Proofs.Ytfdekggfdklfeaa
open Go.Ab
attribute [local irreducible] seqK blockK loopK endK
set_option maxRecDepth 10000
set_option maxHeartbeats 4000000
def colK (k : Int) : Bool := decide (k = 3) || decide (k = 4) || decide (k = 5)
theorem sdG4 {α : Type _} {a b : α} (h : a = b := by (first | (simp (maxSteps := 2000000) (disch := first | assumption | omega | (simp only [go_sem] <;> with_reducible rfl)) only [go_sem, ↓reduceIte, ↓reduceDIte, Nat.reduceEqDiff, reduceCtorEq, Nat.reduceAdd, Nat.reduceSub, Nat.reduceMul, Nat.reduceBEq, Nat.reduceBNe, Nat.reduceLeDiff, Nat.reduceLT, Int.reduceLT, Int.reduceLE, Int.reduceToNat, Int.reduceEq, Int.reduceNeg, Int.reduceAdd, Int.reduceSub, Int.reduceMul, Nat.reduceMod, Nat.reduceDiv, Nat.reducePow, BEq.rfl, gt_iff_lt, ge_iff_le, *] <;> with_reducible rfl) | with_reducible rfl)) : a = b := h
theorem sdG4p {a b : Nat} (h : a ≤ b := by (first | (simp (maxSteps := 2000000) (disch := first | assumption | omega | (simp only [go_sem] <;> with_reducible rfl)) only [go_sem, ↓reduceIte, ↓reduceDIte, Nat.reduceEqDiff, reduceCtorEq, Nat.reduceAdd, Nat.reduceSub, Nat.reduceMul, Nat.reduceBEq, Nat.reduceBNe, Nat.reduceLeDiff, Nat.reduceLT, Int.reduceLT, Int.reduceLE, Int.reduceToNat, Int.reduceEq, Int.reduceNeg, Int.reduceAdd, Int.reduceSub, Int.reduceMul, Nat.reduceMod, Nat.reduceDiv, Nat.reducePow, BEq.rfl, gt_iff_lt, ge_iff_le, *] <;> with_reducible rfl) | with_reducible rfl)) : a ≤ b := h
theorem c_colK (k : Int) : CallA Try.prog C (.func 55) {} [.d (.int .i64 k)] [] fun v hs => v = .d (.bool (colK k)) ∧ hs = [] := by
  refine call_func Try.func55 rfl (by decide) (by kernel_rfl) ⟨Nat.le_of_ble_eq_true rfl, Nat.le_of_ble_eq_true rfl⟩ ?_
  unfold colK
  repeat' (first
    | ((with_reducible first | apply o_some | apply o_none | apply x_joined); exact sdG4; exact sdG4)
    | ((with_reducible first | apply d_some | apply d_none); exact sdG4; exact sdG4; exact sdG4)
    | ((with_reducible first | apply o_gT | apply d_gT); exact sdG4; exact sdG4)
    | ((with_reducible first | apply o_gF | apply d_gF); exact sdG4; exact sdG4; rfl)
    | ((with_reducible first | apply o_gU | apply d_gU); exact sdG4; exact sdG4)
    | ((with_reducible apply o_nilq); (exact ⟨by decide, by first | assumption | simp only [go_sem]⟩); exact sdG4; exact sdG4)
    | (with_reducible first | apply o_nil | apply x_next | apply x_seq | apply x_block | apply x_leave_normal | apply x_leave_ret | apply x_pass_ret | apply x_loop_exit | apply x_loop_ret | apply x_pass_exit | apply x_exit | apply x_ret | apply x_skip | apply x_label | apply x_join_ret | apply x_join_exit)
    | ((with_reducible apply d_end); kernel_rfl)
    | ((with_reducible apply x_region); exact sdG4)
    | ((with_reducible apply x_regionD); kernel_rfl; exact sdG4; exact sdG4)
    | ((with_reducible first | apply x_leave_exit | apply x_condT); exact sdG4)
    | ((with_reducible apply x_condF); exact sdG4)
    | ((first | ((with_reducible apply x_condB); exact sdG4) | ((with_reducible first | apply o_gB | apply d_gB); exact sdG4; exact sdG4)); all_goals intro hc; all_goals (try simp only [decide_eq_true_eq, decide_eq_false_iff_not, Bool.not_eq_true', Bool.not_eq_false', Bool.and_eq_true, Bool.or_eq_false_iff, Classical.not_not] at hc); all_goals (try (exfalso; omega)))
    | ((with_reducible apply x_end); (first | exact .inl rfl | exact .inr rfl); exact sdG4; exact sdG4))
  all_goals (first | exact ⟨by simp [*], rfl⟩ | trace_state)
def colKs (l : List Int) : Bool := l.all colK
theorem sdG41 {α : Type _} {a b : α} (h : a = b := by (first | (simp (maxSteps := 2000000) (disch := first | assumption | omega | (simp only [go_sem] <;> with_reducible rfl)) only [go_sem, ↓reduceIte, ↓reduceDIte, Nat.reduceEqDiff, reduceCtorEq, Nat.reduceAdd, Nat.reduceSub, Nat.reduceMul, Nat.reduceBEq, Nat.reduceBNe, Nat.reduceLeDiff, Nat.reduceLT, Int.reduceLT, Int.reduceLE, Int.reduceToNat, Int.reduceEq, Int.reduceNeg, Int.reduceAdd, Int.reduceSub, Int.reduceMul, Nat.reduceMod, Nat.reduceDiv, Nat.reducePow, BEq.rfl, gt_iff_lt, ge_iff_le, *, Int.natCast_add, Int.natCast_one] <;> with_reducible rfl) | with_reducible rfl)) : a = b := h
theorem sdG41p {a b : Nat} (h : a ≤ b := by (first | (simp (maxSteps := 2000000) (disch := first | assumption | omega | (simp only [go_sem] <;> with_reducible rfl)) only [go_sem, ↓reduceIte, ↓reduceDIte, Nat.reduceEqDiff, reduceCtorEq, Nat.reduceAdd, Nat.reduceSub, Nat.reduceMul, Nat.reduceBEq, Nat.reduceBNe, Nat.reduceLeDiff, Nat.reduceLT, Int.reduceLT, Int.reduceLE, Int.reduceToNat, Int.reduceEq, Int.reduceNeg, Int.reduceAdd, Int.reduceSub, Int.reduceMul, Nat.reduceMod, Nat.reduceDiv, Nat.reducePow, BEq.rfl, gt_iff_lt, ge_iff_le, *, Int.natCast_add, Int.natCast_one] <;> with_reducible rfl) | with_reducible rfl)) : a ≤ b := h
theorem c_colKs (l : List Int) (hl : l.length ≤ 1000) : CallA Try.prog C (.func 50) {} [.d (.fsl (rowsI l) false false)] [] fun v hs => v = .d (.bool (colKs l)) ∧ hs = [] := by
  refine call_func Try.func50 rfl (by decide) (by kernel_rfl) ⟨Nat.le_of_ble_eq_true rfl, Nat.le_of_ble_eq_true rfl⟩ ?_
  repeat' (first
    | ((with_reducible first | apply o_some | apply o_none | apply x_joined); exact sdG4; exact sdG4)
    | ((with_reducible first | apply d_some | apply d_none); exact sdG4; exact sdG4; exact sdG4)
    | ((with_reducible first | apply o_gT | apply d_gT); exact sdG4; exact sdG4)
    | ((with_reducible first | apply o_gF | apply d_gF); exact sdG4; exact sdG4; rfl)
    | ((with_reducible first | apply o_gU | apply d_gU); exact sdG4; exact sdG4)
    | ((with_reducible apply o_nilq); (exact ⟨by decide, by first | assumption | simp only [go_sem]⟩); exact sdG4; exact sdG4)
    | (with_reducible first | apply o_nil | apply x_next | apply x_seq | apply x_block | apply x_leave_normal | apply x_leave_ret | apply x_pass_ret | apply x_loop_exit | apply x_loop_ret | apply x_pass_exit | apply x_exit | apply x_ret | apply x_skip | apply x_label | apply x_join_ret | apply x_join_exit)
    | ((with_reducible apply d_end); kernel_rfl)
    | ((with_reducible apply x_region); exact sdG4)
    | ((with_reducible apply x_regionD); kernel_rfl; exact sdG4; exact sdG4)
    | ((with_reducible first | apply x_leave_exit | apply x_condT); exact sdG4)
    | ((with_reducible apply x_condF); exact sdG4)
    | ((first | ((with_reducible apply x_condB); exact sdG4) | ((with_reducible first | apply o_gB | apply d_gB); exact sdG4; exact sdG4)); all_goals intro hc; all_goals (try simp only [decide_eq_true_eq, decide_eq_false_iff_not, Bool.not_eq_true', Bool.not_eq_false', Bool.and_eq_true, Bool.or_eq_false_iff, Classical.not_not] at hc); all_goals (try (exfalso; omega)))
    | ((with_reducible apply x_end); (first | exact .inl rfl | exact .inr rfl); exact sdG4; exact sdG4))
  · refine x_loopG { ownRes := true } [5, 6, 7] (fun i : Nat => [(5, .d (.fsl (rowsI l) false false)), (6, .d (.int .i64 l.length)), (7, .d (.int .i64 i))]) (fun _ => []) (fun i => i ≤ l.length ∧ colKs l = colKs (l.drop i)) (fun i => l.length - i) 0 ?_ ⟨by omega, rfl⟩ ?_
    · exact sdG4
    · rintro i ⟨hi, hk⟩
      by_cases hlt : i < l.length
      · have hlt' : (i : Int) < l.length := by omega
        have hgi : l[i]? = some l[i] := List.getElem?_eq_getElem hlt
        have hd : l.drop i = l[i] :: l.drop (i + 1) := List.drop_eq_getElem_cons hlt
        generalize l[i] = x at hgi hd
        have hks : colKs l = (colK x && colKs (l.drop (i + 1))) := by rw [hk, hd]; rfl
        cases hx : colK x with
        | true =>
          repeat' (first
    | ((with_reducible first | apply o_some | apply o_none | apply x_joined); exact sdG4; exact sdG4)
    | ((with_reducible first | apply d_some | apply d_none); exact sdG4; exact sdG4; exact sdG4)
    | ((with_reducible first | apply o_gT | apply d_gT); exact sdG4; exact sdG4)
    | ((with_reducible first | apply o_gF | apply d_gF); exact sdG4; exact sdG4; rfl)
    | ((with_reducible first | apply o_gU | apply d_gU); exact sdG4; exact sdG4)
    | ((with_reducible apply o_nilq); (exact ⟨by decide, by first | assumption | simp only [go_sem]⟩); exact sdG4; exact sdG4)
    | (with_reducible first | apply o_nil | apply x_next | apply x_seq | apply x_block | apply x_leave_normal | apply x_leave_ret | apply x_pass_ret | apply x_loop_exit | apply x_loop_ret | apply x_pass_exit | apply x_exit | apply x_ret | apply x_skip | apply x_label | apply x_join_ret | apply x_join_exit)
    | ((with_reducible apply d_end); kernel_rfl)
    | ((with_reducible apply x_region); exact sdG4)
    | ((with_reducible apply x_regionD); kernel_rfl; exact sdG4; exact sdG4)
    | ((with_reducible first | apply x_leave_exit | apply x_condT); exact sdG4)
    | ((with_reducible apply x_condF); exact sdG4)
    | ((first | ((with_reducible apply x_condB); exact sdG4) | ((with_reducible first | apply o_gB | apply d_gB); exact sdG4; exact sdG4)); all_goals intro hc; all_goals (try simp only [decide_eq_true_eq, decide_eq_false_iff_not, Bool.not_eq_true', Bool.not_eq_false', Bool.and_eq_true, Bool.or_eq_false_iff, Classical.not_not] at hc); all_goals (try (exfalso; omega)))
    | ((with_reducible apply o_call); exact sdG4; exact sdG4; exact sdG4; (first | exact c_colK x); exact sdG4; exact sdG4)
    | ((with_reducible apply o_callN); exact sdG4; exact sdG4; exact sdG4; (first | exact c_colK x); exact sdG4)
    | ((with_reducible apply d_callS); exact sdG4; exact sdG4; exact sdG4; (first | exact c_colK x); exact sdG4p; exact sdG4; exact sdG4; exact sdG4; exact sdG4)
    | ((with_reducible apply x_end); (first | exact .inl rfl | exact .inr rfl); exact sdG4; exact sdG4))
          refine x_again (i + 1) ⟨by omega, by rw [hks, hx]; rfl⟩ (by omega) ?_
          exact sdG41
        | false =>
          repeat' (first
    | ((with_reducible first | apply o_some | apply o_none | apply x_joined); exact sdG4; exact sdG4)
    | ((with_reducible first | apply d_some | apply d_none); exact sdG4; exact sdG4; exact sdG4)
    | ((with_reducible first | apply o_gT | apply d_gT); exact sdG4; exact sdG4)
    | ((with_reducible first | apply o_gF | apply d_gF); exact sdG4; exact sdG4; rfl)
    | ((with_reducible first | apply o_gU | apply d_gU); exact sdG4; exact sdG4)
    | ((with_reducible apply o_nilq); (exact ⟨by decide, by first | assumption | simp only [go_sem]⟩); exact sdG4; exact sdG4)
    | (with_reducible first | apply o_nil | apply x_next | apply x_seq | apply x_block | apply x_leave_normal | apply x_leave_ret | apply x_pass_ret | apply x_loop_exit | apply x_loop_ret | apply x_pass_exit | apply x_exit | apply x_ret | apply x_skip | apply x_label | apply x_join_ret | apply x_join_exit)
    | ((with_reducible apply d_end); kernel_rfl)
    | ((with_reducible apply x_region); exact sdG4)
    | ((with_reducible apply x_regionD); kernel_rfl; exact sdG4; exact sdG4)
    | ((with_reducible first | apply x_leave_exit | apply x_condT); exact sdG4)
    | ((with_reducible apply x_condF); exact sdG4)
    | ((first | ((with_reducible apply x_condB); exact sdG4) | ((with_reducible first | apply o_gB | apply d_gB); exact sdG4; exact sdG4)); all_goals intro hc; all_goals (try simp only [decide_eq_true_eq, decide_eq_false_iff_not, Bool.not_eq_true', Bool.not_eq_false', Bool.and_eq_true, Bool.or_eq_false_iff, Classical.not_not] at hc); all_goals (try (exfalso; omega)))
    | ((with_reducible apply o_call); exact sdG4; exact sdG4; exact sdG4; (first | exact c_colK x); exact sdG4; exact sdG4)
    | ((with_reducible apply o_callN); exact sdG4; exact sdG4; exact sdG4; (first | exact c_colK x); exact sdG4)
    | ((with_reducible apply d_callS); exact sdG4; exact sdG4; exact sdG4; (first | exact c_colK x); exact sdG4p; exact sdG4; exact sdG4; exact sdG4; exact sdG4)
    | ((with_reducible apply x_end); (first | exact .inl rfl | exact .inr rfl); exact sdG4; exact sdG4))
          exact ⟨by rw [hks, hx]; rfl, rfl⟩
      · have hlt' : ¬ (i : Int) < l.length := by omega
        repeat' (first
    | ((with_reducible first | apply o_some | apply o_none | apply x_joined); exact sdG4; exact sdG4)
    | ((with_reducible first | apply d_some | apply d_none); exact sdG4; exact sdG4; exact sdG4)
    | ((with_reducible first | apply o_gT | apply d_gT); exact sdG4; exact sdG4)
    | ((with_reducible first | apply o_gF | apply d_gF); exact sdG4; exact sdG4; rfl)
    | ((with_reducible first | apply o_gU | apply d_gU); exact sdG4; exact sdG4)
    | ((with_reducible apply o_nilq); (exact ⟨by decide, by first | assumption | simp only [go_sem]⟩); exact sdG4; exact sdG4)
    | (with_reducible first | apply o_nil | apply x_next | apply x_seq | apply x_block | apply x_leave_normal | apply x_leave_ret | apply x_pass_ret | apply x_loop_exit | apply x_loop_ret | apply x_pass_exit | apply x_exit | apply x_ret | apply x_skip | apply x_label | apply x_join_ret | apply x_join_exit)
    | ((with_reducible apply d_end); kernel_rfl)
    | ((with_reducible apply x_region); exact sdG4)
    | ((with_reducible apply x_regionD); kernel_rfl; exact sdG4; exact sdG4)
    | ((with_reducible first | apply x_leave_exit | apply x_condT); exact sdG4)
    | ((with_reducible apply x_condF); exact sdG4)
    | ((first | ((with_reducible apply x_condB); exact sdG4) | ((with_reducible first | apply o_gB | apply d_gB); exact sdG4; exact sdG4)); all_goals intro hc; all_goals (try simp only [decide_eq_true_eq, decide_eq_false_iff_not, Bool.not_eq_true', Bool.not_eq_false', Bool.and_eq_true, Bool.or_eq_false_iff, Classical.not_not] at hc); all_goals (try (exfalso; omega)))
    | ((with_reducible apply x_end); (first | exact .inl rfl | exact .inr rfl); exact sdG4; exact sdG4))
        have he : i = l.length := by omega
        rw [he, List.drop_length] at hk
        exact ⟨by rw [hk]; rfl, rfl⟩
/-- no comparison -/
def Val.z (v : Val) : Bool := decide (v.k = 0) && (decide (v.i = 0) && decide (v.t = ⟨#[]⟩))
def Opd.z (o : Opd) : Bool := decide (o.k = 0) && (decide (o.ix = 0) && (decide (o.v.k = 0) && (decide (o.v.i = 0) && decide (o.v.t = ⟨#[]⟩))))
@[go_sem] theorem Opd.z_fold {o : Opd} : (decide (o.k = 0) && (decide (o.ix = 0) && o.v.z)) = o.z := rfl
@[go_sem] theorem Val.z_fold {v : Val} : (decide (v.k = 0) && (decide (v.i = 0) && decide (v.t = ⟨#[]⟩))) = v.z := rfl
def Pred.plain : Pred → Bool
  | .mk _ cmp l r _ => decide (cmp = 0) && l.z && r.z
theorem sdG42 {α : Type _} {a b : α} (h : a = b := by (first | (simp (maxSteps := 2000000) (disch := first | assumption | omega | (simp only [go_sem] <;> with_reducible rfl)) only [go_sem, ↓reduceIte, ↓reduceDIte, Nat.reduceEqDiff, reduceCtorEq, Nat.reduceAdd, Nat.reduceSub, Nat.reduceMul, Nat.reduceBEq, Nat.reduceBNe, Nat.reduceLeDiff, Nat.reduceLT, Int.reduceLT, Int.reduceLE, Int.reduceToNat, Int.reduceEq, Int.reduceNeg, Int.reduceAdd, Int.reduceSub, Int.reduceMul, Nat.reduceMod, Nat.reduceDiv, Nat.reducePow, BEq.rfl, gt_iff_lt, ge_iff_le, *, Pred.cellsL_eq] <;> with_reducible rfl) | with_reducible rfl)) : a = b := h
theorem sdG42p {a b : Nat} (h : a ≤ b := by (first | (simp (maxSteps := 2000000) (disch := first | assumption | omega | (simp only [go_sem] <;> with_reducible rfl)) only [go_sem, ↓reduceIte, ↓reduceDIte, Nat.reduceEqDiff, reduceCtorEq, Nat.reduceAdd, Nat.reduceSub, Nat.reduceMul, Nat.reduceBEq, Nat.reduceBNe, Nat.reduceLeDiff, Nat.reduceLT, Int.reduceLT, Int.reduceLE, Int.reduceToNat, Int.reduceEq, Int.reduceNeg, Int.reduceAdd, Int.reduceSub, Int.reduceMul, Nat.reduceMod, Nat.reduceDiv, Nat.reducePow, BEq.rfl, gt_iff_lt, ge_iff_le, *, Pred.cellsL_eq] <;> with_reducible rfl) | with_reducible rfl)) : a ≤ b := h
theorem c_plain (p : Pred) : CallA Try.prog C (.func 56) {} [.agg (p.cells.map .d)] [] fun v hs => v = .d (.bool p.plain) ∧ hs = [] := by
  refine call_func Try.func56 rfl (by decide) (by kernel_rfl) ⟨Nat.le_of_ble_eq_true rfl, Nat.le_of_ble_eq_true rfl⟩ ?_
  obtain ⟨op, cmp, l, r, args⟩ := p
  unfold Pred.plain Pred.cells
  repeat' (first
    | ((with_reducible first | apply o_some | apply o_none | apply x_joined); exact sdG42; exact sdG42)
    | ((with_reducible first | apply d_some | apply d_none); exact sdG42; exact sdG42; exact sdG42)
    | ((with_reducible first | apply o_gT | apply d_gT); exact sdG42; exact sdG42)
    | ((with_reducible first | apply o_gF | apply d_gF); exact sdG42; exact sdG42; rfl)
    | ((with_reducible first | apply o_gU | apply d_gU); exact sdG42; exact sdG42)
    | ((with_reducible apply o_nilq); (exact ⟨by decide, by first | assumption | simp only [go_sem]⟩); exact sdG42; exact sdG42)
    | (with_reducible first | apply o_nil | apply x_next | apply x_seq | apply x_block | apply x_leave_normal | apply x_leave_ret | apply x_pass_ret | apply x_loop_exit | apply x_loop_ret | apply x_pass_exit | apply x_exit | apply x_ret | apply x_skip | apply x_label | apply x_join_ret | apply x_join_exit)
    | ((with_reducible apply d_end); kernel_rfl)
    | ((with_reducible apply x_region); exact sdG42)
    | ((with_reducible apply x_regionD); kernel_rfl; exact sdG42; exact sdG42)
    | ((with_reducible first | apply x_leave_exit | apply x_condT); exact sdG42)
    | ((with_reducible apply x_condF); exact sdG42)
    | ((first | ((with_reducible apply x_condB); exact sdG42) | ((with_reducible first | apply o_gB | apply d_gB); exact sdG42; exact sdG42)); all_goals intro hc; all_goals (try simp only [decide_eq_true_eq, decide_eq_false_iff_not, Bool.not_eq_true', Bool.not_eq_false', Bool.and_eq_true, Bool.or_eq_false_iff, Classical.not_not] at hc); all_goals (try (exfalso; omega)))
    | ((with_reducible apply x_end); (first | exact .inl rfl | exact .inr rfl); exact sdG42; exact sdG42))
  all_goals (first | exact ⟨rfl, rfl⟩ | exact ⟨by simp [*], rfl⟩ | exact ⟨by simp_all, rfl⟩ | trace_state)
def Val.ok (v : Val) : Bool := if v.k = 1 ∨ v.k = 2 then decide (v.i = 0) && decide (v.t = ⟨#[]⟩) else if v.k = 3 then (decide (v.i = 0) || decide (v.i = 1)) && decide (v.t = ⟨#[]⟩) else
  if v.k = 4 then decide (v.t = ⟨#[]⟩) else if v.k = 5 then decide (v.i = 0) && decide ((v.t.size : Int) ≤ 64) else false
theorem sdG43 {α : Type _} {a b : α} (h : a = b := by (first | (simp (maxSteps := 2000000) (disch := first | assumption | omega | (simp only [go_sem] <;> with_reducible rfl)) only [go_sem, ↓reduceIte, ↓reduceDIte, Nat.reduceEqDiff, reduceCtorEq, Nat.reduceAdd, Nat.reduceSub, Nat.reduceMul, Nat.reduceBEq, Nat.reduceBNe, Nat.reduceLeDiff, Nat.reduceLT, Int.reduceLT, Int.reduceLE, Int.reduceToNat, Int.reduceEq, Int.reduceNeg, Int.reduceAdd, Int.reduceSub, Int.reduceMul, Nat.reduceMod, Nat.reduceDiv, Nat.reducePow, BEq.rfl, gt_iff_lt, ge_iff_le, *, Val.cells] <;> with_reducible rfl) | with_reducible rfl)) : a = b := h
theorem sdG43p {a b : Nat} (h : a ≤ b := by (first | (simp (maxSteps := 2000000) (disch := first | assumption | omega | (simp only [go_sem] <;> with_reducible rfl)) only [go_sem, ↓reduceIte, ↓reduceDIte, Nat.reduceEqDiff, reduceCtorEq, Nat.reduceAdd, Nat.reduceSub, Nat.reduceMul, Nat.reduceBEq, Nat.reduceBNe, Nat.reduceLeDiff, Nat.reduceLT, Int.reduceLT, Int.reduceLE, Int.reduceToNat, Int.reduceEq, Int.reduceNeg, Int.reduceAdd, Int.reduceSub, Int.reduceMul, Nat.reduceMod, Nat.reduceDiv, Nat.reducePow, BEq.rfl, gt_iff_lt, ge_iff_le, *, Val.cells] <;> with_reducible rfl) | with_reducible rfl)) : a ≤ b := h
theorem c_valid01 (v : Val) : CallA Try.prog C (.func 59) {} [.agg (v.cells.map .d)] [] fun x hs => x = .d (.bool v.ok) ∧ hs = [] := by
  refine call_func Try.func59 rfl (by decide) (by kernel_rfl) ⟨Nat.le_of_ble_eq_true rfl, Nat.le_of_ble_eq_true rfl⟩ ?_
  unfold Val.ok
  repeat' (first
    | ((with_reducible first | apply o_some | apply o_none | apply x_joined); exact sdG43; exact sdG43)
    | ((with_reducible first | apply d_some | apply d_none); exact sdG43; exact sdG43; exact sdG43)
    | ((with_reducible first | apply o_gT | apply d_gT); exact sdG43; exact sdG43)
    | ((with_reducible first | apply o_gF | apply d_gF); exact sdG43; exact sdG43; rfl)
    | ((with_reducible first | apply o_gU | apply d_gU); exact sdG43; exact sdG43)
    | ((with_reducible apply o_nilq); (exact ⟨by decide, by first | assumption | simp only [go_sem]⟩); exact sdG43; exact sdG43)
    | (with_reducible first | apply o_nil | apply x_next | apply x_seq | apply x_block | apply x_leave_normal | apply x_leave_ret | apply x_pass_ret | apply x_loop_exit | apply x_loop_ret | apply x_pass_exit | apply x_exit | apply x_ret | apply x_skip | apply x_label | apply x_join_ret | apply x_join_exit)
    | ((with_reducible apply d_end); kernel_rfl)
    | ((with_reducible apply x_region); exact sdG43)
    | ((with_reducible apply x_regionD); kernel_rfl; exact sdG43; exact sdG43)
    | ((with_reducible first | apply x_leave_exit | apply x_condT); exact sdG43)
    | ((with_reducible apply x_condF); exact sdG43)
    | ((first | ((with_reducible apply x_condB); exact sdG43) | ((with_reducible first | apply o_gB | apply d_gB); exact sdG43; exact sdG43)); all_goals intro hc; all_goals (try simp only [decide_eq_true_eq, decide_eq_false_iff_not, Bool.not_eq_true', Bool.not_eq_false', Bool.and_eq_true, Bool.or_eq_false_iff, Classical.not_not] at hc); all_goals (try (exfalso; omega)))
    | ((with_reducible apply x_end); (first | exact .inl rfl | exact .inr rfl); exact sdG43; exact sdG43))
  all_goals (first | exact ⟨rfl, rfl⟩ | exact ⟨by simp [*], rfl⟩ | exact ⟨by simp_all, rfl⟩ | trace_state)
def Val.real (v : Val) : Bool := v.ok && decide (3 ≤ v.k)
theorem c_real (v : Val) : CallA Try.prog C (.func 58) {} [.agg (v.cells.map .d)] [] fun x hs => x = .d (.bool v.real) ∧ hs = [] := by
  refine call_func Try.func58 rfl (by decide) (by kernel_rfl) ⟨Nat.le_of_ble_eq_true rfl, Nat.le_of_ble_eq_true rfl⟩ ?_
  unfold Val.real
  repeat' (first
    | ((with_reducible first | apply o_some | apply o_none | apply x_joined); exact sdG43; exact sdG43)
    | ((with_reducible first | apply d_some | apply d_none); exact sdG43; exact sdG43; exact sdG43)
    | ((with_reducible first | apply o_gT | apply d_gT); exact sdG43; exact sdG43)
    | ((with_reducible first | apply o_gF | apply d_gF); exact sdG43; exact sdG43; rfl)
    | ((with_reducible first | apply o_gU | apply d_gU); exact sdG43; exact sdG43)
    | ((with_reducible apply o_nilq); (exact ⟨by decide, by first | assumption | simp only [go_sem]⟩); exact sdG43; exact sdG43)
    | (with_reducible first | apply o_nil | apply x_next | apply x_seq | apply x_block | apply x_leave_normal | apply x_leave_ret | apply x_pass_ret | apply x_loop_exit | apply x_loop_ret | apply x_pass_exit | apply x_exit | apply x_ret | apply x_skip | apply x_label | apply x_join_ret | apply x_join_exit)
    | ((with_reducible apply d_end); kernel_rfl)
    | ((with_reducible apply x_region); exact sdG43)
    | ((with_reducible apply x_regionD); kernel_rfl; exact sdG43; exact sdG43)
    | ((with_reducible first | apply x_leave_exit | apply x_condT); exact sdG43)
    | ((with_reducible apply x_condF); exact sdG43)
    | ((first | ((with_reducible apply x_condB); exact sdG43) | ((with_reducible first | apply o_gB | apply d_gB); exact sdG43; exact sdG43)); all_goals intro hc; all_goals (try simp only [decide_eq_true_eq, decide_eq_false_iff_not, Bool.not_eq_true', Bool.not_eq_false', Bool.and_eq_true, Bool.or_eq_false_iff, Classical.not_not] at hc); all_goals (try (exfalso; omega)))
    | ((with_reducible apply o_call); exact sdG43; exact sdG43; exact sdG43; (first | exact c_valid01 v); exact sdG43; exact sdG43)
    | ((with_reducible apply o_callN); exact sdG43; exact sdG43; exact sdG43; (first | exact c_valid01 v); exact sdG43)
    | ((with_reducible apply d_callS); exact sdG43; exact sdG43; exact sdG43; (first | exact c_valid01 v); exact sdG43p; exact sdG43; exact sdG43; exact sdG43; exact sdG43)
    | ((with_reducible apply x_end); (first | exact .inl rfl | exact .inr rfl); exact sdG43; exact sdG43))
  all_goals (first | exact ⟨rfl, rfl⟩ | exact ⟨by simp [*], rfl⟩ | exact ⟨by simp_all, rfl⟩ | trace_state)
def Opd.look (l : List Int) (o : Opd) : Int := if o.ix < 0 then 0 else if (l.length : Int) ≤ o.ix then 0 else if o.v.z = false then 0 else l.getD o.ix.toNat 0
def Opd.kind (cols params : List Int) (o : Opd) : Int := if o.k = 3 then (if ¬ o.ix = 0 then 0 else if o.v.real = false then 0 else o.v.k) else if o.k = 2 then o.look params else if o.k = 1 then o.look cols else 0
theorem sdG44 {α : Type _} {a b : α} (h : a = b := by (first | (simp (maxSteps := 2000000) (disch := first | assumption | omega | (simp only [go_sem] <;> with_reducible rfl)) only [go_sem, ↓reduceIte, ↓reduceDIte, Nat.reduceEqDiff, reduceCtorEq, Nat.reduceAdd, Nat.reduceSub, Nat.reduceMul, Nat.reduceBEq, Nat.reduceBNe, Nat.reduceLeDiff, Nat.reduceLT, Int.reduceLT, Int.reduceLE, Int.reduceToNat, Int.reduceEq, Int.reduceNeg, Int.reduceAdd, Int.reduceSub, Int.reduceMul, Nat.reduceMod, Nat.reduceDiv, Nat.reducePow, BEq.rfl, gt_iff_lt, ge_iff_le, *, Opd.cells] <;> with_reducible rfl) | with_reducible rfl)) : a = b := h
theorem sdG44p {a b : Nat} (h : a ≤ b := by (first | (simp (maxSteps := 2000000) (disch := first | assumption | omega | (simp only [go_sem] <;> with_reducible rfl)) only [go_sem, ↓reduceIte, ↓reduceDIte, Nat.reduceEqDiff, reduceCtorEq, Nat.reduceAdd, Nat.reduceSub, Nat.reduceMul, Nat.reduceBEq, Nat.reduceBNe, Nat.reduceLeDiff, Nat.reduceLT, Int.reduceLT, Int.reduceLE, Int.reduceToNat, Int.reduceEq, Int.reduceNeg, Int.reduceAdd, Int.reduceSub, Int.reduceMul, Nat.reduceMod, Nat.reduceDiv, Nat.reducePow, BEq.rfl, gt_iff_lt, ge_iff_le, *, Opd.cells] <;> with_reducible rfl) | with_reducible rfl)) : a ≤ b := h
theorem c_kind (cols params : List Int) (o : Opd) : CallA Try.prog C (.func 57) {} [.d (.fsl (rowsI cols) false false), .d (.fsl (rowsI params) false false), .agg (o.cells.map .d)] [] fun x hs => x = .d (.int .i64 (o.kind cols params)) ∧ hs = [] := by
  refine call_func Try.func57 rfl (by decide) (by kernel_rfl) ⟨Nat.le_of_ble_eq_true rfl, Nat.le_of_ble_eq_true rfl⟩ ?_
  unfold Opd.kind Opd.look
  have g1 : 0 ≤ o.ix → ¬ (cols.length : Int) ≤ o.ix → cols[o.ix.toNat]? = some (cols.getD o.ix.toNat 0) := fun h1 h2 => by
    have : o.ix.toNat < cols.length := by omega
    simp [this]
  have g2 : 0 ≤ o.ix → ¬ (params.length : Int) ≤ o.ix → params[o.ix.toNat]? = some (params.getD o.ix.toNat 0) := fun h1 h2 => by
    have : o.ix.toNat < params.length := by omega
    simp [this]
  by_cases h0 : o.ix < 0
  · repeat' (first
    | ((with_reducible first | apply o_some | apply o_none | apply x_joined); exact sdG44; exact sdG44)
    | ((with_reducible first | apply d_some | apply d_none); exact sdG44; exact sdG44; exact sdG44)
    | ((with_reducible first | apply o_gT | apply d_gT); exact sdG44; exact sdG44)
    | ((with_reducible first | apply o_gF | apply d_gF); exact sdG44; exact sdG44; rfl)
    | ((with_reducible first | apply o_gU | apply d_gU); exact sdG44; exact sdG44)
    | ((with_reducible apply o_nilq); (exact ⟨by decide, by first | assumption | simp only [go_sem]⟩); exact sdG44; exact sdG44)
    | (with_reducible first | apply o_nil | apply x_next | apply x_seq | apply x_block | apply x_leave_normal | apply x_leave_ret | apply x_pass_ret | apply x_loop_exit | apply x_loop_ret | apply x_pass_exit | apply x_exit | apply x_ret | apply x_skip | apply x_label | apply x_join_ret | apply x_join_exit)
    | ((with_reducible apply d_end); kernel_rfl)
    | ((with_reducible apply x_region); exact sdG44)
    | ((with_reducible apply x_regionD); kernel_rfl; exact sdG44; exact sdG44)
    | ((with_reducible first | apply x_leave_exit | apply x_condT); exact sdG44)
    | ((with_reducible apply x_condF); exact sdG44)
    | ((first | ((with_reducible apply x_condB); exact sdG44) | ((with_reducible first | apply o_gB | apply d_gB); exact sdG44; exact sdG44)); all_goals intro hc; all_goals (try simp only [decide_eq_true_eq, decide_eq_false_iff_not, Bool.not_eq_true', Bool.not_eq_false', Bool.and_eq_true, Bool.or_eq_false_iff, Classical.not_not] at hc); all_goals (try (exfalso; omega)))
    | ((with_reducible apply o_call); exact sdG44; exact sdG44; exact sdG44; (first | exact c_real o.v); exact sdG44; exact sdG44)
    | ((with_reducible apply o_callN); exact sdG44; exact sdG44; exact sdG44; (first | exact c_real o.v); exact sdG44)
    | ((with_reducible apply d_callS); exact sdG44; exact sdG44; exact sdG44; (first | exact c_real o.v); exact sdG44p; exact sdG44; exact sdG44; exact sdG44; exact sdG44)
    | ((with_reducible apply x_end); (first | exact .inl rfl | exact .inr rfl); exact sdG44; exact sdG44))
    all_goals (first | exact ⟨rfl, rfl⟩ | exact ⟨by simp [*], rfl⟩ | exact ⟨by simp_all, rfl⟩ | trace_state)
  · have h0' : 0 ≤ o.ix := by omega
    have g1 := g1 h0'
    have g2 := g2 h0'
    by_cases h1 : (cols.length : Int) ≤ o.ix
    · by_cases h2 : (params.length : Int) ≤ o.ix
      · clear g1 g2
        repeat' (first
    | ((with_reducible first | apply o_some | apply o_none | apply x_joined); exact sdG44; exact sdG44)
    | ((with_reducible first | apply d_some | apply d_none); exact sdG44; exact sdG44; exact sdG44)
    | ((with_reducible first | apply o_gT | apply d_gT); exact sdG44; exact sdG44)
    | ((with_reducible first | apply o_gF | apply d_gF); exact sdG44; exact sdG44; rfl)
    | ((with_reducible first | apply o_gU | apply d_gU); exact sdG44; exact sdG44)
    | ((with_reducible apply o_nilq); (exact ⟨by decide, by first | assumption | simp only [go_sem]⟩); exact sdG44; exact sdG44)
    | (with_reducible first | apply o_nil | apply x_next | apply x_seq | apply x_block | apply x_leave_normal | apply x_leave_ret | apply x_pass_ret | apply x_loop_exit | apply x_loop_ret | apply x_pass_exit | apply x_exit | apply x_ret | apply x_skip | apply x_label | apply x_join_ret | apply x_join_exit)
    | ((with_reducible apply d_end); kernel_rfl)
    | ((with_reducible apply x_region); exact sdG44)
    | ((with_reducible apply x_regionD); kernel_rfl; exact sdG44; exact sdG44)
    | ((with_reducible first | apply x_leave_exit | apply x_condT); exact sdG44)
    | ((with_reducible apply x_condF); exact sdG44)
    | ((first | ((with_reducible apply x_condB); exact sdG44) | ((with_reducible first | apply o_gB | apply d_gB); exact sdG44; exact sdG44)); all_goals intro hc; all_goals (try simp only [decide_eq_true_eq, decide_eq_false_iff_not, Bool.not_eq_true', Bool.not_eq_false', Bool.and_eq_true, Bool.or_eq_false_iff, Classical.not_not] at hc); all_goals (try (exfalso; omega)))
    | ((with_reducible apply o_call); exact sdG44; exact sdG44; exact sdG44; (first | exact c_real o.v); exact sdG44; exact sdG44)
    | ((with_reducible apply o_callN); exact sdG44; exact sdG44; exact sdG44; (first | exact c_real o.v); exact sdG44)
    | ((with_reducible apply d_callS); exact sdG44; exact sdG44; exact sdG44; (first | exact c_real o.v); exact sdG44p; exact sdG44; exact sdG44; exact sdG44; exact sdG44)
    | ((with_reducible apply x_end); (first | exact .inl rfl | exact .inr rfl); exact sdG44; exact sdG44))
        all_goals (first | exact ⟨rfl, rfl⟩ | exact ⟨by simp [*], rfl⟩ | exact ⟨by simp_all, rfl⟩ | trace_state)
      · have g2 := g2 h2
        clear g1
        have hl : o.ix.toNat < params.length := by omega
        repeat' (first
    | ((with_reducible first | apply o_some | apply o_none | apply x_joined); exact sdG44; exact sdG44)
    | ((with_reducible first | apply d_some | apply d_none); exact sdG44; exact sdG44; exact sdG44)
    | ((with_reducible first | apply o_gT | apply d_gT); exact sdG44; exact sdG44)
    | ((with_reducible first | apply o_gF | apply d_gF); exact sdG44; exact sdG44; rfl)
    | ((with_reducible first | apply o_gU | apply d_gU); exact sdG44; exact sdG44)
    | ((with_reducible apply o_nilq); (exact ⟨by decide, by first | assumption | simp only [go_sem]⟩); exact sdG44; exact sdG44)
    | (with_reducible first | apply o_nil | apply x_next | apply x_seq | apply x_block | apply x_leave_normal | apply x_leave_ret | apply x_pass_ret | apply x_loop_exit | apply x_loop_ret | apply x_pass_exit | apply x_exit | apply x_ret | apply x_skip | apply x_label | apply x_join_ret | apply x_join_exit)
    | ((with_reducible apply d_end); kernel_rfl)
    | ((with_reducible apply x_region); exact sdG44)
    | ((with_reducible apply x_regionD); kernel_rfl; exact sdG44; exact sdG44)
    | ((with_reducible first | apply x_leave_exit | apply x_condT); exact sdG44)
    | ((with_reducible apply x_condF); exact sdG44)
    | ((first | ((with_reducible apply x_condB); exact sdG44) | ((with_reducible first | apply o_gB | apply d_gB); exact sdG44; exact sdG44)); all_goals intro hc; all_goals (try simp only [decide_eq_true_eq, decide_eq_false_iff_not, Bool.not_eq_true', Bool.not_eq_false', Bool.and_eq_true, Bool.or_eq_false_iff, Classical.not_not] at hc); all_goals (try (exfalso; omega)))
    | ((with_reducible apply o_call); exact sdG44; exact sdG44; exact sdG44; (first | exact c_real o.v); exact sdG44; exact sdG44)
    | ((with_reducible apply o_callN); exact sdG44; exact sdG44; exact sdG44; (first | exact c_real o.v); exact sdG44)
    | ((with_reducible apply d_callS); exact sdG44; exact sdG44; exact sdG44; (first | exact c_real o.v); exact sdG44p; exact sdG44; exact sdG44; exact sdG44; exact sdG44)
    | ((with_reducible apply x_end); (first | exact .inl rfl | exact .inr rfl); exact sdG44; exact sdG44))
        all_goals (first | exact ⟨rfl, rfl⟩ | exact ⟨by simp [*], rfl⟩ | exact ⟨by simp_all, rfl⟩ | trace_state)
    · have g1 := g1 h1
      have hl : o.ix.toNat < cols.length := by omega
      by_cases h2 : (params.length : Int) ≤ o.ix
      · clear g2
        repeat' (first
    | ((with_reducible first | apply o_some | apply o_none | apply x_joined); exact sdG44; exact sdG44)
    | ((with_reducible first | apply d_some | apply d_none); exact sdG44; exact sdG44; exact sdG44)
    | ((with_reducible first | apply o_gT | apply d_gT); exact sdG44; exact sdG44)
    | ((with_reducible first | apply o_gF | apply d_gF); exact sdG44; exact sdG44; rfl)
    | ((with_reducible first | apply o_gU | apply d_gU); exact sdG44; exact sdG44)
    | ((with_reducible apply o_nilq); (exact ⟨by decide, by first | assumption | simp only [go_sem]⟩); exact sdG44; exact sdG44)
    | (with_reducible first | apply o_nil | apply x_next | apply x_seq | apply x_block | apply x_leave_normal | apply x_leave_ret | apply x_pass_ret | apply x_loop_exit | apply x_loop_ret | apply x_pass_exit | apply x_exit | apply x_ret | apply x_skip | apply x_label | apply x_join_ret | apply x_join_exit)
    | ((with_reducible apply d_end); kernel_rfl)
    | ((with_reducible apply x_region); exact sdG44)
    | ((with_reducible apply x_regionD); kernel_rfl; exact sdG44; exact sdG44)
    | ((with_reducible first | apply x_leave_exit | apply x_condT); exact sdG44)
    | ((with_reducible apply x_condF); exact sdG44)
    | ((first | ((with_reducible apply x_condB); exact sdG44) | ((with_reducible first | apply o_gB | apply d_gB); exact sdG44; exact sdG44)); all_goals intro hc; all_goals (try simp only [decide_eq_true_eq, decide_eq_false_iff_not, Bool.not_eq_true', Bool.not_eq_false', Bool.and_eq_true, Bool.or_eq_false_iff, Classical.not_not] at hc); all_goals (try (exfalso; omega)))
    | ((with_reducible apply o_call); exact sdG44; exact sdG44; exact sdG44; (first | exact c_real o.v); exact sdG44; exact sdG44)
    | ((with_reducible apply o_callN); exact sdG44; exact sdG44; exact sdG44; (first | exact c_real o.v); exact sdG44)
    | ((with_reducible apply d_callS); exact sdG44; exact sdG44; exact sdG44; (first | exact c_real o.v); exact sdG44p; exact sdG44; exact sdG44; exact sdG44; exact sdG44)
    | ((with_reducible apply x_end); (first | exact .inl rfl | exact .inr rfl); exact sdG44; exact sdG44))
        all_goals (first | exact ⟨rfl, rfl⟩ | exact ⟨by simp [*], rfl⟩ | exact ⟨by simp_all, rfl⟩ | trace_state)
      · have g2 := g2 h2
        have hl : o.ix.toNat < params.length := by omega
        repeat' (first
    | ((with_reducible first | apply o_some | apply o_none | apply x_joined); exact sdG44; exact sdG44)
    | ((with_reducible first | apply d_some | apply d_none); exact sdG44; exact sdG44; exact sdG44)
    | ((with_reducible first | apply o_gT | apply d_gT); exact sdG44; exact sdG44)
    | ((with_reducible first | apply o_gF | apply d_gF); exact sdG44; exact sdG44; rfl)
    | ((with_reducible first | apply o_gU | apply d_gU); exact sdG44; exact sdG44)
    | ((with_reducible apply o_nilq); (exact ⟨by decide, by first | assumption | simp only [go_sem]⟩); exact sdG44; exact sdG44)
    | (with_reducible first | apply o_nil | apply x_next | apply x_seq | apply x_block | apply x_leave_normal | apply x_leave_ret | apply x_pass_ret | apply x_loop_exit | apply x_loop_ret | apply x_pass_exit | apply x_exit | apply x_ret | apply x_skip | apply x_label | apply x_join_ret | apply x_join_exit)
    | ((with_reducible apply d_end); kernel_rfl)
    | ((with_reducible apply x_region); exact sdG44)
    | ((with_reducible apply x_regionD); kernel_rfl; exact sdG44; exact sdG44)
    | ((with_reducible first | apply x_leave_exit | apply x_condT); exact sdG44)
    | ((with_reducible apply x_condF); exact sdG44)
    | ((first | ((with_reducible apply x_condB); exact sdG44) | ((with_reducible first | apply o_gB | apply d_gB); exact sdG44; exact sdG44)); all_goals intro hc; all_goals (try simp only [decide_eq_true_eq, decide_eq_false_iff_not, Bool.not_eq_true', Bool.not_eq_false', Bool.and_eq_true, Bool.or_eq_false_iff, Classical.not_not] at hc); all_goals (try (exfalso; omega)))
    | ((with_reducible apply o_call); exact sdG44; exact sdG44; exact sdG44; (first | exact c_real o.v); exact sdG44; exact sdG44)
    | ((with_reducible apply o_callN); exact sdG44; exact sdG44; exact sdG44; (first | exact c_real o.v); exact sdG44)
    | ((with_reducible apply d_callS); exact sdG44; exact sdG44; exact sdG44; (first | exact c_real o.v); exact sdG44p; exact sdG44; exact sdG44; exact sdG44; exact sdG44)
    | ((with_reducible apply x_end); (first | exact .inl rfl | exact .inr rfl); exact sdG44; exact sdG44))
        all_goals (first | exact ⟨rfl, rfl⟩ | exact ⟨by simp [*], rfl⟩ | exact ⟨by simp_all, rfl⟩ | trace_state)
end Go.Proofs.Ytfdekggfdklfeaa
