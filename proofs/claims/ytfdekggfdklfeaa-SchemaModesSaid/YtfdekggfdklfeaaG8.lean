/-
  Contracts: the kinds of a table's columns.
-/
import Derived.Test.YtfdekggfdklfeaaF1
set_option linter.all false
set_option linter.unusedVariables false
set_option linter.unusedSimpArgs false
namespace Go.Proofs.Ytfdekggfdklfeaa
open Go.Ab
attribute [local irreducible] seqK blockK loopK endK
set_option maxRecDepth 10000
set_option maxHeartbeats 8000000
def Sch.kinds (s : Sch) (t : Int) : List Int := if t < 0 ∨ (s.tabs.length : Int) ≤ t then [] else match s.tabs[t.toNat]? with | some x => x.cols.map fun c => c.kind | none => []
theorem sdG80 {α : Type _} {a b : α} (h : a = b := by (first | (simp (maxSteps := 2000000) (disch := first | assumption | omega | (simp only [go_sem] <;> with_reducible rfl)) only [go_sem, ↓reduceIte, ↓reduceDIte, Nat.reduceEqDiff, reduceCtorEq, Nat.reduceAdd, Nat.reduceSub, Nat.reduceMul, Nat.reduceBEq, Nat.reduceBNe, Nat.reduceLeDiff, Nat.reduceLT, Int.reduceLT, Int.reduceLE, Int.reduceToNat, Int.reduceEq, Int.reduceNeg, Int.reduceAdd, Int.reduceSub, Int.reduceMul, Nat.reduceMod, Nat.reduceDiv, Nat.reducePow, BEq.rfl, gt_iff_lt, ge_iff_le, *, Sch.cells] <;> with_reducible rfl) | with_reducible rfl)) : a = b := h
theorem sdG80p {a b : Nat} (h : a ≤ b := by (first | (simp (maxSteps := 2000000) (disch := first | assumption | omega | (simp only [go_sem] <;> with_reducible rfl)) only [go_sem, ↓reduceIte, ↓reduceDIte, Nat.reduceEqDiff, reduceCtorEq, Nat.reduceAdd, Nat.reduceSub, Nat.reduceMul, Nat.reduceBEq, Nat.reduceBNe, Nat.reduceLeDiff, Nat.reduceLT, Int.reduceLT, Int.reduceLE, Int.reduceToNat, Int.reduceEq, Int.reduceNeg, Int.reduceAdd, Int.reduceSub, Int.reduceMul, Nat.reduceMod, Nat.reduceDiv, Nat.reducePow, BEq.rfl, gt_iff_lt, ge_iff_le, *, Sch.cells] <;> with_reducible rfl) | with_reducible rfl)) : a ≤ b := h
theorem sdG81 {α : Type _} {a b : α} (h : a = b := by (first | (simp (maxSteps := 2000000) (disch := first | assumption | omega | (simp only [go_sem] <;> with_reducible rfl)) only [go_sem, ↓reduceIte, ↓reduceDIte, Nat.reduceEqDiff, reduceCtorEq, Nat.reduceAdd, Nat.reduceSub, Nat.reduceMul, Nat.reduceBEq, Nat.reduceBNe, Nat.reduceLeDiff, Nat.reduceLT, Int.reduceLT, Int.reduceLE, Int.reduceToNat, Int.reduceEq, Int.reduceNeg, Int.reduceAdd, Int.reduceSub, Int.reduceMul, Nat.reduceMod, Nat.reduceDiv, Nat.reducePow, BEq.rfl, gt_iff_lt, ge_iff_le, *, Sch.cells, Tab.cells] <;> with_reducible rfl) | with_reducible rfl)) : a = b := h
theorem sdG81p {a b : Nat} (h : a ≤ b := by (first | (simp (maxSteps := 2000000) (disch := first | assumption | omega | (simp only [go_sem] <;> with_reducible rfl)) only [go_sem, ↓reduceIte, ↓reduceDIte, Nat.reduceEqDiff, reduceCtorEq, Nat.reduceAdd, Nat.reduceSub, Nat.reduceMul, Nat.reduceBEq, Nat.reduceBNe, Nat.reduceLeDiff, Nat.reduceLT, Int.reduceLT, Int.reduceLE, Int.reduceToNat, Int.reduceEq, Int.reduceNeg, Int.reduceAdd, Int.reduceSub, Int.reduceMul, Nat.reduceMod, Nat.reduceDiv, Nat.reducePow, BEq.rfl, gt_iff_lt, ge_iff_le, *, Sch.cells, Tab.cells] <;> with_reducible rfl) | with_reducible rfl)) : a ≤ b := h
theorem sdG8 {α : Type _} {a b : α} (h : a = b := by (first | (simp (maxSteps := 2000000) (disch := first | assumption | omega | (simp only [go_sem] <;> with_reducible rfl)) only [go_sem, ↓reduceIte, ↓reduceDIte, Nat.reduceEqDiff, reduceCtorEq, Nat.reduceAdd, Nat.reduceSub, Nat.reduceMul, Nat.reduceBEq, Nat.reduceBNe, Nat.reduceLeDiff, Nat.reduceLT, Int.reduceLT, Int.reduceLE, Int.reduceToNat, Int.reduceEq, Int.reduceNeg, Int.reduceAdd, Int.reduceSub, Int.reduceMul, Nat.reduceMod, Nat.reduceDiv, Nat.reducePow, BEq.rfl, gt_iff_lt, ge_iff_le, *] <;> with_reducible rfl) | with_reducible rfl)) : a = b := h
theorem sdG8p {a b : Nat} (h : a ≤ b := by (first | (simp (maxSteps := 2000000) (disch := first | assumption | omega | (simp only [go_sem] <;> with_reducible rfl)) only [go_sem, ↓reduceIte, ↓reduceDIte, Nat.reduceEqDiff, reduceCtorEq, Nat.reduceAdd, Nat.reduceSub, Nat.reduceMul, Nat.reduceBEq, Nat.reduceBNe, Nat.reduceLeDiff, Nat.reduceLT, Int.reduceLT, Int.reduceLE, Int.reduceToNat, Int.reduceEq, Int.reduceNeg, Int.reduceAdd, Int.reduceSub, Int.reduceMul, Nat.reduceMod, Nat.reduceDiv, Nat.reducePow, BEq.rfl, gt_iff_lt, ge_iff_le, *] <;> with_reducible rfl) | with_reducible rfl)) : a ≤ b := h
theorem sdG83 {α : Type _} {a b : α} (h : a = b := by (first | (simp (maxSteps := 2000000) (disch := first | assumption | omega | (simp only [go_sem] <;> with_reducible rfl)) only [go_sem, ↓reduceIte, ↓reduceDIte, Nat.reduceEqDiff, reduceCtorEq, Nat.reduceAdd, Nat.reduceSub, Nat.reduceMul, Nat.reduceBEq, Nat.reduceBNe, Nat.reduceLeDiff, Nat.reduceLT, Int.reduceLT, Int.reduceLE, Int.reduceToNat, Int.reduceEq, Int.reduceNeg, Int.reduceAdd, Int.reduceSub, Int.reduceMul, Nat.reduceMod, Nat.reduceDiv, Nat.reducePow, BEq.rfl, gt_iff_lt, ge_iff_le, *, Col.cells, Int.natCast_zero] <;> with_reducible rfl) | with_reducible rfl)) : a = b := h
theorem sdG83p {a b : Nat} (h : a ≤ b := by (first | (simp (maxSteps := 2000000) (disch := first | assumption | omega | (simp only [go_sem] <;> with_reducible rfl)) only [go_sem, ↓reduceIte, ↓reduceDIte, Nat.reduceEqDiff, reduceCtorEq, Nat.reduceAdd, Nat.reduceSub, Nat.reduceMul, Nat.reduceBEq, Nat.reduceBNe, Nat.reduceLeDiff, Nat.reduceLT, Int.reduceLT, Int.reduceLE, Int.reduceToNat, Int.reduceEq, Int.reduceNeg, Int.reduceAdd, Int.reduceSub, Int.reduceMul, Nat.reduceMod, Nat.reduceDiv, Nat.reducePow, BEq.rfl, gt_iff_lt, ge_iff_le, *, Col.cells, Int.natCast_zero] <;> with_reducible rfl) | with_reducible rfl)) : a ≤ b := h
theorem sdG84 {α : Type _} {a b : α} (h : a = b := by (first | (simp (maxSteps := 2000000) (disch := first | assumption | omega | (simp only [go_sem] <;> with_reducible rfl)) only [go_sem, ↓reduceIte, ↓reduceDIte, Nat.reduceEqDiff, reduceCtorEq, Nat.reduceAdd, Nat.reduceSub, Nat.reduceMul, Nat.reduceBEq, Nat.reduceBNe, Nat.reduceLeDiff, Nat.reduceLT, Int.reduceLT, Int.reduceLE, Int.reduceToNat, Int.reduceEq, Int.reduceNeg, Int.reduceAdd, Int.reduceSub, Int.reduceMul, Nat.reduceMod, Nat.reduceDiv, Nat.reducePow, BEq.rfl, gt_iff_lt, ge_iff_le, *, Col.cells, Int.natCast_one] <;> with_reducible rfl) | with_reducible rfl)) : a = b := h
theorem sdG84p {a b : Nat} (h : a ≤ b := by (first | (simp (maxSteps := 2000000) (disch := first | assumption | omega | (simp only [go_sem] <;> with_reducible rfl)) only [go_sem, ↓reduceIte, ↓reduceDIte, Nat.reduceEqDiff, reduceCtorEq, Nat.reduceAdd, Nat.reduceSub, Nat.reduceMul, Nat.reduceBEq, Nat.reduceBNe, Nat.reduceLeDiff, Nat.reduceLT, Int.reduceLT, Int.reduceLE, Int.reduceToNat, Int.reduceEq, Int.reduceNeg, Int.reduceAdd, Int.reduceSub, Int.reduceMul, Nat.reduceMod, Nat.reduceDiv, Nat.reducePow, BEq.rfl, gt_iff_lt, ge_iff_le, *, Col.cells, Int.natCast_one] <;> with_reducible rfl) | with_reducible rfl)) : a ≤ b := h
theorem sdG85 {α : Type _} {a b : α} (h : a = b := by (first | (simp (maxSteps := 2000000) (disch := first | assumption | omega | (simp only [go_sem] <;> with_reducible rfl)) only [go_sem, ↓reduceIte, ↓reduceDIte, Nat.reduceEqDiff, reduceCtorEq, Nat.reduceAdd, Nat.reduceSub, Nat.reduceMul, Nat.reduceBEq, Nat.reduceBNe, Nat.reduceLeDiff, Nat.reduceLT, Int.reduceLT, Int.reduceLE, Int.reduceToNat, Int.reduceEq, Int.reduceNeg, Int.reduceAdd, Int.reduceSub, Int.reduceMul, Nat.reduceMod, Nat.reduceDiv, Nat.reducePow, BEq.rfl, gt_iff_lt, ge_iff_le, *, Col.cells] <;> with_reducible rfl) | with_reducible rfl)) : a = b := h
theorem sdG85p {a b : Nat} (h : a ≤ b := by (first | (simp (maxSteps := 2000000) (disch := first | assumption | omega | (simp only [go_sem] <;> with_reducible rfl)) only [go_sem, ↓reduceIte, ↓reduceDIte, Nat.reduceEqDiff, reduceCtorEq, Nat.reduceAdd, Nat.reduceSub, Nat.reduceMul, Nat.reduceBEq, Nat.reduceBNe, Nat.reduceLeDiff, Nat.reduceLT, Int.reduceLT, Int.reduceLE, Int.reduceToNat, Int.reduceEq, Int.reduceNeg, Int.reduceAdd, Int.reduceSub, Int.reduceMul, Nat.reduceMod, Nat.reduceDiv, Nat.reducePow, BEq.rfl, gt_iff_lt, ge_iff_le, *, Col.cells] <;> with_reducible rfl) | with_reducible rfl)) : a ≤ b := h
theorem sdG86 {α : Type _} {a b : α} (h : a = b := by (first | (simp (maxSteps := 2000000) (disch := first | assumption | omega | (simp only [go_sem] <;> with_reducible rfl)) only [go_sem, ↓reduceIte, ↓reduceDIte, Nat.reduceEqDiff, reduceCtorEq, Nat.reduceAdd, Nat.reduceSub, Nat.reduceMul, Nat.reduceBEq, Nat.reduceBNe, Nat.reduceLeDiff, Nat.reduceLT, Int.reduceLT, Int.reduceLE, Int.reduceToNat, Int.reduceEq, Int.reduceNeg, Int.reduceAdd, Int.reduceSub, Int.reduceMul, Nat.reduceMod, Nat.reduceDiv, Nat.reducePow, BEq.rfl, gt_iff_lt, ge_iff_le, *, Int.natCast_add, Int.natCast_one, List.map_append, Col.cells] <;> with_reducible rfl) | with_reducible rfl)) : a = b := h
theorem sdG86p {a b : Nat} (h : a ≤ b := by (first | (simp (maxSteps := 2000000) (disch := first | assumption | omega | (simp only [go_sem] <;> with_reducible rfl)) only [go_sem, ↓reduceIte, ↓reduceDIte, Nat.reduceEqDiff, reduceCtorEq, Nat.reduceAdd, Nat.reduceSub, Nat.reduceMul, Nat.reduceBEq, Nat.reduceBNe, Nat.reduceLeDiff, Nat.reduceLT, Int.reduceLT, Int.reduceLE, Int.reduceToNat, Int.reduceEq, Int.reduceNeg, Int.reduceAdd, Int.reduceSub, Int.reduceMul, Nat.reduceMod, Nat.reduceDiv, Nat.reducePow, BEq.rfl, gt_iff_lt, ge_iff_le, *, Int.natCast_add, Int.natCast_one, List.map_append, Col.cells] <;> with_reducible rfl) | with_reducible rfl)) : a ≤ b := h
theorem sdG87 {α : Type _} {a b : α} (h : a = b := by (first | (simp (maxSteps := 2000000) (disch := first | assumption | omega | (simp only [go_sem] <;> with_reducible rfl)) only [go_sem, ↓reduceIte, ↓reduceDIte, Nat.reduceEqDiff, reduceCtorEq, Nat.reduceAdd, Nat.reduceSub, Nat.reduceMul, Nat.reduceBEq, Nat.reduceBNe, Nat.reduceLeDiff, Nat.reduceLT, Int.reduceLT, Int.reduceLE, Int.reduceToNat, Int.reduceEq, Int.reduceNeg, Int.reduceAdd, Int.reduceSub, Int.reduceMul, Nat.reduceMod, Nat.reduceDiv, Nat.reducePow, BEq.rfl, gt_iff_lt, ge_iff_le, *, Int.natCast_zero] <;> with_reducible rfl) | with_reducible rfl)) : a = b := h
theorem sdG87p {a b : Nat} (h : a ≤ b := by (first | (simp (maxSteps := 2000000) (disch := first | assumption | omega | (simp only [go_sem] <;> with_reducible rfl)) only [go_sem, ↓reduceIte, ↓reduceDIte, Nat.reduceEqDiff, reduceCtorEq, Nat.reduceAdd, Nat.reduceSub, Nat.reduceMul, Nat.reduceBEq, Nat.reduceBNe, Nat.reduceLeDiff, Nat.reduceLT, Int.reduceLT, Int.reduceLE, Int.reduceToNat, Int.reduceEq, Int.reduceNeg, Int.reduceAdd, Int.reduceSub, Int.reduceMul, Nat.reduceMod, Nat.reduceDiv, Nat.reducePow, BEq.rfl, gt_iff_lt, ge_iff_le, *, Int.natCast_zero] <;> with_reducible rfl) | with_reducible rfl)) : a ≤ b := h
theorem c_kinds07 (s : Sch) (t : Int) (hB : ∀ x ∈ s.tabs, x.cols.length ≤ 1000000) : CallA Try.prog C (.func 15) {} [.agg (s.cells.map .d), .d (.int .i64 t)] [] fun v hs => v = .d (.fsl (rowsI (s.kinds t)) false false) ∧ hs = [] := by
  refine call_func Try.func15 rfl (by decide) (by kernel_rfl) ⟨Nat.le_of_ble_eq_true rfl, Nat.le_of_ble_eq_true rfl⟩ ?_
  unfold Sch.kinds
  by_cases h0 : t < 0
  · repeat' (first
    | ((with_reducible first | apply o_some | apply o_none | apply x_joined); exact sdG80; exact sdG80)
    | ((with_reducible first | apply d_some | apply d_none); exact sdG80; exact sdG80; exact sdG80)
    | ((with_reducible first | apply o_gT | apply d_gT); exact sdG80; exact sdG80)
    | ((with_reducible first | apply o_gF | apply d_gF); exact sdG80; exact sdG80; rfl)
    | ((with_reducible first | apply o_gU | apply d_gU); exact sdG80; exact sdG80)
    | ((with_reducible apply o_nilq); (exact ⟨by decide, by first | assumption | simp only [go_sem]⟩); exact sdG80; exact sdG80)
    | (with_reducible first | apply o_nil | apply x_next | apply x_seq | apply x_block | apply x_leave_normal | apply x_leave_ret | apply x_pass_ret | apply x_loop_exit | apply x_loop_ret | apply x_pass_exit | apply x_exit | apply x_ret | apply x_skip | apply x_label | apply x_join_ret | apply x_join_exit)
    | ((with_reducible apply d_end); kernel_rfl)
    | ((with_reducible apply x_region); exact sdG80)
    | ((with_reducible apply x_regionD); kernel_rfl; exact sdG80; exact sdG80)
    | ((with_reducible first | apply x_leave_exit | apply x_condT); exact sdG80)
    | ((with_reducible apply x_condF); exact sdG80)
    | ((first | ((with_reducible apply x_condB); exact sdG80) | ((with_reducible first | apply o_gB | apply d_gB); exact sdG80; exact sdG80)); all_goals intro hc; all_goals (try simp only [decide_eq_true_eq, decide_eq_false_iff_not, Bool.not_eq_true', Bool.not_eq_false', Bool.and_eq_true, Bool.or_eq_false_iff, Classical.not_not] at hc); all_goals (try (exfalso; omega)))
    | ((with_reducible apply x_end); (first | exact .inl rfl | exact .inr rfl); exact sdG80; exact sdG80))
    all_goals (first | exact ⟨rfl, rfl⟩ | exact ⟨by simp [*], rfl⟩ | exact ⟨by simp_all, rfl⟩ | trace_state)
  by_cases h1 : (s.tabs.length : Int) ≤ t
  · repeat' (first
    | ((with_reducible first | apply o_some | apply o_none | apply x_joined); exact sdG80; exact sdG80)
    | ((with_reducible first | apply d_some | apply d_none); exact sdG80; exact sdG80; exact sdG80)
    | ((with_reducible first | apply o_gT | apply d_gT); exact sdG80; exact sdG80)
    | ((with_reducible first | apply o_gF | apply d_gF); exact sdG80; exact sdG80; rfl)
    | ((with_reducible first | apply o_gU | apply d_gU); exact sdG80; exact sdG80)
    | ((with_reducible apply o_nilq); (exact ⟨by decide, by first | assumption | simp only [go_sem]⟩); exact sdG80; exact sdG80)
    | (with_reducible first | apply o_nil | apply x_next | apply x_seq | apply x_block | apply x_leave_normal | apply x_leave_ret | apply x_pass_ret | apply x_loop_exit | apply x_loop_ret | apply x_pass_exit | apply x_exit | apply x_ret | apply x_skip | apply x_label | apply x_join_ret | apply x_join_exit)
    | ((with_reducible apply d_end); kernel_rfl)
    | ((with_reducible apply x_region); exact sdG80)
    | ((with_reducible apply x_regionD); kernel_rfl; exact sdG80; exact sdG80)
    | ((with_reducible first | apply x_leave_exit | apply x_condT); exact sdG80)
    | ((with_reducible apply x_condF); exact sdG80)
    | ((first | ((with_reducible apply x_condB); exact sdG80) | ((with_reducible first | apply o_gB | apply d_gB); exact sdG80; exact sdG80)); all_goals intro hc; all_goals (try simp only [decide_eq_true_eq, decide_eq_false_iff_not, Bool.not_eq_true', Bool.not_eq_false', Bool.and_eq_true, Bool.or_eq_false_iff, Classical.not_not] at hc); all_goals (try (exfalso; omega)))
    | ((with_reducible apply x_end); (first | exact .inl rfl | exact .inr rfl); exact sdG80; exact sdG80))
    all_goals (first | exact ⟨rfl, rfl⟩ | exact ⟨by simp [*], rfl⟩ | exact ⟨by simp_all, rfl⟩ | trace_state)
  have h2 : t.toNat < s.tabs.length := by omega
  have h3 : 0 ≤ t := by omega
  have hgt : s.tabs[t.toNat]? = some s.tabs[t.toNat] := List.getElem?_eq_getElem h2
  have hx := hB _ (List.getElem_mem h2)
  generalize s.tabs[t.toNat] = x at hgt hx
  rw [if_neg (by omega), hgt]
  simp only
  have hbig : 1000000 < big := by decide
  repeat' (first
    | ((with_reducible first | apply o_some | apply o_none | apply x_joined); exact sdG81; exact sdG81)
    | ((with_reducible first | apply d_some | apply d_none); exact sdG81; exact sdG81; exact sdG81)
    | ((with_reducible first | apply o_gT | apply d_gT); exact sdG81; exact sdG81)
    | ((with_reducible first | apply o_gF | apply d_gF); exact sdG81; exact sdG81; rfl)
    | ((with_reducible first | apply o_gU | apply d_gU); exact sdG81; exact sdG81)
    | ((with_reducible apply o_nilq); (exact ⟨by decide, by first | assumption | simp only [go_sem]⟩); exact sdG81; exact sdG81)
    | (with_reducible first | apply o_nil | apply x_next | apply x_seq | apply x_block | apply x_leave_normal | apply x_leave_ret | apply x_pass_ret | apply x_loop_exit | apply x_loop_ret | apply x_pass_exit | apply x_exit | apply x_ret | apply x_skip | apply x_label | apply x_join_ret | apply x_join_exit)
    | ((with_reducible apply d_end); kernel_rfl)
    | ((with_reducible apply x_region); exact sdG81)
    | ((with_reducible apply x_regionD); kernel_rfl; exact sdG81; exact sdG81)
    | ((with_reducible first | apply x_leave_exit | apply x_condT); exact sdG81)
    | ((with_reducible apply x_condF); exact sdG81)
    | ((first | ((with_reducible apply x_condB); exact sdG81) | ((with_reducible first | apply o_gB | apply d_gB); exact sdG81; exact sdG81)); all_goals intro hc; all_goals (try simp only [decide_eq_true_eq, decide_eq_false_iff_not, Bool.not_eq_true', Bool.not_eq_false', Bool.and_eq_true, Bool.or_eq_false_iff, Classical.not_not] at hc); all_goals (try (exfalso; omega)))
    | ((with_reducible apply x_end); (first | exact .inl rfl | exact .inr rfl); exact sdG81; exact sdG81))
  refine x_loopG { ownRes := true } [5, 22, 23, 24] (fun (i : Nat) => [(5, match i with | 0 => .d .snil | j + 1 => .sl 0 0 (j + 1) false), (22, .d (.fsl (x.cols.map fun c => c.cells) false false)), (23, .d (.int .i64 x.cols.length)), (24, .d (.int .i64 i))])
    (fun i => match i with | 0 => [] | j + 1 => [some (.flat 1 (rowsI ((x.cols.take (j + 1)).map fun c => c.kind)))]) (fun i => i ≤ x.cols.length) (fun i => x.cols.length - i) 0 ?_ (by omega) ?_
  · exact sdG8
  · intro i hi
    by_cases hlt : i < x.cols.length
    · have hlt' : (i : Int) < x.cols.length := by omega
      have hgi : x.cols[i]? = some x.cols[i] := List.getElem?_eq_getElem hlt
      have hd : x.cols.take (i + 1) = x.cols.take i ++ [x.cols[i]] := List.take_succ_eq_append_getElem hlt
      generalize x.cols[i] = c at hgi hd
      rcases i with _ | j
      · repeat' (first
    | ((with_reducible first | apply o_some | apply o_none | apply x_joined); exact sdG83; exact sdG83)
    | ((with_reducible first | apply d_some | apply d_none); exact sdG83; exact sdG83; exact sdG83)
    | ((with_reducible first | apply o_gT | apply d_gT); exact sdG83; exact sdG83)
    | ((with_reducible first | apply o_gF | apply d_gF); exact sdG83; exact sdG83; rfl)
    | ((with_reducible first | apply o_gU | apply d_gU); exact sdG83; exact sdG83)
    | ((with_reducible apply o_nilq); (exact ⟨by decide, by first | assumption | simp only [go_sem]⟩); exact sdG83; exact sdG83)
    | (with_reducible first | apply o_nil | apply x_next | apply x_seq | apply x_block | apply x_leave_normal | apply x_leave_ret | apply x_pass_ret | apply x_loop_exit | apply x_loop_ret | apply x_pass_exit | apply x_exit | apply x_ret | apply x_skip | apply x_label | apply x_join_ret | apply x_join_exit)
    | ((with_reducible apply d_end); kernel_rfl)
    | ((with_reducible apply x_region); exact sdG83)
    | ((with_reducible apply x_regionD); kernel_rfl; exact sdG83; exact sdG83)
    | ((with_reducible first | apply x_leave_exit | apply x_condT); exact sdG83)
    | ((with_reducible apply x_condF); exact sdG83)
    | ((first | ((with_reducible apply x_condB); exact sdG83) | ((with_reducible first | apply o_gB | apply d_gB); exact sdG83; exact sdG83)); all_goals intro hc; all_goals (try simp only [decide_eq_true_eq, decide_eq_false_iff_not, Bool.not_eq_true', Bool.not_eq_false', Bool.and_eq_true, Bool.or_eq_false_iff, Classical.not_not] at hc); all_goals (try (exfalso; omega)))
    | ((with_reducible apply x_end); (first | exact .inl rfl | exact .inr rfl); exact sdG83; exact sdG83))
        refine x_again 1 (by omega) (by omega) ?_
        have hd1 : x.cols.take 1 = [c] := hd
        exact sdG84
      · have hd : x.cols.take (j + 1 + 1) = x.cols.take (j + 1) ++ [c] := hd
        repeat' (first
    | ((with_reducible first | apply o_some | apply o_none | apply x_joined); exact sdG85; exact sdG85)
    | ((with_reducible first | apply d_some | apply d_none); exact sdG85; exact sdG85; exact sdG85)
    | ((with_reducible first | apply o_gT | apply d_gT); exact sdG85; exact sdG85)
    | ((with_reducible first | apply o_gF | apply d_gF); exact sdG85; exact sdG85; rfl)
    | ((with_reducible first | apply o_gU | apply d_gU); exact sdG85; exact sdG85)
    | ((with_reducible apply o_nilq); (exact ⟨by decide, by first | assumption | simp only [go_sem]⟩); exact sdG85; exact sdG85)
    | (with_reducible first | apply o_nil | apply x_next | apply x_seq | apply x_block | apply x_leave_normal | apply x_leave_ret | apply x_pass_ret | apply x_loop_exit | apply x_loop_ret | apply x_pass_exit | apply x_exit | apply x_ret | apply x_skip | apply x_label | apply x_join_ret | apply x_join_exit)
    | ((with_reducible apply d_end); kernel_rfl)
    | ((with_reducible apply x_region); exact sdG85)
    | ((with_reducible apply x_regionD); kernel_rfl; exact sdG85; exact sdG85)
    | ((with_reducible first | apply x_leave_exit | apply x_condT); exact sdG85)
    | ((with_reducible apply x_condF); exact sdG85)
    | ((first | ((with_reducible apply x_condB); exact sdG85) | ((with_reducible first | apply o_gB | apply d_gB); exact sdG85; exact sdG85)); all_goals intro hc; all_goals (try simp only [decide_eq_true_eq, decide_eq_false_iff_not, Bool.not_eq_true', Bool.not_eq_false', Bool.and_eq_true, Bool.or_eq_false_iff, Classical.not_not] at hc); all_goals (try (exfalso; omega)))
    | ((with_reducible apply x_end); (first | exact .inl rfl | exact .inr rfl); exact sdG85; exact sdG85))
        refine x_again (j + 1 + 1) (by omega) (by omega) ?_
        exact sdG86
    · have hlt' : ¬ (i : Int) < x.cols.length := by omega
      have he : x.cols.length ≤ i := by omega
      rcases i with _ | j
      · have he : x.cols = [] := List.length_eq_zero_iff.1 (by omega)
        repeat' (first
    | ((with_reducible first | apply o_some | apply o_none | apply x_joined); exact sdG87; exact sdG87)
    | ((with_reducible first | apply d_some | apply d_none); exact sdG87; exact sdG87; exact sdG87)
    | ((with_reducible first | apply o_gT | apply d_gT); exact sdG87; exact sdG87)
    | ((with_reducible first | apply o_gF | apply d_gF); exact sdG87; exact sdG87; rfl)
    | ((with_reducible first | apply o_gU | apply d_gU); exact sdG87; exact sdG87)
    | ((with_reducible apply o_nilq); (exact ⟨by decide, by first | assumption | simp only [go_sem]⟩); exact sdG87; exact sdG87)
    | (with_reducible first | apply o_nil | apply x_next | apply x_seq | apply x_block | apply x_leave_normal | apply x_leave_ret | apply x_pass_ret | apply x_loop_exit | apply x_loop_ret | apply x_pass_exit | apply x_exit | apply x_ret | apply x_skip | apply x_label | apply x_join_ret | apply x_join_exit)
    | ((with_reducible apply d_end); kernel_rfl)
    | ((with_reducible apply x_region); exact sdG87)
    | ((with_reducible apply x_regionD); kernel_rfl; exact sdG87; exact sdG87)
    | ((with_reducible first | apply x_leave_exit | apply x_condT); exact sdG87)
    | ((with_reducible apply x_condF); exact sdG87)
    | ((first | ((with_reducible apply x_condB); exact sdG87) | ((with_reducible first | apply o_gB | apply d_gB); exact sdG87; exact sdG87)); all_goals intro hc; all_goals (try simp only [decide_eq_true_eq, decide_eq_false_iff_not, Bool.not_eq_true', Bool.not_eq_false', Bool.and_eq_true, Bool.or_eq_false_iff, Classical.not_not] at hc); all_goals (try (exfalso; omega)))
    | ((with_reducible apply x_end); (first | exact .inl rfl | exact .inr rfl); exact sdG87; exact sdG87))
        exact ⟨by rw [he]; rfl, rfl⟩
      · repeat' (first
    | ((with_reducible first | apply o_some | apply o_none | apply x_joined); exact sdG8; exact sdG8)
    | ((with_reducible first | apply d_some | apply d_none); exact sdG8; exact sdG8; exact sdG8)
    | ((with_reducible first | apply o_gT | apply d_gT); exact sdG8; exact sdG8)
    | ((with_reducible first | apply o_gF | apply d_gF); exact sdG8; exact sdG8; rfl)
    | ((with_reducible first | apply o_gU | apply d_gU); exact sdG8; exact sdG8)
    | ((with_reducible apply o_nilq); (exact ⟨by decide, by first | assumption | simp only [go_sem]⟩); exact sdG8; exact sdG8)
    | (with_reducible first | apply o_nil | apply x_next | apply x_seq | apply x_block | apply x_leave_normal | apply x_leave_ret | apply x_pass_ret | apply x_loop_exit | apply x_loop_ret | apply x_pass_exit | apply x_exit | apply x_ret | apply x_skip | apply x_label | apply x_join_ret | apply x_join_exit)
    | ((with_reducible apply d_end); kernel_rfl)
    | ((with_reducible apply x_region); exact sdG8)
    | ((with_reducible apply x_regionD); kernel_rfl; exact sdG8; exact sdG8)
    | ((with_reducible first | apply x_leave_exit | apply x_condT); exact sdG8)
    | ((with_reducible apply x_condF); exact sdG8)
    | ((first | ((with_reducible apply x_condB); exact sdG8) | ((with_reducible first | apply o_gB | apply d_gB); exact sdG8; exact sdG8)); all_goals intro hc; all_goals (try simp only [decide_eq_true_eq, decide_eq_false_iff_not, Bool.not_eq_true', Bool.not_eq_false', Bool.and_eq_true, Bool.or_eq_false_iff, Classical.not_not] at hc); all_goals (try (exfalso; omega)))
    | ((with_reducible apply x_end); (first | exact .inl rfl | exact .inr rfl); exact sdG8; exact sdG8))
        exact ⟨by rw [List.take_of_length_le he]; simp [rowsI], rfl⟩
theorem c_kinds07o (s : Sch) (t : Int) (x : Tab) (h3 : 0 ≤ t) (h1 : ¬ (s.tabs.length : Int) ≤ t) (hgt : s.tabs[t.toNat]? = some x) (hx : x.cols.length ≤ 1000000) (hx0 : 0 < x.cols.length) :
    CallA Try.prog C (.func 15) { own1 := true } [.agg (s.cells.map .d), .d (.int .i64 t)] [] fun v hs => v = .sl 0 0 x.cols.length false ∧ hs = [some (.flat 1 (rowsI (x.cols.map fun c => c.kind)))] := by
  refine call_func Try.func15 rfl (by decide) (by kernel_rfl) ⟨Nat.le_of_ble_eq_true rfl, Nat.le_of_ble_eq_true rfl⟩ ?_
  have h0 : ¬ t < 0 := by omega
  have hbig : 1000000 < big := by decide
  repeat' (first
    | ((with_reducible first | apply o_some | apply o_none | apply x_joined); exact sdG81; exact sdG81)
    | ((with_reducible first | apply d_some | apply d_none); exact sdG81; exact sdG81; exact sdG81)
    | ((with_reducible first | apply o_gT | apply d_gT); exact sdG81; exact sdG81)
    | ((with_reducible first | apply o_gF | apply d_gF); exact sdG81; exact sdG81; rfl)
    | ((with_reducible first | apply o_gU | apply d_gU); exact sdG81; exact sdG81)
    | ((with_reducible apply o_nilq); (exact ⟨by decide, by first | assumption | simp only [go_sem]⟩); exact sdG81; exact sdG81)
    | (with_reducible first | apply o_nil | apply x_next | apply x_seq | apply x_block | apply x_leave_normal | apply x_leave_ret | apply x_pass_ret | apply x_loop_exit | apply x_loop_ret | apply x_pass_exit | apply x_exit | apply x_ret | apply x_skip | apply x_label | apply x_join_ret | apply x_join_exit)
    | ((with_reducible apply d_end); kernel_rfl)
    | ((with_reducible apply x_region); exact sdG81)
    | ((with_reducible apply x_regionD); kernel_rfl; exact sdG81; exact sdG81)
    | ((with_reducible first | apply x_leave_exit | apply x_condT); exact sdG81)
    | ((with_reducible apply x_condF); exact sdG81)
    | ((first | ((with_reducible apply x_condB); exact sdG81) | ((with_reducible first | apply o_gB | apply d_gB); exact sdG81; exact sdG81)); all_goals intro hc; all_goals (try simp only [decide_eq_true_eq, decide_eq_false_iff_not, Bool.not_eq_true', Bool.not_eq_false', Bool.and_eq_true, Bool.or_eq_false_iff, Classical.not_not] at hc); all_goals (try (exfalso; omega)))
    | ((with_reducible apply x_end); (first | exact .inl rfl | exact .inr rfl); exact sdG81; exact sdG81))
  refine x_loopG { ownRes := true } [5, 22, 23, 24] (fun (i : Nat) => [(5, match i with | 0 => .d .snil | j + 1 => .sl 0 0 (j + 1) false), (22, .d (.fsl (x.cols.map fun c => c.cells) false false)), (23, .d (.int .i64 x.cols.length)), (24, .d (.int .i64 i))])
    (fun i => match i with | 0 => [] | j + 1 => [some (.flat 1 (rowsI ((x.cols.take (j + 1)).map fun c => c.kind)))]) (fun i => i ≤ x.cols.length) (fun i => x.cols.length - i) 0 ?_ (by omega) ?_
  · exact sdG8
  · intro i hi
    by_cases hlt : i < x.cols.length
    · have hlt' : (i : Int) < x.cols.length := by omega
      have hgi : x.cols[i]? = some x.cols[i] := List.getElem?_eq_getElem hlt
      have hd : x.cols.take (i + 1) = x.cols.take i ++ [x.cols[i]] := List.take_succ_eq_append_getElem hlt
      generalize x.cols[i] = c at hgi hd
      rcases i with _ | j
      · repeat' (first
    | ((with_reducible first | apply o_some | apply o_none | apply x_joined); exact sdG83; exact sdG83)
    | ((with_reducible first | apply d_some | apply d_none); exact sdG83; exact sdG83; exact sdG83)
    | ((with_reducible first | apply o_gT | apply d_gT); exact sdG83; exact sdG83)
    | ((with_reducible first | apply o_gF | apply d_gF); exact sdG83; exact sdG83; rfl)
    | ((with_reducible first | apply o_gU | apply d_gU); exact sdG83; exact sdG83)
    | ((with_reducible apply o_nilq); (exact ⟨by decide, by first | assumption | simp only [go_sem]⟩); exact sdG83; exact sdG83)
    | (with_reducible first | apply o_nil | apply x_next | apply x_seq | apply x_block | apply x_leave_normal | apply x_leave_ret | apply x_pass_ret | apply x_loop_exit | apply x_loop_ret | apply x_pass_exit | apply x_exit | apply x_ret | apply x_skip | apply x_label | apply x_join_ret | apply x_join_exit)
    | ((with_reducible apply d_end); kernel_rfl)
    | ((with_reducible apply x_region); exact sdG83)
    | ((with_reducible apply x_regionD); kernel_rfl; exact sdG83; exact sdG83)
    | ((with_reducible first | apply x_leave_exit | apply x_condT); exact sdG83)
    | ((with_reducible apply x_condF); exact sdG83)
    | ((first | ((with_reducible apply x_condB); exact sdG83) | ((with_reducible first | apply o_gB | apply d_gB); exact sdG83; exact sdG83)); all_goals intro hc; all_goals (try simp only [decide_eq_true_eq, decide_eq_false_iff_not, Bool.not_eq_true', Bool.not_eq_false', Bool.and_eq_true, Bool.or_eq_false_iff, Classical.not_not] at hc); all_goals (try (exfalso; omega)))
    | ((with_reducible apply x_end); (first | exact .inl rfl | exact .inr rfl); exact sdG83; exact sdG83))
        refine x_again 1 (by omega) (by omega) ?_
        have hd1 : x.cols.take 1 = [c] := hd
        exact sdG84
      · have hd : x.cols.take (j + 1 + 1) = x.cols.take (j + 1) ++ [c] := hd
        repeat' (first
    | ((with_reducible first | apply o_some | apply o_none | apply x_joined); exact sdG85; exact sdG85)
    | ((with_reducible first | apply d_some | apply d_none); exact sdG85; exact sdG85; exact sdG85)
    | ((with_reducible first | apply o_gT | apply d_gT); exact sdG85; exact sdG85)
    | ((with_reducible first | apply o_gF | apply d_gF); exact sdG85; exact sdG85; rfl)
    | ((with_reducible first | apply o_gU | apply d_gU); exact sdG85; exact sdG85)
    | ((with_reducible apply o_nilq); (exact ⟨by decide, by first | assumption | simp only [go_sem]⟩); exact sdG85; exact sdG85)
    | (with_reducible first | apply o_nil | apply x_next | apply x_seq | apply x_block | apply x_leave_normal | apply x_leave_ret | apply x_pass_ret | apply x_loop_exit | apply x_loop_ret | apply x_pass_exit | apply x_exit | apply x_ret | apply x_skip | apply x_label | apply x_join_ret | apply x_join_exit)
    | ((with_reducible apply d_end); kernel_rfl)
    | ((with_reducible apply x_region); exact sdG85)
    | ((with_reducible apply x_regionD); kernel_rfl; exact sdG85; exact sdG85)
    | ((with_reducible first | apply x_leave_exit | apply x_condT); exact sdG85)
    | ((with_reducible apply x_condF); exact sdG85)
    | ((first | ((with_reducible apply x_condB); exact sdG85) | ((with_reducible first | apply o_gB | apply d_gB); exact sdG85; exact sdG85)); all_goals intro hc; all_goals (try simp only [decide_eq_true_eq, decide_eq_false_iff_not, Bool.not_eq_true', Bool.not_eq_false', Bool.and_eq_true, Bool.or_eq_false_iff, Classical.not_not] at hc); all_goals (try (exfalso; omega)))
    | ((with_reducible apply x_end); (first | exact .inl rfl | exact .inr rfl); exact sdG85; exact sdG85))
        refine x_again (j + 1 + 1) (by omega) (by omega) ?_
        exact sdG86
    · have hlt' : ¬ (i : Int) < x.cols.length := by omega
      have he : x.cols.length ≤ i := by omega
      rcases i with _ | j
      · omega
      · have he1 : x.cols.length = j + 1 := by omega
        have htk : x.cols.take (j + 1) = x.cols := List.take_of_length_le he
        repeat' (first
    | ((with_reducible first | apply o_some | apply o_none | apply x_joined); exact sdG8; exact sdG8)
    | ((with_reducible first | apply d_some | apply d_none); exact sdG8; exact sdG8; exact sdG8)
    | ((with_reducible first | apply o_gT | apply d_gT); exact sdG8; exact sdG8)
    | ((with_reducible first | apply o_gF | apply d_gF); exact sdG8; exact sdG8; rfl)
    | ((with_reducible first | apply o_gU | apply d_gU); exact sdG8; exact sdG8)
    | ((with_reducible apply o_nilq); (exact ⟨by decide, by first | assumption | simp only [go_sem]⟩); exact sdG8; exact sdG8)
    | (with_reducible first | apply o_nil | apply x_next | apply x_seq | apply x_block | apply x_leave_normal | apply x_leave_ret | apply x_pass_ret | apply x_loop_exit | apply x_loop_ret | apply x_pass_exit | apply x_exit | apply x_ret | apply x_skip | apply x_label | apply x_join_ret | apply x_join_exit)
    | ((with_reducible apply d_end); kernel_rfl)
    | ((with_reducible apply x_region); exact sdG8)
    | ((with_reducible apply x_regionD); kernel_rfl; exact sdG8; exact sdG8)
    | ((with_reducible first | apply x_leave_exit | apply x_condT); exact sdG8)
    | ((with_reducible apply x_condF); exact sdG8)
    | ((first | ((with_reducible apply x_condB); exact sdG8) | ((with_reducible first | apply o_gB | apply d_gB); exact sdG8; exact sdG8)); all_goals intro hc; all_goals (try simp only [decide_eq_true_eq, decide_eq_false_iff_not, Bool.not_eq_true', Bool.not_eq_false', Bool.and_eq_true, Bool.or_eq_false_iff, Classical.not_not] at hc); all_goals (try (exfalso; omega)))
    | ((with_reducible apply x_end); (first | exact .inl rfl | exact .inr rfl); exact sdG8; exact sdG8))
        exact ⟨by rw [he1], by simp [rowsI]⟩
end Go.Proofs.Ytfdekggfdklfeaa
