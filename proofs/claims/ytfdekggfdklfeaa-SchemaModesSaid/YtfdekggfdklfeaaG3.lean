/-
  Contracts: texts and values of a case.
-/
import Derived.Test.YtfdekggfdklfeaaG2
set_option linter.all false
set_option linter.unusedVariables false
set_option linter.unusedSimpArgs false
namespace Go.Proofs.Ytfdekggfdklfeaa
open Go.Ab
attribute [local irreducible] seqK blockK loopK endK
set_option maxRecDepth 10000
set_option maxHeartbeats 4000000
def rep (b : UInt8) (n : Nat) : ByteArray := ⟨(List.replicate n b).toArray⟩
theorem rep_size {b : UInt8} {n : Nat} : (rep b n).size = n := by simp [rep, ByteArray.size]
theorem rep_zero {b : UInt8} : rep b 0 = ⟨#[]⟩ := rfl
theorem rep_succ {b : UInt8} {n : Nat} : rep b n ++ ⟨#[b]⟩ = rep b (n + 1) := by
  apply ByteArray.ext
  simp [rep, ByteArray.append_eq, List.replicate_succ', ← List.toArray_replicate]
def textV (codes : List UInt8) (a : Nat) : ByteArray :=
  if nxI codes a 10 = 0 ∨ nxI codes a 10 = 1 ∨ nxI codes a 10 = 2 then ⟨#[97]⟩ else if nxI codes a 10 = 3 ∨ nxI codes a 10 = 4 then ⟨#[98]⟩ else if nxI codes a 10 = 5 then ⟨#[]⟩ else
  if nxI codes a 10 = 6 then ⟨#[97, 0]⟩ else if nxI codes a 10 = 7 then ⟨#[255]⟩ else if nxI codes a 10 = 8 then rep 255 64 else rep 98 64
theorem sdG3 {α : Type _} {a b : α} (h : a = b := by (first | (simp (maxSteps := 2000000) (disch := first | assumption | omega | (simp only [go_sem] <;> with_reducible rfl)) only [go_sem, ↓reduceIte, ↓reduceDIte, Nat.reduceEqDiff, reduceCtorEq, Nat.reduceAdd, Nat.reduceSub, Nat.reduceMul, Nat.reduceBEq, Nat.reduceBNe, Nat.reduceLeDiff, Nat.reduceLT, Int.reduceLT, Int.reduceLE, Int.reduceToNat, Int.reduceEq, Int.reduceNeg, Int.reduceAdd, Int.reduceSub, Int.reduceMul, Nat.reduceMod, Nat.reduceDiv, Nat.reducePow, BEq.rfl, gt_iff_lt, ge_iff_le, *] <;> with_reducible rfl) | with_reducible rfl)) : a = b := h
theorem sdG3p {a b : Nat} (h : a ≤ b := by (first | (simp (maxSteps := 2000000) (disch := first | assumption | omega | (simp only [go_sem] <;> with_reducible rfl)) only [go_sem, ↓reduceIte, ↓reduceDIte, Nat.reduceEqDiff, reduceCtorEq, Nat.reduceAdd, Nat.reduceSub, Nat.reduceMul, Nat.reduceBEq, Nat.reduceBNe, Nat.reduceLeDiff, Nat.reduceLT, Int.reduceLT, Int.reduceLE, Int.reduceToNat, Int.reduceEq, Int.reduceNeg, Int.reduceAdd, Int.reduceSub, Int.reduceMul, Nat.reduceMod, Nat.reduceDiv, Nat.reducePow, BEq.rfl, gt_iff_lt, ge_iff_le, *] <;> with_reducible rfl) | with_reducible rfl)) : a ≤ b := h
theorem sdG31 {α : Type _} {a b : α} (h : a = b := by (first | (simp (maxSteps := 2000000) (disch := first | assumption | omega | (simp only [go_sem] <;> with_reducible rfl)) only [go_sem, ↓reduceIte, ↓reduceDIte, Nat.reduceEqDiff, reduceCtorEq, Nat.reduceAdd, Nat.reduceSub, Nat.reduceMul, Nat.reduceBEq, Nat.reduceBNe, Nat.reduceLeDiff, Nat.reduceLT, Int.reduceLT, Int.reduceLE, Int.reduceToNat, Int.reduceEq, Int.reduceNeg, Int.reduceAdd, Int.reduceSub, Int.reduceMul, Nat.reduceMod, Nat.reduceDiv, Nat.reducePow, BEq.rfl, gt_iff_lt, ge_iff_le, *, rep_zero] <;> with_reducible rfl) | with_reducible rfl)) : a = b := h
theorem sdG31p {a b : Nat} (h : a ≤ b := by (first | (simp (maxSteps := 2000000) (disch := first | assumption | omega | (simp only [go_sem] <;> with_reducible rfl)) only [go_sem, ↓reduceIte, ↓reduceDIte, Nat.reduceEqDiff, reduceCtorEq, Nat.reduceAdd, Nat.reduceSub, Nat.reduceMul, Nat.reduceBEq, Nat.reduceBNe, Nat.reduceLeDiff, Nat.reduceLT, Int.reduceLT, Int.reduceLE, Int.reduceToNat, Int.reduceEq, Int.reduceNeg, Int.reduceAdd, Int.reduceSub, Int.reduceMul, Nat.reduceMod, Nat.reduceDiv, Nat.reducePow, BEq.rfl, gt_iff_lt, ge_iff_le, *, rep_zero] <;> with_reducible rfl) | with_reducible rfl)) : a ≤ b := h
theorem sdG32 {α : Type _} {a b : α} (h : a = b := by (first | (simp (maxSteps := 2000000) (disch := first | assumption | omega | (simp only [go_sem] <;> with_reducible rfl)) only [go_sem, ↓reduceIte, ↓reduceDIte, Nat.reduceEqDiff, reduceCtorEq, Nat.reduceAdd, Nat.reduceSub, Nat.reduceMul, Nat.reduceBEq, Nat.reduceBNe, Nat.reduceLeDiff, Nat.reduceLT, Int.reduceLT, Int.reduceLE, Int.reduceToNat, Int.reduceEq, Int.reduceNeg, Int.reduceAdd, Int.reduceSub, Int.reduceMul, Nat.reduceMod, Nat.reduceDiv, Nat.reducePow, BEq.rfl, gt_iff_lt, ge_iff_le, *, rep_size, rep_succ] <;> with_reducible rfl) | with_reducible rfl)) : a = b := h
theorem sdG32p {a b : Nat} (h : a ≤ b := by (first | (simp (maxSteps := 2000000) (disch := first | assumption | omega | (simp only [go_sem] <;> with_reducible rfl)) only [go_sem, ↓reduceIte, ↓reduceDIte, Nat.reduceEqDiff, reduceCtorEq, Nat.reduceAdd, Nat.reduceSub, Nat.reduceMul, Nat.reduceBEq, Nat.reduceBNe, Nat.reduceLeDiff, Nat.reduceLT, Int.reduceLT, Int.reduceLE, Int.reduceToNat, Int.reduceEq, Int.reduceNeg, Int.reduceAdd, Int.reduceSub, Int.reduceMul, Nat.reduceMod, Nat.reduceDiv, Nat.reducePow, BEq.rfl, gt_iff_lt, ge_iff_le, *, rep_size, rep_succ] <;> with_reducible rfl) | with_reducible rfl)) : a ≤ b := h
theorem sdG33 {α : Type _} {a b : α} (h : a = b := by (first | (simp (maxSteps := 2000000) (disch := first | assumption | omega | (simp only [go_sem] <;> with_reducible rfl)) only [go_sem, ↓reduceIte, ↓reduceDIte, Nat.reduceEqDiff, reduceCtorEq, Nat.reduceAdd, Nat.reduceSub, Nat.reduceMul, Nat.reduceBEq, Nat.reduceBNe, Nat.reduceLeDiff, Nat.reduceLT, Int.reduceLT, Int.reduceLE, Int.reduceToNat, Int.reduceEq, Int.reduceNeg, Int.reduceAdd, Int.reduceSub, Int.reduceMul, Nat.reduceMod, Nat.reduceDiv, Nat.reducePow, BEq.rfl, gt_iff_lt, ge_iff_le, *, Int.natCast_add, Int.natCast_one] <;> with_reducible rfl) | with_reducible rfl)) : a = b := h
theorem sdG33p {a b : Nat} (h : a ≤ b := by (first | (simp (maxSteps := 2000000) (disch := first | assumption | omega | (simp only [go_sem] <;> with_reducible rfl)) only [go_sem, ↓reduceIte, ↓reduceDIte, Nat.reduceEqDiff, reduceCtorEq, Nat.reduceAdd, Nat.reduceSub, Nat.reduceMul, Nat.reduceBEq, Nat.reduceBNe, Nat.reduceLeDiff, Nat.reduceLT, Int.reduceLT, Int.reduceLE, Int.reduceToNat, Int.reduceEq, Int.reduceNeg, Int.reduceAdd, Int.reduceSub, Int.reduceMul, Nat.reduceMod, Nat.reduceDiv, Nat.reducePow, BEq.rfl, gt_iff_lt, ge_iff_le, *, Int.natCast_add, Int.natCast_one] <;> with_reducible rfl) | with_reducible rfl)) : a ≤ b := h
theorem c_text (codes : List UInt8) (a : Nat) (hb : codes.length ≤ 1000) :
    CallA Try.prog C (.func 46) {} [.ptr 0 0 0] (hC codes a) fun v hs => v = .d (.str (textV codes a)) ∧ hs = hC codes (nxA codes a 10 : Nat) := by
  refine call_func Try.func46 rfl (by decide) (by kernel_rfl) ⟨Nat.le_of_ble_eq_true rfl, Nat.le_of_ble_eq_true rfl⟩ ?_
  unfold textV
  repeat' (first
    | ((with_reducible first | apply o_some | apply o_none | apply x_joined); exact sdG3; exact sdG3)
    | ((with_reducible first | apply d_some | apply d_none); exact sdG3; exact sdG3; exact sdG3)
    | ((with_reducible first | apply o_gT | apply d_gT); exact sdG3; exact sdG3)
    | ((with_reducible first | apply o_gF | apply d_gF); exact sdG3; exact sdG3; rfl)
    | ((with_reducible first | apply o_gU | apply d_gU); exact sdG3; exact sdG3)
    | ((with_reducible apply o_nilq); (exact ⟨by decide, by first | assumption | simp only [go_sem]⟩); exact sdG3; exact sdG3)
    | (with_reducible first | apply o_nil | apply x_next | apply x_seq | apply x_block | apply x_leave_normal | apply x_leave_ret | apply x_pass_ret | apply x_loop_exit | apply x_loop_ret | apply x_pass_exit | apply x_exit | apply x_ret | apply x_skip | apply x_label | apply x_join_ret | apply x_join_exit)
    | ((with_reducible apply d_end); kernel_rfl)
    | ((with_reducible apply x_region); exact sdG3)
    | ((with_reducible apply x_regionD); kernel_rfl; exact sdG3; exact sdG3)
    | ((with_reducible first | apply x_leave_exit | apply x_condT); exact sdG3)
    | ((with_reducible apply x_condF); exact sdG3)
    | ((first | ((with_reducible apply x_condB); exact sdG3) | ((with_reducible first | apply o_gB | apply d_gB); exact sdG3; exact sdG3)); all_goals intro hc; all_goals (try simp only [decide_eq_true_eq, decide_eq_false_iff_not, Bool.not_eq_true', Bool.not_eq_false', Bool.and_eq_true, Bool.or_eq_false_iff, Classical.not_not] at hc); all_goals (try (exfalso; omega)))
    | ((with_reducible apply o_call); exact sdG3; exact sdG3; exact sdG3; (first | exact c_int codes a _ hb); exact sdG3; exact sdG3)
    | ((with_reducible apply o_callN); exact sdG3; exact sdG3; exact sdG3; (first | exact c_int codes a _ hb); exact sdG3)
    | ((with_reducible apply d_callS); exact sdG3; exact sdG3; exact sdG3; (first | exact c_int codes a _ hb); exact sdG3p; exact sdG3; exact sdG3; exact sdG3; exact sdG3)
    | ((with_reducible apply x_end); (first | exact .inl rfl | exact .inr rfl); exact sdG3; exact sdG3))
  all_goals (try exact ⟨by simp [*], rfl⟩)
  · refine x_loopG { ownRes := true } [0, 3, 4] (fun i : Nat => [(0, .ptr 0 0 0), (3, .d (.str (rep 255 i))), (4, .d (.int .i64 i))]) (fun _ => hC codes (nxA codes a 10 : Nat)) (fun i => i ≤ 64) (fun i => 64 - i) 0 ?_ (by omega) ?_
    · exact sdG31
    · intro i hi
      have hbig : 64 + 64 ≤ big := by decide
      repeat' (first
    | ((with_reducible first | apply o_some | apply o_none | apply x_joined); exact sdG32; exact sdG32)
    | ((with_reducible first | apply d_some | apply d_none); exact sdG32; exact sdG32; exact sdG32)
    | ((with_reducible first | apply o_gT | apply d_gT); exact sdG32; exact sdG32)
    | ((with_reducible first | apply o_gF | apply d_gF); exact sdG32; exact sdG32; rfl)
    | ((with_reducible first | apply o_gU | apply d_gU); exact sdG32; exact sdG32)
    | ((with_reducible apply o_nilq); (exact ⟨by decide, by first | assumption | simp only [go_sem]⟩); exact sdG32; exact sdG32)
    | (with_reducible first | apply o_nil | apply x_next | apply x_seq | apply x_block | apply x_leave_normal | apply x_leave_ret | apply x_pass_ret | apply x_loop_exit | apply x_loop_ret | apply x_pass_exit | apply x_exit | apply x_ret | apply x_skip | apply x_label | apply x_join_ret | apply x_join_exit)
    | ((with_reducible apply d_end); kernel_rfl)
    | ((with_reducible apply x_region); exact sdG32)
    | ((with_reducible apply x_regionD); kernel_rfl; exact sdG32; exact sdG32)
    | ((with_reducible first | apply x_leave_exit | apply x_condT); exact sdG32)
    | ((with_reducible apply x_condF); exact sdG32)
    | ((first | ((with_reducible apply x_condB); exact sdG32) | ((with_reducible first | apply o_gB | apply d_gB); exact sdG32; exact sdG32)); all_goals intro hc; all_goals (try simp only [decide_eq_true_eq, decide_eq_false_iff_not, Bool.not_eq_true', Bool.not_eq_false', Bool.and_eq_true, Bool.or_eq_false_iff, Classical.not_not] at hc); all_goals (try (exfalso; omega)))
    | ((with_reducible apply x_end); (first | exact .inl rfl | exact .inr rfl); exact sdG32; exact sdG32))
      · refine x_again (i + 1) (by omega) (by omega) ?_
        exact sdG33
      · have he : i = 64 := by omega
        subst he
        exact ⟨by simp [*], rfl⟩
  · refine x_loopG { ownRes := true } [0, 3, 5] (fun i : Nat => [(0, .ptr 0 0 0), (3, .d (.str (rep 98 i))), (5, .d (.int .i64 i))]) (fun _ => hC codes (nxA codes a 10 : Nat)) (fun i => i ≤ 64) (fun i => 64 - i) 0 ?_ (by omega) ?_
    · exact sdG31
    · intro i hi
      have hbig : 64 + 64 ≤ big := by decide
      repeat' (first
    | ((with_reducible first | apply o_some | apply o_none | apply x_joined); exact sdG32; exact sdG32)
    | ((with_reducible first | apply d_some | apply d_none); exact sdG32; exact sdG32; exact sdG32)
    | ((with_reducible first | apply o_gT | apply d_gT); exact sdG32; exact sdG32)
    | ((with_reducible first | apply o_gF | apply d_gF); exact sdG32; exact sdG32; rfl)
    | ((with_reducible first | apply o_gU | apply d_gU); exact sdG32; exact sdG32)
    | ((with_reducible apply o_nilq); (exact ⟨by decide, by first | assumption | simp only [go_sem]⟩); exact sdG32; exact sdG32)
    | (with_reducible first | apply o_nil | apply x_next | apply x_seq | apply x_block | apply x_leave_normal | apply x_leave_ret | apply x_pass_ret | apply x_loop_exit | apply x_loop_ret | apply x_pass_exit | apply x_exit | apply x_ret | apply x_skip | apply x_label | apply x_join_ret | apply x_join_exit)
    | ((with_reducible apply d_end); kernel_rfl)
    | ((with_reducible apply x_region); exact sdG32)
    | ((with_reducible apply x_regionD); kernel_rfl; exact sdG32; exact sdG32)
    | ((with_reducible first | apply x_leave_exit | apply x_condT); exact sdG32)
    | ((with_reducible apply x_condF); exact sdG32)
    | ((first | ((with_reducible apply x_condB); exact sdG32) | ((with_reducible first | apply o_gB | apply d_gB); exact sdG32; exact sdG32)); all_goals intro hc; all_goals (try simp only [decide_eq_true_eq, decide_eq_false_iff_not, Bool.not_eq_true', Bool.not_eq_false', Bool.and_eq_true, Bool.or_eq_false_iff, Classical.not_not] at hc); all_goals (try (exfalso; omega)))
    | ((with_reducible apply x_end); (first | exact .inl rfl | exact .inr rfl); exact sdG32; exact sdG32))
      · refine x_again (i + 1) (by omega) (by omega) ?_
        exact sdG33
      · have he : i = 64 := by omega
        subst he
        exact ⟨by simp [*], rfl⟩
/-- a value of a kind: number, text; the place behind it -/
def valI (codes : List UInt8) (a : Nat) (k : Int) : Int := if k = 3 then nxI codes a 2 else if k = 4 then numV codes a else 0
def valT (codes : List UInt8) (a : Nat) (k : Int) : ByteArray := if k = 3 then ⟨#[]⟩ else if k = 4 then ⟨#[]⟩ else textV codes a
def valK (k : Int) : Int := if k = 3 then 3 else if k = 4 then 4 else 5
def valA (codes : List UInt8) (a : Nat) (k : Int) : Nat := if k = 3 then nxA codes a 2 else if k = 4 then nxA codes a 12 else nxA codes a 10
theorem c_value (codes : List UInt8) (a : Nat) (k : Int) (hb : codes.length ≤ 1000) :
    CallA Try.prog C (.func 32) {} [.ptr 0 0 0, .d (.int .i64 k)] (hC codes a) fun v hs => v = .agg [.d (.int .i64 (valK k)), .d (.int .i64 (valI codes a k)), .d (.str (valT codes a k))] ∧ hs = hC codes (valA codes a k : Nat) := by
  refine call_func Try.func32 rfl (by decide) (by kernel_rfl) ⟨Nat.le_of_ble_eq_true rfl, Nat.le_of_ble_eq_true rfl⟩ ?_
  unfold valI valT valA Proofs.Ytfdekggfdklfeaa.valK
  repeat' (first
    | ((with_reducible first | apply o_some | apply o_none | apply x_joined); exact sdG3; exact sdG3)
    | ((with_reducible first | apply d_some | apply d_none); exact sdG3; exact sdG3; exact sdG3)
    | ((with_reducible first | apply o_gT | apply d_gT); exact sdG3; exact sdG3)
    | ((with_reducible first | apply o_gF | apply d_gF); exact sdG3; exact sdG3; rfl)
    | ((with_reducible first | apply o_gU | apply d_gU); exact sdG3; exact sdG3)
    | ((with_reducible apply o_nilq); (exact ⟨by decide, by first | assumption | simp only [go_sem]⟩); exact sdG3; exact sdG3)
    | (with_reducible first | apply o_nil | apply x_next | apply x_seq | apply x_block | apply x_leave_normal | apply x_leave_ret | apply x_pass_ret | apply x_loop_exit | apply x_loop_ret | apply x_pass_exit | apply x_exit | apply x_ret | apply x_skip | apply x_label | apply x_join_ret | apply x_join_exit)
    | ((with_reducible apply d_end); kernel_rfl)
    | ((with_reducible apply x_region); exact sdG3)
    | ((with_reducible apply x_regionD); kernel_rfl; exact sdG3; exact sdG3)
    | ((with_reducible first | apply x_leave_exit | apply x_condT); exact sdG3)
    | ((with_reducible apply x_condF); exact sdG3)
    | ((first | ((with_reducible apply x_condB); exact sdG3) | ((with_reducible first | apply o_gB | apply d_gB); exact sdG3; exact sdG3)); all_goals intro hc; all_goals (try simp only [decide_eq_true_eq, decide_eq_false_iff_not, Bool.not_eq_true', Bool.not_eq_false', Bool.and_eq_true, Bool.or_eq_false_iff, Classical.not_not] at hc); all_goals (try (exfalso; omega)))
    | ((with_reducible apply o_call); exact sdG3; exact sdG3; exact sdG3; (first | exact c_int codes a _ hb | exact c_number codes a hb | exact c_text codes a hb); exact sdG3; exact sdG3)
    | ((with_reducible apply o_callN); exact sdG3; exact sdG3; exact sdG3; (first | exact c_int codes a _ hb | exact c_number codes a hb | exact c_text codes a hb); exact sdG3)
    | ((with_reducible apply d_callS); exact sdG3; exact sdG3; exact sdG3; (first | exact c_int codes a _ hb | exact c_number codes a hb | exact c_text codes a hb); exact sdG3p; exact sdG3; exact sdG3; exact sdG3; exact sdG3)
    | ((with_reducible apply x_end); (first | exact .inl rfl | exact .inr rfl); exact sdG3; exact sdG3))
  all_goals (first | exact ⟨by simp [*], by simp [*]⟩ | trace_state)
attribute [irreducible] textV valI valT valA Proofs.Ytfdekggfdklfeaa.valK
end Go.Proofs.Ytfdekggfdklfeaa
