/-
  Contracts: what is a name, in the reference.
-/
import Derived.Test.YtfdekggfdklfeaaF1
import Derived.Test.YtfdekggfdklfeaaS1
set_option linter.all false
set_option linter.unusedVariables false
set_option linter.unusedSimpArgs false
namespace Go.Proofs.Ytfdekggfdklfeaa
open Go.Ab
attribute [local irreducible] seqK blockK loopK endK joinK
set_option maxRecDepth 10000
set_option maxHeartbeats 16000000
def letB (b : UInt8) : Bool := decide (97 ≤ b.toNat ∧ b.toNat ≤ 122)
def chrB (b : UInt8) : Bool := decide (97 ≤ b.toNat ∧ b.toNat ≤ 122 ∨ 48 ≤ b.toNat ∧ b.toNat ≤ 57 ∨ b.toNat = 95)
def nameL (l : List UInt8) : Bool := match l with
  | [] => false
  | b :: r => decide (r.length + 1 ≤ 32) && letB b && r.all chrB
def nameB (s : ByteArray) : Bool := nameL s.data.toList
theorem nameL_len {l : List UInt8} (h : l.length = 0 ∨ 32 < l.length) : nameL l = false := by
  cases l with
  | nil => rfl
  | cons b r =>
    simp only [List.length_cons] at h
    have : ¬ (r.length + 1 ≤ 32) := by omega
    simp [nameL, this]
theorem nameL_bad {l : List UInt8} {i : Nat} {c : UInt8} (h : l[i]? = some c) (hc : chrB c = false) : nameL l = false := by
  cases l with
  | nil => rfl
  | cons b r =>
    cases i with
    | zero =>
      simp only [List.getElem?_cons_zero, Option.some.injEq] at h
      subst h
      have : letB b = false := by
        simp only [chrB, decide_eq_false_iff_not] at hc
        simp only [letB, decide_eq_false_iff_not]; omega
      simp [nameL, this]
    | succ j =>
      simp only [List.getElem?_cons_succ] at h
      have : r.all chrB = false := by
        rw [List.all_eq_false]
        exact ⟨c, List.mem_of_getElem? h, by simp [hc]⟩
      simp [nameL, this]
theorem nameL_bad0 {l : List UInt8} {c : UInt8} (h : l[0]? = some c) (hc : letB c = false) : nameL l = false := by
  cases l with
  | nil => rfl
  | cons b r =>
    simp only [List.getElem?_cons_zero, Option.some.injEq] at h
    subst h
    simp [nameL, hc]
theorem nameL_good {l : List UInt8} {b : UInt8} {r : List UInt8} (hl : l = b :: r) (h1 : l.length ≤ 32) (h2 : letB b = true) (h3 : l.all chrB = true) : nameL l = true := by
  subst hl
  simp only [List.all_cons, Bool.and_eq_true, List.length_cons] at h1 h3
  simp [nameL, h1, h2, h3.2]
theorem all_take {l : List UInt8} {i : Nat} {c : UInt8} (h : l[i]? = some c) (ha : (l.take i).all chrB = true) (hc : chrB c = true) : (l.take (i + 1)).all chrB = true := by
  have hlt := (List.getElem?_eq_some_iff.1 h)
  obtain ⟨hlt, hg⟩ := hlt
  rw [List.take_succ_eq_append_getElem hlt, List.all_append, ha, hg]
  simp [hc]
theorem sdH1 {α : Type _} {a b : α} (h : a = b := by (first | (simp (maxSteps := 2000000) (disch := first | assumption | omega | (simp only [go_sem] <;> with_reducible rfl)) only [go_sem, ↓reduceIte, ↓reduceDIte, Nat.reduceEqDiff, reduceCtorEq, Nat.reduceAdd, Nat.reduceSub, Nat.reduceMul, Nat.reduceBEq, Nat.reduceBNe, Nat.reduceLeDiff, Nat.reduceLT, Int.reduceLT, Int.reduceLE, Int.reduceToNat, Int.reduceEq, Int.reduceNeg, Int.reduceAdd, Int.reduceSub, Int.reduceMul, Nat.reduceMod, Nat.reduceDiv, Nat.reducePow, BEq.rfl, gt_iff_lt, ge_iff_le, *] <;> with_reducible rfl) | with_reducible rfl)) : a = b := h
theorem sdH1p {a b : Nat} (h : a ≤ b := by (first | (simp (maxSteps := 2000000) (disch := first | assumption | omega | (simp only [go_sem] <;> with_reducible rfl)) only [go_sem, ↓reduceIte, ↓reduceDIte, Nat.reduceEqDiff, reduceCtorEq, Nat.reduceAdd, Nat.reduceSub, Nat.reduceMul, Nat.reduceBEq, Nat.reduceBNe, Nat.reduceLeDiff, Nat.reduceLT, Int.reduceLT, Int.reduceLE, Int.reduceToNat, Int.reduceEq, Int.reduceNeg, Int.reduceAdd, Int.reduceSub, Int.reduceMul, Nat.reduceMod, Nat.reduceDiv, Nat.reducePow, BEq.rfl, gt_iff_lt, ge_iff_le, *] <;> with_reducible rfl) | with_reducible rfl)) : a ≤ b := h
theorem sdH11 {α : Type _} {a b : α} (h : a = b := by (first | (simp (maxSteps := 2000000) (disch := first | assumption | omega | (simp only [go_sem] <;> with_reducible rfl)) only [go_sem, ↓reduceIte, ↓reduceDIte, Nat.reduceEqDiff, reduceCtorEq, Nat.reduceAdd, Nat.reduceSub, Nat.reduceMul, Nat.reduceBEq, Nat.reduceBNe, Nat.reduceLeDiff, Nat.reduceLT, Int.reduceLT, Int.reduceLE, Int.reduceToNat, Int.reduceEq, Int.reduceNeg, Int.reduceAdd, Int.reduceSub, Int.reduceMul, Nat.reduceMod, Nat.reduceDiv, Nat.reducePow, BEq.rfl, gt_iff_lt, ge_iff_le, *, Int.natCast_add, Int.natCast_one] <;> with_reducible rfl) | with_reducible rfl)) : a = b := h
theorem sdH11p {a b : Nat} (h : a ≤ b := by (first | (simp (maxSteps := 2000000) (disch := first | assumption | omega | (simp only [go_sem] <;> with_reducible rfl)) only [go_sem, ↓reduceIte, ↓reduceDIte, Nat.reduceEqDiff, reduceCtorEq, Nat.reduceAdd, Nat.reduceSub, Nat.reduceMul, Nat.reduceBEq, Nat.reduceBNe, Nat.reduceLeDiff, Nat.reduceLT, Int.reduceLT, Int.reduceLE, Int.reduceToNat, Int.reduceEq, Int.reduceNeg, Int.reduceAdd, Int.reduceSub, Int.reduceMul, Nat.reduceMod, Nat.reduceDiv, Nat.reducePow, BEq.rfl, gt_iff_lt, ge_iff_le, *, Int.natCast_add, Int.natCast_one] <;> with_reducible rfl) | with_reducible rfl)) : a ≤ b := h
theorem c_name07 (s : ByteArray) : CallA Try.prog C (.func 8) {} [.d (.str s)] [] fun v hs => v = .d (.bool (nameB s)) ∧ hs = [] := by
  refine call_func Try.func8 rfl (by decide) (by kernel_rfl) ⟨Nat.le_of_ble_eq_true rfl, Nat.le_of_ble_eq_true rfl⟩ ?_
  have hsz : s.size = s.data.toList.length := by rw [Array.length_toList]; rfl
  have hbig : 1000 < big := by decide
  by_cases h0 : s.size = 0
  · have hf : nameB s = false := nameL_len (.inl (by omega))
    have h0' : (s.size : Int) = 0 := by omega
    rw [hf]
    repeat' (first
    | ((with_reducible first | apply o_some | apply o_none | apply x_joined); exact sdH1; exact sdH1)
    | ((with_reducible first | apply d_some | apply d_none); exact sdH1; exact sdH1; exact sdH1)
    | ((with_reducible first | apply o_gT | apply d_gT); exact sdH1; exact sdH1)
    | ((with_reducible first | apply o_gF | apply d_gF); exact sdH1; exact sdH1; rfl)
    | ((with_reducible first | apply o_gU | apply d_gU); exact sdH1; exact sdH1)
    | ((with_reducible apply o_nilq); (exact ⟨by decide, by first | assumption | simp only [go_sem]⟩); exact sdH1; exact sdH1)
    | (with_reducible first | apply o_nil | apply x_next | apply x_seq | apply x_block | apply x_leave_normal | apply x_leave_ret | apply x_pass_ret | apply x_loop_exit | apply x_loop_ret | apply x_pass_exit | apply x_exit | apply x_ret | apply x_skip | apply x_label | apply x_join_ret | apply x_join_exit)
    | ((with_reducible apply d_end); kernel_rfl)
    | ((with_reducible apply x_region); exact sdH1)
    | ((with_reducible apply x_regionD); kernel_rfl; exact sdH1; exact sdH1)
    | ((with_reducible first | apply x_leave_exit | apply x_condT); exact sdH1)
    | ((with_reducible apply x_condF); exact sdH1)
    | ((first | ((with_reducible apply x_condB); exact sdH1) | ((with_reducible first | apply o_gB | apply d_gB); exact sdH1; exact sdH1)); all_goals intro hc; all_goals (try simp only [decide_eq_true_eq, decide_eq_false_iff_not, Bool.not_eq_true', Bool.not_eq_false', Bool.and_eq_true, Bool.or_eq_false_iff, Classical.not_not] at hc); all_goals (try (exfalso; omega)))
    | ((with_reducible apply x_end); (first | exact .inl rfl | exact .inr rfl); exact sdH1; exact sdH1))
    all_goals exact ⟨rfl, rfl⟩
  have h0' : ¬ (s.size : Int) = 0 := by omega
  by_cases h1 : 32 < s.size
  · have hf : nameB s = false := nameL_len (.inr (by omega))
    have h1' : 32 < (s.size : Int) := by omega
    rw [hf]
    repeat' (first
    | ((with_reducible first | apply o_some | apply o_none | apply x_joined); exact sdH1; exact sdH1)
    | ((with_reducible first | apply d_some | apply d_none); exact sdH1; exact sdH1; exact sdH1)
    | ((with_reducible first | apply o_gT | apply d_gT); exact sdH1; exact sdH1)
    | ((with_reducible first | apply o_gF | apply d_gF); exact sdH1; exact sdH1; rfl)
    | ((with_reducible first | apply o_gU | apply d_gU); exact sdH1; exact sdH1)
    | ((with_reducible apply o_nilq); (exact ⟨by decide, by first | assumption | simp only [go_sem]⟩); exact sdH1; exact sdH1)
    | (with_reducible first | apply o_nil | apply x_next | apply x_seq | apply x_block | apply x_leave_normal | apply x_leave_ret | apply x_pass_ret | apply x_loop_exit | apply x_loop_ret | apply x_pass_exit | apply x_exit | apply x_ret | apply x_skip | apply x_label | apply x_join_ret | apply x_join_exit)
    | ((with_reducible apply d_end); kernel_rfl)
    | ((with_reducible apply x_region); exact sdH1)
    | ((with_reducible apply x_regionD); kernel_rfl; exact sdH1; exact sdH1)
    | ((with_reducible first | apply x_leave_exit | apply x_condT); exact sdH1)
    | ((with_reducible apply x_condF); exact sdH1)
    | ((first | ((with_reducible apply x_condB); exact sdH1) | ((with_reducible first | apply o_gB | apply d_gB); exact sdH1; exact sdH1)); all_goals intro hc; all_goals (try simp only [decide_eq_true_eq, decide_eq_false_iff_not, Bool.not_eq_true', Bool.not_eq_false', Bool.and_eq_true, Bool.or_eq_false_iff, Classical.not_not] at hc); all_goals (try (exfalso; omega)))
    | ((with_reducible apply x_end); (first | exact .inl rfl | exact .inr rfl); exact sdH1; exact sdH1))
    all_goals exact ⟨rfl, rfl⟩
  have h1' : ¬ 32 < (s.size : Int) := by omega
  obtain ⟨b, hb⟩ : ∃ b, s.data.toList[0]? = some b := ⟨_, List.getElem?_eq_getElem (by omega)⟩
  by_cases h2 : (b.toNat : Int) < 97
  · have hf : nameB s = false := nameL_bad0 hb (by simp only [letB, decide_eq_false_iff_not]; omega)
    rw [hf]
    repeat' (first
    | ((with_reducible first | apply o_some | apply o_none | apply x_joined); exact sdH1; exact sdH1)
    | ((with_reducible first | apply d_some | apply d_none); exact sdH1; exact sdH1; exact sdH1)
    | ((with_reducible first | apply o_gT | apply d_gT); exact sdH1; exact sdH1)
    | ((with_reducible first | apply o_gF | apply d_gF); exact sdH1; exact sdH1; rfl)
    | ((with_reducible first | apply o_gU | apply d_gU); exact sdH1; exact sdH1)
    | ((with_reducible apply o_nilq); (exact ⟨by decide, by first | assumption | simp only [go_sem]⟩); exact sdH1; exact sdH1)
    | (with_reducible first | apply o_nil | apply x_next | apply x_seq | apply x_block | apply x_leave_normal | apply x_leave_ret | apply x_pass_ret | apply x_loop_exit | apply x_loop_ret | apply x_pass_exit | apply x_exit | apply x_ret | apply x_skip | apply x_label | apply x_join_ret | apply x_join_exit)
    | ((with_reducible apply d_end); kernel_rfl)
    | ((with_reducible apply x_region); exact sdH1)
    | ((with_reducible apply x_regionD); kernel_rfl; exact sdH1; exact sdH1)
    | ((with_reducible first | apply x_leave_exit | apply x_condT); exact sdH1)
    | ((with_reducible apply x_condF); exact sdH1)
    | ((first | ((with_reducible apply x_condB); exact sdH1) | ((with_reducible first | apply o_gB | apply d_gB); exact sdH1; exact sdH1)); all_goals intro hc; all_goals (try simp only [decide_eq_true_eq, decide_eq_false_iff_not, Bool.not_eq_true', Bool.not_eq_false', Bool.and_eq_true, Bool.or_eq_false_iff, Classical.not_not] at hc); all_goals (try (exfalso; omega)))
    | ((with_reducible apply x_end); (first | exact .inl rfl | exact .inr rfl); exact sdH1; exact sdH1))
    all_goals exact ⟨rfl, rfl⟩
  by_cases h3 : 122 < (b.toNat : Int)
  · have hf : nameB s = false := nameL_bad0 hb (by simp only [letB, decide_eq_false_iff_not]; omega)
    rw [hf]
    repeat' (first
    | ((with_reducible first | apply o_some | apply o_none | apply x_joined); exact sdH1; exact sdH1)
    | ((with_reducible first | apply d_some | apply d_none); exact sdH1; exact sdH1; exact sdH1)
    | ((with_reducible first | apply o_gT | apply d_gT); exact sdH1; exact sdH1)
    | ((with_reducible first | apply o_gF | apply d_gF); exact sdH1; exact sdH1; rfl)
    | ((with_reducible first | apply o_gU | apply d_gU); exact sdH1; exact sdH1)
    | ((with_reducible apply o_nilq); (exact ⟨by decide, by first | assumption | simp only [go_sem]⟩); exact sdH1; exact sdH1)
    | (with_reducible first | apply o_nil | apply x_next | apply x_seq | apply x_block | apply x_leave_normal | apply x_leave_ret | apply x_pass_ret | apply x_loop_exit | apply x_loop_ret | apply x_pass_exit | apply x_exit | apply x_ret | apply x_skip | apply x_label | apply x_join_ret | apply x_join_exit)
    | ((with_reducible apply d_end); kernel_rfl)
    | ((with_reducible apply x_region); exact sdH1)
    | ((with_reducible apply x_regionD); kernel_rfl; exact sdH1; exact sdH1)
    | ((with_reducible first | apply x_leave_exit | apply x_condT); exact sdH1)
    | ((with_reducible apply x_condF); exact sdH1)
    | ((first | ((with_reducible apply x_condB); exact sdH1) | ((with_reducible first | apply o_gB | apply d_gB); exact sdH1; exact sdH1)); all_goals intro hc; all_goals (try simp only [decide_eq_true_eq, decide_eq_false_iff_not, Bool.not_eq_true', Bool.not_eq_false', Bool.and_eq_true, Bool.or_eq_false_iff, Classical.not_not] at hc); all_goals (try (exfalso; omega)))
    | ((with_reducible apply x_end); (first | exact .inl rfl | exact .inr rfl); exact sdH1; exact sdH1))
    all_goals exact ⟨rfl, rfl⟩
  repeat' (first
    | ((with_reducible first | apply o_some | apply o_none | apply x_joined); exact sdH1; exact sdH1)
    | ((with_reducible first | apply d_some | apply d_none); exact sdH1; exact sdH1; exact sdH1)
    | ((with_reducible first | apply o_gT | apply d_gT); exact sdH1; exact sdH1)
    | ((with_reducible first | apply o_gF | apply d_gF); exact sdH1; exact sdH1; rfl)
    | ((with_reducible first | apply o_gU | apply d_gU); exact sdH1; exact sdH1)
    | ((with_reducible apply o_nilq); (exact ⟨by decide, by first | assumption | simp only [go_sem]⟩); exact sdH1; exact sdH1)
    | (with_reducible first | apply o_nil | apply x_next | apply x_seq | apply x_block | apply x_leave_normal | apply x_leave_ret | apply x_pass_ret | apply x_loop_exit | apply x_loop_ret | apply x_pass_exit | apply x_exit | apply x_ret | apply x_skip | apply x_label | apply x_join_ret | apply x_join_exit)
    | ((with_reducible apply d_end); kernel_rfl)
    | ((with_reducible apply x_region); exact sdH1)
    | ((with_reducible apply x_regionD); kernel_rfl; exact sdH1; exact sdH1)
    | ((with_reducible first | apply x_leave_exit | apply x_condT); exact sdH1)
    | ((with_reducible apply x_condF); exact sdH1)
    | ((first | ((with_reducible apply x_condB); exact sdH1) | ((with_reducible first | apply o_gB | apply d_gB); exact sdH1; exact sdH1)); all_goals intro hc; all_goals (try simp only [decide_eq_true_eq, decide_eq_false_iff_not, Bool.not_eq_true', Bool.not_eq_false', Bool.and_eq_true, Bool.or_eq_false_iff, Classical.not_not] at hc); all_goals (try (exfalso; omega)))
    | ((with_reducible apply x_end); (first | exact .inl rfl | exact .inr rfl); exact sdH1; exact sdH1))
  refine x_loopG { ownRes := true } [0, 3] (fun i : Nat => [(0, .d (.str s)), (3, .d (.int .i64 i))]) (fun _ => []) (fun i => i ≤ s.size ∧ (s.data.toList.take i).all chrB = true) (fun i => s.size - i) 0 ?_ ⟨by omega, by simp⟩ ?_
  · exact sdH1
  · rintro i ⟨hi, hall⟩
    by_cases hlt : i < s.size
    · have hlt' : (i : Int) < s.size := by omega
      obtain ⟨c, hgc⟩ : ∃ c, s.data.toList[i]? = some c := ⟨_, List.getElem?_eq_getElem (by omega)⟩
      by_cases hch : chrB c = true
      · have hch2 := hch
        simp only [chrB, decide_eq_true_eq] at hch2
        repeat' (first
    | ((with_reducible first | apply o_some | apply o_none | apply x_joined); exact sdH1; exact sdH1)
    | ((with_reducible first | apply d_some | apply d_none); exact sdH1; exact sdH1; exact sdH1)
    | ((with_reducible first | apply o_gT | apply d_gT); exact sdH1; exact sdH1)
    | ((with_reducible first | apply o_gF | apply d_gF); exact sdH1; exact sdH1; rfl)
    | ((with_reducible first | apply o_gU | apply d_gU); exact sdH1; exact sdH1)
    | ((with_reducible apply o_nilq); (exact ⟨by decide, by first | assumption | simp only [go_sem]⟩); exact sdH1; exact sdH1)
    | (with_reducible first | apply o_nil | apply x_next | apply x_seq | apply x_block | apply x_leave_normal | apply x_leave_ret | apply x_pass_ret | apply x_loop_exit | apply x_loop_ret | apply x_pass_exit | apply x_exit | apply x_ret | apply x_skip | apply x_label | apply x_join_ret | apply x_join_exit)
    | ((with_reducible apply d_end); kernel_rfl)
    | ((with_reducible apply x_region); exact sdH1)
    | ((with_reducible apply x_regionD); kernel_rfl; exact sdH1; exact sdH1)
    | ((with_reducible first | apply x_leave_exit | apply x_condT); exact sdH1)
    | ((with_reducible apply x_condF); exact sdH1)
    | ((first | ((with_reducible apply x_condB); exact sdH1) | ((with_reducible first | apply o_gB | apply d_gB); exact sdH1; exact sdH1)); all_goals intro hc; all_goals (try simp only [decide_eq_true_eq, decide_eq_false_iff_not, Bool.not_eq_true', Bool.not_eq_false', Bool.and_eq_true, Bool.or_eq_false_iff, Classical.not_not] at hc); all_goals (try (exfalso; omega)))
    | ((with_reducible apply x_end); (first | exact .inl rfl | exact .inr rfl); exact sdH1; exact sdH1))
        all_goals (refine x_again (i + 1) ⟨by omega, all_take hgc hall hch⟩ (by omega) ?_)
        all_goals (exact sdH11)
      · have hch1 : chrB c = false := by simpa using hch
        have hf : nameB s = false := nameL_bad hgc hch1
        simp only [chrB, decide_eq_false_iff_not] at hch1
        rw [hf]
        repeat' (first
    | ((with_reducible first | apply o_some | apply o_none | apply x_joined); exact sdH1; exact sdH1)
    | ((with_reducible first | apply d_some | apply d_none); exact sdH1; exact sdH1; exact sdH1)
    | ((with_reducible first | apply o_gT | apply d_gT); exact sdH1; exact sdH1)
    | ((with_reducible first | apply o_gF | apply d_gF); exact sdH1; exact sdH1; rfl)
    | ((with_reducible first | apply o_gU | apply d_gU); exact sdH1; exact sdH1)
    | ((with_reducible apply o_nilq); (exact ⟨by decide, by first | assumption | simp only [go_sem]⟩); exact sdH1; exact sdH1)
    | (with_reducible first | apply o_nil | apply x_next | apply x_seq | apply x_block | apply x_leave_normal | apply x_leave_ret | apply x_pass_ret | apply x_loop_exit | apply x_loop_ret | apply x_pass_exit | apply x_exit | apply x_ret | apply x_skip | apply x_label | apply x_join_ret | apply x_join_exit)
    | ((with_reducible apply d_end); kernel_rfl)
    | ((with_reducible apply x_region); exact sdH1)
    | ((with_reducible apply x_regionD); kernel_rfl; exact sdH1; exact sdH1)
    | ((with_reducible first | apply x_leave_exit | apply x_condT); exact sdH1)
    | ((with_reducible apply x_condF); exact sdH1)
    | ((first | ((with_reducible apply x_condB); exact sdH1) | ((with_reducible first | apply o_gB | apply d_gB); exact sdH1; exact sdH1)); all_goals intro hc; all_goals (try simp only [decide_eq_true_eq, decide_eq_false_iff_not, Bool.not_eq_true', Bool.not_eq_false', Bool.and_eq_true, Bool.or_eq_false_iff, Classical.not_not] at hc); all_goals (try (exfalso; omega)))
    | ((with_reducible apply x_end); (first | exact .inl rfl | exact .inr rfl); exact sdH1; exact sdH1))
        all_goals (first | exact ⟨rfl, rfl⟩ | trace_state)
    · have hlt' : ¬ (i : Int) < s.size := by omega
      have hi : i = s.data.toList.length := by omega
      rw [hi, List.take_length] at hall
      have hle : s.data.toList.length ≤ 32 := by omega
      have hf : nameB s = true := by
        unfold nameB
        cases hl : s.data.toList with
        | nil => rw [hl] at hsz; simp only [List.length_nil] at hsz; omega
        | cons d r =>
          rw [hl] at hb
          simp only [List.getElem?_cons_zero, Option.some.injEq] at hb
          subst hb
          rw [← hl]
          exact nameL_good hl hle (by simp only [letB, decide_eq_true_eq]; omega) hall
      rw [hf]
      repeat' (first
    | ((with_reducible first | apply o_some | apply o_none | apply x_joined); exact sdH1; exact sdH1)
    | ((with_reducible first | apply d_some | apply d_none); exact sdH1; exact sdH1; exact sdH1)
    | ((with_reducible first | apply o_gT | apply d_gT); exact sdH1; exact sdH1)
    | ((with_reducible first | apply o_gF | apply d_gF); exact sdH1; exact sdH1; rfl)
    | ((with_reducible first | apply o_gU | apply d_gU); exact sdH1; exact sdH1)
    | ((with_reducible apply o_nilq); (exact ⟨by decide, by first | assumption | simp only [go_sem]⟩); exact sdH1; exact sdH1)
    | (with_reducible first | apply o_nil | apply x_next | apply x_seq | apply x_block | apply x_leave_normal | apply x_leave_ret | apply x_pass_ret | apply x_loop_exit | apply x_loop_ret | apply x_pass_exit | apply x_exit | apply x_ret | apply x_skip | apply x_label | apply x_join_ret | apply x_join_exit)
    | ((with_reducible apply d_end); kernel_rfl)
    | ((with_reducible apply x_region); exact sdH1)
    | ((with_reducible apply x_regionD); kernel_rfl; exact sdH1; exact sdH1)
    | ((with_reducible first | apply x_leave_exit | apply x_condT); exact sdH1)
    | ((with_reducible apply x_condF); exact sdH1)
    | ((first | ((with_reducible apply x_condB); exact sdH1) | ((with_reducible first | apply o_gB | apply d_gB); exact sdH1; exact sdH1)); all_goals intro hc; all_goals (try simp only [decide_eq_true_eq, decide_eq_false_iff_not, Bool.not_eq_true', Bool.not_eq_false', Bool.and_eq_true, Bool.or_eq_false_iff, Classical.not_not] at hc); all_goals (try (exfalso; omega)))
    | ((with_reducible apply x_end); (first | exact .inl rfl | exact .inr rfl); exact sdH1; exact sdH1))
      all_goals exact ⟨rfl, rfl⟩
end Go.Proofs.Ytfdekggfdklfeaa
