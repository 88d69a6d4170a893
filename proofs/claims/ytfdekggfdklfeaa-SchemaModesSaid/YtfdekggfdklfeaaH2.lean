/-
  Contracts: what is a name, in the program.
-/
import Derived.Test.YtfdekggfdklfeaaH1
set_option linter.all false
set_option linter.unusedVariables false
set_option linter.unusedSimpArgs false
namespace Go.Proofs.Ytfdekggfdklfeaa
open Go.Ab
attribute [local irreducible] seqK blockK loopK endK
set_option maxRecDepth 10000
set_option maxHeartbeats 16000000
theorem get_at {s : ByteArray} {i : Nat} {b : UInt8} (h : s.data.toList[i]? = some b) : s.get! i = b := by
  have h1 : s.data[i]? = some b := by rw [← Array.getElem?_toList]; exact h
  obtain ⟨hlt, hg⟩ := Array.getElem?_eq_some_iff.1 h1
  show s.data[i]! = b
  rw [getElem!_pos s.data i hlt, hg]
theorem dec_ascii {s : ByteArray} {i : Nat} {b : UInt8} (h : s.data.toList[i]? = some b) (hb : b.toNat < 128) : Utf8.decode s i = (b.toNat, 1) := by
  unfold Utf8.decode
  simp only [Nat.add_zero, get_at h]
  rw [if_pos hb]
theorem dec_fst {s : ByteArray} {i : Nat} {b : UInt8} (h : s.data.toList[i]? = some b) (hb : ¬ b.toNat < 128) : 128 ≤ (Utf8.decode s i).1 := by
  unfold Utf8.decode
  simp only [Nat.add_zero, get_at h]
  rw [if_neg hb]
  repeat' split
  all_goals (first | (simp only [Utf8.runeError]; omega) | (rename_i h1 h2; simp only [ge_iff_le, Bool.and_eq_true, decide_eq_true_eq] at h2; simp only; omega) | trace_state)
theorem dec_big {s : ByteArray} {i : Nat} {b : UInt8} (h : s.data.toList[i]? = some b) (hb : ¬ b.toNat < 128) : ∃ c w, Utf8.decode s i = (c, w) ∧ 128 ≤ c :=
  ⟨(Utf8.decode s i).1, (Utf8.decode s i).2, rfl, dec_fst h hb⟩
theorem sdH2 {α : Type _} {a b : α} (h : a = b := by (first | (simp (maxSteps := 2000000) (disch := first | assumption | omega | (simp only [go_sem] <;> with_reducible rfl)) only [go_sem, ↓reduceIte, ↓reduceDIte, Nat.reduceEqDiff, reduceCtorEq, Nat.reduceAdd, Nat.reduceSub, Nat.reduceMul, Nat.reduceBEq, Nat.reduceBNe, Nat.reduceLeDiff, Nat.reduceLT, Int.reduceLT, Int.reduceLE, Int.reduceToNat, Int.reduceEq, Int.reduceNeg, Int.reduceAdd, Int.reduceSub, Int.reduceMul, Nat.reduceMod, Nat.reduceDiv, Nat.reducePow, BEq.rfl, gt_iff_lt, ge_iff_le, *] <;> with_reducible rfl) | with_reducible rfl)) : a = b := h
theorem sdH2p {a b : Nat} (h : a ≤ b := by (first | (simp (maxSteps := 2000000) (disch := first | assumption | omega | (simp only [go_sem] <;> with_reducible rfl)) only [go_sem, ↓reduceIte, ↓reduceDIte, Nat.reduceEqDiff, reduceCtorEq, Nat.reduceAdd, Nat.reduceSub, Nat.reduceMul, Nat.reduceBEq, Nat.reduceBNe, Nat.reduceLeDiff, Nat.reduceLT, Int.reduceLT, Int.reduceLE, Int.reduceToNat, Int.reduceEq, Int.reduceNeg, Int.reduceAdd, Int.reduceSub, Int.reduceMul, Nat.reduceMod, Nat.reduceDiv, Nat.reducePow, BEq.rfl, gt_iff_lt, ge_iff_le, *] <;> with_reducible rfl) | with_reducible rfl)) : a ≤ b := h
theorem sdH21 {α : Type _} {a b : α} (h : a = b := by (first | (simp (maxSteps := 2000000) (disch := first | assumption | omega | (simp only [go_sem] <;> with_reducible rfl)) only [go_sem, ↓reduceIte, ↓reduceDIte, Nat.reduceEqDiff, reduceCtorEq, Nat.reduceAdd, Nat.reduceSub, Nat.reduceMul, Nat.reduceBEq, Nat.reduceBNe, Nat.reduceLeDiff, Nat.reduceLT, Int.reduceLT, Int.reduceLE, Int.reduceToNat, Int.reduceEq, Int.reduceNeg, Int.reduceAdd, Int.reduceSub, Int.reduceMul, Nat.reduceMod, Nat.reduceDiv, Nat.reducePow, BEq.rfl, gt_iff_lt, ge_iff_le, *, Int.natCast_zero] <;> with_reducible rfl) | with_reducible rfl)) : a = b := h
theorem sdH21p {a b : Nat} (h : a ≤ b := by (first | (simp (maxSteps := 2000000) (disch := first | assumption | omega | (simp only [go_sem] <;> with_reducible rfl)) only [go_sem, ↓reduceIte, ↓reduceDIte, Nat.reduceEqDiff, reduceCtorEq, Nat.reduceAdd, Nat.reduceSub, Nat.reduceMul, Nat.reduceBEq, Nat.reduceBNe, Nat.reduceLeDiff, Nat.reduceLT, Int.reduceLT, Int.reduceLE, Int.reduceToNat, Int.reduceEq, Int.reduceNeg, Int.reduceAdd, Int.reduceSub, Int.reduceMul, Nat.reduceMod, Nat.reduceDiv, Nat.reducePow, BEq.rfl, gt_iff_lt, ge_iff_le, *, Int.natCast_zero] <;> with_reducible rfl) | with_reducible rfl)) : a ≤ b := h
theorem c_name (s : ByteArray) : CallA Try.prog C (.func 39) {} [.d (.str s)] [] fun v hs => v = .d (.bool (nameB s)) ∧ hs = [] := by
  refine call_func Try.func39 rfl (by decide) (by kernel_rfl) ⟨Nat.le_of_ble_eq_true rfl, Nat.le_of_ble_eq_true rfl⟩ ?_
  have hsz : s.size = s.data.toList.length := by rw [Array.length_toList]; rfl
  have hbig : 1000 < big := by decide
  by_cases h0 : s.size = 0
  · have hf : nameB s = false := nameL_len (.inl (by omega))
    have h0' : (s.size : Int) < 1 := by omega
    rw [hf]
    repeat' (first
    | ((with_reducible first | apply o_some | apply o_none | apply x_joined); exact sdH2; exact sdH2)
    | ((with_reducible first | apply d_some | apply d_none); exact sdH2; exact sdH2; exact sdH2)
    | ((with_reducible first | apply o_gT | apply d_gT); exact sdH2; exact sdH2)
    | ((with_reducible first | apply o_gF | apply d_gF); exact sdH2; exact sdH2; rfl)
    | ((with_reducible first | apply o_gU | apply d_gU); exact sdH2; exact sdH2)
    | ((with_reducible apply o_nilq); (exact ⟨by decide, by first | assumption | simp only [go_sem]⟩); exact sdH2; exact sdH2)
    | (with_reducible first | apply o_nil | apply x_next | apply x_seq | apply x_block | apply x_leave_normal | apply x_leave_ret | apply x_pass_ret | apply x_loop_exit | apply x_loop_ret | apply x_pass_exit | apply x_exit | apply x_ret | apply x_skip | apply x_label | apply x_join_ret | apply x_join_exit)
    | ((with_reducible apply d_end); kernel_rfl)
    | ((with_reducible apply x_region); exact sdH2)
    | ((with_reducible apply x_regionD); kernel_rfl; exact sdH2; exact sdH2)
    | ((with_reducible first | apply x_leave_exit | apply x_condT); exact sdH2)
    | ((with_reducible apply x_condF); exact sdH2)
    | ((first | ((with_reducible apply x_condB); exact sdH2) | ((with_reducible first | apply o_gB | apply d_gB); exact sdH2; exact sdH2)); all_goals intro hc; all_goals (try simp only [decide_eq_true_eq, decide_eq_false_iff_not, Bool.not_eq_true', Bool.not_eq_false', Bool.and_eq_true, Bool.or_eq_false_iff, Classical.not_not] at hc); all_goals (try (exfalso; omega)))
    | ((with_reducible apply x_end); (first | exact .inl rfl | exact .inr rfl); exact sdH2; exact sdH2))
    all_goals exact ⟨rfl, rfl⟩
  have h0' : ¬ (s.size : Int) < 1 := by omega
  by_cases h1 : 32 < s.size
  · have hf : nameB s = false := nameL_len (.inr (by omega))
    have h1' : 32 < (s.size : Int) := by omega
    rw [hf]
    repeat' (first
    | ((with_reducible first | apply o_some | apply o_none | apply x_joined); exact sdH2; exact sdH2)
    | ((with_reducible first | apply d_some | apply d_none); exact sdH2; exact sdH2; exact sdH2)
    | ((with_reducible first | apply o_gT | apply d_gT); exact sdH2; exact sdH2)
    | ((with_reducible first | apply o_gF | apply d_gF); exact sdH2; exact sdH2; rfl)
    | ((with_reducible first | apply o_gU | apply d_gU); exact sdH2; exact sdH2)
    | ((with_reducible apply o_nilq); (exact ⟨by decide, by first | assumption | simp only [go_sem]⟩); exact sdH2; exact sdH2)
    | (with_reducible first | apply o_nil | apply x_next | apply x_seq | apply x_block | apply x_leave_normal | apply x_leave_ret | apply x_pass_ret | apply x_loop_exit | apply x_loop_ret | apply x_pass_exit | apply x_exit | apply x_ret | apply x_skip | apply x_label | apply x_join_ret | apply x_join_exit)
    | ((with_reducible apply d_end); kernel_rfl)
    | ((with_reducible apply x_region); exact sdH2)
    | ((with_reducible apply x_regionD); kernel_rfl; exact sdH2; exact sdH2)
    | ((with_reducible first | apply x_leave_exit | apply x_condT); exact sdH2)
    | ((with_reducible apply x_condF); exact sdH2)
    | ((first | ((with_reducible apply x_condB); exact sdH2) | ((with_reducible first | apply o_gB | apply d_gB); exact sdH2; exact sdH2)); all_goals intro hc; all_goals (try simp only [decide_eq_true_eq, decide_eq_false_iff_not, Bool.not_eq_true', Bool.not_eq_false', Bool.and_eq_true, Bool.or_eq_false_iff, Classical.not_not] at hc); all_goals (try (exfalso; omega)))
    | ((with_reducible apply x_end); (first | exact .inl rfl | exact .inr rfl); exact sdH2; exact sdH2))
    all_goals exact ⟨rfl, rfl⟩
  have h1' : ¬ 32 < (s.size : Int) := by omega
  repeat' (first
    | ((with_reducible first | apply o_some | apply o_none | apply x_joined); exact sdH2; exact sdH2)
    | ((with_reducible first | apply d_some | apply d_none); exact sdH2; exact sdH2; exact sdH2)
    | ((with_reducible first | apply o_gT | apply d_gT); exact sdH2; exact sdH2)
    | ((with_reducible first | apply o_gF | apply d_gF); exact sdH2; exact sdH2; rfl)
    | ((with_reducible first | apply o_gU | apply d_gU); exact sdH2; exact sdH2)
    | ((with_reducible apply o_nilq); (exact ⟨by decide, by first | assumption | simp only [go_sem]⟩); exact sdH2; exact sdH2)
    | (with_reducible first | apply o_nil | apply x_next | apply x_seq | apply x_block | apply x_leave_normal | apply x_leave_ret | apply x_pass_ret | apply x_loop_exit | apply x_loop_ret | apply x_pass_exit | apply x_exit | apply x_ret | apply x_skip | apply x_label | apply x_join_ret | apply x_join_exit)
    | ((with_reducible apply d_end); kernel_rfl)
    | ((with_reducible apply x_region); exact sdH2)
    | ((with_reducible apply x_regionD); kernel_rfl; exact sdH2; exact sdH2)
    | ((with_reducible first | apply x_leave_exit | apply x_condT); exact sdH2)
    | ((with_reducible apply x_condF); exact sdH2)
    | ((first | ((with_reducible apply x_condB); exact sdH2) | ((with_reducible first | apply o_gB | apply d_gB); exact sdH2; exact sdH2)); all_goals intro hc; all_goals (try simp only [decide_eq_true_eq, decide_eq_false_iff_not, Bool.not_eq_true', Bool.not_eq_false', Bool.and_eq_true, Bool.or_eq_false_iff, Classical.not_not] at hc); all_goals (try (exfalso; omega)))
    | ((with_reducible apply x_end); (first | exact .inl rfl | exact .inr rfl); exact sdH2; exact sdH2))
  refine x_loopG { ownRes := true } [15] (fun _ : Nat => [(15, .ptr 0 0 0)]) (fun i => [some (.siter s i)]) (fun i => i ≤ s.size ∧ (s.data.toList.take i).all chrB = true ∧ (0 < i → ∃ b, s.data.toList[0]? = some b ∧ letB b = true)) (fun i => s.size - i) 0 ?_ ⟨by omega, by simp, by omega⟩ ?_
  · exact sdH2
  · rintro i ⟨hi, hall, hfst⟩
    by_cases hlt : i < s.size
    · have hlt' : (i : Int) < s.size := by omega
      obtain ⟨b, hgc⟩ : ∃ b, s.data.toList[i]? = some b := ⟨_, List.getElem?_eq_getElem (by omega)⟩
      by_cases hbb : b.toNat < 128
      · have hdec := dec_ascii hgc hbb
        by_cases hch : chrB b = true
        · by_cases hz : i = 0 ∧ letB b = false
          · obtain ⟨rfl, hz⟩ := hz
            have hf : nameB s = false := nameL_bad0 hgc hz
            simp only [letB, decide_eq_false_iff_not] at hz
            rw [hf]
            repeat' (first
    | ((with_reducible first | apply o_some | apply o_none | apply x_joined); exact sdH21; exact sdH21)
    | ((with_reducible first | apply d_some | apply d_none); exact sdH21; exact sdH21; exact sdH21)
    | ((with_reducible first | apply o_gT | apply d_gT); exact sdH21; exact sdH21)
    | ((with_reducible first | apply o_gF | apply d_gF); exact sdH21; exact sdH21; rfl)
    | ((with_reducible first | apply o_gU | apply d_gU); exact sdH21; exact sdH21)
    | ((with_reducible apply o_nilq); (exact ⟨by decide, by first | assumption | simp only [go_sem]⟩); exact sdH21; exact sdH21)
    | (with_reducible first | apply o_nil | apply x_next | apply x_seq | apply x_block | apply x_leave_normal | apply x_leave_ret | apply x_pass_ret | apply x_loop_exit | apply x_loop_ret | apply x_pass_exit | apply x_exit | apply x_ret | apply x_skip | apply x_label | apply x_join_ret | apply x_join_exit)
    | ((with_reducible apply d_end); kernel_rfl)
    | ((with_reducible apply x_region); exact sdH21)
    | ((with_reducible apply x_regionD); kernel_rfl; exact sdH21; exact sdH21)
    | ((with_reducible first | apply x_leave_exit | apply x_condT); exact sdH21)
    | ((with_reducible apply x_condF); exact sdH21)
    | ((first | ((with_reducible apply x_condB); exact sdH21) | ((with_reducible first | apply o_gB | apply d_gB); exact sdH21; exact sdH21)); all_goals intro hc; all_goals (try simp only [decide_eq_true_eq, decide_eq_false_iff_not, Bool.not_eq_true', Bool.not_eq_false', Bool.and_eq_true, Bool.or_eq_false_iff, Classical.not_not] at hc); all_goals (try (exfalso; omega)))
    | ((with_reducible apply x_end); (first | exact .inl rfl | exact .inr rfl); exact sdH21; exact sdH21))
            all_goals exact ⟨rfl, rfl⟩
          · have hch2 := hch
            simp only [chrB, decide_eq_true_eq] at hch2
            have hz' : (i : Int) = 0 → 97 ≤ b.toNat ∧ b.toNat ≤ 122 := by
              intro h
              by_cases hlb : letB b = true
              · simpa [letB] using hlb
              · exact absurd ⟨by omega, by simpa using hlb⟩ hz
            have hfst' : 0 < i + 1 → ∃ b, s.data.toList[0]? = some b ∧ letB b = true := by
              intro _
              by_cases hi0 : i = 0
              · subst hi0
                exact ⟨b, hgc, by simpa using hz⟩
              · exact hfst (by omega)
            repeat' (first
    | ((with_reducible first | apply o_some | apply o_none | apply x_joined); exact sdH2; exact sdH2)
    | ((with_reducible first | apply d_some | apply d_none); exact sdH2; exact sdH2; exact sdH2)
    | ((with_reducible first | apply o_gT | apply d_gT); exact sdH2; exact sdH2)
    | ((with_reducible first | apply o_gF | apply d_gF); exact sdH2; exact sdH2; rfl)
    | ((with_reducible first | apply o_gU | apply d_gU); exact sdH2; exact sdH2)
    | ((with_reducible apply o_nilq); (exact ⟨by decide, by first | assumption | simp only [go_sem]⟩); exact sdH2; exact sdH2)
    | (with_reducible first | apply o_nil | apply x_next | apply x_seq | apply x_block | apply x_leave_normal | apply x_leave_ret | apply x_pass_ret | apply x_loop_exit | apply x_loop_ret | apply x_pass_exit | apply x_exit | apply x_ret | apply x_skip | apply x_label | apply x_join_ret | apply x_join_exit)
    | ((with_reducible apply d_end); kernel_rfl)
    | ((with_reducible apply x_region); exact sdH2)
    | ((with_reducible apply x_regionD); kernel_rfl; exact sdH2; exact sdH2)
    | ((with_reducible first | apply x_leave_exit | apply x_condT); exact sdH2)
    | ((with_reducible apply x_condF); exact sdH2)
    | ((first | ((with_reducible apply x_condB); exact sdH2) | ((with_reducible first | apply o_gB | apply d_gB); exact sdH2; exact sdH2)); all_goals intro hc; all_goals (try simp only [decide_eq_true_eq, decide_eq_false_iff_not, Bool.not_eq_true', Bool.not_eq_false', Bool.and_eq_true, Bool.or_eq_false_iff, Classical.not_not] at hc); all_goals (try (exfalso; omega)))
    | ((with_reducible apply x_end); (first | exact .inl rfl | exact .inr rfl); exact sdH2; exact sdH2))
            all_goals (refine x_again (i + 1) ⟨by omega, all_take hgc hall hch, hfst'⟩ (by omega) ?_)
            all_goals (exact sdH2)
        · have hch1 : chrB b = false := by simpa using hch
          have hf : nameB s = false := nameL_bad hgc hch1
          simp only [chrB, decide_eq_false_iff_not] at hch1
          rw [hf]
          repeat' (first
    | ((with_reducible first | apply o_some | apply o_none | apply x_joined); exact sdH2; exact sdH2)
    | ((with_reducible first | apply d_some | apply d_none); exact sdH2; exact sdH2; exact sdH2)
    | ((with_reducible first | apply o_gT | apply d_gT); exact sdH2; exact sdH2)
    | ((with_reducible first | apply o_gF | apply d_gF); exact sdH2; exact sdH2; rfl)
    | ((with_reducible first | apply o_gU | apply d_gU); exact sdH2; exact sdH2)
    | ((with_reducible apply o_nilq); (exact ⟨by decide, by first | assumption | simp only [go_sem]⟩); exact sdH2; exact sdH2)
    | (with_reducible first | apply o_nil | apply x_next | apply x_seq | apply x_block | apply x_leave_normal | apply x_leave_ret | apply x_pass_ret | apply x_loop_exit | apply x_loop_ret | apply x_pass_exit | apply x_exit | apply x_ret | apply x_skip | apply x_label | apply x_join_ret | apply x_join_exit)
    | ((with_reducible apply d_end); kernel_rfl)
    | ((with_reducible apply x_region); exact sdH2)
    | ((with_reducible apply x_regionD); kernel_rfl; exact sdH2; exact sdH2)
    | ((with_reducible first | apply x_leave_exit | apply x_condT); exact sdH2)
    | ((with_reducible apply x_condF); exact sdH2)
    | ((first | ((with_reducible apply x_condB); exact sdH2) | ((with_reducible first | apply o_gB | apply d_gB); exact sdH2; exact sdH2)); all_goals intro hc; all_goals (try simp only [decide_eq_true_eq, decide_eq_false_iff_not, Bool.not_eq_true', Bool.not_eq_false', Bool.and_eq_true, Bool.or_eq_false_iff, Classical.not_not] at hc); all_goals (try (exfalso; omega)))
    | ((with_reducible apply x_end); (first | exact .inl rfl | exact .inr rfl); exact sdH2; exact sdH2))
          all_goals (first | exact ⟨rfl, rfl⟩ | trace_state)
      · obtain ⟨c, w, hdec, hc128⟩ := dec_big hgc hbb
        have hch1 : chrB b = false := by simp only [chrB, decide_eq_false_iff_not]; omega
        have hf : nameB s = false := nameL_bad hgc hch1
        rw [hf]
        repeat' (first
    | ((with_reducible first | apply o_some | apply o_none | apply x_joined); exact sdH2; exact sdH2)
    | ((with_reducible first | apply d_some | apply d_none); exact sdH2; exact sdH2; exact sdH2)
    | ((with_reducible first | apply o_gT | apply d_gT); exact sdH2; exact sdH2)
    | ((with_reducible first | apply o_gF | apply d_gF); exact sdH2; exact sdH2; rfl)
    | ((with_reducible first | apply o_gU | apply d_gU); exact sdH2; exact sdH2)
    | ((with_reducible apply o_nilq); (exact ⟨by decide, by first | assumption | simp only [go_sem]⟩); exact sdH2; exact sdH2)
    | (with_reducible first | apply o_nil | apply x_next | apply x_seq | apply x_block | apply x_leave_normal | apply x_leave_ret | apply x_pass_ret | apply x_loop_exit | apply x_loop_ret | apply x_pass_exit | apply x_exit | apply x_ret | apply x_skip | apply x_label | apply x_join_ret | apply x_join_exit)
    | ((with_reducible apply d_end); kernel_rfl)
    | ((with_reducible apply x_region); exact sdH2)
    | ((with_reducible apply x_regionD); kernel_rfl; exact sdH2; exact sdH2)
    | ((with_reducible first | apply x_leave_exit | apply x_condT); exact sdH2)
    | ((with_reducible apply x_condF); exact sdH2)
    | ((first | ((with_reducible apply x_condB); exact sdH2) | ((with_reducible first | apply o_gB | apply d_gB); exact sdH2; exact sdH2)); all_goals intro hc; all_goals (try simp only [decide_eq_true_eq, decide_eq_false_iff_not, Bool.not_eq_true', Bool.not_eq_false', Bool.and_eq_true, Bool.or_eq_false_iff, Classical.not_not] at hc); all_goals (try (exfalso; omega)))
    | ((with_reducible apply x_end); (first | exact .inl rfl | exact .inr rfl); exact sdH2; exact sdH2))
        all_goals (first | exact ⟨rfl, rfl⟩ | trace_state)
    · have hlt' : ¬ (i : Int) < s.size := by omega
      have hi : i = s.data.toList.length := by omega
      rw [hi, List.take_length] at hall
      have hle : s.data.toList.length ≤ 32 := by omega
      have hf : nameB s = true := by
        obtain ⟨b, hb, hlb⟩ := hfst (by omega)
        unfold nameB
        cases hl : s.data.toList with
        | nil => rw [hl] at hsz; simp only [List.length_nil] at hsz; omega
        | cons d r =>
          rw [hl] at hb
          simp only [List.getElem?_cons_zero, Option.some.injEq] at hb
          subst hb
          rw [← hl]
          exact nameL_good hl hle hlb hall
      rw [hf]
      repeat' (first
    | ((with_reducible first | apply o_some | apply o_none | apply x_joined); exact sdH2; exact sdH2)
    | ((with_reducible first | apply d_some | apply d_none); exact sdH2; exact sdH2; exact sdH2)
    | ((with_reducible first | apply o_gT | apply d_gT); exact sdH2; exact sdH2)
    | ((with_reducible first | apply o_gF | apply d_gF); exact sdH2; exact sdH2; rfl)
    | ((with_reducible first | apply o_gU | apply d_gU); exact sdH2; exact sdH2)
    | ((with_reducible apply o_nilq); (exact ⟨by decide, by first | assumption | simp only [go_sem]⟩); exact sdH2; exact sdH2)
    | (with_reducible first | apply o_nil | apply x_next | apply x_seq | apply x_block | apply x_leave_normal | apply x_leave_ret | apply x_pass_ret | apply x_loop_exit | apply x_loop_ret | apply x_pass_exit | apply x_exit | apply x_ret | apply x_skip | apply x_label | apply x_join_ret | apply x_join_exit)
    | ((with_reducible apply d_end); kernel_rfl)
    | ((with_reducible apply x_region); exact sdH2)
    | ((with_reducible apply x_regionD); kernel_rfl; exact sdH2; exact sdH2)
    | ((with_reducible first | apply x_leave_exit | apply x_condT); exact sdH2)
    | ((with_reducible apply x_condF); exact sdH2)
    | ((first | ((with_reducible apply x_condB); exact sdH2) | ((with_reducible first | apply o_gB | apply d_gB); exact sdH2; exact sdH2)); all_goals intro hc; all_goals (try simp only [decide_eq_true_eq, decide_eq_false_iff_not, Bool.not_eq_true', Bool.not_eq_false', Bool.and_eq_true, Bool.or_eq_false_iff, Classical.not_not] at hc); all_goals (try (exfalso; omega)))
    | ((with_reducible apply x_end); (first | exact .inl rfl | exact .inr rfl); exact sdH2; exact sdH2))
      all_goals exact ⟨rfl, rfl⟩
end Go.Proofs.Ytfdekggfdklfeaa
