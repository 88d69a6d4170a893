/-
  Contracts: a predicate of a case.
-/
import Derived.Test.YtfdekggfdklfeaaG10
import Derived.Test.YtfdekggfdklfeaaS1
set_option linter.all false
set_option linter.unusedVariables false
set_option linter.unusedSimpArgs false
namespace Go.Proofs.Ytfdekggfdklfeaa
open Go.Ab
attribute [local irreducible] seqK blockK loopK endK
set_option maxRecDepth 10000
set_option maxHeartbeats 16000000
theorem e_tree0 (codes : List UInt8) (cols params : List Int) (hb : codes.length ≤ 1000) (h1 : cols.length ≤ 1000) (h2 : params.length ≤ 1000) (a : Nat) :
    ∃ (x : Pred × Nat), x.1.sz ≤ 1 ∧ TreeA codes cols params 0 a x.1 x.2 := by
  obtain ⟨p, a', h, h'⟩ := e_leaf codes a cols params 0 hb h1 h2 (.inr (by omega))
  exact ⟨(p, a'), h, h'⟩
def plS (f : Nat → Pred × Nat) (a : Nat) : Nat → Nat
  | 0 => a
  | i + 1 => (f (plS f a i)).2
def arS (f : Nat → Pred × Nat) (a : Nat) : Nat → List Pred
  | 0 => []
  | i + 1 => arS f a i ++ [(f (plS f a i)).1]
theorem arS_sz {f : Nat → Pred × Nat} {a : Nat} (h : ∀ x, (f x).1.sz ≤ 1) : ∀ i, Pred.szL (arS f a i) ≤ i
  | 0 => by simp [arS, Pred.szL]
  | i + 1 => by
    have h1 := arS_sz (a := a) h i
    have h2 := h (plS f a i)
    have : ∀ l : List Pred, ∀ p : Pred, Pred.szL (l ++ [p]) = Pred.szL l + p.sz := fun l p => by
      induction l with
      | nil => simp [Pred.szL]
      | cons x r ih => rw [List.cons_append, Pred.szL, Pred.szL, ih]; omega
    rw [arS, this]; omega
abbrev zP : AO := .flat 13 [[.int .i64 0, .int .i64 0, .int .i64 0, .int .i64 0, .int .i64 0, .int .i64 0, .str ⟨#[]⟩, .int .i64 0, .int .i64 0, .int .i64 0, .int .i64 0, .str ⟨#[]⟩, .snil]]
abbrev nP (op : Int) : AO := .flat 13 [[.int .i64 op, .int .i64 0, .int .i64 0, .int .i64 0, .int .i64 0, .int .i64 0, .str ⟨#[]⟩, .int .i64 0, .int .i64 0, .int .i64 0, .int .i64 0, .str ⟨#[]⟩, .snil]]
abbrev hP (codes : List UInt8) (op : Int) (a : Nat) (l : List Pred) : Heap := match l with
  | [] => [some (caseO codes a), some zP, some (nP op)]
  | q :: r => [some (caseO codes a), some zP, some (.cells 13 [[.d (.int .i64 op), .d (.int .i64 0), .d (.int .i64 0), .d (.int .i64 0), .d (.int .i64 0), .d (.int .i64 0), .d (.str ⟨#[]⟩), .d (.int .i64 0), .d (.int .i64 0), .d (.int .i64 0), .d (.int .i64 0), .d (.str ⟨#[]⟩), .sl 3 0 (r.length + 1) false]]), some (.flat 13 (q.cells :: r.map fun p => p.cells))]
theorem sdG110 {α : Type _} {a b : α} (h : a = b := by (first | (simp (maxSteps := 2000000) (disch := first | assumption | omega | (simp only [go_sem] <;> with_reducible rfl)) only [go_sem, ↓reduceIte, ↓reduceDIte, Nat.reduceEqDiff, reduceCtorEq, Nat.reduceAdd, Nat.reduceSub, Nat.reduceMul, Nat.reduceBEq, Nat.reduceBNe, Nat.reduceLeDiff, Nat.reduceLT, Int.reduceLT, Int.reduceLE, Int.reduceToNat, Int.reduceEq, Int.reduceNeg, Int.reduceAdd, Int.reduceSub, Int.reduceMul, Nat.reduceMod, Nat.reduceDiv, Nat.reducePow, BEq.rfl, gt_iff_lt, ge_iff_le, *, hP] <;> with_reducible rfl) | with_reducible rfl)) : a = b := h
theorem sdG110p {a b : Nat} (h : a ≤ b := by (first | (simp (maxSteps := 2000000) (disch := first | assumption | omega | (simp only [go_sem] <;> with_reducible rfl)) only [go_sem, ↓reduceIte, ↓reduceDIte, Nat.reduceEqDiff, reduceCtorEq, Nat.reduceAdd, Nat.reduceSub, Nat.reduceMul, Nat.reduceBEq, Nat.reduceBNe, Nat.reduceLeDiff, Nat.reduceLT, Int.reduceLT, Int.reduceLE, Int.reduceToNat, Int.reduceEq, Int.reduceNeg, Int.reduceAdd, Int.reduceSub, Int.reduceMul, Nat.reduceMod, Nat.reduceDiv, Nat.reducePow, BEq.rfl, gt_iff_lt, ge_iff_le, *, hP] <;> with_reducible rfl) | with_reducible rfl)) : a ≤ b := h
theorem sdG111 {α : Type _} {a b : α} (h : a = b := by (first | (simp (maxSteps := 2000000) (disch := first | assumption | omega | (simp only [go_sem] <;> with_reducible rfl)) only [go_sem, ↓reduceIte, ↓reduceDIte, Nat.reduceEqDiff, reduceCtorEq, Nat.reduceAdd, Nat.reduceSub, Nat.reduceMul, Nat.reduceBEq, Nat.reduceBNe, Nat.reduceLeDiff, Nat.reduceLT, Int.reduceLT, Int.reduceLE, Int.reduceToNat, Int.reduceEq, Int.reduceNeg, Int.reduceAdd, Int.reduceSub, Int.reduceMul, Nat.reduceMod, Nat.reduceDiv, Nat.reducePow, BEq.rfl, gt_iff_lt, ge_iff_le, *, arS, plS, hP, Int.natCast_zero, Int.sub_zero] <;> with_reducible rfl) | with_reducible rfl)) : a = b := h
theorem sdG111p {a b : Nat} (h : a ≤ b := by (first | (simp (maxSteps := 2000000) (disch := first | assumption | omega | (simp only [go_sem] <;> with_reducible rfl)) only [go_sem, ↓reduceIte, ↓reduceDIte, Nat.reduceEqDiff, reduceCtorEq, Nat.reduceAdd, Nat.reduceSub, Nat.reduceMul, Nat.reduceBEq, Nat.reduceBNe, Nat.reduceLeDiff, Nat.reduceLT, Int.reduceLT, Int.reduceLE, Int.reduceToNat, Int.reduceEq, Int.reduceNeg, Int.reduceAdd, Int.reduceSub, Int.reduceMul, Nat.reduceMod, Nat.reduceDiv, Nat.reducePow, BEq.rfl, gt_iff_lt, ge_iff_le, *, arS, plS, hP, Int.natCast_zero, Int.sub_zero] <;> with_reducible rfl) | with_reducible rfl)) : a ≤ b := h
theorem sdG11 {α : Type _} {a b : α} (h : a = b := by (first | (simp (maxSteps := 2000000) (disch := first | assumption | omega | (simp only [go_sem] <;> with_reducible rfl)) only [go_sem, ↓reduceIte, ↓reduceDIte, Nat.reduceEqDiff, reduceCtorEq, Nat.reduceAdd, Nat.reduceSub, Nat.reduceMul, Nat.reduceBEq, Nat.reduceBNe, Nat.reduceLeDiff, Nat.reduceLT, Int.reduceLT, Int.reduceLE, Int.reduceToNat, Int.reduceEq, Int.reduceNeg, Int.reduceAdd, Int.reduceSub, Int.reduceMul, Nat.reduceMod, Nat.reduceDiv, Nat.reducePow, BEq.rfl, gt_iff_lt, ge_iff_le, *] <;> with_reducible rfl) | with_reducible rfl)) : a = b := h
theorem sdG11p {a b : Nat} (h : a ≤ b := by (first | (simp (maxSteps := 2000000) (disch := first | assumption | omega | (simp only [go_sem] <;> with_reducible rfl)) only [go_sem, ↓reduceIte, ↓reduceDIte, Nat.reduceEqDiff, reduceCtorEq, Nat.reduceAdd, Nat.reduceSub, Nat.reduceMul, Nat.reduceBEq, Nat.reduceBNe, Nat.reduceLeDiff, Nat.reduceLT, Int.reduceLT, Int.reduceLE, Int.reduceToNat, Int.reduceEq, Int.reduceNeg, Int.reduceAdd, Int.reduceSub, Int.reduceMul, Nat.reduceMod, Nat.reduceDiv, Nat.reducePow, BEq.rfl, gt_iff_lt, ge_iff_le, *] <;> with_reducible rfl) | with_reducible rfl)) : a ≤ b := h
theorem sdG113 {α : Type _} {a b : α} (h : a = b := by (first | (simp (maxSteps := 2000000) (disch := first | assumption | omega | (simp only [go_sem] <;> with_reducible rfl)) only [go_sem, ↓reduceIte, ↓reduceDIte, Nat.reduceEqDiff, reduceCtorEq, Nat.reduceAdd, Nat.reduceSub, Nat.reduceMul, Nat.reduceBEq, Nat.reduceBNe, Nat.reduceLeDiff, Nat.reduceLT, Int.reduceLT, Int.reduceLE, Int.reduceToNat, Int.reduceEq, Int.reduceNeg, Int.reduceAdd, Int.reduceSub, Int.reduceMul, Nat.reduceMod, Nat.reduceDiv, Nat.reducePow, BEq.rfl, gt_iff_lt, ge_iff_le, *, hP, Int.natCast_add, Int.natCast_one, Int.sub_sub, List.nil_append] <;> with_reducible rfl) | with_reducible rfl)) : a = b := h
theorem sdG113p {a b : Nat} (h : a ≤ b := by (first | (simp (maxSteps := 2000000) (disch := first | assumption | omega | (simp only [go_sem] <;> with_reducible rfl)) only [go_sem, ↓reduceIte, ↓reduceDIte, Nat.reduceEqDiff, reduceCtorEq, Nat.reduceAdd, Nat.reduceSub, Nat.reduceMul, Nat.reduceBEq, Nat.reduceBNe, Nat.reduceLeDiff, Nat.reduceLT, Int.reduceLT, Int.reduceLE, Int.reduceToNat, Int.reduceEq, Int.reduceNeg, Int.reduceAdd, Int.reduceSub, Int.reduceMul, Nat.reduceMod, Nat.reduceDiv, Nat.reducePow, BEq.rfl, gt_iff_lt, ge_iff_le, *, hP, Int.natCast_add, Int.natCast_one, Int.sub_sub, List.nil_append] <;> with_reducible rfl) | with_reducible rfl)) : a ≤ b := h
theorem sdG114 {α : Type _} {a b : α} (h : a = b := by (first | (simp (maxSteps := 2000000) (disch := first | assumption | omega | (simp only [go_sem] <;> with_reducible rfl)) only [go_sem, ↓reduceIte, ↓reduceDIte, Nat.reduceEqDiff, reduceCtorEq, Nat.reduceAdd, Nat.reduceSub, Nat.reduceMul, Nat.reduceBEq, Nat.reduceBNe, Nat.reduceLeDiff, Nat.reduceLT, Int.reduceLT, Int.reduceLE, Int.reduceToNat, Int.reduceEq, Int.reduceNeg, Int.reduceAdd, Int.reduceSub, Int.reduceMul, Nat.reduceMod, Nat.reduceDiv, Nat.reducePow, BEq.rfl, gt_iff_lt, ge_iff_le, *, hP, Int.natCast_add, Int.natCast_one, Int.sub_sub, List.cons_append, List.map_append, List.length_append, List.map_cons, List.map_nil, List.length_cons, List.length_nil] <;> with_reducible rfl) | with_reducible rfl)) : a = b := h
theorem sdG114p {a b : Nat} (h : a ≤ b := by (first | (simp (maxSteps := 2000000) (disch := first | assumption | omega | (simp only [go_sem] <;> with_reducible rfl)) only [go_sem, ↓reduceIte, ↓reduceDIte, Nat.reduceEqDiff, reduceCtorEq, Nat.reduceAdd, Nat.reduceSub, Nat.reduceMul, Nat.reduceBEq, Nat.reduceBNe, Nat.reduceLeDiff, Nat.reduceLT, Int.reduceLT, Int.reduceLE, Int.reduceToNat, Int.reduceEq, Int.reduceNeg, Int.reduceAdd, Int.reduceSub, Int.reduceMul, Nat.reduceMod, Nat.reduceDiv, Nat.reducePow, BEq.rfl, gt_iff_lt, ge_iff_le, *, hP, Int.natCast_add, Int.natCast_one, Int.sub_sub, List.cons_append, List.map_append, List.length_append, List.map_cons, List.map_nil, List.length_cons, List.length_nil] <;> with_reducible rfl) | with_reducible rfl)) : a ≤ b := h
theorem e_tree1 (codes : List UInt8) (cols params : List Int) (hb : codes.length ≤ 1000) (h1 : cols.length ≤ 1000) (h2 : params.length ≤ 1000) (a : Nat) :
    ∃ (p : Pred) (a' : Nat), p.sz ≤ 10 ∧ TreeA codes cols params 1 a p a' := by
  obtain ⟨f, hf⟩ := Classical.axiomOfChoice (e_tree0 codes cols params hb h1 h2)
  by_cases g6 : nxI codes a 9 < 6
  · obtain ⟨p, a', h, h'⟩ := e_leaf codes a cols params 1 hb h1 h2 (.inl g6)
    exact ⟨p, a', by omega, h'⟩
  · have c1 := c_int codes a 9 hb
    have o2 := nxI_hi (codes := codes) (a := a) (n := 9) (by omega)
    generalize nxI codes a 9 = op at *
    generalize nxA codes a 9 = a1 at *
    by_cases g7 : op = 6
    · subst g7
      obtain ⟨hsz, hc⟩ := hf a1
      refine ⟨.mk 6 0 ⟨0, 0, ⟨0, 0, ⟨#[]⟩⟩⟩ ⟨0, 0, ⟨0, 0, ⟨#[]⟩⟩⟩ [(f a1).1], (f a1).2, by simp only [Pred.sz, Pred.szL]; omega, ?_⟩
      refine call_func Try.func43 rfl (by decide) (by kernel_rfl) ⟨Nat.le_of_ble_eq_true rfl, Nat.le_of_ble_eq_true rfl⟩ ?_
      repeat' (first
    | ((with_reducible first | apply o_some | apply o_none | apply x_joined); exact sdG110; exact sdG110)
    | ((with_reducible first | apply d_some | apply d_none); exact sdG110; exact sdG110; exact sdG110)
    | ((with_reducible first | apply o_gT | apply d_gT); exact sdG110; exact sdG110)
    | ((with_reducible first | apply o_gF | apply d_gF); exact sdG110; exact sdG110; rfl)
    | ((with_reducible first | apply o_gU | apply d_gU); exact sdG110; exact sdG110)
    | ((with_reducible apply o_nilq); (exact ⟨by decide, by first | assumption | simp only [go_sem]⟩); exact sdG110; exact sdG110)
    | (with_reducible first | apply o_nil | apply x_next | apply x_seq | apply x_block | apply x_leave_normal | apply x_leave_ret | apply x_pass_ret | apply x_loop_exit | apply x_loop_ret | apply x_pass_exit | apply x_exit | apply x_ret | apply x_skip | apply x_label | apply x_join_ret | apply x_join_exit)
    | ((with_reducible apply d_end); kernel_rfl)
    | ((with_reducible apply x_region); exact sdG110)
    | ((with_reducible apply x_regionD); kernel_rfl; exact sdG110; exact sdG110)
    | ((with_reducible first | apply x_leave_exit | apply x_condT); exact sdG110)
    | ((with_reducible apply x_condF); exact sdG110)
    | ((first | ((with_reducible apply x_condB); exact sdG110) | ((with_reducible first | apply o_gB | apply d_gB); exact sdG110; exact sdG110)); all_goals intro hc; all_goals (try simp only [decide_eq_true_eq, decide_eq_false_iff_not, Bool.not_eq_true', Bool.not_eq_false', Bool.and_eq_true, Bool.or_eq_false_iff, Classical.not_not] at hc); all_goals (try (exfalso; omega)))
    | ((with_reducible apply o_call); exact sdG110; exact sdG110; exact sdG110; (first | assumption); exact sdG110; exact sdG110)
    | ((with_reducible apply o_callN); exact sdG110; exact sdG110; exact sdG110; (first | assumption); exact sdG110)
    | ((with_reducible apply d_callS); exact sdG110; exact sdG110; exact sdG110; (first | assumption); exact sdG110p; exact sdG110; exact sdG110; exact sdG110; exact sdG110)
    | ((with_reducible apply x_end); (first | exact .inl rfl | exact .inr rfl); exact sdG110; exact sdG110))
      rw [Pred.cells_eq]
      exact ⟨rfl, rfl⟩
    · obtain ⟨n, a2, ⟨n1, n2, n3⟩, c3⟩ := e_int codes a1 3 hb (by omega)
      have hsz := arS_sz (f := f) (a := a2) (fun x => (hf x).1) (n.toNat + 1)
      refine ⟨.mk (4 + op - 7) 0 ⟨0, 0, ⟨0, 0, ⟨#[]⟩⟩⟩ ⟨0, 0, ⟨0, 0, ⟨#[]⟩⟩⟩ (arS f a2 (n.toNat + 1)), plS f a2 (n.toNat + 1), by simp only [Pred.sz]; omega, ?_⟩
      refine call_func Try.func43 rfl (by decide) (by kernel_rfl) ⟨Nat.le_of_ble_eq_true rfl, Nat.le_of_ble_eq_true rfl⟩ ?_
      repeat' (first
    | ((with_reducible first | apply o_some | apply o_none | apply x_joined); exact sdG110; exact sdG110)
    | ((with_reducible first | apply d_some | apply d_none); exact sdG110; exact sdG110; exact sdG110)
    | ((with_reducible first | apply o_gT | apply d_gT); exact sdG110; exact sdG110)
    | ((with_reducible first | apply o_gF | apply d_gF); exact sdG110; exact sdG110; rfl)
    | ((with_reducible first | apply o_gU | apply d_gU); exact sdG110; exact sdG110)
    | ((with_reducible apply o_nilq); (exact ⟨by decide, by first | assumption | simp only [go_sem]⟩); exact sdG110; exact sdG110)
    | (with_reducible first | apply o_nil | apply x_next | apply x_seq | apply x_block | apply x_leave_normal | apply x_leave_ret | apply x_pass_ret | apply x_loop_exit | apply x_loop_ret | apply x_pass_exit | apply x_exit | apply x_ret | apply x_skip | apply x_label | apply x_join_ret | apply x_join_exit)
    | ((with_reducible apply d_end); kernel_rfl)
    | ((with_reducible apply x_region); exact sdG110)
    | ((with_reducible apply x_regionD); kernel_rfl; exact sdG110; exact sdG110)
    | ((with_reducible first | apply x_leave_exit | apply x_condT); exact sdG110)
    | ((with_reducible apply x_condF); exact sdG110)
    | ((first | ((with_reducible apply x_condB); exact sdG110) | ((with_reducible first | apply o_gB | apply d_gB); exact sdG110; exact sdG110)); all_goals intro hc; all_goals (try simp only [decide_eq_true_eq, decide_eq_false_iff_not, Bool.not_eq_true', Bool.not_eq_false', Bool.and_eq_true, Bool.or_eq_false_iff, Classical.not_not] at hc); all_goals (try (exfalso; omega)))
    | ((with_reducible apply o_call); exact sdG110; exact sdG110; exact sdG110; (first | assumption); exact sdG110; exact sdG110)
    | ((with_reducible apply o_callN); exact sdG110; exact sdG110; exact sdG110; (first | assumption); exact sdG110)
    | ((with_reducible apply d_callS); exact sdG110; exact sdG110; exact sdG110; (first | assumption); exact sdG110p; exact sdG110; exact sdG110; exact sdG110; exact sdG110)
    | ((with_reducible apply x_end); (first | exact .inl rfl | exact .inr rfl); exact sdG110; exact sdG110))
      refine x_loopG { ownRes := true } [0, 1, 2, 3, 8, 9, 12, 13] (fun i : Nat => [(0, .ptr 0 0 0), (1, .d (.fsl (rowsI cols) false false)), (2, .d (.fsl (rowsI params) false false)), (3, .d (.int .i64 1)), (8, .ptr 1 0 0), (9, .d (.int .i64 op)), (12, .ptr 2 0 0), (13, .d (.int .i64 (n - i)))])
        (fun i => hP codes (4 + op - 7) (plS f a2 i) (arS f a2 i)) (fun i => i ≤ n.toNat + 1) (fun i => n.toNat + 1 - i) 0 ?_ (by omega) ?_
      · exact sdG111
      · rintro i hi
        have hbig : 10000 < big := by decide
        by_cases hin : i = n.toNat + 1
        · subst hin
          have hn1 : n - (n.toNat + 1 : Nat) = -1 := by omega
          rcases arS f a2 (n.toNat + 1) with _ | ⟨q, r⟩
          all_goals (repeat' (first
    | ((with_reducible first | apply o_some | apply o_none | apply x_joined); exact sdG11; exact sdG11)
    | ((with_reducible first | apply d_some | apply d_none); exact sdG11; exact sdG11; exact sdG11)
    | ((with_reducible first | apply o_gT | apply d_gT); exact sdG11; exact sdG11)
    | ((with_reducible first | apply o_gF | apply d_gF); exact sdG11; exact sdG11; rfl)
    | ((with_reducible first | apply o_gU | apply d_gU); exact sdG11; exact sdG11)
    | ((with_reducible apply o_nilq); (exact ⟨by decide, by first | assumption | simp only [go_sem]⟩); exact sdG11; exact sdG11)
    | (with_reducible first | apply o_nil | apply x_next | apply x_seq | apply x_block | apply x_leave_normal | apply x_leave_ret | apply x_pass_ret | apply x_loop_exit | apply x_loop_ret | apply x_pass_exit | apply x_exit | apply x_ret | apply x_skip | apply x_label | apply x_join_ret | apply x_join_exit)
    | ((with_reducible apply d_end); kernel_rfl)
    | ((with_reducible apply x_region); exact sdG11)
    | ((with_reducible apply x_regionD); kernel_rfl; exact sdG11; exact sdG11)
    | ((with_reducible first | apply x_leave_exit | apply x_condT); exact sdG11)
    | ((with_reducible apply x_condF); exact sdG11)
    | ((first | ((with_reducible apply x_condB); exact sdG11) | ((with_reducible first | apply o_gB | apply d_gB); exact sdG11; exact sdG11)); all_goals intro hc; all_goals (try simp only [decide_eq_true_eq, decide_eq_false_iff_not, Bool.not_eq_true', Bool.not_eq_false', Bool.and_eq_true, Bool.or_eq_false_iff, Classical.not_not] at hc); all_goals (try (exfalso; omega)))
    | ((with_reducible apply o_call); exact sdG11; exact sdG11; exact sdG11; (first | assumption); exact sdG11; exact sdG11)
    | ((with_reducible apply o_callN); exact sdG11; exact sdG11; exact sdG11; (first | assumption); exact sdG11)
    | ((with_reducible apply d_callS); exact sdG11; exact sdG11; exact sdG11; (first | assumption); exact sdG11p; exact sdG11; exact sdG11; exact sdG11; exact sdG11)
    | ((with_reducible apply x_end); (first | exact .inl rfl | exact .inr rfl); exact sdG11; exact sdG11)))
          all_goals (rw [Pred.cells_eq]; exact ⟨rfl, rfl⟩)
        · obtain ⟨hsz2, hc2⟩ := hf (plS f a2 i)
          have e1 : plS f a2 (i + 1) = (f (plS f a2 i)).2 := rfl
          have e2 : arS f a2 (i + 1) = arS f a2 i ++ [(f (plS f a2 i)).1] := rfl
          have hn2 : 0 ≤ n - (i : Int) := by omega
          have hw2 := wrap_i64 (x := n - (i : Int) - 1) (by omega) (by omega)
          have hl : (arS f a2 i).length ≤ 1000 := by
            have h3 := arS_sz (f := f) (a := a2) (fun x => (hf x).1) i
            have h4 := Pred.szL_len (l := arS f a2 i)
            omega
          generalize arS f a2 i = l at *
          rcases l with _ | ⟨q, r⟩
          · repeat' (first
    | ((with_reducible first | apply o_some | apply o_none | apply x_joined); exact sdG110; exact sdG110)
    | ((with_reducible first | apply d_some | apply d_none); exact sdG110; exact sdG110; exact sdG110)
    | ((with_reducible first | apply o_gT | apply d_gT); exact sdG110; exact sdG110)
    | ((with_reducible first | apply o_gF | apply d_gF); exact sdG110; exact sdG110; rfl)
    | ((with_reducible first | apply o_gU | apply d_gU); exact sdG110; exact sdG110)
    | ((with_reducible apply o_nilq); (exact ⟨by decide, by first | assumption | simp only [go_sem]⟩); exact sdG110; exact sdG110)
    | (with_reducible first | apply o_nil | apply x_next | apply x_seq | apply x_block | apply x_leave_normal | apply x_leave_ret | apply x_pass_ret | apply x_loop_exit | apply x_loop_ret | apply x_pass_exit | apply x_exit | apply x_ret | apply x_skip | apply x_label | apply x_join_ret | apply x_join_exit)
    | ((with_reducible apply d_end); kernel_rfl)
    | ((with_reducible apply x_region); exact sdG110)
    | ((with_reducible apply x_regionD); kernel_rfl; exact sdG110; exact sdG110)
    | ((with_reducible first | apply x_leave_exit | apply x_condT); exact sdG110)
    | ((with_reducible apply x_condF); exact sdG110)
    | ((first | ((with_reducible apply x_condB); exact sdG110) | ((with_reducible first | apply o_gB | apply d_gB); exact sdG110; exact sdG110)); all_goals intro hc; all_goals (try simp only [decide_eq_true_eq, decide_eq_false_iff_not, Bool.not_eq_true', Bool.not_eq_false', Bool.and_eq_true, Bool.or_eq_false_iff, Classical.not_not] at hc); all_goals (try (exfalso; omega)))
    | ((with_reducible apply o_call); exact sdG110; exact sdG110; exact sdG110; (first | assumption); exact sdG110; exact sdG110)
    | ((with_reducible apply o_callN); exact sdG110; exact sdG110; exact sdG110; (first | assumption); exact sdG110)
    | ((with_reducible apply d_callS); exact sdG110; exact sdG110; exact sdG110; (first | assumption); exact sdG110p; exact sdG110; exact sdG110; exact sdG110; exact sdG110)
    | ((with_reducible apply x_end); (first | exact .inl rfl | exact .inr rfl); exact sdG110; exact sdG110))
            refine x_again (i + 1) (by omega) (by omega) ?_
            rw [e1, e2]
            exact sdG113
          · rw [List.length_cons] at hl
            repeat' (first
    | ((with_reducible first | apply o_some | apply o_none | apply x_joined); exact sdG110; exact sdG110)
    | ((with_reducible first | apply d_some | apply d_none); exact sdG110; exact sdG110; exact sdG110)
    | ((with_reducible first | apply o_gT | apply d_gT); exact sdG110; exact sdG110)
    | ((with_reducible first | apply o_gF | apply d_gF); exact sdG110; exact sdG110; rfl)
    | ((with_reducible first | apply o_gU | apply d_gU); exact sdG110; exact sdG110)
    | ((with_reducible apply o_nilq); (exact ⟨by decide, by first | assumption | simp only [go_sem]⟩); exact sdG110; exact sdG110)
    | (with_reducible first | apply o_nil | apply x_next | apply x_seq | apply x_block | apply x_leave_normal | apply x_leave_ret | apply x_pass_ret | apply x_loop_exit | apply x_loop_ret | apply x_pass_exit | apply x_exit | apply x_ret | apply x_skip | apply x_label | apply x_join_ret | apply x_join_exit)
    | ((with_reducible apply d_end); kernel_rfl)
    | ((with_reducible apply x_region); exact sdG110)
    | ((with_reducible apply x_regionD); kernel_rfl; exact sdG110; exact sdG110)
    | ((with_reducible first | apply x_leave_exit | apply x_condT); exact sdG110)
    | ((with_reducible apply x_condF); exact sdG110)
    | ((first | ((with_reducible apply x_condB); exact sdG110) | ((with_reducible first | apply o_gB | apply d_gB); exact sdG110; exact sdG110)); all_goals intro hc; all_goals (try simp only [decide_eq_true_eq, decide_eq_false_iff_not, Bool.not_eq_true', Bool.not_eq_false', Bool.and_eq_true, Bool.or_eq_false_iff, Classical.not_not] at hc); all_goals (try (exfalso; omega)))
    | ((with_reducible apply o_call); exact sdG110; exact sdG110; exact sdG110; (first | assumption); exact sdG110; exact sdG110)
    | ((with_reducible apply o_callN); exact sdG110; exact sdG110; exact sdG110; (first | assumption); exact sdG110)
    | ((with_reducible apply d_callS); exact sdG110; exact sdG110; exact sdG110; (first | assumption); exact sdG110p; exact sdG110; exact sdG110; exact sdG110; exact sdG110)
    | ((with_reducible apply x_end); (first | exact .inl rfl | exact .inr rfl); exact sdG110; exact sdG110))
            refine x_again (i + 1) (by omega) (by omega) ?_
            rw [e1, e2]
            exact sdG114
end Go.Proofs.Ytfdekggfdklfeaa
