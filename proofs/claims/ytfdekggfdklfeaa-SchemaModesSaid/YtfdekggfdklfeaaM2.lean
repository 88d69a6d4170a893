/-
  Contracts: a row of a case.
-/
import Derived.Test.YtfdekggfdklfeaaM1
import Derived.Test.YtfdekggfdklfeaaG10
import Derived.Test.YtfdekggfdklfeaaS1
set_option linter.all false
set_option linter.unusedVariables false
set_option linter.unusedSimpArgs false
namespace Go.Proofs.Ytfdekggfdklfeaa
open Go.Ab
attribute [local irreducible] seqK blockK loopK endK joinK
set_option maxRecDepth 10000
set_option maxHeartbeats 64000000
def RowStep (codes : List UInt8) (key mode : Int) (i : Nat) (k : Int) (a : Nat) (x : Val) (a' : Nat) : Prop :=
  ∃ (b1 b2 : Bool) (p1 p2 p3 : Nat) (y : Val),
    ((key ≤ i ∧ ¬ mode = 1) → CallA Try.prog C (.func 29) {} [.ptr 0 0 0, .d (.int .i64 5)] (hC codes a) fun v hs => v = .d (.bool b1) ∧ hs = hC codes p1) ∧
    (¬ (key ≤ i ∧ ¬ mode = 1) → b1 = false ∧ p1 = a) ∧
    ((key ≤ i ∧ mode = 3) → CallA Try.prog C (.func 29) {} [.ptr 0 0 0, .d (.int .i64 5)] (hC codes p1) fun v hs => v = .d (.bool b2) ∧ hs = hC codes p2) ∧
    (¬ (key ≤ i ∧ mode = 3) → b2 = false ∧ p2 = p1) ∧
    (CallA Try.prog C (.func 32) {} [.ptr 0 0 0, .d (.int .i64 k)] (hC codes p2) fun v hs => v = .agg [.d (.int .i64 y.k), .d (.int .i64 y.i), .d (.str y.t)] ∧ hs = hC codes p3) ∧
    x = (bif b1 then ⟨2, 0, ⟨#[]⟩⟩ else bif b2 then ⟨1, 0, ⟨#[]⟩⟩ else y) ∧ a' = (bif b1 then p1 else bif b2 then p2 else p3)
theorem row_step (codes : List UInt8) (hb : codes.length ≤ 1000) (key mode : Int) (i : Nat) (k : Int) (a : Nat) : ∃ (z : Val × Nat), RowStep codes key mode i k a z.1 z.2 := by
  obtain ⟨b1, p1, h1, h2⟩ : ∃ (b1 : Bool) (p1 : Nat), ((key ≤ i ∧ ¬ mode = 1) → CallA Try.prog C (.func 29) {} [.ptr 0 0 0, .d (.int .i64 5)] (hC codes a) fun v hs => v = .d (.bool b1) ∧ hs = hC codes p1) ∧ (¬ (key ≤ i ∧ ¬ mode = 1) → b1 = false ∧ p1 = a) := by
    by_cases h : key ≤ i ∧ ¬ mode = 1
    · obtain ⟨b, p, c⟩ := e_bool codes a 5 hb (by omega) (by omega)
      exact ⟨b, p, fun _ => c, fun n => absurd h n⟩
    · exact ⟨false, a, fun n => absurd n h, fun _ => ⟨rfl, rfl⟩⟩
  obtain ⟨b2, p2, h3, h4⟩ : ∃ (b2 : Bool) (p2 : Nat), ((key ≤ i ∧ mode = 3) → CallA Try.prog C (.func 29) {} [.ptr 0 0 0, .d (.int .i64 5)] (hC codes p1) fun v hs => v = .d (.bool b2) ∧ hs = hC codes p2) ∧ (¬ (key ≤ i ∧ mode = 3) → b2 = false ∧ p2 = p1) := by
    by_cases h : key ≤ i ∧ mode = 3
    · obtain ⟨b, p, c⟩ := e_bool codes p1 5 hb (by omega) (by omega)
      exact ⟨b, p, fun _ => c, fun n => absurd h n⟩
    · exact ⟨false, p1, fun n => absurd n h, fun _ => ⟨rfl, rfl⟩⟩
  obtain ⟨y, p3, c3⟩ := e_value codes p2 k hb
  exact ⟨(_, _), b1, b2, p1, p2, p3, y, h1, h2, h3, h4, c3, rfl, rfl⟩
def plR (F : Nat → Nat → Val × Nat) (a : Nat) : Nat → Nat
  | 0 => a
  | i + 1 => (F i (plR F a i)).2
def rwR (F : Nat → Nat → Val × Nat) (a : Nat) : Nat → List Val
  | 0 => []
  | i + 1 => rwR F a i ++ [(F i (plR F a i)).1]
theorem rwR_len {F : Nat → Nat → Val × Nat} {a : Nat} : ∀ i, (rwR F a i).length = i
  | 0 => rfl
  | i + 1 => by rw [rwR, List.length_append, rwR_len i]; rfl
abbrev hR (codes : List UInt8) (a : Nat) (l : List Val) : Heap := match l with
  | [] => [some (caseO codes a)]
  | q :: r => [some (caseO codes a), some (.flat 3 (q.cells :: r.map fun v => v.cells))]
abbrev vR (l : List Val) : AV := match l with
  | [] => .d .snil
  | _ :: r => .sl 1 0 (r.length + 1) false
theorem sdM2 {α : Type _} {a b : α} (h : a = b := by (first | (simp (maxSteps := 2000000) (disch := first | assumption | omega | (simp only [go_sem] <;> with_reducible rfl)) only [go_sem, ↓reduceIte, ↓reduceDIte, Nat.reduceEqDiff, reduceCtorEq, Nat.reduceAdd, Nat.reduceSub, Nat.reduceMul, Nat.reduceBEq, Nat.reduceBNe, Nat.reduceLeDiff, Nat.reduceLT, Int.reduceLT, Int.reduceLE, Int.reduceToNat, Int.reduceEq, Int.reduceNeg, Int.reduceAdd, Int.reduceSub, Int.reduceMul, Nat.reduceMod, Nat.reduceDiv, Nat.reducePow, BEq.rfl, gt_iff_lt, ge_iff_le, *] <;> with_reducible rfl) | with_reducible rfl)) : a = b := h
theorem sdM2p {a b : Nat} (h : a ≤ b := by (first | (simp (maxSteps := 2000000) (disch := first | assumption | omega | (simp only [go_sem] <;> with_reducible rfl)) only [go_sem, ↓reduceIte, ↓reduceDIte, Nat.reduceEqDiff, reduceCtorEq, Nat.reduceAdd, Nat.reduceSub, Nat.reduceMul, Nat.reduceBEq, Nat.reduceBNe, Nat.reduceLeDiff, Nat.reduceLT, Int.reduceLT, Int.reduceLE, Int.reduceToNat, Int.reduceEq, Int.reduceNeg, Int.reduceAdd, Int.reduceSub, Int.reduceMul, Nat.reduceMod, Nat.reduceDiv, Nat.reducePow, BEq.rfl, gt_iff_lt, ge_iff_le, *] <;> with_reducible rfl) | with_reducible rfl)) : a ≤ b := h
theorem sdM21 {α : Type _} {a b : α} (h : a = b := by (first | (simp (maxSteps := 2000000) (disch := first | assumption | omega | (simp only [go_sem] <;> with_reducible rfl)) only [go_sem, ↓reduceIte, ↓reduceDIte, Nat.reduceEqDiff, reduceCtorEq, Nat.reduceAdd, Nat.reduceSub, Nat.reduceMul, Nat.reduceBEq, Nat.reduceBNe, Nat.reduceLeDiff, Nat.reduceLT, Int.reduceLT, Int.reduceLE, Int.reduceToNat, Int.reduceEq, Int.reduceNeg, Int.reduceAdd, Int.reduceSub, Int.reduceMul, Nat.reduceMod, Nat.reduceDiv, Nat.reducePow, BEq.rfl, gt_iff_lt, ge_iff_le, *, rwR, plR, vR, hR] <;> with_reducible rfl) | with_reducible rfl)) : a = b := h
theorem sdM21p {a b : Nat} (h : a ≤ b := by (first | (simp (maxSteps := 2000000) (disch := first | assumption | omega | (simp only [go_sem] <;> with_reducible rfl)) only [go_sem, ↓reduceIte, ↓reduceDIte, Nat.reduceEqDiff, reduceCtorEq, Nat.reduceAdd, Nat.reduceSub, Nat.reduceMul, Nat.reduceBEq, Nat.reduceBNe, Nat.reduceLeDiff, Nat.reduceLT, Int.reduceLT, Int.reduceLE, Int.reduceToNat, Int.reduceEq, Int.reduceNeg, Int.reduceAdd, Int.reduceSub, Int.reduceMul, Nat.reduceMod, Nat.reduceDiv, Nat.reducePow, BEq.rfl, gt_iff_lt, ge_iff_le, *, rwR, plR, vR, hR] <;> with_reducible rfl) | with_reducible rfl)) : a ≤ b := h
theorem sdM22 {α : Type _} {a b : α} (h : a = b := by (first | (simp (maxSteps := 2000000) (disch := first | assumption | omega | (simp only [go_sem] <;> with_reducible rfl)) only [go_sem, ↓reduceIte, ↓reduceDIte, Nat.reduceEqDiff, reduceCtorEq, Nat.reduceAdd, Nat.reduceSub, Nat.reduceMul, Nat.reduceBEq, Nat.reduceBNe, Nat.reduceLeDiff, Nat.reduceLT, Int.reduceLT, Int.reduceLE, Int.reduceToNat, Int.reduceEq, Int.reduceNeg, Int.reduceAdd, Int.reduceSub, Int.reduceMul, Nat.reduceMod, Nat.reduceDiv, Nat.reducePow, BEq.rfl, gt_iff_lt, ge_iff_le, *, vR, hR] <;> with_reducible rfl) | with_reducible rfl)) : a = b := h
theorem sdM22p {a b : Nat} (h : a ≤ b := by (first | (simp (maxSteps := 2000000) (disch := first | assumption | omega | (simp only [go_sem] <;> with_reducible rfl)) only [go_sem, ↓reduceIte, ↓reduceDIte, Nat.reduceEqDiff, reduceCtorEq, Nat.reduceAdd, Nat.reduceSub, Nat.reduceMul, Nat.reduceBEq, Nat.reduceBNe, Nat.reduceLeDiff, Nat.reduceLT, Int.reduceLT, Int.reduceLE, Int.reduceToNat, Int.reduceEq, Int.reduceNeg, Int.reduceAdd, Int.reduceSub, Int.reduceMul, Nat.reduceMod, Nat.reduceDiv, Nat.reducePow, BEq.rfl, gt_iff_lt, ge_iff_le, *, vR, hR] <;> with_reducible rfl) | with_reducible rfl)) : a ≤ b := h
theorem sdM23 {α : Type _} {a b : α} (h : a = b := by (first | (simp (maxSteps := 2000000) (disch := first | assumption | omega | (simp only [go_sem] <;> with_reducible rfl)) only [go_sem, ↓reduceIte, ↓reduceDIte, Nat.reduceEqDiff, reduceCtorEq, Nat.reduceAdd, Nat.reduceSub, Nat.reduceMul, Nat.reduceBEq, Nat.reduceBNe, Nat.reduceLeDiff, Nat.reduceLT, Int.reduceLT, Int.reduceLE, Int.reduceToNat, Int.reduceEq, Int.reduceNeg, Int.reduceAdd, Int.reduceSub, Int.reduceMul, Nat.reduceMod, Nat.reduceDiv, Nat.reducePow, BEq.rfl, gt_iff_lt, ge_iff_le, *, vR, hR, Int.natCast_add, Int.natCast_one, List.nil_append, List.cons_append, List.map_append, List.length_append, List.map_cons, List.map_nil, List.length_cons, List.length_nil, Val.cells] <;> with_reducible rfl) | with_reducible rfl)) : a = b := h
theorem sdM23p {a b : Nat} (h : a ≤ b := by (first | (simp (maxSteps := 2000000) (disch := first | assumption | omega | (simp only [go_sem] <;> with_reducible rfl)) only [go_sem, ↓reduceIte, ↓reduceDIte, Nat.reduceEqDiff, reduceCtorEq, Nat.reduceAdd, Nat.reduceSub, Nat.reduceMul, Nat.reduceBEq, Nat.reduceBNe, Nat.reduceLeDiff, Nat.reduceLT, Int.reduceLT, Int.reduceLE, Int.reduceToNat, Int.reduceEq, Int.reduceNeg, Int.reduceAdd, Int.reduceSub, Int.reduceMul, Nat.reduceMod, Nat.reduceDiv, Nat.reducePow, BEq.rfl, gt_iff_lt, ge_iff_le, *, vR, hR, Int.natCast_add, Int.natCast_one, List.nil_append, List.cons_append, List.map_append, List.length_append, List.map_cons, List.map_nil, List.length_cons, List.length_nil, Val.cells] <;> with_reducible rfl) | with_reducible rfl)) : a ≤ b := h
theorem e_row (codes : List UInt8) (hb : codes.length ≤ 1000) (kinds : List Int) (key mode : Int) (hk : kinds.length ≤ 1000) (a : Nat) : ∃ (row : List Val) (a' : Nat), row.length = kinds.length ∧
    CallA Try.prog C (.func 14) {} [.ptr 0 0 0, .d (.fsl (rowsI kinds) false false), .d (.int .i64 key), .d (.int .i64 mode)] (hC codes a) fun v hs => v = .d (.fsl (rowsV row) false false) ∧ hs = hC codes a' := by
  obtain ⟨F, hF⟩ : ∃ F : Nat → Nat → Val × Nat, ∀ i a, RowStep codes key mode i (kinds.getD i 0) a (F i a).1 (F i a).2 := by
    have := fun (z : Nat × Nat) => row_step codes hb key mode z.1 (kinds.getD z.1 0) z.2
    obtain ⟨f, hf⟩ := Classical.axiomOfChoice this
    exact ⟨fun i a => f (i, a), fun i a => hf (i, a)⟩
  refine ⟨rwR F a kinds.length, plR F a kinds.length, rwR_len _, ?_⟩
  refine call_func Try.func14 rfl (by decide) (by kernel_rfl) ⟨Nat.le_of_ble_eq_true rfl, Nat.le_of_ble_eq_true rfl⟩ ?_
  have hbig : 1000000 < big := by decide
  repeat' (first
    | ((with_reducible first | apply o_some | apply o_none | apply x_joined); exact sdM2; exact sdM2)
    | ((with_reducible first | apply d_some | apply d_none); exact sdM2; exact sdM2; exact sdM2)
    | ((with_reducible first | apply o_gT | apply d_gT); exact sdM2; exact sdM2)
    | ((with_reducible first | apply o_gF | apply d_gF); exact sdM2; exact sdM2; rfl)
    | ((with_reducible first | apply o_gU | apply d_gU); exact sdM2; exact sdM2)
    | ((with_reducible apply o_nilq); (exact ⟨by decide, by first | assumption | simp only [go_sem]⟩); exact sdM2; exact sdM2)
    | (with_reducible first | apply o_nil | apply x_next | apply x_seq | apply x_block | apply x_leave_normal | apply x_leave_ret | apply x_pass_ret | apply x_loop_exit | apply x_loop_ret | apply x_pass_exit | apply x_exit | apply x_ret | apply x_skip | apply x_label | apply x_join_ret | apply x_join_exit)
    | ((with_reducible apply d_end); kernel_rfl)
    | ((with_reducible apply x_region); exact sdM2)
    | ((with_reducible apply x_regionD); kernel_rfl; exact sdM2; exact sdM2)
    | ((with_reducible first | apply x_leave_exit | apply x_condT); exact sdM2)
    | ((with_reducible apply x_condF); exact sdM2)
    | ((first | ((with_reducible apply x_condB); exact sdM2) | ((with_reducible first | apply o_gB | apply d_gB); exact sdM2; exact sdM2)); all_goals intro hc; all_goals (try simp only [decide_eq_true_eq, decide_eq_false_iff_not, Bool.not_eq_true', Bool.not_eq_false', Bool.and_eq_true, Bool.or_eq_false_iff, Classical.not_not] at hc); all_goals (try (exfalso; omega)))
    | ((with_reducible apply x_end); (first | exact .inl rfl | exact .inr rfl); exact sdM2; exact sdM2))
  refine x_loopG { ownRes := true } [0, 2, 3, 9, 12, 13, 14] (fun i : Nat => [(0, .ptr 0 0 0), (2, .d (.int .i64 key)), (3, .d (.int .i64 mode)), (9, vR (rwR F a i)), (12, .d (.fsl (rowsI kinds) false false)), (13, .d (.int .i64 kinds.length)), (14, .d (.int .i64 i))])
    (fun i => hR codes (plR F a i) (rwR F a i)) (fun i => i ≤ kinds.length) (fun i => kinds.length - i) 0 ?_ (by omega) ?_
  · exact sdM21
  · intro i hi
    by_cases hlt : i < kinds.length
    · have hlt' : (i : Int) < kinds.length := by omega
      have hgi : kinds[i]? = some (kinds.getD i 0) := by simp [List.getD, hlt]
      obtain ⟨b1, b2, p1, p2, p3, y, c1, c1n, c2, c2n, c3, ex, ea⟩ := hF i (plR F a i)
      have e1 : plR F a (i + 1) = (F i (plR F a i)).2 := rfl
      have e2 : rwR F a (i + 1) = rwR F a i ++ [(F i (plR F a i)).1] := rfl
      rw [ea] at e1
      rw [ex] at e2
      have hln : (rwR F a i).length ≤ 1000 := by rw [rwR_len]; omega
      clear ex ea
      generalize kinds.getD i 0 = k at *
      generalize plR F a i = q at *
      generalize rwR F a i = l at *
      by_cases h1 : key ≤ i
      · by_cases m1 : mode = 1
        · obtain ⟨rfl, rfl⟩ := c1n (by omega)
          obtain ⟨rfl, rfl⟩ := c2n (by omega)
          clear c1 c1n c2 c2n
          simp only [cond_false] at e1 e2
          all_goals (rcases l with _ | ⟨w, r⟩)
          all_goals (try rw [List.length_cons] at hln)
          all_goals (repeat' (first
    | ((with_reducible first | apply o_some | apply o_none | apply x_joined); exact sdM22; exact sdM22)
    | ((with_reducible first | apply d_some | apply d_none); exact sdM22; exact sdM22; exact sdM22)
    | ((with_reducible first | apply o_gT | apply d_gT); exact sdM22; exact sdM22)
    | ((with_reducible first | apply o_gF | apply d_gF); exact sdM22; exact sdM22; rfl)
    | ((with_reducible first | apply o_gU | apply d_gU); exact sdM22; exact sdM22)
    | ((with_reducible apply o_nilq); (exact ⟨by decide, by first | assumption | simp only [go_sem]⟩); exact sdM22; exact sdM22)
    | (with_reducible first | apply o_nil | apply x_next | apply x_seq | apply x_block | apply x_leave_normal | apply x_leave_ret | apply x_pass_ret | apply x_loop_exit | apply x_loop_ret | apply x_pass_exit | apply x_exit | apply x_ret | apply x_skip | apply x_label | apply x_join_ret | apply x_join_exit)
    | ((with_reducible apply d_end); kernel_rfl)
    | ((with_reducible apply x_region); exact sdM22)
    | ((with_reducible apply x_regionD); kernel_rfl; exact sdM22; exact sdM22)
    | ((with_reducible first | apply x_leave_exit | apply x_condT); exact sdM22)
    | ((with_reducible apply x_condF); exact sdM22)
    | ((first | ((with_reducible apply x_condB); exact sdM22) | ((with_reducible first | apply o_gB | apply d_gB); exact sdM22; exact sdM22)); all_goals intro hc; all_goals (try simp only [decide_eq_true_eq, decide_eq_false_iff_not, Bool.not_eq_true', Bool.not_eq_false', Bool.and_eq_true, Bool.or_eq_false_iff, Classical.not_not] at hc); all_goals (try (exfalso; omega)))
    | ((with_reducible apply o_call); exact sdM22; exact sdM22; exact sdM22; (first | assumption); exact sdM22; exact sdM22)
    | ((with_reducible apply o_callN); exact sdM22; exact sdM22; exact sdM22; (first | assumption); exact sdM22)
    | ((with_reducible apply d_callS); exact sdM22; exact sdM22; exact sdM22; (first | assumption); exact sdM22p; exact sdM22; exact sdM22; exact sdM22; exact sdM22)
    | ((with_reducible apply x_end); (first | exact .inl rfl | exact .inr rfl); exact sdM22; exact sdM22)))
          all_goals (refine x_again (i + 1) (by omega) (by omega) ?_)
          all_goals (rw [e1, e2])
          all_goals (exact sdM23)
        · have c1 := c1 ⟨h1, m1⟩
          clear c1n
          by_cases m3 : mode = 3
          · have c2 := c2 ⟨h1, m3⟩
            clear c2n
            cases b1
            all_goals (cases b2)
            all_goals (simp only [cond_false, cond_true] at e1 e2)
            all_goals (rcases l with _ | ⟨w, r⟩)
            all_goals (try rw [List.length_cons] at hln)
            all_goals (repeat' (first
    | ((with_reducible first | apply o_some | apply o_none | apply x_joined); exact sdM22; exact sdM22)
    | ((with_reducible first | apply d_some | apply d_none); exact sdM22; exact sdM22; exact sdM22)
    | ((with_reducible first | apply o_gT | apply d_gT); exact sdM22; exact sdM22)
    | ((with_reducible first | apply o_gF | apply d_gF); exact sdM22; exact sdM22; rfl)
    | ((with_reducible first | apply o_gU | apply d_gU); exact sdM22; exact sdM22)
    | ((with_reducible apply o_nilq); (exact ⟨by decide, by first | assumption | simp only [go_sem]⟩); exact sdM22; exact sdM22)
    | (with_reducible first | apply o_nil | apply x_next | apply x_seq | apply x_block | apply x_leave_normal | apply x_leave_ret | apply x_pass_ret | apply x_loop_exit | apply x_loop_ret | apply x_pass_exit | apply x_exit | apply x_ret | apply x_skip | apply x_label | apply x_join_ret | apply x_join_exit)
    | ((with_reducible apply d_end); kernel_rfl)
    | ((with_reducible apply x_region); exact sdM22)
    | ((with_reducible apply x_regionD); kernel_rfl; exact sdM22; exact sdM22)
    | ((with_reducible first | apply x_leave_exit | apply x_condT); exact sdM22)
    | ((with_reducible apply x_condF); exact sdM22)
    | ((first | ((with_reducible apply x_condB); exact sdM22) | ((with_reducible first | apply o_gB | apply d_gB); exact sdM22; exact sdM22)); all_goals intro hc; all_goals (try simp only [decide_eq_true_eq, decide_eq_false_iff_not, Bool.not_eq_true', Bool.not_eq_false', Bool.and_eq_true, Bool.or_eq_false_iff, Classical.not_not] at hc); all_goals (try (exfalso; omega)))
    | ((with_reducible apply o_call); exact sdM22; exact sdM22; exact sdM22; (first | assumption); exact sdM22; exact sdM22)
    | ((with_reducible apply o_callN); exact sdM22; exact sdM22; exact sdM22; (first | assumption); exact sdM22)
    | ((with_reducible apply d_callS); exact sdM22; exact sdM22; exact sdM22; (first | assumption); exact sdM22p; exact sdM22; exact sdM22; exact sdM22; exact sdM22)
    | ((with_reducible apply x_end); (first | exact .inl rfl | exact .inr rfl); exact sdM22; exact sdM22)))
            all_goals (refine x_again (i + 1) (by omega) (by omega) ?_)
            all_goals (rw [e1, e2])
            all_goals (exact sdM23)
          · obtain ⟨rfl, rfl⟩ := c2n (by omega)
            clear c2 c2n
            cases b1
            all_goals (simp only [cond_false, cond_true] at e1 e2)
            all_goals (rcases l with _ | ⟨w, r⟩)
            all_goals (try rw [List.length_cons] at hln)
            all_goals (repeat' (first
    | ((with_reducible first | apply o_some | apply o_none | apply x_joined); exact sdM22; exact sdM22)
    | ((with_reducible first | apply d_some | apply d_none); exact sdM22; exact sdM22; exact sdM22)
    | ((with_reducible first | apply o_gT | apply d_gT); exact sdM22; exact sdM22)
    | ((with_reducible first | apply o_gF | apply d_gF); exact sdM22; exact sdM22; rfl)
    | ((with_reducible first | apply o_gU | apply d_gU); exact sdM22; exact sdM22)
    | ((with_reducible apply o_nilq); (exact ⟨by decide, by first | assumption | simp only [go_sem]⟩); exact sdM22; exact sdM22)
    | (with_reducible first | apply o_nil | apply x_next | apply x_seq | apply x_block | apply x_leave_normal | apply x_leave_ret | apply x_pass_ret | apply x_loop_exit | apply x_loop_ret | apply x_pass_exit | apply x_exit | apply x_ret | apply x_skip | apply x_label | apply x_join_ret | apply x_join_exit)
    | ((with_reducible apply d_end); kernel_rfl)
    | ((with_reducible apply x_region); exact sdM22)
    | ((with_reducible apply x_regionD); kernel_rfl; exact sdM22; exact sdM22)
    | ((with_reducible first | apply x_leave_exit | apply x_condT); exact sdM22)
    | ((with_reducible apply x_condF); exact sdM22)
    | ((first | ((with_reducible apply x_condB); exact sdM22) | ((with_reducible first | apply o_gB | apply d_gB); exact sdM22; exact sdM22)); all_goals intro hc; all_goals (try simp only [decide_eq_true_eq, decide_eq_false_iff_not, Bool.not_eq_true', Bool.not_eq_false', Bool.and_eq_true, Bool.or_eq_false_iff, Classical.not_not] at hc); all_goals (try (exfalso; omega)))
    | ((with_reducible apply o_call); exact sdM22; exact sdM22; exact sdM22; (first | assumption); exact sdM22; exact sdM22)
    | ((with_reducible apply o_callN); exact sdM22; exact sdM22; exact sdM22; (first | assumption); exact sdM22)
    | ((with_reducible apply d_callS); exact sdM22; exact sdM22; exact sdM22; (first | assumption); exact sdM22p; exact sdM22; exact sdM22; exact sdM22; exact sdM22)
    | ((with_reducible apply x_end); (first | exact .inl rfl | exact .inr rfl); exact sdM22; exact sdM22)))
            all_goals (refine x_again (i + 1) (by omega) (by omega) ?_)
            all_goals (rw [e1, e2])
            all_goals (exact sdM23)
      · obtain ⟨rfl, rfl⟩ := c1n (by omega)
        obtain ⟨rfl, rfl⟩ := c2n (by omega)
        clear c1 c1n c2 c2n
        simp only [cond_false] at e1 e2
        all_goals (rcases l with _ | ⟨w, r⟩)
        all_goals (try rw [List.length_cons] at hln)
        all_goals (repeat' (first
    | ((with_reducible first | apply o_some | apply o_none | apply x_joined); exact sdM22; exact sdM22)
    | ((with_reducible first | apply d_some | apply d_none); exact sdM22; exact sdM22; exact sdM22)
    | ((with_reducible first | apply o_gT | apply d_gT); exact sdM22; exact sdM22)
    | ((with_reducible first | apply o_gF | apply d_gF); exact sdM22; exact sdM22; rfl)
    | ((with_reducible first | apply o_gU | apply d_gU); exact sdM22; exact sdM22)
    | ((with_reducible apply o_nilq); (exact ⟨by decide, by first | assumption | simp only [go_sem]⟩); exact sdM22; exact sdM22)
    | (with_reducible first | apply o_nil | apply x_next | apply x_seq | apply x_block | apply x_leave_normal | apply x_leave_ret | apply x_pass_ret | apply x_loop_exit | apply x_loop_ret | apply x_pass_exit | apply x_exit | apply x_ret | apply x_skip | apply x_label | apply x_join_ret | apply x_join_exit)
    | ((with_reducible apply d_end); kernel_rfl)
    | ((with_reducible apply x_region); exact sdM22)
    | ((with_reducible apply x_regionD); kernel_rfl; exact sdM22; exact sdM22)
    | ((with_reducible first | apply x_leave_exit | apply x_condT); exact sdM22)
    | ((with_reducible apply x_condF); exact sdM22)
    | ((first | ((with_reducible apply x_condB); exact sdM22) | ((with_reducible first | apply o_gB | apply d_gB); exact sdM22; exact sdM22)); all_goals intro hc; all_goals (try simp only [decide_eq_true_eq, decide_eq_false_iff_not, Bool.not_eq_true', Bool.not_eq_false', Bool.and_eq_true, Bool.or_eq_false_iff, Classical.not_not] at hc); all_goals (try (exfalso; omega)))
    | ((with_reducible apply o_call); exact sdM22; exact sdM22; exact sdM22; (first | assumption); exact sdM22; exact sdM22)
    | ((with_reducible apply o_callN); exact sdM22; exact sdM22; exact sdM22; (first | assumption); exact sdM22)
    | ((with_reducible apply d_callS); exact sdM22; exact sdM22; exact sdM22; (first | assumption); exact sdM22p; exact sdM22; exact sdM22; exact sdM22; exact sdM22)
    | ((with_reducible apply x_end); (first | exact .inl rfl | exact .inr rfl); exact sdM22; exact sdM22)))
        all_goals (refine x_again (i + 1) (by omega) (by omega) ?_)
        all_goals (rw [e1, e2])
        all_goals (exact sdM23)
    · have hlt' : ¬ (i : Int) < kinds.length := by omega
      have hie : i = kinds.length := by omega
      subst hie
      generalize rwR F a kinds.length = l
      rcases l with _ | ⟨q, r⟩
      · repeat' (first
    | ((with_reducible first | apply o_some | apply o_none | apply x_joined); exact sdM22; exact sdM22)
    | ((with_reducible first | apply d_some | apply d_none); exact sdM22; exact sdM22; exact sdM22)
    | ((with_reducible first | apply o_gT | apply d_gT); exact sdM22; exact sdM22)
    | ((with_reducible first | apply o_gF | apply d_gF); exact sdM22; exact sdM22; rfl)
    | ((with_reducible first | apply o_gU | apply d_gU); exact sdM22; exact sdM22)
    | ((with_reducible apply o_nilq); (exact ⟨by decide, by first | assumption | simp only [go_sem]⟩); exact sdM22; exact sdM22)
    | (with_reducible first | apply o_nil | apply x_next | apply x_seq | apply x_block | apply x_leave_normal | apply x_leave_ret | apply x_pass_ret | apply x_loop_exit | apply x_loop_ret | apply x_pass_exit | apply x_exit | apply x_ret | apply x_skip | apply x_label | apply x_join_ret | apply x_join_exit)
    | ((with_reducible apply d_end); kernel_rfl)
    | ((with_reducible apply x_region); exact sdM22)
    | ((with_reducible apply x_regionD); kernel_rfl; exact sdM22; exact sdM22)
    | ((with_reducible first | apply x_leave_exit | apply x_condT); exact sdM22)
    | ((with_reducible apply x_condF); exact sdM22)
    | ((first | ((with_reducible apply x_condB); exact sdM22) | ((with_reducible first | apply o_gB | apply d_gB); exact sdM22; exact sdM22)); all_goals intro hc; all_goals (try simp only [decide_eq_true_eq, decide_eq_false_iff_not, Bool.not_eq_true', Bool.not_eq_false', Bool.and_eq_true, Bool.or_eq_false_iff, Classical.not_not] at hc); all_goals (try (exfalso; omega)))
    | ((with_reducible apply x_end); (first | exact .inl rfl | exact .inr rfl); exact sdM22; exact sdM22))
        exact ⟨rfl, rfl⟩
      · repeat' (first
    | ((with_reducible first | apply o_some | apply o_none | apply x_joined); exact sdM22; exact sdM22)
    | ((with_reducible first | apply d_some | apply d_none); exact sdM22; exact sdM22; exact sdM22)
    | ((with_reducible first | apply o_gT | apply d_gT); exact sdM22; exact sdM22)
    | ((with_reducible first | apply o_gF | apply d_gF); exact sdM22; exact sdM22; rfl)
    | ((with_reducible first | apply o_gU | apply d_gU); exact sdM22; exact sdM22)
    | ((with_reducible apply o_nilq); (exact ⟨by decide, by first | assumption | simp only [go_sem]⟩); exact sdM22; exact sdM22)
    | (with_reducible first | apply o_nil | apply x_next | apply x_seq | apply x_block | apply x_leave_normal | apply x_leave_ret | apply x_pass_ret | apply x_loop_exit | apply x_loop_ret | apply x_pass_exit | apply x_exit | apply x_ret | apply x_skip | apply x_label | apply x_join_ret | apply x_join_exit)
    | ((with_reducible apply d_end); kernel_rfl)
    | ((with_reducible apply x_region); exact sdM22)
    | ((with_reducible apply x_regionD); kernel_rfl; exact sdM22; exact sdM22)
    | ((with_reducible first | apply x_leave_exit | apply x_condT); exact sdM22)
    | ((with_reducible apply x_condF); exact sdM22)
    | ((first | ((with_reducible apply x_condB); exact sdM22) | ((with_reducible first | apply o_gB | apply d_gB); exact sdM22; exact sdM22)); all_goals intro hc; all_goals (try simp only [decide_eq_true_eq, decide_eq_false_iff_not, Bool.not_eq_true', Bool.not_eq_false', Bool.and_eq_true, Bool.or_eq_false_iff, Classical.not_not] at hc); all_goals (try (exfalso; omega)))
    | ((with_reducible apply x_end); (first | exact .inl rfl | exact .inr rfl); exact sdM22; exact sdM22))
        exact ⟨rfl, rfl⟩
end Go.Proofs.Ytfdekggfdklfeaa
