/-
  Contracts: an operand of a case.
-/
import Derived.Test.YtfdekggfdklfeaaG3
set_option linter.all false
set_option linter.unusedVariables false
set_option linter.unusedSimpArgs false
namespace Go.Proofs.Ytfdekggfdklfeaa
open Go.Ab
attribute [local irreducible] seqK blockK loopK endK
set_option maxRecDepth 10000
set_option maxHeartbeats 16000000
abbrev opd0 (c : Int) (i : Nat) : Opd := ⟨c, i, ⟨0, 0, ⟨#[]⟩⟩⟩
def opL (k c : Int) : Nat → List Int → List Opd
  | _, [] => []
  | i, x :: r => if x = k then opd0 c i :: opL k c (i + 1) r else opL k c (i + 1) r
theorem opL_app {k c : Int} : ∀ {l : List Int} {i : Nat} {x : Int}, opL k c i (l ++ [x]) = opL k c i l ++ (if x = k then [opd0 c (i + l.length)] else [])
  | [], i, x => by simp [opL]
  | y :: r, i, x => by
    rw [List.cons_append, opL, opL, opL_app (l := r), List.length_cons, show i + 1 + r.length = i + (r.length + 1) by omega]
    split <;> simp
theorem opL_len {k c : Int} : ∀ {l : List Int} {i : Nat}, (opL k c i l).length ≤ l.length
  | [], i => by simp [opL]
  | y :: r, i => by
    rw [opL]
    have := opL_len (k := k) (c := c) (l := r) (i := i + 1)
    split <;> simp only [List.length_cons] <;> omega
def opdL (cols params : List Int) (k : Int) : List Opd := opL k 1 0 cols ++ opL k 2 0 params
def opdV (codes : List UInt8) (a : Nat) (cols params : List Int) (k : Int) : Opd := match (opdL cols params k)[(nxI codes a ((opdL cols params k).length + 1)).toNat]? with
  | some o => o
  | none => ⟨3, 0, ⟨valK k, valI codes (nxA codes a ((opdL cols params k).length + 1)) k, valT codes (nxA codes a ((opdL cols params k).length + 1)) k⟩⟩
def opdA (codes : List UInt8) (a : Nat) (cols params : List Int) (k : Int) : Nat := match (opdL cols params k)[(nxI codes a ((opdL cols params k).length + 1)).toNat]? with
  | some _ => nxA codes a ((opdL cols params k).length + 1)
  | none => valA codes (nxA codes a ((opdL cols params k).length + 1)) k
abbrev slO (i : Nat) (l : List Opd) : AV := match l with | [] => .d .snil | _ :: r => .sl i 0 (r.length + 1) false
abbrev slH (l : List Opd) : Heap := match l with | [] => [] | q :: r => [some (.flat 5 (q.cells :: r.map fun o => o.cells))]
abbrev zO : AO := .flat 5 [[.int .i64 0, .int .i64 0, .int .i64 0, .int .i64 0, .str ⟨#[]⟩]]
theorem sdG9 {α : Type _} {a b : α} (h : a = b := by (first | (simp (maxSteps := 2000000) (disch := first | assumption | omega | (simp only [go_sem] <;> with_reducible rfl)) only [go_sem, ↓reduceIte, ↓reduceDIte, Nat.reduceEqDiff, reduceCtorEq, Nat.reduceAdd, Nat.reduceSub, Nat.reduceMul, Nat.reduceBEq, Nat.reduceBNe, Nat.reduceLeDiff, Nat.reduceLT, Int.reduceLT, Int.reduceLE, Int.reduceToNat, Int.reduceEq, Int.reduceNeg, Int.reduceAdd, Int.reduceSub, Int.reduceMul, Nat.reduceMod, Nat.reduceDiv, Nat.reducePow, BEq.rfl, gt_iff_lt, ge_iff_le, *] <;> with_reducible rfl) | with_reducible rfl)) : a = b := h
theorem sdG9p {a b : Nat} (h : a ≤ b := by (first | (simp (maxSteps := 2000000) (disch := first | assumption | omega | (simp only [go_sem] <;> with_reducible rfl)) only [go_sem, ↓reduceIte, ↓reduceDIte, Nat.reduceEqDiff, reduceCtorEq, Nat.reduceAdd, Nat.reduceSub, Nat.reduceMul, Nat.reduceBEq, Nat.reduceBNe, Nat.reduceLeDiff, Nat.reduceLT, Int.reduceLT, Int.reduceLE, Int.reduceToNat, Int.reduceEq, Int.reduceNeg, Int.reduceAdd, Int.reduceSub, Int.reduceMul, Nat.reduceMod, Nat.reduceDiv, Nat.reducePow, BEq.rfl, gt_iff_lt, ge_iff_le, *] <;> with_reducible rfl) | with_reducible rfl)) : a ≤ b := h
theorem sdG91 {α : Type _} {a b : α} (h : a = b := by (first | (simp (maxSteps := 2000000) (disch := first | assumption | omega | (simp only [go_sem] <;> with_reducible rfl)) only [go_sem, ↓reduceIte, ↓reduceDIte, Nat.reduceEqDiff, reduceCtorEq, Nat.reduceAdd, Nat.reduceSub, Nat.reduceMul, Nat.reduceBEq, Nat.reduceBNe, Nat.reduceLeDiff, Nat.reduceLT, Int.reduceLT, Int.reduceLE, Int.reduceToNat, Int.reduceEq, Int.reduceNeg, Int.reduceAdd, Int.reduceSub, Int.reduceMul, Nat.reduceMod, Nat.reduceDiv, Nat.reducePow, BEq.rfl, gt_iff_lt, ge_iff_le, *, Int.natCast_add, Int.natCast_one, Opd.cells, slO, slH, opd0] <;> with_reducible rfl) | with_reducible rfl)) : a = b := h
theorem sdG91p {a b : Nat} (h : a ≤ b := by (first | (simp (maxSteps := 2000000) (disch := first | assumption | omega | (simp only [go_sem] <;> with_reducible rfl)) only [go_sem, ↓reduceIte, ↓reduceDIte, Nat.reduceEqDiff, reduceCtorEq, Nat.reduceAdd, Nat.reduceSub, Nat.reduceMul, Nat.reduceBEq, Nat.reduceBNe, Nat.reduceLeDiff, Nat.reduceLT, Int.reduceLT, Int.reduceLE, Int.reduceToNat, Int.reduceEq, Int.reduceNeg, Int.reduceAdd, Int.reduceSub, Int.reduceMul, Nat.reduceMod, Nat.reduceDiv, Nat.reducePow, BEq.rfl, gt_iff_lt, ge_iff_le, *, Int.natCast_add, Int.natCast_one, Opd.cells, slO, slH, opd0] <;> with_reducible rfl) | with_reducible rfl)) : a ≤ b := h
theorem sdG92 {α : Type _} {a b : α} (h : a = b := by (first | (simp (maxSteps := 2000000) (disch := first | assumption | omega | (simp only [go_sem] <;> with_reducible rfl)) only [go_sem, ↓reduceIte, ↓reduceDIte, Nat.reduceEqDiff, reduceCtorEq, Nat.reduceAdd, Nat.reduceSub, Nat.reduceMul, Nat.reduceBEq, Nat.reduceBNe, Nat.reduceLeDiff, Nat.reduceLT, Int.reduceLT, Int.reduceLE, Int.reduceToNat, Int.reduceEq, Int.reduceNeg, Int.reduceAdd, Int.reduceSub, Int.reduceMul, Nat.reduceMod, Nat.reduceDiv, Nat.reducePow, BEq.rfl, gt_iff_lt, ge_iff_le, *, Int.natCast_add, Int.natCast_one, Opd.cells, List.map_append, slO, slH, opd0] <;> with_reducible rfl) | with_reducible rfl)) : a = b := h
theorem sdG92p {a b : Nat} (h : a ≤ b := by (first | (simp (maxSteps := 2000000) (disch := first | assumption | omega | (simp only [go_sem] <;> with_reducible rfl)) only [go_sem, ↓reduceIte, ↓reduceDIte, Nat.reduceEqDiff, reduceCtorEq, Nat.reduceAdd, Nat.reduceSub, Nat.reduceMul, Nat.reduceBEq, Nat.reduceBNe, Nat.reduceLeDiff, Nat.reduceLT, Int.reduceLT, Int.reduceLE, Int.reduceToNat, Int.reduceEq, Int.reduceNeg, Int.reduceAdd, Int.reduceSub, Int.reduceMul, Nat.reduceMod, Nat.reduceDiv, Nat.reducePow, BEq.rfl, gt_iff_lt, ge_iff_le, *, Int.natCast_add, Int.natCast_one, Opd.cells, List.map_append, slO, slH, opd0] <;> with_reducible rfl) | with_reducible rfl)) : a ≤ b := h
theorem c_operand (codes : List UInt8) (a : Nat) (cols params : List Int) (k : Int) (hb : codes.length ≤ 1000) (h1 : cols.length ≤ 1000) (h2 : params.length ≤ 1000) :
    CallA Try.prog C (.func 49) {} [.ptr 0 0 0, .d (.fsl (rowsI cols) false false), .d (.fsl (rowsI params) false false), .d (.int .i64 k)] (hC codes a) fun v hs => v = .agg ((opdV codes a cols params k).cells.map .d) ∧ hs = hC codes (opdA codes a cols params k : Nat) := by
  refine call_func Try.func49 rfl (by decide) (by kernel_rfl) ⟨Nat.le_of_ble_eq_true rfl, Nat.le_of_ble_eq_true rfl⟩ ?_
  have hbig : 10000 < big := by decide
  repeat' (first
    | ((with_reducible first | apply o_some | apply o_none | apply x_joined); exact sdG9; exact sdG9)
    | ((with_reducible first | apply d_some | apply d_none); exact sdG9; exact sdG9; exact sdG9)
    | ((with_reducible first | apply o_gT | apply d_gT); exact sdG9; exact sdG9)
    | ((with_reducible first | apply o_gF | apply d_gF); exact sdG9; exact sdG9; rfl)
    | ((with_reducible first | apply o_gU | apply d_gU); exact sdG9; exact sdG9)
    | ((with_reducible apply o_nilq); (exact ⟨by decide, by first | assumption | simp only [go_sem]⟩); exact sdG9; exact sdG9)
    | (with_reducible first | apply o_nil | apply x_next | apply x_seq | apply x_block | apply x_leave_normal | apply x_leave_ret | apply x_pass_ret | apply x_loop_exit | apply x_loop_ret | apply x_pass_exit | apply x_exit | apply x_ret | apply x_skip | apply x_label | apply x_join_ret | apply x_join_exit)
    | ((with_reducible apply d_end); kernel_rfl)
    | ((with_reducible apply x_region); exact sdG9)
    | ((with_reducible apply x_regionD); kernel_rfl; exact sdG9; exact sdG9)
    | ((with_reducible first | apply x_leave_exit | apply x_condT); exact sdG9)
    | ((with_reducible apply x_condF); exact sdG9)
    | ((first | ((with_reducible apply x_condB); exact sdG9) | ((with_reducible first | apply o_gB | apply d_gB); exact sdG9; exact sdG9)); all_goals intro hc; all_goals (try simp only [decide_eq_true_eq, decide_eq_false_iff_not, Bool.not_eq_true', Bool.not_eq_false', Bool.and_eq_true, Bool.or_eq_false_iff, Classical.not_not] at hc); all_goals (try (exfalso; omega)))
    | ((with_reducible apply x_end); (first | exact .inl rfl | exact .inr rfl); exact sdG9; exact sdG9))
  refine x_loopG { ownRes := true } [0, 1, 2, 3, 8, 9, 15, 16, 17] (fun (x : Nat × List Opd) => [(0, .ptr 0 0 0), (1, .d (.fsl (rowsI cols) false false)), (2, .d (.fsl (rowsI params) false false)), (3, .d (.int .i64 k)), (8, .ptr 1 0 0), (9, slO 2 x.2), (15, .d (.fsl (rowsI cols) false false)), (16, .d (.int .i64 cols.length)), (17, .d (.int .i64 x.1))])
    (fun x => some (caseO codes a) :: some zO :: slH x.2) (fun x => x.1 ≤ cols.length ∧ x.2 = opL k 1 0 (cols.take x.1)) (fun x => cols.length - x.1) (0, []) ?_ ⟨by omega, rfl⟩ ?_
  · exact sdG9
  · rintro ⟨i, l⟩ ⟨hi, hl⟩
    simp only at hi hl ⊢
    have hll : l.length ≤ 2000 := by
      rw [hl]
      have := opL_len (k := k) (c := 1) (l := cols.take i) (i := 0)
      rw [List.length_take] at this
      (try simp only [List.length_append]); omega
    by_cases hlt : i < cols.length
    · have hlt' : (i : Int) < cols.length := by omega
      have hgi : cols[i]? = some cols[i] := List.getElem?_eq_getElem hlt
      have hd : cols.take (i + 1) = cols.take i ++ [cols[i]] := List.take_succ_eq_append_getElem hlt
      generalize cols[i] = c at hgi hd
      have hnew : opL k 1 0 (cols.take (i + 1)) = l ++ (if c = k then [opd0 1 i] else []) := by
        rw [hd, opL_app, hl, List.length_take, Nat.min_eq_left hi, Nat.zero_add]
      clear hl hd
      by_cases hck : c = k
      · rw [if_pos hck] at hnew
        rcases l with _ | ⟨q, r⟩
        · repeat' (first
    | ((with_reducible first | apply o_some | apply o_none | apply x_joined); exact sdG9; exact sdG9)
    | ((with_reducible first | apply d_some | apply d_none); exact sdG9; exact sdG9; exact sdG9)
    | ((with_reducible first | apply o_gT | apply d_gT); exact sdG9; exact sdG9)
    | ((with_reducible first | apply o_gF | apply d_gF); exact sdG9; exact sdG9; rfl)
    | ((with_reducible first | apply o_gU | apply d_gU); exact sdG9; exact sdG9)
    | ((with_reducible apply o_nilq); (exact ⟨by decide, by first | assumption | simp only [go_sem]⟩); exact sdG9; exact sdG9)
    | (with_reducible first | apply o_nil | apply x_next | apply x_seq | apply x_block | apply x_leave_normal | apply x_leave_ret | apply x_pass_ret | apply x_loop_exit | apply x_loop_ret | apply x_pass_exit | apply x_exit | apply x_ret | apply x_skip | apply x_label | apply x_join_ret | apply x_join_exit)
    | ((with_reducible apply d_end); kernel_rfl)
    | ((with_reducible apply x_region); exact sdG9)
    | ((with_reducible apply x_regionD); kernel_rfl; exact sdG9; exact sdG9)
    | ((with_reducible first | apply x_leave_exit | apply x_condT); exact sdG9)
    | ((with_reducible apply x_condF); exact sdG9)
    | ((first | ((with_reducible apply x_condB); exact sdG9) | ((with_reducible first | apply o_gB | apply d_gB); exact sdG9; exact sdG9)); all_goals intro hc; all_goals (try simp only [decide_eq_true_eq, decide_eq_false_iff_not, Bool.not_eq_true', Bool.not_eq_false', Bool.and_eq_true, Bool.or_eq_false_iff, Classical.not_not] at hc); all_goals (try (exfalso; omega)))
    | ((with_reducible apply x_end); (first | exact .inl rfl | exact .inr rfl); exact sdG9; exact sdG9))
          refine x_again (i + 1, [opd0 1 i]) ⟨by simp only; omega, by simp only; rw [hnew]; rfl⟩ (by simp only; omega) ?_
          exact sdG91
        · rw [List.length_cons] at hll
          repeat' (first
    | ((with_reducible first | apply o_some | apply o_none | apply x_joined); exact sdG9; exact sdG9)
    | ((with_reducible first | apply d_some | apply d_none); exact sdG9; exact sdG9; exact sdG9)
    | ((with_reducible first | apply o_gT | apply d_gT); exact sdG9; exact sdG9)
    | ((with_reducible first | apply o_gF | apply d_gF); exact sdG9; exact sdG9; rfl)
    | ((with_reducible first | apply o_gU | apply d_gU); exact sdG9; exact sdG9)
    | ((with_reducible apply o_nilq); (exact ⟨by decide, by first | assumption | simp only [go_sem]⟩); exact sdG9; exact sdG9)
    | (with_reducible first | apply o_nil | apply x_next | apply x_seq | apply x_block | apply x_leave_normal | apply x_leave_ret | apply x_pass_ret | apply x_loop_exit | apply x_loop_ret | apply x_pass_exit | apply x_exit | apply x_ret | apply x_skip | apply x_label | apply x_join_ret | apply x_join_exit)
    | ((with_reducible apply d_end); kernel_rfl)
    | ((with_reducible apply x_region); exact sdG9)
    | ((with_reducible apply x_regionD); kernel_rfl; exact sdG9; exact sdG9)
    | ((with_reducible first | apply x_leave_exit | apply x_condT); exact sdG9)
    | ((with_reducible apply x_condF); exact sdG9)
    | ((first | ((with_reducible apply x_condB); exact sdG9) | ((with_reducible first | apply o_gB | apply d_gB); exact sdG9; exact sdG9)); all_goals intro hc; all_goals (try simp only [decide_eq_true_eq, decide_eq_false_iff_not, Bool.not_eq_true', Bool.not_eq_false', Bool.and_eq_true, Bool.or_eq_false_iff, Classical.not_not] at hc); all_goals (try (exfalso; omega)))
    | ((with_reducible apply x_end); (first | exact .inl rfl | exact .inr rfl); exact sdG9; exact sdG9))
          refine x_again (i + 1, q :: (r ++ [opd0 1 i])) ⟨by simp only; omega, by simp only; rw [hnew]; rfl⟩ (by simp only; omega) ?_
          exact sdG92
      · rw [if_neg hck, List.append_nil] at hnew
        rcases l with _ | ⟨q, r⟩
        · repeat' (first
    | ((with_reducible first | apply o_some | apply o_none | apply x_joined); exact sdG9; exact sdG9)
    | ((with_reducible first | apply d_some | apply d_none); exact sdG9; exact sdG9; exact sdG9)
    | ((with_reducible first | apply o_gT | apply d_gT); exact sdG9; exact sdG9)
    | ((with_reducible first | apply o_gF | apply d_gF); exact sdG9; exact sdG9; rfl)
    | ((with_reducible first | apply o_gU | apply d_gU); exact sdG9; exact sdG9)
    | ((with_reducible apply o_nilq); (exact ⟨by decide, by first | assumption | simp only [go_sem]⟩); exact sdG9; exact sdG9)
    | (with_reducible first | apply o_nil | apply x_next | apply x_seq | apply x_block | apply x_leave_normal | apply x_leave_ret | apply x_pass_ret | apply x_loop_exit | apply x_loop_ret | apply x_pass_exit | apply x_exit | apply x_ret | apply x_skip | apply x_label | apply x_join_ret | apply x_join_exit)
    | ((with_reducible apply d_end); kernel_rfl)
    | ((with_reducible apply x_region); exact sdG9)
    | ((with_reducible apply x_regionD); kernel_rfl; exact sdG9; exact sdG9)
    | ((with_reducible first | apply x_leave_exit | apply x_condT); exact sdG9)
    | ((with_reducible apply x_condF); exact sdG9)
    | ((first | ((with_reducible apply x_condB); exact sdG9) | ((with_reducible first | apply o_gB | apply d_gB); exact sdG9; exact sdG9)); all_goals intro hc; all_goals (try simp only [decide_eq_true_eq, decide_eq_false_iff_not, Bool.not_eq_true', Bool.not_eq_false', Bool.and_eq_true, Bool.or_eq_false_iff, Classical.not_not] at hc); all_goals (try (exfalso; omega)))
    | ((with_reducible apply x_end); (first | exact .inl rfl | exact .inr rfl); exact sdG9; exact sdG9))
          refine x_again (i + 1, []) ⟨by simp only; omega, by simp only; rw [hnew]⟩ (by simp only; omega) ?_
          exact sdG91
        · repeat' (first
    | ((with_reducible first | apply o_some | apply o_none | apply x_joined); exact sdG9; exact sdG9)
    | ((with_reducible first | apply d_some | apply d_none); exact sdG9; exact sdG9; exact sdG9)
    | ((with_reducible first | apply o_gT | apply d_gT); exact sdG9; exact sdG9)
    | ((with_reducible first | apply o_gF | apply d_gF); exact sdG9; exact sdG9; rfl)
    | ((with_reducible first | apply o_gU | apply d_gU); exact sdG9; exact sdG9)
    | ((with_reducible apply o_nilq); (exact ⟨by decide, by first | assumption | simp only [go_sem]⟩); exact sdG9; exact sdG9)
    | (with_reducible first | apply o_nil | apply x_next | apply x_seq | apply x_block | apply x_leave_normal | apply x_leave_ret | apply x_pass_ret | apply x_loop_exit | apply x_loop_ret | apply x_pass_exit | apply x_exit | apply x_ret | apply x_skip | apply x_label | apply x_join_ret | apply x_join_exit)
    | ((with_reducible apply d_end); kernel_rfl)
    | ((with_reducible apply x_region); exact sdG9)
    | ((with_reducible apply x_regionD); kernel_rfl; exact sdG9; exact sdG9)
    | ((with_reducible first | apply x_leave_exit | apply x_condT); exact sdG9)
    | ((with_reducible apply x_condF); exact sdG9)
    | ((first | ((with_reducible apply x_condB); exact sdG9) | ((with_reducible first | apply o_gB | apply d_gB); exact sdG9; exact sdG9)); all_goals intro hc; all_goals (try simp only [decide_eq_true_eq, decide_eq_false_iff_not, Bool.not_eq_true', Bool.not_eq_false', Bool.and_eq_true, Bool.or_eq_false_iff, Classical.not_not] at hc); all_goals (try (exfalso; omega)))
    | ((with_reducible apply x_end); (first | exact .inl rfl | exact .inr rfl); exact sdG9; exact sdG9))
          refine x_again (i + 1, q :: r) ⟨by simp only; omega, by simp only; rw [hnew]⟩ (by simp only; omega) ?_
          exact sdG91
    · have hlt' : ¬ (i : Int) < cols.length := by omega
      have he : i = cols.length := by omega
      rw [he, List.take_length] at hl
      clear hi hlt
      subst he
      generalize l = l1 at hl hll ⊢
      have hl1 := hl.symm
      clear hl
      repeat' (first
    | ((with_reducible first | apply o_some | apply o_none | apply x_joined); exact sdG9; exact sdG9)
    | ((with_reducible first | apply d_some | apply d_none); exact sdG9; exact sdG9; exact sdG9)
    | ((with_reducible first | apply o_gT | apply d_gT); exact sdG9; exact sdG9)
    | ((with_reducible first | apply o_gF | apply d_gF); exact sdG9; exact sdG9; rfl)
    | ((with_reducible first | apply o_gU | apply d_gU); exact sdG9; exact sdG9)
    | ((with_reducible apply o_nilq); (exact ⟨by decide, by first | assumption | simp only [go_sem]⟩); exact sdG9; exact sdG9)
    | (with_reducible first | apply o_nil | apply x_next | apply x_seq | apply x_block | apply x_leave_normal | apply x_leave_ret | apply x_pass_ret | apply x_loop_exit | apply x_loop_ret | apply x_pass_exit | apply x_exit | apply x_ret | apply x_skip | apply x_label | apply x_join_ret | apply x_join_exit)
    | ((with_reducible apply d_end); kernel_rfl)
    | ((with_reducible apply x_region); exact sdG9)
    | ((with_reducible apply x_regionD); kernel_rfl; exact sdG9; exact sdG9)
    | ((with_reducible first | apply x_leave_exit | apply x_condT); exact sdG9)
    | ((with_reducible apply x_condF); exact sdG9)
    | ((first | ((with_reducible apply x_condB); exact sdG9) | ((with_reducible first | apply o_gB | apply d_gB); exact sdG9; exact sdG9)); all_goals intro hc; all_goals (try simp only [decide_eq_true_eq, decide_eq_false_iff_not, Bool.not_eq_true', Bool.not_eq_false', Bool.and_eq_true, Bool.or_eq_false_iff, Classical.not_not] at hc); all_goals (try (exfalso; omega)))
    | ((with_reducible apply x_end); (first | exact .inl rfl | exact .inr rfl); exact sdG9; exact sdG9))
      refine x_loopG { ownRes := true } [0, 3, 8, 9, 31, 32, 33] (fun (x : Nat × List Opd) => [(0, .ptr 0 0 0), (3, .d (.int .i64 k)), (8, .ptr 1 0 0), (9, slO 2 x.2), (31, .d (.fsl (rowsI params) false false)), (32, .d (.int .i64 params.length)), (33, .d (.int .i64 x.1))])
        (fun x => some (caseO codes a) :: some zO :: slH x.2) (fun x => x.1 ≤ params.length ∧ x.2 = opL k 1 0 cols ++ opL k 2 0 (params.take x.1)) (fun x => params.length - x.1) (0, l1) ?_ ⟨by omega, by simp only [← hl1]; exact (List.append_nil _).symm⟩ ?_
      · rcases l1 with _ | ⟨q, r⟩ <;> exact sdG9
      · rintro ⟨i, l⟩ ⟨hi, hl⟩
        simp only at hi hl ⊢
        have hll : l.length ≤ 2000 := by
          rw [hl]
          have h9 := opL_len (k := k) (c := 1) (l := cols) (i := 0)
          have := opL_len (k := k) (c := 2) (l := params.take i) (i := 0)
          rw [List.length_take] at this
          (try simp only [List.length_append]); omega
        by_cases hlt : i < params.length
        · have hlt' : (i : Int) < params.length := by omega
          have hgi : params[i]? = some params[i] := List.getElem?_eq_getElem hlt
          have hd : params.take (i + 1) = params.take i ++ [params[i]] := List.take_succ_eq_append_getElem hlt
          generalize params[i] = c at hgi hd
          have hnew : opL k 1 0 cols ++ opL k 2 0 (params.take (i + 1)) = l ++ (if c = k then [opd0 2 i] else []) := by
            rw [hd, opL_app, List.length_take, Nat.min_eq_left hi, Nat.zero_add, hl]; simp only [List.append_assoc]
          clear hl hd
          by_cases hck : c = k
          · rw [if_pos hck] at hnew
            rcases l with _ | ⟨q, r⟩
            · repeat' (first
    | ((with_reducible first | apply o_some | apply o_none | apply x_joined); exact sdG9; exact sdG9)
    | ((with_reducible first | apply d_some | apply d_none); exact sdG9; exact sdG9; exact sdG9)
    | ((with_reducible first | apply o_gT | apply d_gT); exact sdG9; exact sdG9)
    | ((with_reducible first | apply o_gF | apply d_gF); exact sdG9; exact sdG9; rfl)
    | ((with_reducible first | apply o_gU | apply d_gU); exact sdG9; exact sdG9)
    | ((with_reducible apply o_nilq); (exact ⟨by decide, by first | assumption | simp only [go_sem]⟩); exact sdG9; exact sdG9)
    | (with_reducible first | apply o_nil | apply x_next | apply x_seq | apply x_block | apply x_leave_normal | apply x_leave_ret | apply x_pass_ret | apply x_loop_exit | apply x_loop_ret | apply x_pass_exit | apply x_exit | apply x_ret | apply x_skip | apply x_label | apply x_join_ret | apply x_join_exit)
    | ((with_reducible apply d_end); kernel_rfl)
    | ((with_reducible apply x_region); exact sdG9)
    | ((with_reducible apply x_regionD); kernel_rfl; exact sdG9; exact sdG9)
    | ((with_reducible first | apply x_leave_exit | apply x_condT); exact sdG9)
    | ((with_reducible apply x_condF); exact sdG9)
    | ((first | ((with_reducible apply x_condB); exact sdG9) | ((with_reducible first | apply o_gB | apply d_gB); exact sdG9; exact sdG9)); all_goals intro hc; all_goals (try simp only [decide_eq_true_eq, decide_eq_false_iff_not, Bool.not_eq_true', Bool.not_eq_false', Bool.and_eq_true, Bool.or_eq_false_iff, Classical.not_not] at hc); all_goals (try (exfalso; omega)))
    | ((with_reducible apply x_end); (first | exact .inl rfl | exact .inr rfl); exact sdG9; exact sdG9))
              refine x_again (i + 1, [opd0 2 i]) ⟨by simp only; omega, by simp only; rw [hnew]; rfl⟩ (by simp only; omega) ?_
              exact sdG91
            · rw [List.length_cons] at hll
              repeat' (first
    | ((with_reducible first | apply o_some | apply o_none | apply x_joined); exact sdG9; exact sdG9)
    | ((with_reducible first | apply d_some | apply d_none); exact sdG9; exact sdG9; exact sdG9)
    | ((with_reducible first | apply o_gT | apply d_gT); exact sdG9; exact sdG9)
    | ((with_reducible first | apply o_gF | apply d_gF); exact sdG9; exact sdG9; rfl)
    | ((with_reducible first | apply o_gU | apply d_gU); exact sdG9; exact sdG9)
    | ((with_reducible apply o_nilq); (exact ⟨by decide, by first | assumption | simp only [go_sem]⟩); exact sdG9; exact sdG9)
    | (with_reducible first | apply o_nil | apply x_next | apply x_seq | apply x_block | apply x_leave_normal | apply x_leave_ret | apply x_pass_ret | apply x_loop_exit | apply x_loop_ret | apply x_pass_exit | apply x_exit | apply x_ret | apply x_skip | apply x_label | apply x_join_ret | apply x_join_exit)
    | ((with_reducible apply d_end); kernel_rfl)
    | ((with_reducible apply x_region); exact sdG9)
    | ((with_reducible apply x_regionD); kernel_rfl; exact sdG9; exact sdG9)
    | ((with_reducible first | apply x_leave_exit | apply x_condT); exact sdG9)
    | ((with_reducible apply x_condF); exact sdG9)
    | ((first | ((with_reducible apply x_condB); exact sdG9) | ((with_reducible first | apply o_gB | apply d_gB); exact sdG9; exact sdG9)); all_goals intro hc; all_goals (try simp only [decide_eq_true_eq, decide_eq_false_iff_not, Bool.not_eq_true', Bool.not_eq_false', Bool.and_eq_true, Bool.or_eq_false_iff, Classical.not_not] at hc); all_goals (try (exfalso; omega)))
    | ((with_reducible apply x_end); (first | exact .inl rfl | exact .inr rfl); exact sdG9; exact sdG9))
              refine x_again (i + 1, q :: (r ++ [opd0 2 i])) ⟨by simp only; omega, by simp only; rw [hnew]; rfl⟩ (by simp only; omega) ?_
              exact sdG92
          · rw [if_neg hck, List.append_nil] at hnew
            rcases l with _ | ⟨q, r⟩
            · repeat' (first
    | ((with_reducible first | apply o_some | apply o_none | apply x_joined); exact sdG9; exact sdG9)
    | ((with_reducible first | apply d_some | apply d_none); exact sdG9; exact sdG9; exact sdG9)
    | ((with_reducible first | apply o_gT | apply d_gT); exact sdG9; exact sdG9)
    | ((with_reducible first | apply o_gF | apply d_gF); exact sdG9; exact sdG9; rfl)
    | ((with_reducible first | apply o_gU | apply d_gU); exact sdG9; exact sdG9)
    | ((with_reducible apply o_nilq); (exact ⟨by decide, by first | assumption | simp only [go_sem]⟩); exact sdG9; exact sdG9)
    | (with_reducible first | apply o_nil | apply x_next | apply x_seq | apply x_block | apply x_leave_normal | apply x_leave_ret | apply x_pass_ret | apply x_loop_exit | apply x_loop_ret | apply x_pass_exit | apply x_exit | apply x_ret | apply x_skip | apply x_label | apply x_join_ret | apply x_join_exit)
    | ((with_reducible apply d_end); kernel_rfl)
    | ((with_reducible apply x_region); exact sdG9)
    | ((with_reducible apply x_regionD); kernel_rfl; exact sdG9; exact sdG9)
    | ((with_reducible first | apply x_leave_exit | apply x_condT); exact sdG9)
    | ((with_reducible apply x_condF); exact sdG9)
    | ((first | ((with_reducible apply x_condB); exact sdG9) | ((with_reducible first | apply o_gB | apply d_gB); exact sdG9; exact sdG9)); all_goals intro hc; all_goals (try simp only [decide_eq_true_eq, decide_eq_false_iff_not, Bool.not_eq_true', Bool.not_eq_false', Bool.and_eq_true, Bool.or_eq_false_iff, Classical.not_not] at hc); all_goals (try (exfalso; omega)))
    | ((with_reducible apply x_end); (first | exact .inl rfl | exact .inr rfl); exact sdG9; exact sdG9))
              refine x_again (i + 1, []) ⟨by simp only; omega, by simp only; rw [hnew]⟩ (by simp only; omega) ?_
              exact sdG91
            · repeat' (first
    | ((with_reducible first | apply o_some | apply o_none | apply x_joined); exact sdG9; exact sdG9)
    | ((with_reducible first | apply d_some | apply d_none); exact sdG9; exact sdG9; exact sdG9)
    | ((with_reducible first | apply o_gT | apply d_gT); exact sdG9; exact sdG9)
    | ((with_reducible first | apply o_gF | apply d_gF); exact sdG9; exact sdG9; rfl)
    | ((with_reducible first | apply o_gU | apply d_gU); exact sdG9; exact sdG9)
    | ((with_reducible apply o_nilq); (exact ⟨by decide, by first | assumption | simp only [go_sem]⟩); exact sdG9; exact sdG9)
    | (with_reducible first | apply o_nil | apply x_next | apply x_seq | apply x_block | apply x_leave_normal | apply x_leave_ret | apply x_pass_ret | apply x_loop_exit | apply x_loop_ret | apply x_pass_exit | apply x_exit | apply x_ret | apply x_skip | apply x_label | apply x_join_ret | apply x_join_exit)
    | ((with_reducible apply d_end); kernel_rfl)
    | ((with_reducible apply x_region); exact sdG9)
    | ((with_reducible apply x_regionD); kernel_rfl; exact sdG9; exact sdG9)
    | ((with_reducible first | apply x_leave_exit | apply x_condT); exact sdG9)
    | ((with_reducible apply x_condF); exact sdG9)
    | ((first | ((with_reducible apply x_condB); exact sdG9) | ((with_reducible first | apply o_gB | apply d_gB); exact sdG9; exact sdG9)); all_goals intro hc; all_goals (try simp only [decide_eq_true_eq, decide_eq_false_iff_not, Bool.not_eq_true', Bool.not_eq_false', Bool.and_eq_true, Bool.or_eq_false_iff, Classical.not_not] at hc); all_goals (try (exfalso; omega)))
    | ((with_reducible apply x_end); (first | exact .inl rfl | exact .inr rfl); exact sdG9; exact sdG9))
              refine x_again (i + 1, q :: r) ⟨by simp only; omega, by simp only; rw [hnew]⟩ (by simp only; omega) ?_
              exact sdG91
        · have hlt' : ¬ (i : Int) < params.length := by omega
          have he : i = params.length := by omega
          rw [he, List.take_length] at hl
          clear hi hlt
          subst he
          rw [show opL k 1 0 cols ++ opL k 2 0 params = opdL cols params k from rfl] at hl
          replace hl := hl.symm
          rcases l with _ | ⟨q, r⟩
          · have hz : ¬ nxI codes a 1 < 0 := by have := @nxI_lo codes a 1; omega
            repeat' (first
    | ((with_reducible first | apply o_some | apply o_none | apply x_joined); exact sdG9; exact sdG9)
    | ((with_reducible first | apply d_some | apply d_none); exact sdG9; exact sdG9; exact sdG9)
    | ((with_reducible first | apply o_gT | apply d_gT); exact sdG9; exact sdG9)
    | ((with_reducible first | apply o_gF | apply d_gF); exact sdG9; exact sdG9; rfl)
    | ((with_reducible first | apply o_gU | apply d_gU); exact sdG9; exact sdG9)
    | ((with_reducible apply o_nilq); (exact ⟨by decide, by first | assumption | simp only [go_sem]⟩); exact sdG9; exact sdG9)
    | (with_reducible first | apply o_nil | apply x_next | apply x_seq | apply x_block | apply x_leave_normal | apply x_leave_ret | apply x_pass_ret | apply x_loop_exit | apply x_loop_ret | apply x_pass_exit | apply x_exit | apply x_ret | apply x_skip | apply x_label | apply x_join_ret | apply x_join_exit)
    | ((with_reducible apply d_end); kernel_rfl)
    | ((with_reducible apply x_region); exact sdG9)
    | ((with_reducible apply x_regionD); kernel_rfl; exact sdG9; exact sdG9)
    | ((with_reducible first | apply x_leave_exit | apply x_condT); exact sdG9)
    | ((with_reducible apply x_condF); exact sdG9)
    | ((first | ((with_reducible apply x_condB); exact sdG9) | ((with_reducible first | apply o_gB | apply d_gB); exact sdG9; exact sdG9)); all_goals intro hc; all_goals (try simp only [decide_eq_true_eq, decide_eq_false_iff_not, Bool.not_eq_true', Bool.not_eq_false', Bool.and_eq_true, Bool.or_eq_false_iff, Classical.not_not] at hc); all_goals (try (exfalso; omega)))
    | ((with_reducible apply o_call); exact sdG9; exact sdG9; exact sdG9; (first | exact c_int codes a _ hb | exact c_value codes _ k hb); exact sdG9; exact sdG9)
    | ((with_reducible apply o_callN); exact sdG9; exact sdG9; exact sdG9; (first | exact c_int codes a _ hb | exact c_value codes _ k hb); exact sdG9)
    | ((with_reducible apply d_callS); exact sdG9; exact sdG9; exact sdG9; (first | exact c_int codes a _ hb | exact c_value codes _ k hb); exact sdG9p; exact sdG9; exact sdG9; exact sdG9; exact sdG9)
    | ((with_reducible apply x_end); (first | exact .inl rfl | exact .inr rfl); exact sdG9; exact sdG9))
            unfold opdV opdA
            rw [hl]
            exact ⟨rfl, rfl⟩
          · rw [List.length_cons] at hll
            by_cases hz : nxI codes a ((r.length + 1 : Nat) + 1) < (r.length + 1 : Nat)
            · have hz0 := @nxI_lo codes a ((r.length + 1 : Nat) + 1)
              have hg : (q :: r)[(nxI codes a ((r.length + 1 : Nat) + 1)).toNat]? = some ((q :: r)[(nxI codes a ((r.length + 1 : Nat) + 1)).toNat]'(by rw [List.length_cons]; omega)) := List.getElem?_eq_getElem _
              generalize (q :: r)[(nxI codes a ((r.length + 1 : Nat) + 1)).toNat]'_ = o at hg
              have hg2 : (q.cells :: r.map fun o => o.cells)[(nxI codes a ((r.length + 1 : Nat) + 1)).toNat]? = some o.cells := by
                have : (q.cells :: r.map fun o => o.cells) = (q :: r).map fun o => o.cells := rfl
                rw [this, List.getElem?_map, hg]; rfl
              repeat' (first
    | ((with_reducible first | apply o_some | apply o_none | apply x_joined); exact sdG9; exact sdG9)
    | ((with_reducible first | apply d_some | apply d_none); exact sdG9; exact sdG9; exact sdG9)
    | ((with_reducible first | apply o_gT | apply d_gT); exact sdG9; exact sdG9)
    | ((with_reducible first | apply o_gF | apply d_gF); exact sdG9; exact sdG9; rfl)
    | ((with_reducible first | apply o_gU | apply d_gU); exact sdG9; exact sdG9)
    | ((with_reducible apply o_nilq); (exact ⟨by decide, by first | assumption | simp only [go_sem]⟩); exact sdG9; exact sdG9)
    | (with_reducible first | apply o_nil | apply x_next | apply x_seq | apply x_block | apply x_leave_normal | apply x_leave_ret | apply x_pass_ret | apply x_loop_exit | apply x_loop_ret | apply x_pass_exit | apply x_exit | apply x_ret | apply x_skip | apply x_label | apply x_join_ret | apply x_join_exit)
    | ((with_reducible apply d_end); kernel_rfl)
    | ((with_reducible apply x_region); exact sdG9)
    | ((with_reducible apply x_regionD); kernel_rfl; exact sdG9; exact sdG9)
    | ((with_reducible first | apply x_leave_exit | apply x_condT); exact sdG9)
    | ((with_reducible apply x_condF); exact sdG9)
    | ((first | ((with_reducible apply x_condB); exact sdG9) | ((with_reducible first | apply o_gB | apply d_gB); exact sdG9; exact sdG9)); all_goals intro hc; all_goals (try simp only [decide_eq_true_eq, decide_eq_false_iff_not, Bool.not_eq_true', Bool.not_eq_false', Bool.and_eq_true, Bool.or_eq_false_iff, Classical.not_not] at hc); all_goals (try (exfalso; omega)))
    | ((with_reducible apply o_call); exact sdG9; exact sdG9; exact sdG9; (first | exact c_int codes a _ hb | exact c_value codes _ k hb); exact sdG9; exact sdG9)
    | ((with_reducible apply o_callN); exact sdG9; exact sdG9; exact sdG9; (first | exact c_int codes a _ hb | exact c_value codes _ k hb); exact sdG9)
    | ((with_reducible apply d_callS); exact sdG9; exact sdG9; exact sdG9; (first | exact c_int codes a _ hb | exact c_value codes _ k hb); exact sdG9p; exact sdG9; exact sdG9; exact sdG9; exact sdG9)
    | ((with_reducible apply x_end); (first | exact .inl rfl | exact .inr rfl); exact sdG9; exact sdG9))
              unfold opdV opdA
              rw [hl]
              simp only [List.length_cons]
              rw [hg]
              exact ⟨rfl, rfl⟩
            · repeat' (first
    | ((with_reducible first | apply o_some | apply o_none | apply x_joined); exact sdG9; exact sdG9)
    | ((with_reducible first | apply d_some | apply d_none); exact sdG9; exact sdG9; exact sdG9)
    | ((with_reducible first | apply o_gT | apply d_gT); exact sdG9; exact sdG9)
    | ((with_reducible first | apply o_gF | apply d_gF); exact sdG9; exact sdG9; rfl)
    | ((with_reducible first | apply o_gU | apply d_gU); exact sdG9; exact sdG9)
    | ((with_reducible apply o_nilq); (exact ⟨by decide, by first | assumption | simp only [go_sem]⟩); exact sdG9; exact sdG9)
    | (with_reducible first | apply o_nil | apply x_next | apply x_seq | apply x_block | apply x_leave_normal | apply x_leave_ret | apply x_pass_ret | apply x_loop_exit | apply x_loop_ret | apply x_pass_exit | apply x_exit | apply x_ret | apply x_skip | apply x_label | apply x_join_ret | apply x_join_exit)
    | ((with_reducible apply d_end); kernel_rfl)
    | ((with_reducible apply x_region); exact sdG9)
    | ((with_reducible apply x_regionD); kernel_rfl; exact sdG9; exact sdG9)
    | ((with_reducible first | apply x_leave_exit | apply x_condT); exact sdG9)
    | ((with_reducible apply x_condF); exact sdG9)
    | ((first | ((with_reducible apply x_condB); exact sdG9) | ((with_reducible first | apply o_gB | apply d_gB); exact sdG9; exact sdG9)); all_goals intro hc; all_goals (try simp only [decide_eq_true_eq, decide_eq_false_iff_not, Bool.not_eq_true', Bool.not_eq_false', Bool.and_eq_true, Bool.or_eq_false_iff, Classical.not_not] at hc); all_goals (try (exfalso; omega)))
    | ((with_reducible apply o_call); exact sdG9; exact sdG9; exact sdG9; (first | exact c_int codes a _ hb | exact c_value codes _ k hb); exact sdG9; exact sdG9)
    | ((with_reducible apply o_callN); exact sdG9; exact sdG9; exact sdG9; (first | exact c_int codes a _ hb | exact c_value codes _ k hb); exact sdG9)
    | ((with_reducible apply d_callS); exact sdG9; exact sdG9; exact sdG9; (first | exact c_int codes a _ hb | exact c_value codes _ k hb); exact sdG9p; exact sdG9; exact sdG9; exact sdG9; exact sdG9)
    | ((with_reducible apply x_end); (first | exact .inl rfl | exact .inr rfl); exact sdG9; exact sdG9))
              unfold opdV opdA
              rw [hl]
              simp only [List.length_cons]
              have hn : (q :: r)[(nxI codes a ((r.length + 1 : Nat) + 1)).toNat]? = none := List.getElem?_eq_none (by rw [List.length_cons]; omega)
              rw [hn]
              exact ⟨rfl, rfl⟩
attribute [irreducible] opdL opdV opdA
end Go.Proofs.Ytfdekggfdklfeaa
