/-
  Contracts: a predicate of a case without arguments.
-/
import Derived.Test.YtfdekggfdklfeaaG9
import Derived.Test.YtfdekggfdklfeaaG7
set_option linter.all false
set_option linter.unusedVariables false
set_option linter.unusedSimpArgs false
namespace Go.Proofs.Ytfdekggfdklfeaa
open Go.Ab
attribute [local irreducible] seqK blockK loopK endK
set_option maxRecDepth 10000
set_option maxHeartbeats 16000000
theorem nxI_255 {codes : List UInt8} {a : Nat} {n : Int} : nxI codes a n ≤ 255 := by
  unfold nxI; split
  · omega
  · rename_i b _
    split
    · omega
    · have h1 := b.toNat_lt
      rw [Int.tmod_eq_emod_of_nonneg (Int.natCast_nonneg _)]
      have := Int.emod_nonneg (b.toNat : Int) (b := n) (by omega)
      by_cases hn : (b.toNat : Int) < n
      · rw [Int.emod_eq_of_lt (Int.natCast_nonneg _) hn]; omega
      · have := Int.emod_lt_of_pos (b.toNat : Int) (b := n) (by omega); omega
theorem e_int (codes : List UInt8) (a : Nat) (n : Int) (hb : codes.length ≤ 1000) (hn : 0 < n) : ∃ (z : Int) (a' : Nat), (0 ≤ z ∧ z < n ∧ z ≤ 255) ∧
    CallA Try.prog C (.func 13) {} [.ptr 0 0 0, .d (.int .i64 n)] (hC codes a) fun v hs => v = .d (.int .i64 z) ∧ hs = hC codes a' :=
  ⟨_, _, ⟨nxI_lo, nxI_hi hn, nxI_255⟩, c_int codes a n hb⟩
theorem e_bool (codes : List UInt8) (a : Nat) (n : Int) (hb : codes.length ≤ 1000) (hn : 0 ≤ n) (hn2 : n ≤ 1000) : ∃ (z : Bool) (a' : Nat),
    CallA Try.prog C (.func 29) {} [.ptr 0 0 0, .d (.int .i64 n)] (hC codes a) fun v hs => v = .d (.bool z) ∧ hs = hC codes a' :=
  ⟨_, _, c_bool codes a n hb hn hn2⟩
theorem e_value (codes : List UInt8) (a : Nat) (k : Int) (hb : codes.length ≤ 1000) : ∃ (x : Val) (a' : Nat),
    CallA Try.prog C (.func 32) {} [.ptr 0 0 0, .d (.int .i64 k)] (hC codes a) fun v hs => v = .agg [.d (.int .i64 x.k), .d (.int .i64 x.i), .d (.str x.t)] ∧ hs = hC codes a' :=
  ⟨⟨_, _, _⟩, _, c_value codes a k hb⟩
theorem e_operand (codes : List UInt8) (a : Nat) (cols params : List Int) (k : Int) (hb : codes.length ≤ 1000) (h1 : cols.length ≤ 1000) (h2 : params.length ≤ 1000) : ∃ (x : Opd) (a' : Nat),
    CallA Try.prog C (.func 49) {} [.ptr 0 0 0, .d (.fsl (rowsI cols) false false), .d (.fsl (rowsI params) false false), .d (.int .i64 k)] (hC codes a) fun v hs => v = .agg (x.cells.map .d) ∧ hs = hC codes a' :=
  ⟨_, _, c_operand codes a cols params k hb h1 h2⟩
abbrev TreeA (codes : List UInt8) (cols params : List Int) (d : Int) (a : Nat) (p : Pred) (a' : Nat) : Prop :=
  CallA Try.prog C (.func 43) {} [.ptr 0 0 0, .d (.fsl (rowsI cols) false false), .d (.fsl (rowsI params) false false), .d (.int .i64 d)] (hC codes a) fun v hs => v = .agg (p.cells.map .d) ∧ hs = hC codes a'
theorem sdG10 {α : Type _} {a b : α} (h : a = b := by (first | (simp (maxSteps := 2000000) (disch := first | assumption | omega | (simp only [go_sem] <;> with_reducible rfl)) only [go_sem, ↓reduceIte, ↓reduceDIte, Nat.reduceEqDiff, reduceCtorEq, Nat.reduceAdd, Nat.reduceSub, Nat.reduceMul, Nat.reduceBEq, Nat.reduceBNe, Nat.reduceLeDiff, Nat.reduceLT, Int.reduceLT, Int.reduceLE, Int.reduceToNat, Int.reduceEq, Int.reduceNeg, Int.reduceAdd, Int.reduceSub, Int.reduceMul, Nat.reduceMod, Nat.reduceDiv, Nat.reducePow, BEq.rfl, gt_iff_lt, ge_iff_le, *] <;> with_reducible rfl) | with_reducible rfl)) : a = b := h
theorem sdG10p {a b : Nat} (h : a ≤ b := by (first | (simp (maxSteps := 2000000) (disch := first | assumption | omega | (simp only [go_sem] <;> with_reducible rfl)) only [go_sem, ↓reduceIte, ↓reduceDIte, Nat.reduceEqDiff, reduceCtorEq, Nat.reduceAdd, Nat.reduceSub, Nat.reduceMul, Nat.reduceBEq, Nat.reduceBNe, Nat.reduceLeDiff, Nat.reduceLT, Int.reduceLT, Int.reduceLE, Int.reduceToNat, Int.reduceEq, Int.reduceNeg, Int.reduceAdd, Int.reduceSub, Int.reduceMul, Nat.reduceMod, Nat.reduceDiv, Nat.reducePow, BEq.rfl, gt_iff_lt, ge_iff_le, *] <;> with_reducible rfl) | with_reducible rfl)) : a ≤ b := h
theorem sdG101 {α : Type _} {a b : α} (h : a = b := by (first | (simp (maxSteps := 2000000) (disch := first | assumption | omega | (simp only [go_sem] <;> with_reducible rfl)) only [go_sem, ↓reduceIte, ↓reduceDIte, Nat.reduceEqDiff, reduceCtorEq, Nat.reduceAdd, Nat.reduceSub, Nat.reduceMul, Nat.reduceBEq, Nat.reduceBNe, Nat.reduceLeDiff, Nat.reduceLT, Int.reduceLT, Int.reduceLE, Int.reduceToNat, Int.reduceEq, Int.reduceNeg, Int.reduceAdd, Int.reduceSub, Int.reduceMul, Nat.reduceMod, Nat.reduceDiv, Nat.reducePow, BEq.rfl, gt_iff_lt, ge_iff_le, *, Opd.cells] <;> with_reducible rfl) | with_reducible rfl)) : a = b := h
theorem sdG101p {a b : Nat} (h : a ≤ b := by (first | (simp (maxSteps := 2000000) (disch := first | assumption | omega | (simp only [go_sem] <;> with_reducible rfl)) only [go_sem, ↓reduceIte, ↓reduceDIte, Nat.reduceEqDiff, reduceCtorEq, Nat.reduceAdd, Nat.reduceSub, Nat.reduceMul, Nat.reduceBEq, Nat.reduceBNe, Nat.reduceLeDiff, Nat.reduceLT, Int.reduceLT, Int.reduceLE, Int.reduceToNat, Int.reduceEq, Int.reduceNeg, Int.reduceAdd, Int.reduceSub, Int.reduceMul, Nat.reduceMod, Nat.reduceDiv, Nat.reducePow, BEq.rfl, gt_iff_lt, ge_iff_le, *, Opd.cells] <;> with_reducible rfl) | with_reducible rfl)) : a ≤ b := h
theorem e_leaf (codes : List UInt8) (a : Nat) (cols params : List Int) (d : Int) (hb : codes.length ≤ 1000) (h1 : cols.length ≤ 1000) (h2 : params.length ≤ 1000) (hd : nxI codes a 9 < 6 ∨ d < 1) :
    ∃ (p : Pred) (a' : Nat), p.sz ≤ 1 ∧ TreeA codes cols params d a p a' := by
  have c1 := c_int codes a 9 hb
  have o1 := @nxI_lo codes a 9
  generalize nxI codes a 9 = op at *
  generalize nxA codes a 9 = a1 at *
  obtain ⟨b, a2, c2⟩ := e_bool codes a1 2 hb (by omega) (by omega)
  by_cases gc : op = 0 ∧ b = true
  · obtain ⟨rfl, rfl⟩ := gc
    obtain ⟨z, a3, ⟨z1, z2, z3⟩, c3⟩ := e_int codes a2 2 hb (by omega)
    have wz := wrap_i64 (x := 1 + z) (by omega) (by omega)
    refine ⟨.mk (1 + z) 0 ⟨0, 0, ⟨0, 0, ⟨#[]⟩⟩⟩ ⟨0, 0, ⟨0, 0, ⟨#[]⟩⟩⟩ [], a3, by simp [Pred.sz, Pred.szL], ?_⟩
    · refine call_func Try.func43 rfl (by decide) (by kernel_rfl) ⟨Nat.le_of_ble_eq_true rfl, Nat.le_of_ble_eq_true rfl⟩ ?_
      repeat' (first
    | ((with_reducible first | apply o_some | apply o_none | apply x_joined); exact sdG10; exact sdG10)
    | ((with_reducible first | apply d_some | apply d_none); exact sdG10; exact sdG10; exact sdG10)
    | ((with_reducible first | apply o_gT | apply d_gT); exact sdG10; exact sdG10)
    | ((with_reducible first | apply o_gF | apply d_gF); exact sdG10; exact sdG10; rfl)
    | ((with_reducible first | apply o_gU | apply d_gU); exact sdG10; exact sdG10)
    | ((with_reducible apply o_nilq); (exact ⟨by decide, by first | assumption | simp only [go_sem]⟩); exact sdG10; exact sdG10)
    | (with_reducible first | apply o_nil | apply x_next | apply x_seq | apply x_block | apply x_leave_normal | apply x_leave_ret | apply x_pass_ret | apply x_loop_exit | apply x_loop_ret | apply x_pass_exit | apply x_exit | apply x_ret | apply x_skip | apply x_label | apply x_join_ret | apply x_join_exit)
    | ((with_reducible apply d_end); kernel_rfl)
    | ((with_reducible apply x_region); exact sdG10)
    | ((with_reducible apply x_regionD); kernel_rfl; exact sdG10; exact sdG10)
    | ((with_reducible first | apply x_leave_exit | apply x_condT); exact sdG10)
    | ((with_reducible apply x_condF); exact sdG10)
    | ((first | ((with_reducible apply x_condB); exact sdG10) | ((with_reducible first | apply o_gB | apply d_gB); exact sdG10; exact sdG10)); all_goals intro hc; all_goals (try simp only [decide_eq_true_eq, decide_eq_false_iff_not, Bool.not_eq_true', Bool.not_eq_false', Bool.and_eq_true, Bool.or_eq_false_iff, Classical.not_not] at hc); all_goals (try (exfalso; omega)))
    | ((with_reducible apply o_call); exact sdG10; exact sdG10; exact sdG10; (first | assumption); exact sdG10; exact sdG10)
    | ((with_reducible apply o_callN); exact sdG10; exact sdG10; exact sdG10; (first | assumption); exact sdG10)
    | ((with_reducible apply d_callS); exact sdG10; exact sdG10; exact sdG10; (first | assumption); exact sdG10p; exact sdG10; exact sdG10; exact sdG10; exact sdG10)
    | ((with_reducible apply x_end); (first | exact .inl rfl | exact .inr rfl); exact sdG10; exact sdG10))
      rw [Pred.cells_eq]
      exact ⟨rfl, rfl⟩
  · obtain ⟨x, hx⟩ : ∃ x, (op = 0 ∧ b = false ∧ x = a2) ∨ (¬ op = 0 ∧ op < 6 ∧ x = a1) ∨ (¬ op = 0 ∧ ¬ op < 6 ∧ d < 1 ∧ x = a1) := by
      by_cases g0 : op = 0
      · exact ⟨_, .inl ⟨g0, by cases b <;> simp_all, rfl⟩⟩
      · by_cases g6 : op < 6
        · exact ⟨_, .inr (.inl ⟨g0, g6, rfl⟩)⟩
        · exact ⟨_, .inr (.inr ⟨g0, g6, by omega, rfl⟩)⟩
    clear gc
    obtain ⟨k, a3, hk⟩ : ∃ (k : Int) (a3 : Nat), (cols = [] ∧ k = 4 ∧ a3 = x) ∨ (∃ (c : Int) (r : List Int) (z : Int), cols = c :: r ∧ (0 ≤ z ∧ z < (r.length + 1 : Nat) ∧ ([DV.int .i64 c] :: r.map fun k => [DV.int .i64 k])[z.toNat]? = some [.int .i64 k]) ∧
        CallA Try.prog C (.func 13) {} [.ptr 0 0 0, .d (.int .i64 (r.length + 1 : Nat))] (hC codes x) fun v hs => v = .d (.int .i64 z) ∧ hs = hC codes a3) := by
      rcases cols with _ | ⟨c, r⟩
      · exact ⟨_, _, .inl ⟨rfl, rfl, rfl⟩⟩
      · rw [List.length_cons] at h1
        obtain ⟨z, a3, ⟨z1, z2, z3⟩, c3⟩ := e_int codes x (r.length + 1 : Nat) hb (by omega)
        have hl : z.toNat < (c :: r).length := by rw [List.length_cons]; omega
        refine ⟨(c :: r)[z.toNat], _, .inr ⟨c, r, z, rfl, ⟨z1, z2, ?_⟩, c3⟩⟩
        have : ([DV.int .i64 c] :: r.map fun k => [DV.int .i64 k]) = (c :: r).map fun k => [DV.int .i64 k] := rfl
        rw [this, List.getElem?_map, List.getElem?_eq_getElem hl]
        rfl
    obtain ⟨cm, a4, ⟨z1, z2, z3⟩, c4⟩ := e_int codes a3 6 hb (by omega)
    have wz := wrap_i64 (x := 1 + cm) (by omega) (by omega)
    obtain ⟨l, a5, c5⟩ := e_operand codes a4 cols params k hb h1 h2
    obtain ⟨q, a6, c6⟩ := e_value codes a5 k hb
    obtain ⟨b7, a7, c7⟩ := e_bool codes a6 3 hb (by omega) (by omega)
    obtain ⟨l2, a8, hl2⟩ : ∃ (l2 : Opd) (a8 : Nat), (b7 = true ∧ CallA Try.prog C (.func 49) {} [.ptr 0 0 0, .d (.fsl (rowsI cols) false false), .d (.fsl (rowsI params) false false), .d (.int .i64 k)] (hC codes a7) fun v hs => v = .agg (l2.cells.map .d) ∧ hs = hC codes a8) ∨ (b7 = false ∧ a8 = a7) := by
      cases b7
      · exact ⟨l, _, .inr ⟨rfl, rfl⟩⟩
      · obtain ⟨l2, a8, c8⟩ := e_operand codes a7 cols params k hb h1 h2
        exact ⟨l2, a8, .inl ⟨rfl, c8⟩⟩
    obtain ⟨b9, a9, c9⟩ := e_bool codes a8 6 hb (by omega) (by omega)
    refine ⟨.mk 3 (1 + cm) (if b9 then (if b7 then l2 else ⟨3, 0, q⟩) else l) (if b9 then l else (if b7 then l2 else ⟨3, 0, q⟩)) [], a9, by simp [Pred.sz, Pred.szL], ?_⟩
    rcases hl2 with ⟨rfl, c8⟩ | ⟨rfl, rfl⟩ <;> cases b9 <;> rcases hk with ⟨rfl, rfl, rfl⟩ | ⟨c, r, z, rfl, ⟨z1, z2, z3⟩, c3⟩ <;> rcases hx with ⟨rfl, rfl, rfl⟩ | ⟨g1, g2, rfl⟩ | ⟨g1, g2, g3, rfl⟩
    all_goals (try rw [List.length_cons] at h1)
    all_goals refine call_func Try.func43 rfl (by decide) (by kernel_rfl) ⟨Nat.le_of_ble_eq_true rfl, Nat.le_of_ble_eq_true rfl⟩ ?_
    all_goals (repeat' (first
    | ((with_reducible first | apply o_some | apply o_none | apply x_joined); exact sdG101; exact sdG101)
    | ((with_reducible first | apply d_some | apply d_none); exact sdG101; exact sdG101; exact sdG101)
    | ((with_reducible first | apply o_gT | apply d_gT); exact sdG101; exact sdG101)
    | ((with_reducible first | apply o_gF | apply d_gF); exact sdG101; exact sdG101; rfl)
    | ((with_reducible first | apply o_gU | apply d_gU); exact sdG101; exact sdG101)
    | ((with_reducible apply o_nilq); (exact ⟨by decide, by first | assumption | simp only [go_sem]⟩); exact sdG101; exact sdG101)
    | (with_reducible first | apply o_nil | apply x_next | apply x_seq | apply x_block | apply x_leave_normal | apply x_leave_ret | apply x_pass_ret | apply x_loop_exit | apply x_loop_ret | apply x_pass_exit | apply x_exit | apply x_ret | apply x_skip | apply x_label | apply x_join_ret | apply x_join_exit)
    | ((with_reducible apply d_end); kernel_rfl)
    | ((with_reducible apply x_region); exact sdG101)
    | ((with_reducible apply x_regionD); kernel_rfl; exact sdG101; exact sdG101)
    | ((with_reducible first | apply x_leave_exit | apply x_condT); exact sdG101)
    | ((with_reducible apply x_condF); exact sdG101)
    | ((first | ((with_reducible apply x_condB); exact sdG101) | ((with_reducible first | apply o_gB | apply d_gB); exact sdG101; exact sdG101)); all_goals intro hc; all_goals (try simp only [decide_eq_true_eq, decide_eq_false_iff_not, Bool.not_eq_true', Bool.not_eq_false', Bool.and_eq_true, Bool.or_eq_false_iff, Classical.not_not] at hc); all_goals (try (exfalso; omega)))
    | ((with_reducible apply o_call); exact sdG101; exact sdG101; exact sdG101; (first | assumption); exact sdG101; exact sdG101)
    | ((with_reducible apply o_callN); exact sdG101; exact sdG101; exact sdG101; (first | assumption); exact sdG101)
    | ((with_reducible apply d_callS); exact sdG101; exact sdG101; exact sdG101; (first | assumption); exact sdG101p; exact sdG101; exact sdG101; exact sdG101; exact sdG101)
    | ((with_reducible apply x_end); (first | exact .inl rfl | exact .inr rfl); exact sdG101; exact sdG101)))
    all_goals (rw [Pred.cells_eq]; exact ⟨rfl, rfl⟩)
end Go.Proofs.Ytfdekggfdklfeaa
