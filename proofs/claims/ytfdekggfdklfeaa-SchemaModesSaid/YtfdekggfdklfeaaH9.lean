/-
  The law of the names.
-/
import Derived.Test.YtfdekggfdklfeaaH8
import Derived.Test.YtfdekggfdklfeaaG14
import Derived.Test.YtfdekggfdklfeaaG2
set_option linter.all false
set_option linter.unusedVariables false
set_option linter.unusedSimpArgs false
namespace Go.Proofs.Ytfdekggfdklfeaa
open Go.Ab
attribute [local irreducible] seqK blockK loopK endK
set_option maxRecDepth 10000
set_option maxHeartbeats 64000000
@[go_sem] theorem rows_app {f h} : ∀ {a b : List (List AV)}, (treeM.rows f (a ++ b)).run h = ((treeM.rows f a).run h).bind fun x => ((treeM.rows f b).run h).map fun y => (x.1 ++ y.1, x.2 ++ y.2)
  | [], b => by
    rw [List.nil_append, rows_nil]
    cases (treeM.rows f b).run h <;> simp
  | c :: a, b => by
    rw [List.cons_append, rows_cons, rows_cons, rows_app (a := a)]
    cases (treeM.row f c).run h with
    | none => rfl
    | some x =>
      simp only [Option.bind_some]
      cases (treeM.rows f a).run h with
      | none => rfl
      | some y =>
        simp only [Option.bind_some, Option.map_some]
        cases (treeM.rows f b).run h <;> simp
theorem row_d {n p h} : ∀ {cs : List DV}, (treeM.row (treeM (n + 1) p) (cs.map .d)).run h = some (cs.map DV.norm, [])
  | [] => rfl
  | c :: r => by rw [List.map_cons, row_cons, row_d (cs := r)]; simp [treeM_d]
@[go_sem] theorem rows_tab {n p h} : ∀ {l : List Tab}, (treeM.rows (treeM (n + 1) p) (l.map fun x => x.cells.map AV.d)).run h = some (l.map fun x => x.cells, [])
  | [] => rfl
  | c :: r => by rw [List.map_cons, rows_cons, row_d, rows_tab (l := r), Tab.nrm]; rfl
@[go_sem] theorem take_app1 {α β : Type} {f : α → β} {l : List α} {x : β} : List.take (l.length + 1) (l.map f ++ [x]) = l.map f ++ [x] :=
  List.take_of_length_le (by simp)
def tabX (name : ByteArray) : Tab := ⟨name, [⟨⟨#[105, 100]⟩, 4⟩], 1, [], []⟩
def tabY (name : ByteArray) : Tab := ⟨⟨#[111, 116, 104, 101, 114]⟩, [⟨name, 4⟩], 1, [], []⟩
theorem tabsOk_app : ∀ {l r : List Tab} {seen : List ByteArray}, tabsOk seen (l ++ r) = (tabsOk seen l && tabsOk (seen ++ l.map fun t => t.name) r)
  | [], r, seen => by simp [tabsOk]
  | t :: l, r, seen => by
    rw [List.cons_append, tabsOk, tabsOk, tabsOk_app (l := l), List.map_cons, Bool.and_assoc, List.append_assoc]
    rfl
theorem find_iff {nm : ByteArray} : ∀ {l : List Tab} {i : Nat}, (0 ≤ findT nm i l ↔ memB nm (l.map fun t => t.name) = true)
  | [], i => by simp [findT, memB]
  | t :: r, i => by
    rw [findT, List.map_cons, memB]
    by_cases h : t.name = nm
    · rw [if_pos h]; simp [h]
    · rw [if_neg h, find_iff (l := r)]
      have : ¬ nm = t.name := fun e => h e.symm
      simp [this]
theorem plain_all {n : Nat} {id : Int} (hn : n = 2 ∨ n = 3 ∨ n = 4) (hid : id = 4 ∨ id = 5) : tabsOk [] ((schT id false false false []).take n) = true ∧ ((schT id false false false []).take n).all Tab.lim = true ∧
    memB ⟨#[111, 116, 104, 101, 114]⟩ (((schT id false false false []).take n).map fun t => t.name) = false ∧ (((schT id false false false []).take n).length ≤ 4 ∧ ¬ ((schT id false false false []).take n).length = 0) ∧ ∀ t ∈ (schT id false false false []).take n, t.refs = [] ∧ t.checks = [] ∧ t.cols.length ≤ 1000000 := by
  refine ⟨?_, ?_, ?_, ?_, ?_⟩
  · rcases hn with rfl | rfl | rfl <;> rcases hid with rfl | rfl <;> decide
  · rcases hn with rfl | rfl | rfl <;> rcases hid with rfl | rfl <;> decide
  · rcases hn with rfl | rfl | rfl <;> rcases hid with rfl | rfl <;> decide
  · rw [List.length_take]; simp only [schT, List.length_cons, List.length_nil]; omega
  · intro t ht
    have ht := List.mem_of_mem_take ht
    simp only [schT, List.mem_cons, List.not_mem_nil, or_false] at ht
    rcases ht with rfl | rfl | rfl | rfl <;> exact ⟨rfl, rfl, Nat.le_of_ble_eq_true rfl⟩
theorem lim_app {v : Int} {l : List Tab} {t : Tab} (h1 : l.length ≤ 4) (h2 : l.all Tab.lim = true) (h3 : t.lim = true) : (Sch.mk v (l ++ [t])).lim = true := by
  have : (l ++ [t]).length ≤ 8 := by simp; omega
  simp only [Sch.lim, decide_eq_true this, Bool.true_and, List.all_append, h2, List.all_cons, h3, List.all_nil, Bool.and_self]
theorem sound_app {v : Int} {l : List Tab} {t : Tab} (hv : 0 ≤ v ∧ v < 3) (h1 : tabsOk [] l = true) : (Sch.mk v (l ++ [t])).soundN = t.okt (l.map fun t => t.name) := by
  have : 0 ≤ v ∧ v ≤ 1000 := by omega
  simp only [Sch.soundN, decide_eq_true this, Bool.true_and, tabsOk_app, h1, List.nil_append, tabsOk, Bool.and_true]
theorem okt_x {name : ByteArray} {seen : List ByteArray} : (tabX name).okt seen = (nameB name && !memB name seen) := by
  have : colsOk [] [⟨⟨#[105, 100]⟩, 4⟩] = true := by decide
  simp [Tab.okt, tabX, this]
theorem okt_y {name : ByteArray} {seen : List ByteArray} (h : memB ⟨#[111, 116, 104, 101, 114]⟩ seen = false) : (tabY name).okt seen = nameB name := by
  have h2 : nameB ⟨#[111, 116, 104, 101, 114]⟩ = true := by decide
  simp [Tab.okt, tabY, h, h2, colsOk, Col.okc, memB]
theorem sdH90 {α : Type _} {a b : α} (h : a = b := by (first | (simp (maxSteps := 2000000) (disch := first | assumption | omega | (simp only [go_sem] <;> with_reducible rfl)) only [go_sem, ↓reduceIte, ↓reduceDIte, Nat.reduceEqDiff, reduceCtorEq, Nat.reduceAdd, Nat.reduceSub, Nat.reduceMul, Nat.reduceBEq, Nat.reduceBNe, Nat.reduceLeDiff, Nat.reduceLT, Int.reduceLT, Int.reduceLE, Int.reduceToNat, Int.reduceEq, Int.reduceNeg, Int.reduceAdd, Int.reduceSub, Int.reduceMul, Nat.reduceMod, Nat.reduceDiv, Nat.reducePow, BEq.rfl, gt_iff_lt, ge_iff_le, *, Sch.cells] <;> with_reducible rfl) | with_reducible rfl)) : a = b := h
theorem sdH90p {a b : Nat} (h : a ≤ b := by (first | (simp (maxSteps := 2000000) (disch := first | assumption | omega | (simp only [go_sem] <;> with_reducible rfl)) only [go_sem, ↓reduceIte, ↓reduceDIte, Nat.reduceEqDiff, reduceCtorEq, Nat.reduceAdd, Nat.reduceSub, Nat.reduceMul, Nat.reduceBEq, Nat.reduceBNe, Nat.reduceLeDiff, Nat.reduceLT, Int.reduceLT, Int.reduceLE, Int.reduceToNat, Int.reduceEq, Int.reduceNeg, Int.reduceAdd, Int.reduceSub, Int.reduceMul, Nat.reduceMod, Nat.reduceDiv, Nat.reducePow, BEq.rfl, gt_iff_lt, ge_iff_le, *, Sch.cells] <;> with_reducible rfl) | with_reducible rfl)) : a ≤ b := h
theorem c_names (codes : List UInt8) (name : ByteArray) : CallA Try.prog C (.func 3) {} [.d (.fsl (rowsB codes) false false), .d (.str name)] [] fun v hs => v = .d (.bool true) ∧ hs = [] := by
  have cN := c_new codes 90 (by omega) (by omega)
  have hlen : (codes.take (90 : Int).toNat).length ≤ 1000 := by rw [List.length_take]; omega
  generalize codes.take (90 : Int).toNat = cs at cN hlen
  obtain ⟨n, v, id, a', hn, hv, hid, cP⟩ := e_plain cs hlen 0
  obtain ⟨p1, p2, p3, ⟨p4, p6⟩, p5⟩ := plain_all hn hid
  unfold schV at cP
  generalize (schT id false false false []).take n = l at cP p1 p2 p3 p4 p5 p6
  have cB := c_begun
  have c8 := c_name07 name
  have c9 := c_find07 ⟨v, l⟩ name (by simp only; omega)
  have hf : 0 ≤ (Sch.mk v l).find name ↔ memB name (l.map fun t => t.name) = true := find_iff
  have hx : ∀ t ∈ l ++ [tabX name], t.refs = [] ∧ t.checks = [] ∧ t.cols.length ≤ 1000000 := by
    intro t ht
    rcases List.mem_append.1 ht with h | h
    · exact p5 t h
    · rw [List.mem_singleton.1 h]; exact ⟨rfl, rfl, Nat.le_of_ble_eq_true rfl⟩
  have hy : ∀ t ∈ l ++ [tabY name], t.refs = [] ∧ t.checks = [] ∧ t.cols.length ≤ 1000000 := by
    intro t ht
    rcases List.mem_append.1 ht with h | h
    · exact p5 t h
    · rw [List.mem_singleton.1 h]; exact ⟨rfl, rfl, Nat.le_of_ble_eq_true rfl⟩
  have cX := c_check ⟨v, l ++ [tabX name]⟩ (by simp; omega) hx
  have cY := c_check ⟨v, l ++ [tabY name]⟩ (by simp; omega) hy
  have ex : (Sch.mk v (l ++ [tabX name])).chkN = bif nameB name && !memB name (l.map fun t => t.name) then 0 else 70 := by
    rw [Sch.chkN, lim_app p4 p2 (by simp [Tab.lim, tabX]), sound_app hv p1, okt_x]; rfl
  have ey : (Sch.mk v (l ++ [tabY name])).chkN = bif nameB name then 0 else 70 := by
    rw [Sch.chkN, lim_app p4 p2 (by simp [Tab.lim, tabY]), sound_app hv p1, okt_y p3]; rfl
  rw [ex] at cX
  rw [ey] at cY
  have sx : (Sch.mk v (l ++ [tabX name])).cells.map AV.d = [.d (.int .i64 v), .d (.fsl ((l.map fun t => t.cells) ++ [[.str name, .fsl [[.str ⟨#[105, 100]⟩, .int .i64 4]] false false, .int .i64 1, .fsl [] false false, .fsl [] false false]]) false false)] := by
    unfold Sch.cells; rw [List.map_append]; rfl
  have sy : (Sch.mk v (l ++ [tabY name])).cells.map AV.d = [.d (.int .i64 v), .d (.fsl ((l.map fun t => t.cells) ++ [[.str ⟨#[111, 116, 104, 101, 114]⟩, .fsl [[.str name, .int .i64 4]] false false, .int .i64 1, .fsl [] false false, .fsl [] false false]]) false false)] := by
    unfold Sch.cells; rw [List.map_append]; rfl
  rw [sx] at cX
  rw [sy] at cY
  clear sx sy ex ey hx hy p1 p2 p3 p5
  have hbig : 1000000 < big := by decide
  have hl1 : l.length + 1 ≤ big := by omega
  have hl2 : ¬ l.length + 1 = 0 := by omega
  refine call_func Try.func3 rfl (by decide) (by kernel_rfl) ⟨Nat.le_of_ble_eq_true rfl, Nat.le_of_ble_eq_true rfl⟩ ?_
  by_cases q1 : nameB name = true
  · rw [q1] at c8 cX cY
    by_cases q2 : memB name (l.map fun t => t.name) = true
    · have hge := hf.2 q2
      rw [q2] at cX
      clear hf
      repeat' (first
    | ((with_reducible first | apply o_some | apply o_none | apply x_joined); exact sdH90; exact sdH90)
    | ((with_reducible first | apply d_some | apply d_none); exact sdH90; exact sdH90; exact sdH90)
    | ((with_reducible first | apply o_gT | apply d_gT); exact sdH90; exact sdH90)
    | ((with_reducible first | apply o_gF | apply d_gF); exact sdH90; exact sdH90; rfl)
    | ((with_reducible first | apply o_gU | apply d_gU); exact sdH90; exact sdH90)
    | ((with_reducible apply o_nilq); (exact ⟨by decide, by first | assumption | simp only [go_sem]⟩); exact sdH90; exact sdH90)
    | (with_reducible first | apply o_nil | apply x_next | apply x_seq | apply x_block | apply x_leave_normal | apply x_leave_ret | apply x_pass_ret | apply x_loop_exit | apply x_loop_ret | apply x_pass_exit | apply x_exit | apply x_ret | apply x_skip | apply x_label | apply x_join_ret | apply x_join_exit)
    | ((with_reducible apply d_end); kernel_rfl)
    | ((with_reducible apply x_region); exact sdH90)
    | ((with_reducible apply x_regionD); kernel_rfl; exact sdH90; exact sdH90)
    | ((with_reducible first | apply x_leave_exit | apply x_condT); exact sdH90)
    | ((with_reducible apply x_condF); exact sdH90)
    | ((first | ((with_reducible apply x_condB); exact sdH90) | ((with_reducible first | apply o_gB | apply d_gB); exact sdH90; exact sdH90)); all_goals intro hc; all_goals (try simp only [decide_eq_true_eq, decide_eq_false_iff_not, Bool.not_eq_true', Bool.not_eq_false', Bool.and_eq_true, Bool.or_eq_false_iff, Classical.not_not] at hc); all_goals (try (exfalso; omega)))
    | ((with_reducible apply o_call); exact sdH90; exact sdH90; exact sdH90; (first | assumption); exact sdH90; exact sdH90)
    | ((with_reducible apply o_callN); exact sdH90; exact sdH90; exact sdH90; (first | assumption); exact sdH90)
    | ((with_reducible apply d_callS); exact sdH90; exact sdH90; exact sdH90; (first | assumption); exact sdH90p; exact sdH90; exact sdH90; exact sdH90; exact sdH90)
    | ((with_reducible apply x_end); (first | exact .inl rfl | exact .inr rfl); exact sdH90; exact sdH90))
      all_goals exact ⟨rfl, rfl⟩
    · have hge : ¬ 0 ≤ (Sch.mk v l).find name := fun h => q2 (hf.1 h)
      have q2 : memB name (l.map fun t => t.name) = false := by simpa using q2
      rw [q2] at cX
      clear hf
      repeat' (first
    | ((with_reducible first | apply o_some | apply o_none | apply x_joined); exact sdH90; exact sdH90)
    | ((with_reducible first | apply d_some | apply d_none); exact sdH90; exact sdH90; exact sdH90)
    | ((with_reducible first | apply o_gT | apply d_gT); exact sdH90; exact sdH90)
    | ((with_reducible first | apply o_gF | apply d_gF); exact sdH90; exact sdH90; rfl)
    | ((with_reducible first | apply o_gU | apply d_gU); exact sdH90; exact sdH90)
    | ((with_reducible apply o_nilq); (exact ⟨by decide, by first | assumption | simp only [go_sem]⟩); exact sdH90; exact sdH90)
    | (with_reducible first | apply o_nil | apply x_next | apply x_seq | apply x_block | apply x_leave_normal | apply x_leave_ret | apply x_pass_ret | apply x_loop_exit | apply x_loop_ret | apply x_pass_exit | apply x_exit | apply x_ret | apply x_skip | apply x_label | apply x_join_ret | apply x_join_exit)
    | ((with_reducible apply d_end); kernel_rfl)
    | ((with_reducible apply x_region); exact sdH90)
    | ((with_reducible apply x_regionD); kernel_rfl; exact sdH90; exact sdH90)
    | ((with_reducible first | apply x_leave_exit | apply x_condT); exact sdH90)
    | ((with_reducible apply x_condF); exact sdH90)
    | ((first | ((with_reducible apply x_condB); exact sdH90) | ((with_reducible first | apply o_gB | apply d_gB); exact sdH90; exact sdH90)); all_goals intro hc; all_goals (try simp only [decide_eq_true_eq, decide_eq_false_iff_not, Bool.not_eq_true', Bool.not_eq_false', Bool.and_eq_true, Bool.or_eq_false_iff, Classical.not_not] at hc); all_goals (try (exfalso; omega)))
    | ((with_reducible apply o_call); exact sdH90; exact sdH90; exact sdH90; (first | assumption); exact sdH90; exact sdH90)
    | ((with_reducible apply o_callN); exact sdH90; exact sdH90; exact sdH90; (first | assumption); exact sdH90)
    | ((with_reducible apply d_callS); exact sdH90; exact sdH90; exact sdH90; (first | assumption); exact sdH90p; exact sdH90; exact sdH90; exact sdH90; exact sdH90)
    | ((with_reducible apply x_end); (first | exact .inl rfl | exact .inr rfl); exact sdH90; exact sdH90))
      all_goals exact ⟨rfl, rfl⟩
  · have q1 : nameB name = false := by simpa using q1
    rw [q1] at c8 cX cY
    clear hf
    repeat' (first
    | ((with_reducible first | apply o_some | apply o_none | apply x_joined); exact sdH90; exact sdH90)
    | ((with_reducible first | apply d_some | apply d_none); exact sdH90; exact sdH90; exact sdH90)
    | ((with_reducible first | apply o_gT | apply d_gT); exact sdH90; exact sdH90)
    | ((with_reducible first | apply o_gF | apply d_gF); exact sdH90; exact sdH90; rfl)
    | ((with_reducible first | apply o_gU | apply d_gU); exact sdH90; exact sdH90)
    | ((with_reducible apply o_nilq); (exact ⟨by decide, by first | assumption | simp only [go_sem]⟩); exact sdH90; exact sdH90)
    | (with_reducible first | apply o_nil | apply x_next | apply x_seq | apply x_block | apply x_leave_normal | apply x_leave_ret | apply x_pass_ret | apply x_loop_exit | apply x_loop_ret | apply x_pass_exit | apply x_exit | apply x_ret | apply x_skip | apply x_label | apply x_join_ret | apply x_join_exit)
    | ((with_reducible apply d_end); kernel_rfl)
    | ((with_reducible apply x_region); exact sdH90)
    | ((with_reducible apply x_regionD); kernel_rfl; exact sdH90; exact sdH90)
    | ((with_reducible first | apply x_leave_exit | apply x_condT); exact sdH90)
    | ((with_reducible apply x_condF); exact sdH90)
    | ((first | ((with_reducible apply x_condB); exact sdH90) | ((with_reducible first | apply o_gB | apply d_gB); exact sdH90; exact sdH90)); all_goals intro hc; all_goals (try simp only [decide_eq_true_eq, decide_eq_false_iff_not, Bool.not_eq_true', Bool.not_eq_false', Bool.and_eq_true, Bool.or_eq_false_iff, Classical.not_not] at hc); all_goals (try (exfalso; omega)))
    | ((with_reducible apply o_call); exact sdH90; exact sdH90; exact sdH90; (first | assumption); exact sdH90; exact sdH90)
    | ((with_reducible apply o_callN); exact sdH90; exact sdH90; exact sdH90; (first | assumption); exact sdH90)
    | ((with_reducible apply d_callS); exact sdH90; exact sdH90; exact sdH90; (first | assumption); exact sdH90p; exact sdH90; exact sdH90; exact sdH90; exact sdH90)
    | ((with_reducible apply x_end); (first | exact .inl rfl | exact .inr rfl); exact sdH90; exact sdH90))
    all_goals exact ⟨rfl, rfl⟩
end Go.Proofs.Ytfdekggfdklfeaa
