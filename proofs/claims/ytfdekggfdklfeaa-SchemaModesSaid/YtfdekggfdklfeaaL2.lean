/-
  The law of the modes, as given.
-/
import Derived.Deep.Slices
import Derived.Deep.Strs
import Derived.Test.YtfdekggfdklfeaaM3
import Derived.Test.YtfdekggfdklfeaaL1
set_option linter.all false
set_option linter.unusedVariables false
set_option linter.unusedSimpArgs false
namespace Go.Proofs.Ytfdekggfdklfeaa
open Go.Ab
open Go.ChangeShapes Go.WideShapes Go.ChangeAt Go.RowKit
open Go.WideMaps Go.WideElems
theorem rd_slice {W : World} {a : Addr} {len cap k : Nat} (hk : 0 < k) (hl : len ≤ cap) (R : Nat → List DV)
    (hR : ∀ i, i < len → (R i).length = k ∧ ∃ cs' : List Value, W.cells? 0 (a.add (i * k)) k = some cs' ∧ ∀ (j : Nat) x, (R i)[j]? = some x → ∃ v, cs'[j]? = some v ∧ RD (oldF W) x v) :
    RD (oldF W) (.fsl ((List.range len).map R) false false) (.slice (some a) len cap) := by
  cases len with
  | zero => exact .fslE (by simp) (by simp) (by simp)
  | succ n =>
    have cell : ∀ i j, i < n + 1 → j < k → ∃ v, W.cell? ((a.add (i * k)).add j) = some v ∧ ∀ x, (R i)[j]? = some x → RD (oldF W) x v := by
      intro i j hi hj
      obtain ⟨hlen, cs', h1, h2⟩ := hR i hi
      obtain ⟨_, g2, g3⟩ := World.cells?_some h1
      have hx : (R i)[j]? = some ((R i)[j]'(by omega)) := List.getElem?_eq_getElem (by omega)
      obtain ⟨v, e1, e2⟩ := h2 j _ hx
      refine ⟨v, by rw [g3 j hj, e1], fun x hx' => ?_⟩
      rw [hx] at hx'; cases hx'; exact e2
    obtain ⟨v0, hv0, _⟩ := cell 0 0 (by omega) hk
    obtain ⟨c, h1, h2, h3⟩ := cell_old hv0
    have ha : (a.add (0 * k)).add 0 = a := by simp [Addr.add]
    rw [ha] at h1 h2 h3
    obtain ⟨b, off, sp⟩ := a
    simp only at h1 h2 h3
    subst h3
    have hat : ∀ i j, i < n + 1 → j < k → ∃ v, c[off + (i * k + j)]? = some v ∧ ∀ x, (R i)[j]? = some x → RD (oldF W) x v := by
      intro i j hi hj
      obtain ⟨v, g1, g2⟩ := cell i j hi hj
      refine ⟨v, ?_, g2⟩
      obtain ⟨c', e1, e2, _⟩ := cell_old g1
      have e : ((Addr.add ⟨b, off, none⟩ (i * k)).add j) = ⟨b, off + (i * k + j), none⟩ := by
        unfold Addr.add
        by_cases hz : i * k = 0
        · by_cases hj0 : j = 0
          · simp [hz, hj0]
          · simp [hz, hj0]
        · by_cases hj0 : j = 0
          · simp [hz, hj0]
          · simp only [hz, hj0, if_false]; congr 1; omega
      rw [e] at e1 e2
      simp only at e1 e2
      rw [h1] at e1; cases e1; exact e2
    refine .fsl (k := k) (fun i j => (c[off + (i * k + j)]?).getD default) ?_ ?_ h1 hl (by simp) hk ?_ ?_ ?_
    · intro he
      have := congrArg List.length he
      rw [List.length_map, List.length_range, List.length_nil] at this; omega
    · rw [List.length_map, List.length_range]
    · intro e he
      simp only [List.mem_map, List.mem_range] at he
      obtain ⟨i, hi, rfl⟩ := he
      exact (hR i hi).1
    · intro i j e x hi hj
      have hil : i < n + 1 := by have := (List.getElem?_eq_some_iff.1 hi).1; simpa using this
      have he : e = R i := by
        rw [List.getElem?_map, List.getElem?_range hil] at hi
        simpa using hi.symm
      subst he
      have hjl : j < k := by have := (List.getElem?_eq_some_iff.1 hj).1; have := (hR i hil).1; omega
      obtain ⟨v, g1, _⟩ := hat i j hil hjl
      rw [g1]; rfl
    · intro i j e x hi hj
      have hil : i < n + 1 := by have := (List.getElem?_eq_some_iff.1 hi).1; simpa using this
      have he : e = R i := by
        rw [List.getElem?_map, List.getElem?_range hil] at hi
        simpa using hi.symm
      subst he
      have hjl : j < k := by have := (List.getElem?_eq_some_iff.1 hj).1; have := (hR i hil).1; omega
      obtain ⟨v, g1, g2⟩ := hat i j hil hjl
      rw [g1]; exact g2 x hj
theorem range_map {α β : Type} {l : List α} {f : α → β} (d : α) : (List.range l.length).map (fun i => f (l.getD i d)) = l.map f := by
  refine List.ext_getElem? fun i => ?_
  rw [List.getElem?_map, List.getElem?_map]
  by_cases hi : i < l.length
  · rw [List.getElem?_range hi, List.getElem?_eq_getElem hi]; simp [List.getD, hi]
  · rw [List.getElem?_eq_none (by simpa using hi), List.getElem?_eq_none (by omega)]; rfl
set_option maxRecDepth 10000 in
theorem read_row {H : Type} {enc : TypeId × Value → H} {W : World} {base : Nat} {v : Value} {d : DataW H} {p : List MemPlace} (hval : Value.okWide Try.prog W .any base 43 v) (h : DataW.Trod enc Try.prog W 0 (fun _ => true) true 43 v d p) :
    ∃ row : List Val, row.length ≤ 9223372036854775807 ∧ RV (oldF W) (fun _ => none) (.d (.fsl (rowsV row) false false)) v := by
  obtain ⟨a1, len, cap, rfl⟩ := okWide_slice Try.underlying43 hval
  obtain ⟨fuel, hf⟩ := h
  have c3 : Try.prog.cellsOf 62 = 3 := by kernel_rfl
  rcases Go.Deep.open_slice Try.underlying43 hf with ⟨hcs, hx⟩ | ⟨a, len', cap', m, n, D, Pl, hcs, _, hl, hm, hmm, hx, hel⟩
  · simp [Value.cells] at hcs
    obtain ⟨rfl, rfl, rfl⟩ := hcs
    exact ⟨[], by simp, .d (.fslE (by simp) (by simp) (by simp))⟩
  · simp [Value.cells] at hcs
    obtain ⟨rfl, rfl, rfl⟩ := hcs
    simp only [if_true] at hmm
    subst hmm
    rw [c3] at hel
    have each : ∀ i : Nat, ∃ x : Val, i < len → ∃ cs' : List Value, W.cells? 0 (a.add (i * 3)) 3 = some cs' ∧ ∀ (j : Nat) y, x.cells[j]? = some y → ∃ v, cs'[j]? = some v ∧ RD (oldF W) y v := by
      intro i
      by_cases hi : i < len
      case neg => exact ⟨⟨0, 0, ⟨#[]⟩⟩, fun h => absurd h hi⟩
      obtain ⟨cs', h1, h2⟩ := hel i (by omega)
      obtain ⟨y0, y1, y2, n', hx', hlen, g0, g1, g2⟩ := Go.Deep.trod_struct3 Try.underlying62 h2
      rw [c3] at hlen
      match cs', hlen with
      | [z0, z1, z2], _ =>
        obtain ⟨k0, q0, _, _⟩ := DataW.trod_int Try.underlying3 (show DataW.trod enc Try.prog W 0 (fun _ => true) true n' 3 [z0] = some y0 from g0)
        obtain ⟨k1, q1, _, _⟩ := DataW.trod_int Try.underlying2 (show DataW.trod enc Try.prog W 0 (fun _ => true) true n' 2 [z1] = some y1 from g1)
        obtain ⟨k2, q2, _, _⟩ := DataW.trod_string Try.underlying9 (show DataW.trod enc Try.prog W 0 (fun _ => true) true n' 9 [z2] = some y2 from g2)
        cases q0; cases q1; cases q2
        refine ⟨⟨k0, k1, k2⟩, fun _ => ⟨_, h1, fun j y hj => ?_⟩⟩
        match j, hj with
        | 0, hj => cases hj; exact ⟨_, rfl, .int _ _⟩
        | 1, hj => cases hj; exact ⟨_, rfl, .int _ _⟩
        | 2, hj => cases hj; exact ⟨_, rfl, .str _⟩
    obtain ⟨f, hf'⟩ := Classical.axiomOfChoice each
    refine ⟨(List.range len).map f, by rw [List.length_map, List.length_range]; have : maxLen ≤ 9223372036854775807 := by decide
                                       omega, .d ?_⟩
    have := rd_slice (W := W) (a := a) (len := len) (cap := m) (k := 3) (by omega) hl (fun i => (f i).cells) (fun i hi => ⟨rfl, hf' i hi⟩)
    have e : rowsV ((List.range len).map f) = (List.range len).map fun i => (f i).cells := by rw [rowsV, List.map_map]; rfl
    rw [e]; exact this
set_option maxRecDepth 100000 in
theorem modes_lifted (os : Os) (started : os.Started) (H : Type) (enc : TypeId × Value → H) :
    ReturnsInHanded {} Try.checked os 4 .any (Rows.schemaModesSpec.pre6 enc Try.prog Try.f4 Rows.schemaModesRow.domain false) (Rows.schemaModesSpec.post enc Try.prog Try.f4 false true false false) := by
  refine returnsInHanded_of_change (C := Try.checked) Try.own started (by kernel_rfl) Try.func4
    (ChangeSpec.witness6 (enc := enc) (C := Try.checked) false ⟨#[], #[.slice none 0 0, .slice none 0 0], []⟩ 8 (by kernel_rfl) (by kernel_rfl) (by kernel_rfl) (by kernel_rfl)) ?_
  intro W base args ds gs before hval0 hW hcnd _
  have hval : ∀ (j : Nat) t v, Try.f4.params[j]? = some t → args[j]? = some v → Value.okWide Try.prog W .any base t v := hval0
  have hW' := hW
  obtain ⟨p, q, hA0, hV, rfl, hfz, hnd⟩ := hW
  have hA : DataW.TrodAll enc Try.prog W 0 (fun _ => true) true Try.f4.params.toList args.toList ds p := hA0
  rw [Try.params4] at hA hval
  obtain ⟨v0, v1, d0, d1, p0, p1, rfl, rfl, rfl, h0, h1⟩ := trodAll_two hA
  obtain ⟨rfl, rfl⟩ := trodVars_none hV
  obtain ⟨cs, r0⟩ := read_codes (hval 0 22 v0 rfl rfl) h0
  obtain ⟨row, hrow, r1⟩ := read_row (hval 1 43 v1 rfl rfl) h1
  clear hA0 hval0
  simp only [List.append_nil] at hW'
  refine (lift_call (C := C) (by kernel_rfl) rfl (c_modes cs row hrow) W #[v0, v1] rfl ?_).mono ?_
  · intro i v hi
    match i, hi with
    | 0, hi => cases hi; exact ⟨_, rfl, r0⟩
    | 1, hi => cases hi; exact ⟨_, rfl, r1⟩
  · rintro e W' ⟨x, F', m', v, hs', rfl, ⟨hv, _⟩, hrv, hB⟩
    obtain rfl := rv_true hv hrv
    refine ⟨_, rfl, post_true (pa := p0 ++ p1) (pv := []) hW' (fun _ _ _ => trodAll_mk1 (shut_bool Try.underlying4 _)) (fun sp hsp => ?_) (fun _ _ => rfl) (by simp) hB (ok_one (by kernel_rfl) rfl (okWide_bool_mk Try.underlying4 _))⟩
    exact trodAll_mk2 (WideElems.Trod_stays Try.laidOut (by kernel_rfl) (of_decide_eq_true (by kernel_rfl)) h0 (fun x hx => hB.same (hW'.lt x (List.mem_append_left _ hx))) (fun x hx => hsp x (List.mem_append_left _ hx)))
      (WideElems.Trod_stays Try.laidOut (by kernel_rfl) (of_decide_eq_true (by kernel_rfl)) h1 (fun x hx => hB.same (hW'.lt x (List.mem_append_right _ hx))) (fun x hx => hsp x (List.mem_append_right _ hx)))
theorem modes_holds : Rows.SchemaModesSaid :=
  OpenClaim.holds_of_wide 4 Try.f4 rfl rfl rfl rfl rfl rfl rfl ⟨rfl, rfl, rfl, rfl, rfl⟩ rfl rfl rfl rfl rfl (by kernel_rfl) Try.func4 (by kernel_rfl)
    (of_decide_eq_true (by kernel_rfl)) (by unfold Func.isWrapper; first | (rw [if_pos (by decide +kernel)]; kernel_rfl) | (rw [if_neg (by decide +kernel)]; exact ⟨rfl, rfl⟩))
    (fun os started H enc _ => modes_lifted os started H enc)
end Go.Proofs.Ytfdekggfdklfeaa
