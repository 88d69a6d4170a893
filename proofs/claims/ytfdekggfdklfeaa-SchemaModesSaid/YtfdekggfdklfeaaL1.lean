/-
  The law of the names, as given.
-/
import Derived.Test.YtfdekggfdklfeaaRows
import Derived.Test.YtfdekggfdklfeaaH9
import Derived.Test.YtfdekggfdklfeaaA4
set_option linter.all false
set_option linter.unusedVariables false
set_option linter.unusedSimpArgs false
namespace Go.Proofs.Ytfdekggfdklfeaa
open Go.Ab
open Go.ChangeShapes Go.WideShapes Go.ChangeAt Go.RowKit
open Go.WideMaps Go.WideElems
open Go.ChangeMaps (open_string shut_string)
theorem Try.own : ownKnob Try.prog.godebug = none := by kernel_rfl
theorem Try.laidOut : laidOutB Try.prog = true := by kernel_rfl
theorem bytes_rows {zs : List Int} (hw : ∀ n ∈ zs, (Lit.int .u8 n).wf = true) : (zs.map fun z => [DV.int .u8 z]) = rowsB (zs.map fun z => UInt8.ofNat z.toNat) := by
  rw [rowsB, List.map_map]
  refine List.map_congr_left fun z hz => ?_
  have h := hw z hz
  have hx : 0 ≤ z ∧ z ≤ 255 := by simpa [Lit.wf, IntKind.min, IntKind.max, IntKind.signed, IntKind.bits] using h
  have e : (UInt8.ofNat z.toNat).toNat = z.toNat := by
    rw [UInt8.toNat_ofNat']; omega
  show [DV.int .u8 z] = [DV.int .u8 ((UInt8.ofNat z.toNat).toNat : Int)]
  rw [e, Int.toNat_of_nonneg hx.1]
theorem read_codes {H : Type} {enc : TypeId × Value → H} {W : World} {base : Nat} {v : Value} {d : DataW H} {p : List MemPlace} (hval : Value.okWide Try.prog W .any base 22 v) (h : DataW.Trod enc Try.prog W 0 (fun _ => true) true 22 v d p) :
    ∃ cs : List UInt8, RV (oldF W) (fun _ => none) (.d (.fsl (rowsB cs) false false)) v := by
  obtain ⟨a1, len, cap, rfl⟩ := okWide_slice Try.underlying22 hval
  obtain ⟨fuel, hf⟩ := h
  have c5 : Try.prog.cellsOf 5 = 1 := by kernel_rfl
  rcases open_ints Try.underlying22 Try.underlying5 c5 hf with ⟨hcs, hx⟩ | ⟨a, len', cap', zs, hcs, _, hl, hm, hz, hx, hcell, hwz⟩
  · simp [Value.cells] at hcs
    obtain ⟨rfl, rfl, rfl⟩ := hcs
    exact ⟨[], .d (.fslE (by simp) (by simp) (by simp))⟩
  · simp [Value.cells] at hcs
    obtain ⟨rfl, rfl, rfl⟩ := hcs
    simp only [if_true] at hz
    refine ⟨(zs.take len).map fun z => UInt8.ofNat z.toNat, .d ?_⟩
    rw [← bytes_rows (fun n hn => hwz n (List.mem_of_mem_take hn))]
    exact rd_ints hl hz hcell
set_option maxRecDepth 100000 in
theorem names_lifted (os : Os) (started : os.Started) (H : Type) (enc : TypeId × Value → H) :
    ReturnsInHanded {} Try.checked os 3 .any (Rows.schemaNamesSpec.pre6 enc Try.prog Try.f3 Rows.schemaNamesRow.domain false) (Rows.schemaNamesSpec.post enc Try.prog Try.f3 false true false false) := by
  refine returnsInHanded_of_change (C := Try.checked) Try.own started (by kernel_rfl) Try.func3
    (ChangeSpec.witness6 (enc := enc) (C := Try.checked) false ⟨#[], #[.slice none 0 0, .string ⟨#[]⟩], []⟩ 8 (by kernel_rfl) (by kernel_rfl) (by kernel_rfl) (by kernel_rfl)) ?_
  intro W base args ds gs before hval0 hW hcnd _
  have hval : ∀ (j : Nat) t v, Try.f3.params[j]? = some t → args[j]? = some v → Value.okWide Try.prog W .any base t v := hval0
  have hW' := hW
  obtain ⟨p, q, hA0, hV, rfl, hfz, hnd⟩ := hW
  have hA : DataW.TrodAll enc Try.prog W 0 (fun _ => true) true Try.f3.params.toList args.toList ds p := hA0
  rw [Try.params3] at hA hval
  obtain ⟨v0, v1, d0, d1, p0, p1, rfl, rfl, rfl, h0, h1⟩ := trodAll_two hA
  obtain ⟨rfl, rfl⟩ := trodVars_none hV
  obtain ⟨cs, r0⟩ := read_codes (hval 0 22 v0 rfl rfl) h0
  obtain ⟨s, rfl, rfl, rfl, hs⟩ := open_string Try.underlying9 (hval 1 9 v1 rfl rfl) h1
  clear hA0 hval0
  simp only [List.append_nil] at hW'
  refine (lift_call (C := C) (by kernel_rfl) rfl (c_names cs s) W #[v0, .string s] rfl ?_).mono ?_
  · intro i v hi
    match i, hi with
    | 0, hi => cases hi; exact ⟨_, rfl, r0⟩
    | 1, hi => cases hi; exact ⟨_, rfl, .d (.str s)⟩
  · rintro e W' ⟨x, F', m', v, hs', rfl, ⟨hv, _⟩, hrv, hB⟩
    obtain rfl := rv_true hv hrv
    refine ⟨_, rfl, post_true (pa := p0) (pv := []) hW' (fun _ _ _ => trodAll_mk1 (shut_bool Try.underlying4 _)) (fun sp hsp => ?_) (fun _ _ => rfl) (by simp) hB (ok_one (by kernel_rfl) rfl (okWide_bool_mk Try.underlying4 _))⟩
    have := trodAll_mk2 (WideElems.Trod_stays Try.laidOut (by kernel_rfl) (of_decide_eq_true (by kernel_rfl)) h0 (fun x hx => hB.same (hW'.lt x hx)) (fun x hx => hsp x hx)) (shut_string (enc := enc) (P := Try.prog) (w := W') (base := 0) (sp := sp) (held := true) Try.underlying9 hs)
    rw [List.append_nil] at this
    exact this
theorem names_holds : Rows.SchemaNamesSaid :=
  OpenClaim.holds_of_wide 3 Try.f3 rfl rfl rfl rfl rfl rfl rfl ⟨rfl, rfl, rfl, rfl, rfl⟩ rfl rfl rfl rfl rfl (by kernel_rfl) Try.func3 (by kernel_rfl)
    (of_decide_eq_true (by kernel_rfl)) (by unfold Func.isWrapper; first | (rw [if_pos (by decide +kernel)]; kernel_rfl) | (rw [if_neg (by decide +kernel)]; exact ⟨rfl, rfl⟩))
    (fun os started H enc _ => names_lifted os started H enc)
end Go.Proofs.Ytfdekggfdklfeaa
