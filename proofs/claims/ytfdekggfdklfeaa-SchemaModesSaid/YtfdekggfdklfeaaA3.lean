/-
  Comparisons and arithmetic. Binary operations. Conversions, least and greatest, strings' iterators, maps. Least and greatest, strings' iterators, maps, as operations. Maps' entries; all operations together. Numbers in values: renumbering, reaching. Freezing: what is given away is deep data from then on. Values that go over a call's border are frozen. States after freezing; values and lists of values over a border. Arguments and results over a call's border. Results whose slices stay. What a call takes along, and what it gives back. What a function gives back, and the caller's state after a call. The caller's state after a call. The caller's state after a call is a state.
-/
import Derived.Laws.StructEq
import Derived.Laws.BytesString
import Derived.Test.YtfdekggfdklfeaaA2
import Derived.Test.YtfdekggfdklfeaaA1
set_option linter.all false
set_option linter.unusedVariables false
set_option linter.unusedSimpArgs false
namespace Go.Ab
variable {P : Program}
section ops
variable {F : Fz} {m : Mp} {N : Nat} {e : Env} {a : Act} {G : Nat → Option (List DV)} {base : Nat} {d : Option Nat} {ty : TypeId} {pos : String} {aft : Array Edge} {h : Heap} {w : World} {y : Eff}

theorem eqKs_uncons {k : CK} {ks : List CK} {a b : List DV} {r} (h : eqKs (k :: ks) a b = some r) : ∃ x a' y b' p r', a = x :: a' ∧ b = y :: b' ∧ eqKs ks a' b' = some r' ∧ r = (p && r') ∧
    ∀ {ks2 a2 b2 r2}, eqKs ks2 a2 b2 = some r2 → eqKs (k :: ks2) (x :: a2) (y :: b2) = some (p && r2) := by
  cases a with
  | nil => cases k <;> simp [eqKs] at h
  | cons x a' =>
    cases b with
    | nil => cases k <;> cases x <;> simp [eqKs] at h
    | cons y b' =>
      cases k with
      | b =>
        cases x with
        | bool u => cases y with
          | bool v =>
            simp only [eqKs, Option.map_eq_some_iff] at h
            obtain ⟨r', hr, rfl⟩ := h
            exact ⟨_, _, _, _, u == v, r', rfl, rfl, hr, rfl, fun h => by simp only [eqKs, h, Option.map_some]⟩
          | _ => simp [eqKs] at h
        | _ => simp [eqKs] at h
      | i =>
        cases x with
        | int k1 u => cases y with
          | int k2 v =>
            simp only [eqKs] at h
            split at h
            · rename_i hk
              subst hk
              obtain ⟨r', hr, rfl⟩ := Option.map_eq_some_iff.1 h
              exact ⟨_, _, _, _, u == v, r', rfl, rfl, hr, rfl, fun h => by simp only [eqKs, if_true, h, Option.map_some]⟩
            · cases h
          | _ => simp [eqKs] at h
        | _ => simp [eqKs] at h
      | s =>
        cases x with
        | str u => cases y with
          | str v =>
            simp only [eqKs, Option.map_eq_some_iff] at h
            obtain ⟨r', hr, rfl⟩ := h
            exact ⟨_, _, _, _, u == v, r', rfl, rfl, hr, rfl, fun h => by simp only [eqKs, h, Option.map_some]⟩
          | _ => simp [eqKs] at h
        | _ => simp [eqKs] at h

theorem eqKs_length : ∀ {ks : List CK} {a b : List DV} {r}, eqKs ks a b = some r → a.length = ks.length ∧ b.length = ks.length
  | [], a, b, r, h => by
    cases a <;> cases b <;> simp [eqKs] at h ⊢
  | k :: ks, a, b, r, h => by
    obtain ⟨x, a', y, b', p, r', rfl, rfl, hr, _, _⟩ := eqKs_uncons h
    obtain ⟨h1, h2⟩ := eqKs_length hr
    exact ⟨by simp [h1], by simp [h2]⟩

theorem eqKs_split : ∀ {k1 k2 : List CK} {a b : List DV} {r}, eqKs (k1 ++ k2) a b = some r → ∃ r1 r2, eqKs k1 (a.take k1.length) (b.take k1.length) = some r1 ∧ eqKs k2 (a.drop k1.length) (b.drop k1.length) = some r2 ∧ r = (r1 && r2)
  | [], k2, a, b, r, h => ⟨true, r, by simp [eqKs], by simpa using h, by simp⟩
  | k :: k1, k2, a, b, r, h => by
    rw [List.cons_append] at h
    obtain ⟨x, a', y, b', p, r', rfl, rfl, hr, rfl, hf⟩ := eqKs_uncons h
    obtain ⟨r1, r2, h1, h2, rfl⟩ := eqKs_split hr
    exact ⟨p && r1, r2, by simp only [List.length_cons, List.take_succ_cons]; exact hf h1, by simpa using h2, by rw [Bool.and_assoc]⟩

/-- a value of a type, made of clean cells -/
def ValOf (P : Program) (F : Fz) (t : TypeId) (v : Value) (ds : List DV) : Prop :=
  ds.length = szOf P t ∧ if isAg P t then ∃ arr, v = .agg arr ∧ arr.size = ds.length ∧ ∀ (j : Nat) x, ds[j]? = some x → ∃ u, arr[j]? = some u ∧ RD F x u else ∃ x, ds = [x] ∧ RD F x v

theorem part_valOf {t : TypeId} {arr : Array Value} {ds : List DV} {o : Nat} {dd} (hd : P.underlying t = some dd) (hc : ∀ (j : Nat) x, ds[j]? = some x → ∃ u, arr[j]? = some u ∧ RD F x u) (hle : o + szOf P t ≤ ds.length) (h1 : isAg P t = false → szOf P t = 1) :
    ∃ u, (part t arr o).run P w = .ok u w ∧ ValOf P F t u ((ds.drop o).take (szOf P t)) := by
  obtain ⟨i, hi⟩ := info_of_underlying hd
  simp only [part, Sem.run_bind, isAgg_run hd, Result.andThen_ok]
  cases ha : isAg P t with
  | true =>
    simp only [if_true, Sem.run_bind, sizeOf_run hi hd, Result.andThen_ok, Sem.run_pure]
    refine ⟨_, rfl, by simp; omega, ?_⟩
    rw [ha]
    simp only [if_true]
    by_cases hz : szOf P t = 0
    · exact ⟨_, rfl, by simp [hz]; omega, by intro j x hj; simp [hz] at hj⟩
    have hsz : o + szOf P t ≤ arr.size := by
      have hlast : o + szOf P t - 1 < ds.length := by omega
      obtain ⟨u, hu, _⟩ := hc _ _ (List.getElem?_eq_getElem hlast)
      have := (Array.getElem?_eq_some_iff.1 hu).1
      omega
    refine ⟨_, rfl, by simp; omega, fun j x hj => ?_⟩
    have hjl : j < szOf P t := by have := (List.getElem?_eq_some_iff.1 hj).1; simp at this; omega
    rw [List.getElem?_take_of_lt hjl, List.getElem?_drop] at hj
    obtain ⟨u, hu, hr⟩ := hc _ x hj
    exact ⟨u, by rw [Array.getElem?_extract, if_pos (by omega)]; exact hu, hr⟩
  | false =>
    simp only [Bool.false_eq_true, if_false]
    have hs := h1 ha
    have hlt : o < ds.length := by omega
    obtain ⟨u, hu, hr⟩ := hc o _ (List.getElem?_eq_getElem hlt)
    refine ⟨u, by simp [hu], by simp; omega, ?_⟩
    rw [ha]
    simp only [Bool.false_eq_true, if_false]
    refine ⟨ds[o], ?_, hr⟩
    rw [hs, List.drop_eq_getElem_cons hlt]; rfl

theorem plainK_some {n t ks} (h : plainK P (n + 1) t = some ks) : ks.length = P.cellsOf t ∧ ((P.underlying t = some .bool ∧ ks = [.b]) ∨ (∃ k, P.underlying t = some (.int k) ∧ ks = [.i]) ∨ (P.underlying t = some .string ∧ ks = [.s]) ∨
    ∃ fs, P.underlying t = some (.struct fs) ∧ P.stoodInHeld t = false ∧ fieldsK P (plainK P n) 0 fs.toList = some ks) := by
  unfold plainK at h
  split at h
  · rename_i ks' hk
    split at h
    · rename_i hl
      cases h
      refine ⟨hl, ?_⟩
      split at hk
      · rename_i hu; cases hk; exact .inl ⟨hu, rfl⟩
      · rename_i k hu; cases hk; exact .inr (.inl ⟨k, hu, rfl⟩)
      · rename_i hu; cases hk; exact .inr (.inr (.inl ⟨hu, rfl⟩))
      · rename_i fs hu
        split at hk
        · cases hk
        · rename_i hs; exact .inr (.inr (.inr ⟨fs, hu, by simpa using hs, hk⟩))
      · cases hk
    · cases h
  · cases h
theorem plainK_known {n t ks} (h : plainK P n t = some ks) : (∃ dd, P.underlying t = some dd) ∧ ks.length = szOf P t ∧ (isAg P t = false → szOf P t = 1) := by
  cases n with
  | zero => simp [plainK] at h
  | succ n =>
    obtain ⟨hl, h1 | ⟨k, h1⟩ | h1 | ⟨fs, h1, h2, h3⟩⟩ := plainK_some h
    · refine ⟨⟨_, h1.1⟩, by simp [szOf, h1.1, hl], fun _ => ?_⟩
      simp [szOf, h1.1, ← hl, h1.2]
    · refine ⟨⟨_, h1.1⟩, by simp [szOf, h1.1, hl], fun _ => ?_⟩
      simp [szOf, h1.1, ← hl, h1.2]
    · refine ⟨⟨_, h1.1⟩, by simp [szOf, h1.1, hl], fun _ => ?_⟩
      simp [szOf, h1.1, ← hl, h1.2]
    · exact ⟨⟨_, h1⟩, by simp [szOf, h1, hl], fun ha => by simp [isAg, h1] at ha⟩

theorem fieldsK_all {f : TypeId → Option (List CK)} : ∀ {a : Nat} {l : List Field} {ks}, fieldsK P f a l = some ks → ∀ g ∈ l, g.name ≠ "_" ∧ (f g.type).isSome
  | a, [], ks, _, g, hg => by cases hg
  | a, g0 :: r, ks, h, g, hg => by
    simp only [fieldsK] at h
    split at h
    · cases h
    rename_i hc
    simp only [not_or, ne_eq, Decidable.not_not] at hc
    split at h
    · rename_i x y h1 h2
      rcases List.mem_cons.1 hg with rfl | hg
      · exact ⟨hc.1, by simp [h1]⟩
      · exact fieldsK_all h2 g hg
    · cases h

theorem plainK_guard : ∀ {n t ks}, plainK P n t = some ks → ∀ d, n ≤ d → P.eqGuardType d t = false
  | 0, _, _, h, _, _ => by simp [plainK] at h
  | n + 1, t, ks, h, d, hd => by
    obtain ⟨d, rfl⟩ : ∃ d', d = d' + 1 := ⟨d - 1, by omega⟩
    unfold Program.eqGuardType
    obtain ⟨hl, h1 | ⟨k, h1⟩ | h1 | ⟨fs, h1, h2, h3⟩⟩ := plainK_some h
    · simp [h1.1]
    · simp [h1.1]
    · simp [h1.1]
    · simp only [h1]
      rw [← Bool.not_eq_true, Array.any_eq_true]
      rintro ⟨i, hi, hf⟩
      simp only [Bool.and_eq_true] at hf
      obtain ⟨_, g2⟩ := fieldsK_all h3 fs[i] (by simp)
      obtain ⟨ks', hk'⟩ := Option.isSome_iff_exists.1 g2
      rw [plainK_guard hk' d (by omega)] at hf
      exact absurd hf.2 (by simp)

theorem equalIn_plain : ∀ {n t ks}, plainK P n t = some ks → ∀ {d : Nat} {w : World} {vx vy : Value} {da db : List DV} {r}, ValOf P F t vx da → ValOf P F t vy db → eqKs ks da db = some r → (Op.equalIn (d + n) t vx vy).run P w = .ok r w
  | 0, _, _, h, _, _, _, _, _, _, _, _, _, _ => by simp [plainK] at h
  | n + 1, t, ks, h, d, w, vx, vy, da, db, r, ⟨hx1, hx⟩, ⟨hy1, hy⟩, hr => by
    obtain ⟨hl, h1 | ⟨k, h1⟩ | h1 | ⟨fs, h1, h2, h3⟩⟩ := plainK_some h
    · have ha : isAg P t = false := by simp [isAg, h1.1]
      rw [ha] at hx hy
      simp only [Bool.false_eq_true, if_false] at hx hy
      obtain ⟨x, rfl, hx⟩ := hx
      obtain ⟨z, rfl, hy⟩ := hy
      rw [h1.2] at hr
      cases hx <;> cases hy <;> simp [eqKs] at hr
      subst hr
      exact run_equalIn_bool' w (d + n) t _ _ h1.1
    · have ha : isAg P t = false := by simp [isAg, h1.1]
      rw [ha] at hx hy
      simp only [Bool.false_eq_true, if_false] at hx hy
      obtain ⟨x, rfl, hx⟩ := hx
      obtain ⟨z, rfl, hy⟩ := hy
      rw [h1.2] at hr
      cases hx <;> cases hy <;> simp [eqKs] at hr
      obtain ⟨rfl, rfl⟩ := hr
      exact run_equalIn_int w (d + n) t _ _ _ _ h1.1
    · have ha : isAg P t = false := by simp [isAg, h1.1]
      rw [ha] at hx hy
      simp only [Bool.false_eq_true, if_false] at hx hy
      obtain ⟨x, rfl, hx⟩ := hx
      obtain ⟨z, rfl, hy⟩ := hy
      rw [h1.2] at hr
      cases hx <;> cases hy <;> simp [eqKs] at hr
      subst hr
      rw [beq_toListBytes]
      exact run_equalIn_string w (d + n) t _ _ h1.1
    · have ha : isAg P t = true := by simp [isAg, h1]
      rw [ha] at hx hy
      simp only [if_true] at hx hy
      obtain ⟨xs, rfl, hx2, hx3⟩ := hx
      obtain ⟨ys, rfl, hy2, hy3⟩ := hy
      have hf : P.fieldsOf t = fs := by simp [Program.fieldsOf, h1]
      have key : ∀ (l : List Field) (a : Nat) (ks : List CK) (r : Bool), fieldsK P (plainK P n) a l = some ks → a + ks.length ≤ da.length → a + ks.length ≤ db.length → eqKs ks ((da.drop a).take ks.length) ((db.drop a).take ks.length) = some r → (Op.eqFields (d + n) xs ys l).run P w = .ok r w := by
        intro l
        induction l with
        | nil =>
          intro a ks r hk _ _ he
          simp only [fieldsK, Option.some.injEq] at hk
          subst hk
          simp [eqKs] at he
          subst he
          rfl
        | cons g l ih =>
          intro a ks r hk hla hlb he
          simp only [fieldsK] at hk
          split at hk
          · cases hk
          rename_i hc
          simp only [not_or, ne_eq, Decidable.not_not] at hc
          split at hk
          · rename_i k1 k2 hk1 hk2
            cases hk
            obtain ⟨⟨dd, hd⟩, hlen, hone⟩ := plainK_known hk1
            have hcl : P.cellsOf g.type = szOf P g.type := by simp [szOf, hd]
            simp only [List.length_append] at hla hlb
            obtain ⟨r1, r2, e1, e2, e3⟩ := eqKs_split he
            obtain ⟨u, hu, hvu⟩ := part_valOf (P := P) (F := F) (w := w) (t := g.type) (o := a) hd hx3 (by omega) hone
            obtain ⟨v, hv, hvv⟩ := part_valOf (P := P) (F := F) (w := w) (t := g.type) (o := a) hd hy3 (by omega) hone
            have t1 : ∀ l : List DV, ((l.drop a).take (k1 ++ k2).length).take k1.length = (l.drop a).take (szOf P g.type) := by
              intro l; rw [List.take_take, ← hlen]; congr 1; simp
            have t2 : ∀ l : List DV, ((l.drop a).take (k1 ++ k2).length).drop k1.length = (l.drop (a + P.cellsOf g.type)).take k2.length := by
              intro l; rw [List.drop_take, List.drop_drop, hcl, ← hlen]; congr 1; simp
            rw [t1, t1] at e1
            rw [t2, t2] at e2
            have hq := equalIn_plain hk1 (d := d) (w := w) hvu hvv e1
            simp only [Op.eqFields, ne_eq, hc.1, not_false_eq_true, if_true, hc.2, Sem.run_bind, hu, hv, hq, Result.andThen_ok]
            cases r1 with
            | false => simp [e3]
            | true =>
              simp only [Bool.not_true, Bool.false_eq_true, if_false, e3, Bool.true_and]
              exact ih (a + P.cellsOf g.type) k2 r2 hk2 (by omega) (by omega) e2
          · cases hk
      obtain ⟨l1, l2⟩ := eqKs_length hr
      rw [show d + (n + 1) = (d + n) + 1 from rfl, run_equalIn_struct w (d + n) t xs ys (by rw [hf]; exact h1) h2, hf]
      refine key fs.toList 0 ks r h3 (by omega) (by omega) ?_
      rw [List.drop_zero, List.drop_zero, List.take_of_length_le (by omega), List.take_of_length_le (by omega)]
      exact hr
end ops
end Go.Ab
namespace Go.Ab
variable {P : Program}
section ops
variable {F : Fz} {m : Mp} {N : Nat} {e : Env} {a : Act} {G : Nat → Option (List DV)} {base : Nat} {d : Option Nat} {ty : TypeId} {pos : String} {aft : Array Edge} {h : Heap} {w : World} {y : Eff}

theorem guard_other {op : BinOp} {t : TypeId} {x y : Operand} {a b : Value} (h1 : a ≠ .nilIface ∨ b ≠ .nilIface) (h2 : (∀ c, a ≠ .agg c) ∨ (∀ c, b ≠ .agg c)) : (eqGuard op t x y a b).run P w = .ok () w := by
  unfold eqGuard
  cases op <;> (try rfl) <;>
  · simp only [Bool.not_true, Bool.false_eq_true, if_false]
    split
    · rcases h1 with h | h <;> exact absurd rfl h
    · rcases h2 with h | h <;> exact absurd rfl (h _)
    · rfl
theorem guard_nil {op : BinOp} {t : TypeId} {x y : Operand} (h : litOp x y = true) : (eqGuard op t x y .nilIface .nilIface).run P w = .ok () w := by
  unfold eqGuard
  cases op <;> (try rfl) <;>
  · simp only [Bool.not_true, Bool.false_eq_true, if_false]
    rw [if_pos]
    · rfl
    · unfold litOp at h
      cases x <;> cases y <;> simp_all

theorem eqShape_cases (t : TypeId) : (match eqShape P t with
    | .bool => P.underlying t = some .bool
    | .ptr => ∃ e, P.underlying t = some (.pointer e)
    | .slice => ∃ e, P.underlying t = some (.slice e)
    | .map => ∃ k e, P.underlying t = some (.map k e)
    | .fn => ∃ a b c, P.underlying t = some (.func a b c)
    | .ifc => ∃ ms, P.underlying t = some (.interface ms)
    | .agg ks => (∃ fs, P.underlying t = some (.struct fs)) ∧ plainT P t = some ks
    | .other => True) := by
  unfold eqShape
  cases hu : P.underlying t with
  | none => trivial
  | some dd =>
    cases dd <;> simp only <;> first | trivial | exact ⟨_, rfl⟩ | exact ⟨_, _, rfl⟩ | exact ⟨_, _, _, rfl⟩ | skip
    cases hp : plainT P t with
    | none => trivial
    | some ks => exact ⟨⟨_, rfl⟩, rfl⟩

theorem agg_valOf {t : TypeId} {ks : List CK} {cs : List AV} {ds : List DV} {v : Value} (ht : isAg P t = true) (hk : ks.length = szOf P t) (hl : ds.length = ks.length) (hd : dvs? cs = some ds) (hr : RV F m (.agg cs) v) : ValOf P F t v ds := by
  refine ⟨by omega, ?_⟩
  rw [if_pos ht]
  have := dvs_map hd
  subst this
  cases hr with
  | @agg _ arr val h1 h2 h3 =>
    refine ⟨arr, rfl, by simpa using h1.symm, fun j x hj => ?_⟩
    have hj' : (ds.map AV.d)[j]? = some (.d x) := by simp [hj]
    refine ⟨val j, (h2 j _ hj').1, ?_⟩
    cases h3 j _ hj' with | d h => exact h

theorem depth_ge : 8 ≤ P.depth := by
  simp only [Program.depth, Made.depth]; omega

/-- the machine's form of a value -/
def FormOf : AV → Value → Prop
  | .d (.bool b), x => x = .bool b
  | .d .nilp, x => x = .pointer none
  | .d (.fptr ..), x => ∃ p, x = .pointer (some p)
  | .ptr .., x => ∃ p, x = .pointer (some p)
  | .d .snil, x => x = .slice none 0 0
  | .d (.fsl es nn _), x => ∃ a n c, x = .slice a n c ∧ ((nn || !es.isEmpty) = true → a ≠ none)
  | .sl .., x => ∃ a n c, x = .slice (some a) n c
  | .d .mnil, x => x = .map none
  | .map _, x => ∃ b, x = .map (some b)
  | .d .fnil, x => x = .nilFunc
  | .fn .., x => ∃ g a b, x = .func g a b
  | .d .inil, x => x = .nilIface
  | .ifc .., x => ∃ t v, x = .iface t v
  | .agg _, x => ∃ a, x = .agg a
  | _, _ => True
theorem rv_form {u : AV} {x : Value} (h : RV F m u x) : FormOf u x := by
  cases h with
  | d h =>
    rename_i v
    cases v with
    | fsl es nn full =>
      obtain ⟨a, c, rfl, h1, h2, h3, h4⟩ := rd_slice h rfl
      exact ⟨a, _, c, rfl, h3⟩
    | fptr => cases h; exact ⟨_, rfl⟩
    | _ => cases h <;> first | rfl | trivial
  | agg => exact ⟨_, rfl⟩
  | tup => trivial
  | ptr => exact ⟨_, rfl⟩
  | sl => exact ⟨_, _, _, rfl⟩
  | map => exact ⟨_, rfl⟩
  | fn => exact ⟨_, _, _, rfl⟩
  | ifc => exact ⟨_, _, rfl⟩
  | top => trivial

/-- comparing two values -/
theorem equal_does {t : TypeId} {x y : Operand} {u v : AV} {vx vy : Value} {r : Bool} (hx : RV F m u vx) (hy : RV F m v vy) (he : equalAV P t (litOp x y) u v = some r) :
    (∀ op, (eqGuard op t x y vx vy).run P w = .ok () w) ∧ (binOp .eql t vx vy).run P w = .ok (.bool r) w ∧ (binOp .neq t vx vy).run P w = .ok (.bool !r) w := by
  have hs := eqShape_cases (P := P) t
  have fx := rv_form hx
  have fy := rv_form hy
  have fin0 : ∀ {r : Bool}, (∀ op, (eqGuard op t x y vx vy).run P w = .ok () w) → (∀ d, (Op.equalIn (d + 9) t vx vy).run P w = .ok r w) → binOp .eql t vx vy = (do pure (.bool (← Op.equal t vx vy))) → binOp .neq t vx vy = (do pure (.bool (!(← Op.equal t vx vy)))) →
      (∀ op, (eqGuard op t x y vx vy).run P w = .ok () w) ∧ (binOp .eql t vx vy).run P w = .ok (.bool r) w ∧ (binOp .neq t vx vy).run P w = .ok (.bool !r) w := by
    intro r h1 h2 h3 h4
    have : (Op.equal t vx vy).run P w = .ok r w := h2 9991
    refine ⟨h1, ?_, ?_⟩
    · rw [h3]; simp only [Sem.run_bind, this, Result.andThen_ok, Sem.run_pure]
    · rw [h4]; simp only [Sem.run_bind, this, Result.andThen_ok, Sem.run_pure]
  have fin : ∀ {r : Bool}, ((vx ≠ .nilIface ∨ vy ≠ .nilIface) ∧ ((∀ c, vx ≠ .agg c) ∨ (∀ c, vy ≠ .agg c))) → (∀ d, (Op.equalIn (d + 9) t vx vy).run P w = .ok r w) → binOp .eql t vx vy = (do pure (.bool (← Op.equal t vx vy))) → binOp .neq t vx vy = (do pure (.bool (!(← Op.equal t vx vy)))) →
      (∀ op, (eqGuard op t x y vx vy).run P w = .ok () w) ∧ (binOp .eql t vx vy).run P w = .ok (.bool r) w ∧ (binOp .neq t vx vy).run P w = .ok (.bool !r) w :=
    fun h1 h2 h3 h4 => fin0 (fun _ => guard_other h1.1 h1.2) h2 h3 h4
  unfold equalAV at he
  split at he
  case h_1 hsh =>
    rw [hsh] at hs; simp only [FormOf] at hs fx fy
    cases he
    obtain rfl := fx
    obtain rfl := fy
    exact fin ⟨.inl (by simp), .inl (by simp)⟩ (fun d => by unfold Op.equalIn; rw [Sem.run_bind, underlying_run hs]; rfl) rfl rfl
  case h_2 hsh =>
    rw [hsh] at hs; simp only [FormOf] at hs fx fy
    cases he
    obtain ⟨_, hs⟩ := hs
    obtain rfl := fx
    obtain rfl := fy
    exact fin ⟨.inl (by simp), .inl (by simp)⟩ (fun d => by unfold Op.equalIn; rw [Sem.run_bind, underlying_run hs]; rfl) rfl rfl
  case h_3 hsh =>
    rw [hsh] at hs; simp only [FormOf] at hs fx fy
    cases he
    obtain ⟨_, hs⟩ := hs
    obtain rfl := fx
    obtain ⟨_, rfl⟩ := fy
    exact fin ⟨.inl (by simp), .inl (by simp)⟩ (fun d => by unfold Op.equalIn; rw [Sem.run_bind, underlying_run hs]; rfl) rfl rfl
  case h_4 hsh =>
    rw [hsh] at hs; simp only [FormOf] at hs fx fy
    cases he
    obtain ⟨_, hs⟩ := hs
    obtain ⟨_, rfl⟩ := fx
    obtain rfl := fy
    exact fin ⟨.inl (by simp), .inl (by simp)⟩ (fun d => by unfold Op.equalIn; rw [Sem.run_bind, underlying_run hs]; rfl) rfl rfl
  case h_5 hsh =>
    rw [hsh] at hs; simp only [FormOf] at hs fx fy
    cases he
    obtain ⟨_, hs⟩ := hs
    obtain rfl := fx
    obtain ⟨_, rfl⟩ := fy
    exact fin ⟨.inl (by simp), .inl (by simp)⟩ (fun d => by unfold Op.equalIn; rw [Sem.run_bind, underlying_run hs]; rfl) rfl rfl
  case h_6 hsh =>
    rw [hsh] at hs; simp only [FormOf] at hs fx fy
    cases he
    obtain ⟨_, hs⟩ := hs
    obtain ⟨_, rfl⟩ := fx
    obtain rfl := fy
    exact fin ⟨.inl (by simp), .inl (by simp)⟩ (fun d => by unfold Op.equalIn; rw [Sem.run_bind, underlying_run hs]; rfl) rfl rfl
  case h_7 hsh =>
    rw [hsh] at hs; simp only [FormOf] at hs fx fy
    cases he
    obtain ⟨_, hs⟩ := hs
    obtain rfl := fx
    obtain rfl := fy
    exact fin ⟨.inl (by simp), .inl (by simp)⟩ (fun d => by unfold Op.equalIn; rw [Sem.run_bind, underlying_run hs]; rfl) rfl rfl
  case h_8 hsh =>
    rw [hsh] at hs; simp only [FormOf] at hs fx fy
    split at he
    · rename_i hnn
      cases he
      obtain ⟨_, hs⟩ := hs
      obtain rfl := fx
      obtain ⟨p, n, c, rfl, hp⟩ := fy
      cases p with
      | none => exact absurd rfl (hp hnn)
      | some p => exact fin ⟨.inl (by simp), .inl (by simp)⟩ (fun d => by unfold Op.equalIn; rw [Sem.run_bind, underlying_run hs]; rfl) rfl rfl
    · cases he
  case h_9 hsh =>
    rw [hsh] at hs; simp only [FormOf] at hs fx fy
    split at he
    · rename_i hnn
      cases he
      obtain ⟨_, hs⟩ := hs
      obtain rfl := fy
      obtain ⟨p, n, c, rfl, hp⟩ := fx
      cases p with
      | none => exact absurd rfl (hp hnn)
      | some p => exact fin ⟨.inl (by simp), .inl (by simp)⟩ (fun d => by unfold Op.equalIn; rw [Sem.run_bind, underlying_run hs]; rfl) rfl rfl
    · cases he
  case h_10 hsh =>
    rw [hsh] at hs; simp only [FormOf] at hs fx fy
    cases he
    obtain ⟨_, hs⟩ := hs
    obtain rfl := fx
    obtain ⟨_, _, _, rfl⟩ := fy
    exact fin ⟨.inl (by simp), .inl (by simp)⟩ (fun d => by unfold Op.equalIn; rw [Sem.run_bind, underlying_run hs]; rfl) rfl rfl
  case h_11 hsh =>
    rw [hsh] at hs; simp only [FormOf] at hs fx fy
    cases he
    obtain ⟨_, hs⟩ := hs
    obtain ⟨_, _, _, rfl⟩ := fx
    obtain rfl := fy
    exact fin ⟨.inl (by simp), .inl (by simp)⟩ (fun d => by unfold Op.equalIn; rw [Sem.run_bind, underlying_run hs]; rfl) rfl rfl
  case h_12 hsh =>
    rw [hsh] at hs; simp only [FormOf] at hs fx fy
    cases he
    obtain ⟨_, _, hs⟩ := hs
    obtain rfl := fx
    obtain rfl := fy
    exact fin ⟨.inl (by simp), .inl (by simp)⟩ (fun d => by unfold Op.equalIn; rw [Sem.run_bind, underlying_run hs]; rfl) rfl rfl
  case h_13 hsh =>
    rw [hsh] at hs; simp only [FormOf] at hs fx fy
    cases he
    obtain ⟨_, _, hs⟩ := hs
    obtain rfl := fx
    obtain ⟨_, rfl⟩ := fy
    exact fin ⟨.inl (by simp), .inl (by simp)⟩ (fun d => by unfold Op.equalIn; rw [Sem.run_bind, underlying_run hs]; rfl) rfl rfl
  case h_14 hsh =>
    rw [hsh] at hs; simp only [FormOf] at hs fx fy
    cases he
    obtain ⟨_, _, hs⟩ := hs
    obtain ⟨_, rfl⟩ := fx
    obtain rfl := fy
    exact fin ⟨.inl (by simp), .inl (by simp)⟩ (fun d => by unfold Op.equalIn; rw [Sem.run_bind, underlying_run hs]; rfl) rfl rfl
  case h_15 hsh =>
    rw [hsh] at hs; simp only [FormOf] at hs fx fy
    cases he
    obtain ⟨_, _, _, hs⟩ := hs
    obtain rfl := fx
    obtain rfl := fy
    exact fin ⟨.inl (by simp), .inl (by simp)⟩ (fun d => by unfold Op.equalIn; rw [Sem.run_bind, underlying_run hs]; rfl) rfl rfl
  case h_16 hsh =>
    rw [hsh] at hs; simp only [FormOf] at hs fx fy
    cases he
    obtain ⟨_, _, _, hs⟩ := hs
    obtain rfl := fx
    obtain ⟨_, _, _, rfl⟩ := fy
    exact fin ⟨.inl (by simp), .inl (by simp)⟩ (fun d => by unfold Op.equalIn; rw [Sem.run_bind, underlying_run hs]; rfl) rfl rfl
  case h_17 hsh =>
    rw [hsh] at hs; simp only [FormOf] at hs fx fy
    cases he
    obtain ⟨_, _, _, hs⟩ := hs
    obtain ⟨_, _, _, rfl⟩ := fx
    obtain rfl := fy
    exact fin ⟨.inl (by simp), .inl (by simp)⟩ (fun d => by unfold Op.equalIn; rw [Sem.run_bind, underlying_run hs]; rfl) rfl rfl
  case h_18 hsh =>
    rw [hsh] at hs; simp only [FormOf] at hs fx fy
    split at he
    · rename_i hc
      cases he
      obtain ⟨_, hs⟩ := hs
      obtain rfl := fx
      obtain rfl := fy
      exact fin0 (fun _ => guard_nil hc) (fun d => by unfold Op.equalIn; rw [Sem.run_bind, underlying_run hs]; rfl) rfl rfl
    · cases he
  case h_19 hsh =>
    rw [hsh] at hs; simp only [FormOf] at hs fx fy
    cases he
    obtain ⟨_, hs⟩ := hs
    obtain rfl := fx
    obtain ⟨_, _, rfl⟩ := fy
    exact fin ⟨.inr (by simp), .inl (by simp)⟩ (fun d => by unfold Op.equalIn; rw [Sem.run_bind, underlying_run hs]; rfl) rfl rfl
  case h_20 hsh =>
    rw [hsh] at hs; simp only [FormOf] at hs fx fy
    cases he
    obtain ⟨_, hs⟩ := hs
    obtain ⟨_, _, rfl⟩ := fx
    obtain rfl := fy
    exact fin ⟨.inl (by simp), .inl (by simp)⟩ (fun d => by unfold Op.equalIn; rw [Sem.run_bind, underlying_run hs]; rfl) rfl rfl
  case h_21 hsh =>
    rw [hsh] at hs; simp only at hs
    split at he
    · rename_i a b ha hb
      obtain ⟨⟨fs, hu⟩, hp⟩ := hs
      obtain ⟨hd, hlen, _⟩ := plainK_known hp
      obtain ⟨l1, l2⟩ := eqKs_length he
      have hag : isAg P t = true := by simp [isAg, hu]
      have v1 := agg_valOf hag hlen l1 ha hx
      have v2 := agg_valOf hag hlen l2 hb hy
      simp only [FormOf] at fx fy
      obtain ⟨_, rfl⟩ := fx
      obtain ⟨_, rfl⟩ := fy
      have hg := plainK_guard hp P.depth depth_ge
      exact fin0 (fun op => run_eqGuard_agg w op t x y _ _ hg) (fun d => equalIn_plain (P := P) hp (d := d + 1) v1 v2 he) rfl rfl
    · cases he
  case h_22 => cases he
/-- integers -/
theorem binInt_run {op : BinOp} {t : TypeId} {k : IntKind} {p q : Int} {u : DV} (h : binInt op k p q = some u) : ∃ v, (binOp op t (.int k p) (.int k q)).run P w = .ok v w ∧ RD F u v := by
  cases op <;> simp only [binInt] at h <;> first
    | (cases h; done)
    | (cases h; exact ⟨_, by simp [binOp, Op.intArith, Op.intCmp, Op.intBits], .int _ _⟩)
    | (cases h; exact ⟨_, by simp [binOp, Op.intArith, Op.intCmp, Op.intBits], .bool _⟩)
    | (split at h
       · cases h
       · rename_i hq; cases h; exact ⟨_, by simp [binOp, Op.intDiv, hq], .int _ _⟩)
theorem binStr_run {op : BinOp} {t : TypeId} {p q : ByteArray} {u : DV} (h : binStr op p q = some u) : ∃ v, (binOp op t (.string p) (.string q)).run P w = .ok v w ∧ RD F u v := by
  cases op <;> simp only [binStr] at h <;> first
    | (cases h; done)
    | (cases h; exact ⟨_, by simp [binOp, Op.stringOp], .bool _⟩)
    | (split at h
       · rename_i hle
         cases h
         have h1 : ¬ ((9223372036854775807 : Int) < (p.size : Int) + (q.size : Int)) := by simp only [big] at hle; omega
         have h2 : IntKind.i64.max = 9223372036854775807 := by decide
         exact ⟨_, by simp [binOp, Op.stringOp, h1, h2], .str _⟩
       · cases h)
theorem prim_binOp {op t x z yt} (hE : EnvR F m N e a) (hG : GlobR F G) (hS : St F m w h) (hx : (prim P G e base ⟨d, .binOp op t x z yt, ty, pos, aft, none⟩).run h = some y) : Does P a ⟨d, .binOp op t x z yt, ty, pos, aft, none⟩ F m w h y := by
  simp only [prim] at hx
  cases hv : ev G e x with
  | none => simp [hv, AM.run] at hx
  | some u =>
    cases hz : ev G e z with
    | none => simp [hv, hz, AM.run] at hx
    | some v =>
      simp only [hv, hz] at hx
      have r1 := ev_rv hE hG hv
      have r2 := ev_rv hE hG hz
      cases hb : binAV P op t (litOp x z) u v with
      | none => simp [hb, AM.run] at hx
      | some r =>
        simp only [hb] at hx
        have := eff_run hx; subst this
        have key : ∀ v', (eqGuard op t x z (a.eval x) (a.eval z)).run P w = .ok () w → (binOp op t (a.eval x) (a.eval z)).run P w = .ok v' w → RV F m r v' → Does P a ⟨d, .binOp op t x z yt, ty, pos, aft, none⟩ F m w h ⟨r, [], 0⟩ := by
          intro v' h1 h2 h3
          refine Does.val hS ?_ h3
          simp only [execOp, Sem.run_bind, h1, h2, Result.andThen_ok, Sem.run_pure]
        unfold binAV at hb
        split at hb
        · split at hb
          · cases hb
          · rename_i hneg
            cases hb
            rw [rv_int r1, rv_int r2] at key
            exact key _ (guard_other (.inl (by simp)) (.inl (by simp))) (by simp [binOp, Op.shift, hneg]) (.d (.int _ _))
        · split at hb
          · cases hb
          · rename_i hneg
            cases hb
            rw [rv_int r1, rv_int r2] at key
            exact key _ (guard_other (.inl (by simp)) (.inl (by simp))) (by simp [binOp, Op.shift, hneg]) (.d (.int _ _))
        · split at hb
          · rename_i hk
            subst hk
            obtain ⟨u, hu, rfl⟩ := Option.map_eq_some_iff.1 hb
            rw [rv_int r1, rv_int r2] at key
            obtain ⟨v', h1, h2⟩ := binInt_run (P := P) (F := F) (w := w) (t := t) hu
            exact key _ (guard_other (.inl (by simp)) (.inl (by simp))) h1 (.d h2)
          · cases hb
        · obtain ⟨u, hu, rfl⟩ := Option.map_eq_some_iff.1 hb
          rw [rv_str r1, rv_str r2] at key
          obtain ⟨v', h1, h2⟩ := binStr_run (P := P) (F := F) (w := w) (t := t) hu
          exact key _ (guard_other (.inl (by simp)) (.inl (by simp))) h1 (.d h2)
        · obtain ⟨b, hb2, hbe⟩ := Option.map_eq_some_iff.1 hb
          cases hbe
          obtain ⟨e1, e2, e3⟩ := equal_does (P := P) (w := w) r1 r2 hb2
          exact key (.bool b) (e1 _) e2 (.d (.bool _))
        · obtain ⟨b, hb2, hbe⟩ := Option.map_eq_some_iff.1 hb
          cases hbe
          obtain ⟨e1, e2, e3⟩ := equal_does (P := P) (w := w) r1 r2 hb2
          exact key (.bool !b) (e1 _) e3 (.d (.bool _))
        · cases hb
end ops
end Go.Ab
namespace Go.Ab
variable {P : Program}
section ops
variable {F : Fz} {m : Mp} {N : Nat} {e : Env} {a : Act} {G : Nat → Option (List DV)} {base : Nat} {d : Option Nat} {ty : TypeId} {pos : String} {aft : Array Edge} {h : Heap} {w : World} {y : Eff}

theorem setObj_run {r : Nat} {o o' : Obj} (h : w.heap[r]? = some o) (hn : ∀ c e f, o ≠ .cells c e f) : (setObj r o').run P w = .ok () { w with heap := w.heap.setIfInBounds r o' } := by
  unfold setObj
  cases o <;> first | exact absurd rfl (hn _ _ _) | simp only [Sem.run, h]

/-- a live object that is no row of cells is written -/
theorem write_obj {id : Nat} {ob ao : AO} {l : Loc} {o o' : Obj} (hS : St F m w h) (hob : h[id]? = some (some ob)) (hl : m id = some l) (hlive : ob.isLive = true) (hb : w.heap[l.b]? = some o) (hao : ObjR F m { w with heap := w.heap.setIfInBounds l.b o' } ao l) :
    St F m { w with heap := w.heap.setIfInBounds l.b o' } (put h [(id, some ao)]) ∧ Ev F m w h F m { w with heap := w.heap.setIfInBounds l.b o' } (put h [(id, some ao)]) := by
  have hlt : id < h.length := hS.dom _ _ hl
  have hp : put h [(id, some ao)] = h.set id (some ao) := by simp [put, hlt]
  rw [hp]
  refine hS.update hob hlive hl (by simp) rfl rfl rfl (fun b hne => ?_) hao
  simp only [Array.getElem?_setIfInBounds]
  rw [if_neg (by omega)]
theorem set_get {b : Nat} {o o' : Obj} (hb : w.heap[b]? = some o) : ({ w with heap := w.heap.setIfInBounds b o' } : World).heap[b]? = some o' := by
  have := (Array.getElem?_eq_some_iff.1 hb).1
  simp [this]

theorem am_ret {α : Type} {x y : α} (h' : (AM.ret x).run h = some y) : y = x := by simp only [AM.run, Option.some.injEq] at h'; exact h'.symm

theorem bytes_rows : ∀ {es : List (List DV)} {bs}, bytesOfRows es = some bs → ∃ ns : List Int, es = ns.map (fun n => [DV.int .u8 n]) ∧ bs = ns.map fun n => UInt8.ofNat n.toNat
  | [], bs, h => by simp only [bytesOfRows, Option.some.injEq] at h; exact ⟨[], rfl, by simp [← h]⟩
  | e :: r, bs, h => by
    unfold bytesOfRows at h
    split at h
    · rename_i heq; cases heq
    · rename_i n r' heq
      cases heq
      obtain ⟨l, hl, rfl⟩ := Option.map_eq_some_iff.1 h
      obtain ⟨ns, rfl, rfl⟩ := bytes_rows hl
      exact ⟨n :: ns, rfl, rfl⟩
    · cases h

theorem push_bytes : ∀ (ns : List Int) (s : ByteArray), ns.foldl (fun r n => r.push (UInt8.ofNat n.toNat)) s = ⟨s.data ++ (ns.map fun n => UInt8.ofNat n.toNat).toArray⟩
  | [], s => by simp
  | n :: r, s => by
    simp only [List.foldl_cons, List.map_cons]
    rw [push_bytes r]
    congr 1
    apply Array.ext'
    simp [ByteArray.push]

theorem prim_convert {s t x} (hE : EnvR F m N e a) (hG : GlobR F G) (hS : St F m w h) (hx : (prim P G e base ⟨d, .convert s t x, ty, pos, aft, none⟩).run h = some y) : Does P a ⟨d, .convert s t x, ty, pos, aft, none⟩ F m w h y := by
  simp only [prim] at hx
  cases hv : ev G e x with
  | none => simp [hv, AM.run] at hx
  | some u =>
    simp only [hv] at hx
    have hr := ev_rv hE hG hv
    change ((convAV P s t u).bind fun z => eff z).run h = some y at hx
    rw [am_bind] at hx
    cases hc : (convAV P s t u).run h with
    | none => simp [hc] at hx
    | some z =>
      simp only [hc, Option.bind_some] at hx
      have := eff_run hx; subst this
      have key : ∀ v', (Go.convert s t (a.eval x)).run P w = .ok v' w → RV F m z v' → Does P a ⟨d, .convert s t x, ty, pos, aft, none⟩ F m w h ⟨z, [], 0⟩ := by
        intro v' h1 h2
        refine Does.val hS ?_ h2
        simp only [execOp, Sem.run_bind, h1, Result.andThen_ok, Sem.run_pure]
      have bytes : ∀ es bs e', P.underlying s = some (.slice e') → P.underlying e' = some (.int .u8) → P.underlying t = some .string → (sliceCont 1 u).run h = some (.fl es) → (∀ q, u ≠ .d (.str q)) → bytesOfRows es = some bs → z = .d (.str ⟨bs.toArray⟩) → Does P a ⟨d, .convert s t x, ty, pos, aft, none⟩ F m w h ⟨z, [], 0⟩ := by
        intro es bs e' h1 h2 h3 hcont hns hbs hz
        subst hz
        obtain ⟨sb, cap, hux, hle⟩ := slice_shape hcont hr hns
        obtain ⟨hk, hlen, hf⟩ := cont_run (P := P) hS hcont hr (by decide)
        obtain ⟨ns, rfl, rfl⟩ := bytes_rows hbs
        obtain ⟨arr, f1, f2, f3⟩ := hf _ (Nat.le_refl _)
        have hcl : (Cont.fl (ns.map fun n => [DV.int .u8 n])).length = ns.length := by simp [Cont.length]
        have hrows : arr = (ns.map (Value.int .u8)).toArray := by
          apply Array.ext'
          apply List.ext_getElem?
          intro i
          by_cases hi : i < ns.length
          · obtain ⟨v, g1, g2, g3⟩ := f3 i 0 [.d (.int .u8 ns[i])] (.d (.int .u8 ns[i])) (by rw [List.getElem?_take_of_lt (by omega)]; simp [Cont.avs, hi]) rfl
            have := rv_int g3; subst this
            simp only [Nat.zero_add, Nat.mul_one, Nat.add_zero] at g1
            simp [g1, hi]
          · rw [List.getElem?_eq_none (by simp [f2, hcl]; omega), List.getElem?_eq_none (by simp; omega)]
        rw [hux] at key hf f1
        have hpush := push_bytes ns ByteArray.empty
        refine key (.string ⟨(ns.map fun n => UInt8.ofNat n.toNat).toArray⟩) ?_ (.d (.str _))
        rw [run_convert_bytes_string w s t e' sb _ cap h1 h2 h3]
        cases sb with
        | none =>
          have hn0 : ns = [] := by
            simp only [Builtin.firstCells, Sem.run_pure, Result.ok.injEq] at f1
            have := f1.1; rw [hrows] at this
            cases ns with
            | nil => rfl
            | cons => simp at this
          subst hn0
          rfl
        | some p =>
          have hl : (loadCells p ns.length).run P w = .ok (ns.map (Value.int .u8)).toArray w := by
            simp only [Builtin.firstCells, Nat.mul_one, hcl] at f1
            rw [f1, hrows]
          rw [hcl]
          rw [run_bytesToString w p ns.length cap ns hl, hpush]
          simp
      unfold convAV at hc
      have hsh : ∀ c, convShape P s t = c → (match c with
          | .ii k => (∃ k', P.underlying s = some (.int k')) ∧ P.underlying t = some (.int k)
          | .is => (∃ k', P.underlying s = some (.int k')) ∧ P.underlying t = some .string
          | .ss => P.underlying s = some .string ∧ P.underlying t = some .string
          | .bs => ∃ e', P.underlying s = some (.slice e') ∧ P.underlying e' = some (.int .u8) ∧ P.underlying t = some .string
          | .other => True) := by
        intro c hc
        subst hc
        unfold convShape
        cases hs : P.underlying s with
        | none => trivial
        | some ds =>
          cases ht : P.underlying t with
          | none => cases ds <;> trivial
          | some dt =>
            cases ds with
            | int k => cases dt <;> first | trivial | exact ⟨⟨_, rfl⟩, rfl⟩
            | string => cases dt <;> first | trivial | exact ⟨rfl, rfl⟩
            | slice e' =>
              cases dt with
              | string =>
                simp only
                cases he : P.underlying e' with
                | none => trivial
                | some de =>
                  cases de with
                  | int k => cases k <;> first | trivial | exact ⟨e', rfl, he, rfl⟩ | exact ⟨e', rfl, he, trivial⟩
                  | _ => trivial
              | _ => trivial
            | _ => trivial
      split at hc
      · rename_i k k' n hq
        obtain ⟨⟨k2, h1⟩, h2⟩ := hsh _ hq
        have := am_ret hc; subst this
        have := rv_int hr
        exact key (.int k (k.wrap n)) (by simp [Go.convert, Sem.run_bind, underlying_run h1, underlying_run h2, this, Conv.intToInt]) (.d (.int _ _))
      · rename_i k' n hq
        obtain ⟨⟨k2, h1⟩, h2⟩ := hsh _ hq
        have := am_ret hc; subst this
        have := rv_int hr
        exact key (.string (Utf8.encode n)) (by simp [Go.convert, Sem.run_bind, underlying_run h1, underlying_run h2, this, Conv.intToString]) (.d (.str _))
      · rename_i q hq
        obtain ⟨h1, h2⟩ := hsh _ hq
        have := am_ret hc; subst this
        have := rv_str hr
        exact key (.string q) (by simp [Go.convert, Sem.run_bind, underlying_run h1, underlying_run h2, this]) (.d (.str _))
      · simp [AM.run] at hc
      · rename_i u _ _ hq hns
        obtain ⟨e', h1, h2, h3⟩ := hsh _ hq
        rw [am_bind] at hc
        cases hsc : (sliceCont 1 u).run h with
        | none => simp [hsc] at hc
        | some ct =>
          simp only [hsc, Option.bind_some] at hc
          cases ct with
          | mx => simp [AM.run] at hc
          | fl es =>
            simp only at hc
            cases hbs : bytesOfRows es with
            | none => simp [hbs, AM.run] at hc
            | some bs =>
              simp only [hbs] at hc
              have := am_ret hc; subst this
              exact bytes es bs e' h1 h2 h3 hsc (fun q hu => hns q hu) hbs rfl
      · simp [AM.run] at hc

theorem minMax_run {mx : Bool} : ∀ {rs : List AV} {v : AV} {r : AV} {x : Value} {xs : List Value}, minMax mx v rs = some r → rs ≠ [] → RV F m v x → xs.length = rs.length → (∀ (i : Nat) u, rs[i]? = some u → ∃ z, xs[i]? = some z ∧ RV F m u z) →
    ∃ z, (xs.foldlM (if mx then Builtin.max2 else Builtin.min2) x).run P w = .ok z w ∧ RV F m r z
  | [], _, _, _, _, _, h, _, _, _ => absurd rfl h
  | u :: rs, v, r, x, xs, h, _, hv, hl, hr => by
    cases xs with
    | nil => simp at hl
    | cons z xs =>
      obtain ⟨z', hz, hu⟩ := hr 0 u rfl
      simp only [List.getElem?_cons_zero, Option.some.injEq] at hz; subst hz
      unfold minMax at h
      split at h
      · rename_i heq; cases heq
      · rename_i k p k' q r' heq
        cases heq
        split at h
        · rename_i hk
          subst hk
          have h1 := rv_int hv; subst h1
          have h2 := rv_int hu; subst h2
          have hrest : ∀ (i : Nat) u, rs[i]? = some u → ∃ z, xs[i]? = some z ∧ RV F m u z := fun i u hi => hr (i + 1) u hi
          have hl' : xs.length = rs.length := by simpa using hl
          have step : ((if mx then Builtin.max2 else Builtin.min2) (.int k p) (.int k q)).run P w = .ok (.int k (if mx then (if q > p then q else p) else (if q < p then q else p))) w := by
            cases mx <;> simp [Builtin.max2, Builtin.min2]
          simp only [List.foldlM_cons, Sem.run_bind, step, Result.andThen_ok]
          cases rs with
          | nil =>
            cases xs with
            | cons => simp at hl'
            | nil =>
              simp only [minMax, Option.some.injEq] at h
              subst h
              exact ⟨_, rfl, .d (.int _ _)⟩
          | cons u' rs' => exact minMax_run h (by simp) (.d (.int _ _)) hl' hrest
        · cases h
      · cases h
end ops
end Go.Ab
namespace Go.Ab
variable {P : Program}
section ops
variable {F : Fz} {m : Mp} {N : Nat} {e : Env} {a : Act} {G : Nat → Option (List DV)} {base : Nat} {d : Option Nat} {ty : TypeId} {pos : String} {aft : Array Edge} {h : Heap} {w : World} {y : Eff}

theorem ba_beq' {a b : ByteArray} : (a == b) = decide (a = b) := by
  obtain ⟨⟨x⟩⟩ := a
  obtain ⟨⟨y⟩⟩ := b
  show ((⟨x⟩ : Array UInt8) == ⟨y⟩) = _
  by_cases h : x = y <;> simp [h]
theorem map_list {x : Array Operand} {vs : List AV} (hE : EnvR F m N e a) (hG : GlobR F G) (h : evs G e x.toList = some vs) : (x.map a.eval).toList.length = vs.length ∧ ∀ (i : Nat) u, vs[i]? = some u → ∃ z, (x.map a.eval).toList[i]? = some z ∧ RV F m u z := by
  obtain ⟨hl, hrv⟩ := evs_rv hE hG h
  refine ⟨by simpa using hl.symm, fun i u hi => ?_⟩
  obtain ⟨op, h1, h2⟩ := hrv i u hi
  have h1' : x[i]? = some op := by simpa using h1
  exact ⟨a.eval op, by simp [h1'], h2⟩

theorem prim_min {ats x} (hE : EnvR F m N e a) (hG : GlobR F G) (hS : St F m w h) {c} (hc : c = ({ callee := .builtin .min, args := x, argTypes := ats } : Call)) (hx : (prim P G e base ⟨d, .call c, ty, pos, aft, none⟩).run h = some y) : Does P a ⟨d, .call c, ty, pos, aft, none⟩ F m w h y := by
  subst hc
  simp only [prim] at hx
  cases hv : evs G e x.toList with
  | none => simp [hv, AM.run] at hx
  | some vs =>
    simp only [hv] at hx
    obtain ⟨hl, hrv⟩ := map_list hE hG hv
    cases vs with
    | nil => simp [AM.run] at hx
    | cons v rs =>
      simp only at hx
      cases hm : minMax false v rs with
      | none => simp [hm, AM.run] at hx
      | some r =>
        simp only [hm] at hx
        have := eff_run hx; subst this
        cases hxs : (x.map a.eval).toList with
        | nil => rw [hxs] at hl; simp at hl
        | cons z zs =>
          rw [hxs] at hl hrv
          obtain ⟨z', hz, hvz⟩ := hrv 0 v rfl
          simp only [List.getElem?_cons_zero, Option.some.injEq] at hz; subst hz
          by_cases hrs : rs = []
          · subst hrs
            have hzs : zs = [] := by cases zs with | nil => rfl | cons => simp at hl
            subst hzs
            simp only [minMax, Option.some.injEq] at hm; subst hm
            exact Does.val hS (builtin_run (f := Builtin.min_) (fun _ _ => rfl) (by simp only [Builtin.min_, hxs]; rfl)) hvz
          · obtain ⟨z', h1, h2⟩ := minMax_run (P := P) (w := w) hm hrs hvz (by simpa using hl) (fun i u hi => hrv (i + 1) u hi)
            exact Does.val hS (builtin_run (f := Builtin.min_) (fun _ _ => rfl) (by simp only [Builtin.min_, hxs]; exact h1)) h2
theorem prim_max {ats x} (hE : EnvR F m N e a) (hG : GlobR F G) (hS : St F m w h) {c} (hc : c = ({ callee := .builtin .max, args := x, argTypes := ats } : Call)) (hx : (prim P G e base ⟨d, .call c, ty, pos, aft, none⟩).run h = some y) : Does P a ⟨d, .call c, ty, pos, aft, none⟩ F m w h y := by
  subst hc
  simp only [prim] at hx
  cases hv : evs G e x.toList with
  | none => simp [hv, AM.run] at hx
  | some vs =>
    simp only [hv] at hx
    obtain ⟨hl, hrv⟩ := map_list hE hG hv
    cases vs with
    | nil => simp [AM.run] at hx
    | cons v rs =>
      simp only at hx
      cases hm : minMax true v rs with
      | none => simp [hm, AM.run] at hx
      | some r =>
        simp only [hm] at hx
        have := eff_run hx; subst this
        cases hxs : (x.map a.eval).toList with
        | nil => rw [hxs] at hl; simp at hl
        | cons z zs =>
          rw [hxs] at hl hrv
          obtain ⟨z', hz, hvz⟩ := hrv 0 v rfl
          simp only [List.getElem?_cons_zero, Option.some.injEq] at hz; subst hz
          by_cases hrs : rs = []
          · subst hrs
            have hzs : zs = [] := by cases zs with | nil => rfl | cons => simp at hl
            subst hzs
            simp only [minMax, Option.some.injEq] at hm; subst hm
            exact Does.val hS (builtin_run (f := Builtin.max_) (fun _ _ => rfl) (by simp only [Builtin.max_, hxs]; rfl)) hvz
          · obtain ⟨z', h1, h2⟩ := minMax_run (P := P) (w := w) hm hrs hvz (by simpa using hl) (fun i u hi => hrv (i + 1) u hi)
            exact Does.val hS (builtin_run (f := Builtin.max_) (fun _ _ => rfl) (by simp only [Builtin.max_, hxs]; exact h1)) h2

theorem prim_makeMap {t r} (hS : St F m w h) (hb : base ≤ h.length) (hm : m base = none) (hx : (prim P G e base ⟨d, .makeMap t r, ty, pos, aft, none⟩).run h = some y) : Does P a ⟨d, .makeMap t r, ty, pos, aft, none⟩ F m w h y := by
  simp only [prim] at hx
  cases r with
  | some _ => simp [AM.run] at hx
  | none =>
    simp only [Option.isSome_none, Bool.false_eq_true, if_false, AM.run, Option.some.injEq] at hx
    subst hx
    have hF : F w.heap.size = none := by
      cases hf : F w.heap.size with
      | none => rfl
      | some c => have := hS.lt hf; omega
    have hal := hS.alloc (l := ⟨w.heap.size, 0, 1, 0⟩) (ob := .map #[] 0) (ao := .map []) hb hm rfl ⟨rfl, hF, #[], 0, pushed_new, rfl, fun i k v hi => by simp at hi⟩
    refine ⟨.value (.map (some w.heap.size)), _, _, ?_, .inl rfl, _, hal.1, .map (l := ⟨w.heap.size, 0, 1, 0⟩) upd_same, hal.2, grown_new⟩
    simp only [execOp, Instr.makeMap, Option.map_none, Sem.run_bind, Sem.run_pure, run_newObj, Result.andThen_ok]
    rfl
theorem prim_range {t x} (hE : EnvR F m N e a) (hG : GlobR F G) (hS : St F m w h) (hb : base ≤ h.length) (hm : m base = none) (hx : (prim P G e base ⟨d, .range t x, ty, pos, aft, none⟩).run h = some y) : Does P a ⟨d, .range t x, ty, pos, aft, none⟩ F m w h y := by
  simp only [prim] at hx
  cases hv : ev G e x with
  | none => simp [hv, AM.run] at hx
  | some v =>
    simp only [hv] at hx
    have hr := ev_rv hE hG hv
    split at hx
    · rename_i s hs
      simp only [AM.run, Option.some.injEq] at hx
      subst hx
      have hF : F w.heap.size = none := by
        cases hf : F w.heap.size with
        | none => rfl
        | some c => have := hS.lt hf; omega
      have hal := hS.alloc (l := ⟨w.heap.size, 0, 1, 0⟩) (ob := .stringIter s 0) (ao := .siter s 0) hb hm rfl ⟨rfl, hF, pushed_new⟩
      refine ⟨.value (.pointer (some ⟨w.heap.size, 0, none⟩)), _, _, ?_, .inl rfl, _, hal.1, ?_, hal.2, grown_new⟩
      · have := rv_str hr
        simp only [execOp, Instr.range, Sem.run_bind, underlying_run (shape_str hs), this, Sem.run_pure, run_newObj, Result.andThen_ok]
        rfl
      · have := RV.ptr (F := F) (m := upd m base ⟨w.heap.size, 0, 1, 0⟩) (id := base) (i := 0) (o := 0) upd_same
        simpa using this
    · simp [AM.run] at hx
theorem prim_next {it} (hE : EnvR F m N e a) (hG : GlobR F G) (hS : St F m w h) (hx : (prim P G e base ⟨d, .next it true, ty, pos, aft, none⟩).run h = some y) : Does P a ⟨d, .next it true, ty, pos, aft, none⟩ F m w h y := by
  simp only [prim] at hx
  cases hv : ev G e it with
  | none => simp [hv, AM.run] at hx
  | some v =>
    simp only [hv] at hx
    have hr := ev_rv hE hG hv
    split at hx
    · rename_i id
      obtain ⟨ob, hob, hx2⟩ := obj_run hx
      obtain ⟨l, hl, hobr⟩ := hS.obj id ob hob
      generalize hev : a.eval it = av at hr
      cases hr with
      | @ptr _ _ _ l' hl' =>
        rw [hl] at hl'; cases hl'
        split at hx2
        · rename_i s pos'
          obtain ⟨h1, h2, h3⟩ := hobr
          have hadr : l.o + (0 * l.k + 0) = 0 := by rw [h1]; simp
          rw [hadr] at hev
          split at hx2
          · rename_i hlt
            simp only [AM.run, Option.some.injEq] at hx2; subst hx2
            have hw := write_obj (o' := .stringIter s (pos' + (Utf8.decode s pos').2)) (ao := .siter s (pos' + (Utf8.decode s pos').2)) hS hob hl rfl h3 ⟨h1, h2, set_get h3⟩
            refine ⟨.value (.tuple #[.bool true, goInt pos', .int .i32 (Utf8.decode s pos').1]), _, _, ?_, .inl rfl, m, hw.1, ?_, hw.2, grown_same⟩
            · simp only [execOp, Instr.next, hev, Sem.run_bind, getObj_run (P := P) h3 (by simp), Result.andThen_ok, hlt, if_true, setObj_run (P := P) h3 (by simp), Sem.run_pure]
            · refine .tup (fun i => (#[Value.bool true, goInt pos', .int .i32 (Utf8.decode s pos').1] : Array Value).getD i Go.undef) rfl ?_ ?_
              · intro i c hi
                match i, hi with
                | 0, _ => rfl
                | 1, _ => rfl
                | 2, _ => rfl
                | i + 3, hi => simp at hi
              · intro i c hi
                match i, hi with
                | 0, hi => simp at hi; subst hi; exact .d (.bool _)
                | 1, hi => simp at hi; subst hi; exact .d (.int _ _)
                | 2, hi => simp at hi; subst hi; exact .d (.int _ _)
                | i + 3, hi => simp at hi
          · rename_i hlt
            have := eff_run hx2; subst this
            refine Does.val (v' := .tuple #[.bool false]) hS ?_ ?_
            · simp only [execOp, Instr.next, hev, Sem.run_bind, getObj_run (P := P) h3 (by simp), Result.andThen_ok, hlt, if_false, Sem.run_pure]
            · refine .tup (fun i => (#[Value.bool false] : Array Value).getD i Go.undef) rfl ?_ ?_
              · intro i c hi
                match i, hi with
                | 0, _ => rfl
                | i + 1, hi => simp at hi
              · intro i c hi
                match i, hi with
                | 0, hi => simp at hi; subst hi; exact .d (.bool _)
                | i + 1, hi => simp at hi
        · simp [AM.run] at hx2
    · simp [AM.run] at hx
theorem prim_typeAssert {x xt at' ok} (hE : EnvR F m N e a) (hG : GlobR F G) (hS : St F m w h) (hx : (prim P G e base ⟨d, .typeAssert x xt at' ok, ty, pos, aft, none⟩).run h = some y) : Does P a ⟨d, .typeAssert x xt at' ok, ty, pos, aft, none⟩ F m w h y := by
  simp only [prim] at hx
  cases hv : ev G e x with
  | none => simp [hv, AM.run] at hx
  | some v =>
    simp only [hv] at hx
    have hr := ev_rv hE hG hv
    split at hx
    · simp [AM.run] at hx
    · rename_i dd t v' hni hu
      split at hx
      · rename_i ht
        subst ht
        have := eff_run hx; subst this
        generalize hev : a.eval x = av at hr
        cases hr with
        | @ifc _ _ xv h1 =>
          refine Does.val (v' := if ok then .tuple #[xv, .bool true] else xv) hS ?_ ?_
          · simp only [execOp, Instr.typeAssert, hev, Sem.run_bind, underlying_run hu, Result.andThen_ok]
            cases dd <;> first | exact absurd rfl (hni _) | simp
          · cases ok with
            | false => exact h1
            | true =>
              refine .tup (fun i => (#[xv, Value.bool true] : Array Value).getD i Go.undef) rfl ?_ ?_
              · intro i c hi
                match i, hi with
                | 0, _ => rfl
                | 1, _ => rfl
                | i + 2, hi => simp at hi
              · intro i c hi
                match i, hi with
                | 0, hi => simp at hi; subst hi; exact h1
                | 1, hi => simp at hi; subst hi; exact .d (.bool _)
                | i + 2, hi => simp at hi
      · simp [AM.run] at hx
    · simp [AM.run] at hx

/-- entries of a map, one by one -/
def EntL (F : Fz) (m : Mp) : List (DV × AV) → List MapEntry → Prop
  | [], [] => True
  | (k, v) :: r, e :: s => RD F k e.key ∧ RV F m v e.val ∧ EntL F m r s
  | _, _ => False
theorem entL_of : ∀ {es : List (DV × AV)} {s : List MapEntry}, s.length = es.length → (∀ (i : Nat) k v, es[i]? = some (k, v) → ∃ en : MapEntry, s[i]? = some en ∧ RD F k en.key ∧ RV F m v en.val) → EntL F m es s
  | [], [], _, _ => trivial
  | [], _ :: _, h, _ => by simp at h
  | _ :: _, [], h, _ => by simp at h
  | (k, v) :: r, e :: s, h, hf => by
    obtain ⟨en, h1, h2, h3⟩ := hf 0 k v rfl
    simp only [List.getElem?_cons_zero, Option.some.injEq] at h1; subst h1
    exact ⟨h2, h3, entL_of (by simpa using h) (fun i k v hi => hf (i + 1) k v hi)⟩
theorem of_entL : ∀ {es : List (DV × AV)} {s : List MapEntry}, EntL F m es s → s.length = es.length ∧ ∀ (i : Nat) k v, es[i]? = some (k, v) → ∃ en : MapEntry, s[i]? = some en ∧ RD F k en.key ∧ RV F m v en.val
  | [], [], _ => ⟨rfl, fun i k v hi => by simp at hi⟩
  | [], _ :: _, h => h.elim
  | (_, _) :: _, [], h => by simp [EntL] at h
  | (k, v) :: r, e :: s, ⟨h1, h2, h3⟩ => by
    obtain ⟨a, b⟩ := of_entL h3
    refine ⟨by simp [a], fun i k' v' hi => ?_⟩
    cases i with
    | zero => simp only [List.getElem?_cons_zero, Option.some.injEq, Prod.mk.injEq] at hi; obtain ⟨rfl, rfl⟩ := hi; exact ⟨e, rfl, h1, h2⟩
    | succ i => exact b i k' v' hi

/-- the kind of keys -/
theorem key_kind {kt c} (h : keyK P kt = some c) : ∃ dd, P.underlying kt = some dd ∧ ((dd = .bool ∧ c = .b) ∨ (∃ k, dd = .int k ∧ c = .i) ∨ (dd = .string ∧ c = .s)) := by
  unfold keyK at h
  split at h
  · rename_i hu; cases h; exact ⟨_, hu, .inl ⟨rfl, rfl⟩⟩
  · rename_i k hu; cases h; exact ⟨_, hu, .inr (.inl ⟨k, rfl, rfl⟩)⟩
  · rename_i hu; cases h; exact ⟨_, hu, .inr (.inr ⟨rfl, rfl⟩)⟩
  · cases h
theorem same_now {dd : TypeDesc} {c : CK} {k x : DV} {vk vx : Value} {b : Bool} (hd : (dd = .bool ∧ c = .b) ∨ (∃ k, dd = .int k ∧ c = .i) ∨ (dd = .string ∧ c = .s)) (hk : RD F k vk) (hx : RD F x vx) (he : eqKs [c] [k] [x] = some b) :
    Instr.sameNow dd vk vx = some b ∧ (b = true → k = x ∧ vk = vx ∧ Instr.sameBits 10000 vx vk = true) := by
  rcases hd with ⟨rfl, rfl⟩ | ⟨kk, rfl, rfl⟩ | ⟨rfl, rfl⟩
  · cases k <;> cases x <;> simp [eqKs] at he
    cases hk; cases hx; subst he
    refine ⟨rfl, fun hb => ?_⟩
    simp only [beq_iff_eq] at hb; subst hb
    exact ⟨rfl, rfl, by simp [Instr.sameBits]⟩
  · cases k <;> cases x <;> simp [eqKs] at he
    obtain ⟨rfl, rfl⟩ := he
    cases hk; cases hx
    refine ⟨by simp [Instr.sameNow], fun hb => ?_⟩
    simp only [beq_iff_eq] at hb; subst hb
    exact ⟨rfl, rfl, by simp [Instr.sameBits]⟩
  · cases k <;> cases x <;> simp [eqKs] at he
    cases hk; cases hx; subst he
    refine ⟨rfl, fun hb => ?_⟩
    rw [ba_beq'] at hb
    simp only [decide_eq_true_eq] at hb; subst hb
    exact ⟨rfl, rfl, by simp [Instr.sameBits, ba_beq']⟩
end ops
end Go.Ab
namespace Go.Ab
variable {P : Program}
section ops
variable {F : Fz} {m : Mp} {N : Nat} {e : Env} {a : Act} {G : Nat → Option (List DV)} {base : Nat} {d : Option Nat} {ty : TypeId} {pos : String} {aft : Array Edge} {h : Heap} {w : World} {y : Eff}

/-- a kind of keys -/
def KindOf (dd : TypeDesc) (c : CK) : Prop := (dd = .bool ∧ c = .b) ∨ (∃ k, dd = .int k ∧ c = .i) ∨ (dd = .string ∧ c = .s)

theorem find_now {dd : TypeDesc} {c : CK} {k : DV} {vk : Value} (hd : KindOf dd c) (hk : RD F k vk) : ∀ {es : List (DV × AV)} {s : List MapEntry} {i : Nat} {r}, mapFind c k es = some r → EntL F m es s →
    (r = none ∧ Instr.findNow dd vk s i = some none) ∨ ∃ v j en, r = some v ∧ s[j]? = some en ∧ Instr.findNow dd vk s i = some (some (i + j, en.val)) ∧ RV F m v en.val
  | [], [], i, r, h, _ => by simp only [mapFind, Option.some.injEq] at h; exact .inl ⟨h.symm, rfl⟩
  | [], _ :: _, _, _, _, h => h.elim
  | (_, _) :: _, [], _, _, _, h => by simp [EntL] at h
  | (x, v) :: es, en :: s, i, r, h, ⟨h1, h2, h3⟩ => by
    simp only [mapFind] at h
    cases he : eqKs [c] [k] [x] with
    | none => simp [he] at h
    | some b =>
      obtain ⟨g1, g2⟩ := same_now hd hk h1 he
      cases b with
      | true =>
        simp only [he, Option.some.injEq] at h
        refine .inr ⟨v, 0, en, h.symm, rfl, ?_, h2⟩
        simp only [Instr.findNow, g1, Nat.add_zero]
      | false =>
        simp only [he] at h
        rcases find_now (i := i + 1) hd hk h h3 with ⟨q1, q2⟩ | ⟨v', j, en', q1, q2, q3, q4⟩
        · exact .inl ⟨q1, by simp only [Instr.findNow, g1]; exact q2⟩
        · refine .inr ⟨v', j + 1, en', q1, q2, ?_, q4⟩
          simp only [Instr.findNow, g1]
          rw [q3]; congr 3; omega

theorem set_now {dd : TypeDesc} {c : CK} {k : DV} {vk val : Value} {v : AV} (hd : KindOf dd c) (hk : RD F k vk) (hv : RV F m v val) : ∀ {es es' : List (DV × AV)} {s : List MapEntry} {i : Nat}, mapSet c k v es = some es' → EntL F m es s →
    (Instr.findNow dd vk s i = some none ∧ ∀ b, EntL F m es' (s ++ [{ key := vk, val := val, born := b }])) ∨
    ∃ j en, s[j]? = some en ∧ Instr.findNow dd vk s i = some (some (i + j, en.val)) ∧ Instr.sameBits 10000 en.key vk = true ∧ EntL F m es' (s.modify j fun e => { e with key := vk, val := val })
  | [], es', [], i, h, _ => by
    simp only [mapSet, Option.some.injEq] at h; subst h
    exact .inl ⟨rfl, fun b => ⟨hk, hv, trivial⟩⟩
  | [], _, _ :: _, _, _, h => h.elim
  | (_, _) :: _, _, [], _, _, h => by simp [EntL] at h
  | (x, u) :: es, es', en :: s, i, h, ⟨h1, h2, h3⟩ => by
    simp only [mapSet] at h
    cases he : eqKs [c] [k] [x] with
    | none => simp [he] at h
    | some b =>
      obtain ⟨g1, g2⟩ := same_now hd hk h1 he
      cases b with
      | true =>
        simp only [he, Option.some.injEq] at h; subst h
        obtain ⟨e1, e2, e3⟩ := g2 rfl
        refine .inr ⟨0, en, rfl, by simp only [Instr.findNow, g1, Nat.add_zero], e3, ?_⟩
        simp only [List.modify_zero_cons]
        exact ⟨by subst e1; exact hk, hv, h3⟩
      | false =>
        simp only [he, Option.map_eq_some_iff] at h
        obtain ⟨es2, h, rfl⟩ := h
        rcases set_now (i := i + 1) hd hk hv h h3 with ⟨q1, q2⟩ | ⟨j, en', q1, q2, q3, q4⟩
        · exact .inl ⟨by simp only [Instr.findNow, g1]; exact q1, fun b => ⟨h1, h2, q2 b⟩⟩
        · refine .inr ⟨j + 1, en', q1, ?_, q3, ?_⟩
          · simp only [Instr.findNow, g1]
            rw [q2]; congr 3; omega
          · simp only [List.modify_succ_cons]
            exact ⟨h1, h2, q4⟩

theorem checkKey_run {dd : TypeDesc} {c : CK} {kt : TypeId} {vk : Value} {b : Bool} {n : Nat} (hu : P.underlying kt = some dd) (hd : KindOf dd c) : (Instr.checkKey b (n + 1) kt vk).run P w = .ok () w := by
  unfold Instr.checkKey
  simp only [Sem.run_bind, underlying_run hu, Result.andThen_ok]
  rcases hd with ⟨rfl, _⟩ | ⟨_, rfl, _⟩ | ⟨rfl, _⟩ <;> rfl
theorem findKey_run {dd : TypeDesc} {kt : TypeId} {vk : Value} {s : List MapEntry} {r} (hu : P.underlying kt = some dd) (h : Instr.findNow dd vk s 0 = some r) : (Instr.findKey kt vk s).run P w = .ok r w := by
  unfold Instr.findKey
  simp only [Sem.run_bind, underlying_run hu, Result.andThen_ok, h, Sem.run_pure]
theorem mapKV_some {t kt el} (h : mapKV P t = some (kt, el)) : P.underlying t = some (.map kt el) := by
  unfold mapKV at h
  split at h
  · rename_i hu; cases h; exact hu
  · cases h

theorem prim_mapSet {t mo k x o} (ho : o = .mapUpdate t mo k x ∨ o = .insert t mo k x) (hE : EnvR F m N e a) (hG : GlobR F G) (hS : St F m w h) (hx : (prim P G e base ⟨d, o, ty, pos, aft, none⟩).run h = some y) : Does P a ⟨d, o, ty, pos, aft, none⟩ F m w h y := by
  have hx : (prim P G e base ⟨d, .mapUpdate t mo k x, ty, pos, aft, none⟩).run h = some y := by rcases ho with rfl | rfl <;> exact hx
  simp only [prim] at hx
  cases hmo : ev G e mo with
  | none => simp [hmo, AM.run] at hx
  | some mv =>
    cases hk : ev G e k with
    | none => simp [hmo, hk, AM.run] at hx
    | some kv =>
      cases hxv : ev G e x with
      | none => simp [hmo, hk, hxv, AM.run] at hx
      | some xv =>
        simp only [hmo, hk, hxv] at hx
        have r1 := ev_rv hE hG hmo
        have r2 := ev_rv hE hG hk
        have r3 := ev_rv hE hG hxv
        split at hx
        · rename_i kt el id kd hkv
          split at hx
          · simp [AM.run] at hx
          have hu := mapKV_some hkv
          cases hc : keyK P kt with
          | none => simp [hc, AM.run] at hx
          | some c =>
            simp only [hc] at hx
            obtain ⟨dd, hud, hkind⟩ := key_kind hc
            obtain ⟨ob, hob, hx2⟩ := obj_run hx
            obtain ⟨l, hl, hobr⟩ := hS.obj id ob hob
            split at hx2
            · rename_i es
              cases hset : mapSet c kd xv es with
              | none => simp [hset, AM.run] at hx2
              | some es' =>
                simp only [hset, AM.run, Option.some.injEq] at hx2; subst hx2
                obtain ⟨q1, q2, ents, clock, q3, q4, q5⟩ := hobr
                have hent := entL_of (s := ents.toList) (by simpa using q4) (fun i k v hi => by simpa using q5 i k v hi)
                generalize hem : a.eval mo = am at r1
                cases r1 with
                | @map _ l' hl' =>
                  rw [hl] at hl'; cases hl'
                  cases r2 with
                  | d r2 =>
                    have fin : ∀ ents' clock', (Instr.mapUpdate t (.map (some l.b)) (a.eval k) (a.eval x)).run P w = .ok () { w with heap := w.heap.setIfInBounds l.b (.map ents' clock') } → EntL F m es' ents'.toList → Does P a ⟨d, o, ty, pos, aft, none⟩ F m w h ⟨undef, [(id, some (.map es'))], 0⟩ := by
                      intro ents' clock' hrun hen
                      obtain ⟨z1, z2⟩ := of_entL hen
                      have hw := write_obj (o' := .map ents' clock') (ao := .map es') hS hob hl rfl q3 ⟨q1, q2, ents', clock', set_get q3, by simpa using z1, fun i k v hi => by simpa using z2 i k v hi⟩
                      refine ⟨.skip, Go.undef, _, ?_, .inr ⟨rfl, rfl⟩, m, hw.1, .tup (fun _ => Go.undef) rfl (by simp) (by simp), hw.2, grown_same⟩
                      rcases ho with rfl | rfl <;> simp only [execOp, hem, Sem.run_bind, hrun, Result.andThen_ok, Sem.run_pure]
                    rcases set_now (i := 0) hkind r2 r3 hset hent with ⟨g1, g2⟩ | ⟨j, en, g1, g2, g3, g4⟩
                    · refine fin (ents.push { key := a.eval k, val := a.eval x, born := clock }) (clock + 1) ?_ (by simpa using g2 clock)
                      simp only [Instr.mapUpdate, Sem.run_bind, underlying_run hu, Result.andThen_ok, getObj_run (P := P) q3 (by simp), checkKey_run (n := 9999) hud hkind, findKey_run hud g1, setObj_run (P := P) q3 (by simp)]
                    · refine fin (ents.modify j fun e => { e with key := a.eval k, val := a.eval x }) clock ?_ (by simpa using g4)
                      have g1' : ents[j]? = some en := by simpa using g1
                      simp only [Instr.mapUpdate, Sem.run_bind, underlying_run hu, Result.andThen_ok, getObj_run (P := P) q3 (by simp), checkKey_run (n := 9999) hud hkind, findKey_run hud g2, setObj_run (P := P) q3 (by simp), Nat.zero_add, g1', Option.map_some, Option.getD_some, Instr.keyThatStays, g3, if_true, Sem.run_pure]
            · simp [AM.run] at hx2
        · simp [AM.run] at hx
theorem zero_rv {t : TypeId} {z : List DV} {x : AV} (hz : zeroC P t = some z) (hr : reAgg (isAg P t) (z.map .d) = some x) : ∃ zv, (zeroValue t).run P w = .ok zv w ∧ RV F m x zv := by
  obtain ⟨i, zv, hi, hzv, hrun, hlen, hcells⟩ := zero_run (P := P) (F := F) (w := w) hz
  refine ⟨zv, hrun, ?_⟩
  have hform : formOk P t zv = true := by
    unfold zeroC at hz
    split at hz
    · cases hz
    split at hz
    · rename_i z' hz'
      simp only [hi, Option.bind_some, hzv, Option.some.injEq] at hz'
      subst hz'
      split at hz
      · assumption
      · cases hz
    · cases hz
  have hc := cells_zero (m := m) hcells
  unfold reAgg at hr
  unfold formOk at hform
  cases ha : isAg P t with
  | true =>
    rw [ha] at hr
    simp only [if_true, Option.some.injEq] at hr; subst hr
    cases zv with
    | agg arr => exact agg_rv hc (by simpa [Value.cells] using hlen)
    | _ => simp [ha] at hform
  | false =>
    rw [ha] at hr
    simp only [Bool.false_eq_true, if_false] at hr
    split at hr
    · rename_i c hcc
      cases hr
      obtain ⟨v, h1, h2, h3⟩ := hc 0 x (by rw [hcc]; rfl)
      have : zv.cells = #[zv] := by cases zv <;> first | rfl | simp [ha] at hform
      rw [this] at h1
      simp at h1; subst h1; exact h3
    · cases hr

theorem out_rv {x : AV} {v : Value} {ok b : Bool} (hr : RV F m x v) : RV F m (if ok then .tup [x, .d (.bool b)] else x) (if ok then .tuple #[v, .bool b] else v) := by
  cases ok with
  | false => exact hr
  | true =>
    refine .tup (fun i => (#[v, Value.bool b] : Array Value).getD i Go.undef) rfl ?_ ?_
    · intro i c hi
      match i, hi with
      | 0, _ => rfl
      | 1, _ => rfl
      | i + 2, hi => simp at hi
    · intro i c hi
      match i, hi with
      | 0, hi => simp at hi; subst hi; exact hr
      | 1, hi => simp at hi; subst hi; exact .d (.bool _)
      | i + 2, hi => simp at hi

theorem prim_lookup {t x k ok} (hE : EnvR F m N e a) (hG : GlobR F G) (hS : St F m w h) (hx : (prim P G e base ⟨d, .lookup t x k ok, ty, pos, aft, none⟩).run h = some y) : Does P a ⟨d, .lookup t x k ok, ty, pos, aft, none⟩ F m w h y := by
  simp only [prim] at hx
  cases hxv : ev G e x with
  | none => simp [hxv, AM.run] at hx
  | some mv =>
    cases hk : ev G e k with
    | none => simp [hxv, hk, AM.run] at hx
    | some kv =>
      simp only [hxv, hk] at hx
      have r1 := ev_rv hE hG hxv
      have r2 := ev_rv hE hG hk
      cases hkv : mapKV P t with
      | none => simp [hkv, AM.run] at hx
      | some q =>
        obtain ⟨kt, el⟩ := q
        simp only [hkv] at hx
        have hu := mapKV_some hkv
        split at hx
        · rename_i c z kd hc hz
          obtain ⟨dd, hud, hkind⟩ := key_kind hc
          cases r2 with
          | d r2 =>
            have fin : ∀ (r : Option AV) (s : Array MapEntry), (match (match r with | some x => some x | none => reAgg (isAg P el) (z.map .d)) with | some x => eff (if ok then .tup [x, .d (.bool r.isSome)] else x) | none => AM.fail).run h = some y →
                ((r = none ∧ Instr.findNow dd (a.eval k) s.toList 0 = some none) ∨ ∃ v j en, r = some v ∧ s.toList[j]? = some en ∧ Instr.findNow dd (a.eval k) s.toList 0 = some (some (0 + j, en.val)) ∧ RV F m v en.val) →
                (∀ zv, Instr.findNow dd (a.eval k) s.toList 0 = some none → (zeroValue el).run P w = .ok zv w → (execOp a.eval ⟨d, .lookup t x k ok, ty, pos, aft, none⟩).run P w = .ok (.value (if ok then .tuple #[zv, .bool false] else zv)) w) →
                (∀ i v, Instr.findNow dd (a.eval k) s.toList 0 = some (some (i, v)) → (execOp a.eval ⟨d, .lookup t x k ok, ty, pos, aft, none⟩).run P w = .ok (.value (if ok then .tuple #[v, .bool true] else v)) w) →
                Does P a ⟨d, .lookup t x k ok, ty, pos, aft, none⟩ F m w h y := by
              intro r s hr hfind hA hB
              rcases hfind with ⟨rfl, g1⟩ | ⟨v, j, en, rfl, g1, g2, g3⟩
              · cases hra : reAgg (isAg P el) (z.map .d) with
                | none => simp [hra, AM.run] at hr
                | some x' =>
                  simp only [hra] at hr
                  have := eff_run hr; subst this
                  obtain ⟨zv, z1, z2⟩ := zero_rv (P := P) (w := w) hz hra
                  exact Does.val hS (hA zv g1 z1) (out_rv z2)
              · simp only at hr
                have := eff_run hr; subst this
                exact Does.val hS (hB _ _ g2) (out_rv g3)
            split at hx
            · have hav : a.eval x = .map none := by cases r1 with | d r1 => generalize a.eval x = av at r1; cases r1; rfl
              refine fin none #[] hx (.inl ⟨rfl, rfl⟩) (fun zv h1 h2 => ?_) (fun i v h1 => ?_)
              · simp only [execOp, Instr.lookup, hav, Sem.run_bind, underlying_run hu, Result.andThen_ok, Sem.run_pure, checkKey_run (n := 9999) hud hkind, findKey_run hud h1, h2]
              · simp only [execOp, Instr.lookup, hav, Sem.run_bind, underlying_run hu, Result.andThen_ok, Sem.run_pure, checkKey_run (n := 9999) hud hkind, findKey_run hud h1]
            · rename_i id
              obtain ⟨ob, hob, hx2⟩ := obj_run hx
              obtain ⟨l, hl, hobr⟩ := hS.obj id ob hob
              split at hx2
              · rename_i es
                cases hf : mapFind c kd es with
                | none => simp [hf, AM.run] at hx2
                | some r =>
                  simp only [hf] at hx2
                  obtain ⟨q1, q2, ents, clock, q3, q4, q5⟩ := hobr
                  have hent := entL_of (s := ents.toList) (by simpa using q4) (fun i k v hi => by simpa using q5 i k v hi)
                  have hav : a.eval x = .map (some l.b) := by
                    generalize a.eval x = av at r1
                    cases r1 with | @map _ l' hl' => rw [hl] at hl'; cases hl'; rfl
                  refine fin r ents hx2 (find_now hkind r2 hf hent) (fun zv h1 h2 => ?_) (fun i v h1 => ?_)
                  · simp only [execOp, Instr.lookup, hav, Sem.run_bind, underlying_run hu, getObj_run (P := P) q3 (by simp), Result.andThen_ok, Sem.run_pure, checkKey_run (n := 9999) hud hkind, findKey_run hud h1, h2]
                  · simp only [execOp, Instr.lookup, hav, Sem.run_bind, underlying_run hu, getObj_run (P := P) q3 (by simp), Result.andThen_ok, Sem.run_pure, checkKey_run (n := 9999) hud hkind, findKey_run hud h1]
              · simp [AM.run] at hx2
            · simp [AM.run] at hx
        · simp [AM.run] at hx
end ops

section all
variable {F : Fz} {m : Mp} {N : Nat} {e : Env} {a : Act} {G : Nat → Option (List DV)} {base : Nat} {h : Heap} {w : World} {y : Eff}
/-- Every operation that calls nothing does what its abstract form says. -/
theorem prim_does {o : Oper} (hfn : ∀ fn f c i, o.op = .makeFunc fn f c → fn ≠ .yield i) (hE : EnvR F m N e a) (hG : GlobR F G) (hS : St F m w h) (hb : base ≤ h.length) (hm : m base = none) (hx : (prim P G e base o).run h = some y) : Does P a o F m w h y := by
  obtain ⟨d, op, ty, pos, aft, g⟩ := o
  have hx : (prim P G e base ⟨d, op, ty, pos, aft, none⟩).run h = some y := hx
  suffices Does P a ⟨d, op, ty, pos, aft, none⟩ F m w h y from this
  cases op with
  | move x => exact prim_move hE hG hS hx
  | assign x => exact prim_assign hE hG hS hx
  | pick c x z => exact prim_pick hE hG hS hx
  | alloc t => exact prim_alloc hS hb hm hx
  | box t x => exact prim_box hE hG hS hb hm hx
  | build t ps => exact prim_build hE hG hS hx
  | buildSlice t n ps => exact prim_buildSlice hE hG hS hb hm hx
  | load t x => exact prim_load hE hG hS hx
  | store t x z => exact prim_store hE hG hS hx
  | nilCheck x => exact prim_nilCheck hE hG hS hx
  | binOp op t x z yt => exact prim_binOp hE hG hS hx
  | unOp op t x => exact prim_unOp hE hG hS hx
  | convert s t x => exact prim_convert hE hG hS hx
  | makeInterface t x => exact prim_makeInterface hE hG hS hx
  | makeFunc fn f c => exact prim_makeFunc (fun i => hfn fn f c i rfl) hE hG hS hx
  | makeMap t r => exact prim_makeMap hS hb hm hx
  | makeSlice t x z => exact prim_makeSlice hE hG hS hb hm hx
  | slice t x lo hi mx => exact prim_slice hE hG hS hx
  | fieldAddr s x f => exact prim_fieldAddr hE hG hS hx
  | field t x f => exact prim_field hE hG hS hx
  | indexAddr t x ix => exact prim_indexAddr hE hG hS hx
  | index t x ix => exact prim_index hE hG hS hx
  | lookup t x k ok => exact prim_lookup hE hG hS hx
  | mapUpdate t mo k x => exact prim_mapSet (.inl rfl) hE hG hS hx
  | insert t mo k x => exact prim_mapSet (.inr rfl) hE hG hS hx
  | range t x => exact prim_range hE hG hS hb hm hx
  | next it s => cases s with
    | true => exact prim_next hE hG hS hx
    | false => simp [prim, AM.run] at hx
  | typeAssert x xt at' ok => exact prim_typeAssert hE hG hS hx
  | extract x i => exact prim_extract hE hG hS hx
  | call c =>
    obtain ⟨cal, args, ats⟩ := c
    cases cal with
    | builtin b =>
      cases b with
      | len => exact prim_len hE hG hS rfl hx
      | append => exact prim_append hE hG hS hb hm rfl hx
      | copy => exact prim_copy hE hG hS rfl hx
      | min => exact prim_min hE hG hS rfl hx
      | max => exact prim_max hE hG hS rfl hx
      | _ =>
        simp only [prim] at hx
        cases hv : evs G e args.toList with
        | none => simp [hv, AM.run] at hx
        | some vs => simp [hv, AM.run] at hx
    | value f => simp [prim, AM.run] at hx
    | invoke r n => simp [prim, AM.run] at hx
  | _ => simp [prim, AM.run] at hx
end all
end Go.Ab
namespace Go.Ab

theorem renL_mapF {ρ : Nat → Nat} : ∀ {cs : List AV}, AV.renL ρ cs = cs.map (AV.ren ρ)
  | [] => by simp [AV.renL]
  | c :: r => by simp [AV.renL, renL_mapF]
theorem idsL_flat : ∀ {cs : List AV}, AV.idsL cs = cs.flatMap AV.ids
  | [] => by simp [AV.idsL]
  | c :: r => by simp [AV.idsL, idsL_flat]
theorem mem_idsL {cs : List AV} {i : Nat} {c : AV} {n : Nat} (h : cs[i]? = some c) (hn : n ∈ c.ids) : n ∈ AV.idsL cs := by
  rw [idsL_flat, List.mem_flatMap]; exact ⟨c, List.mem_of_getElem? h, hn⟩

theorem rv_ren {F : Fz} {m m' : Mp} {ρ : Nat → Nat} {v x} (h : RV F m v x) : (∀ i ∈ v.ids, m' (ρ i) = m i) → RV F m' (v.ren ρ) x := by
  induction h with
  | d h => intro _; rw [AV.ren]; exact .d h
  | @agg cs arr val h1 h2 h3 ih =>
    intro hi
    rw [AV.ren, renL_mapF]
    refine .agg val (by simpa using h1) (fun i c hc => ?_) (fun i c hc => ?_)
    · simp only [List.getElem?_map, Option.map_eq_some_iff] at hc
      obtain ⟨c', hc', rfl⟩ := hc; exact h2 i c' hc'
    · simp only [List.getElem?_map, Option.map_eq_some_iff] at hc
      obtain ⟨c', hc', rfl⟩ := hc
      exact ih i c' hc' (fun n hn => hi n (by rw [AV.ids]; exact mem_idsL hc' hn))
  | @tup cs arr val h1 h2 h3 ih =>
    intro hi
    rw [AV.ren, renL_mapF]
    refine .tup val (by simpa using h1) (fun i c hc => ?_) (fun i c hc => ?_)
    · simp only [List.getElem?_map, Option.map_eq_some_iff] at hc
      obtain ⟨c', hc', rfl⟩ := hc; exact h2 i c' hc'
    · simp only [List.getElem?_map, Option.map_eq_some_iff] at hc
      obtain ⟨c', hc', rfl⟩ := hc
      exact ih i c' hc' (fun n hn => hi n (by rw [AV.ids]; exact mem_idsL hc' hn))
  | ptr h => intro hi; rw [AV.ren]; exact .ptr (by rw [hi _ (by simp [AV.ids])]; exact h)
  | sl h1 h2 h3 h4 h5 h6 => intro hi; rw [AV.ren]; exact .sl (by rw [hi _ (by simp [AV.ids])]; exact h1) h2 h3 h4 h5 h6
  | map h => intro hi; rw [AV.ren]; exact .map (by rw [hi _ (by simp [AV.ids])]; exact h)
  | @fn f g as bs cs ds va vb h1 h2 h3 h4 h5 h6 h7 ih1 ih2 =>
    intro hi
    have hids : ∀ n, n ∈ AV.idsL as ∨ n ∈ AV.idsL bs → m' (ρ n) = m n := by
      intro n hn
      refine hi n ?_
      cases f <;> simp only [AV.ids, List.mem_append] <;> (rcases hn with h | h <;> simp [h])
    have hf : ∃ f', (AV.fn f as bs).ren ρ = .fn f' (as.map (AV.ren ρ)) (bs.map (AV.ren ρ)) ∧ RF m' f' g := by
      cases f with
      | yield l =>
        refine ⟨.yield (ρ l), by simp only [AV.ren, renL_mapF], ?_⟩
        cases g <;> simp only [RF] at h1
        obtain ⟨l', q1, q2⟩ := h1
        exact ⟨l', by rw [hi l (by simp [AV.ids])]; exact q1, q2⟩
      | func k => exact ⟨.func k, by simp only [AV.ren, renL_mapF], h1⟩
      | method n => exact ⟨.method n, by simp only [AV.ren, renL_mapF], h1⟩
      | methodOf t n => exact ⟨.methodOf t n, by simp only [AV.ren, renL_mapF], h1⟩
      | via p q r s => exact ⟨.via p q r s, by simp only [AV.ren, renL_mapF], h1⟩
    obtain ⟨f', e1, e2⟩ := hf
    rw [e1]
    refine .fn va vb e2 (by simpa using h2) (by simpa using h3) (fun i c hc => ?_) (fun i c hc => ?_) (fun i c hc => ?_) (fun i c hc => ?_)
    · simp only [List.getElem?_map, Option.map_eq_some_iff] at hc
      obtain ⟨c', hc', rfl⟩ := hc; exact h4 i c' hc'
    · simp only [List.getElem?_map, Option.map_eq_some_iff] at hc
      obtain ⟨c', hc', rfl⟩ := hc
      exact ih1 i c' hc' (fun n hn => hids n (.inl (mem_idsL hc' hn)))
    · simp only [List.getElem?_map, Option.map_eq_some_iff] at hc
      obtain ⟨c', hc', rfl⟩ := hc; exact h6 i c' hc'
    · simp only [List.getElem?_map, Option.map_eq_some_iff] at hc
      obtain ⟨c', hc', rfl⟩ := hc
      exact ih2 i c' hc' (fun n hn => hids n (.inr (mem_idsL hc' hn)))
  | ifc _ ih => intro hi; rw [AV.ren]; exact .ifc (ih (fun n hn => hi n (by rw [AV.ids]; exact hn)))
  | top => intro _; rw [AV.ren]; exact .top

/-- numbers that a value names have places -/
theorem rv_ids {F : Fz} {m : Mp} {v x} (h : RV F m v x) : ∀ i ∈ v.ids, ∃ l, m i = some l := by
  induction h with
  | d h => intro i hi; simp [AV.ids] at hi
  | @agg cs arr val h1 h2 h3 ih =>
    intro i hi
    rw [AV.ids, idsL_flat, List.mem_flatMap] at hi
    obtain ⟨c, hc, hn⟩ := hi
    obtain ⟨j, hj⟩ := List.mem_iff_getElem?.1 hc
    exact ih j c hj i hn
  | @tup cs arr val h1 h2 h3 ih =>
    intro i hi
    rw [AV.ids, idsL_flat, List.mem_flatMap] at hi
    obtain ⟨c, hc, hn⟩ := hi
    obtain ⟨j, hj⟩ := List.mem_iff_getElem?.1 hc
    exact ih j c hj i hn
  | ptr h => intro i hi; simp [AV.ids] at hi; subst hi; exact ⟨_, h⟩
  | sl h => intro i hi; simp [AV.ids] at hi; subst hi; exact ⟨_, h⟩
  | map h => intro i hi; simp [AV.ids] at hi; subst hi; exact ⟨_, h⟩
  | @fn f g as bs cs ds va vb h1 h2 h3 h4 h5 h6 h7 ih1 ih2 =>
    intro i hi
    have hi : (∃ l, f = .yield l ∧ i = l) ∨ i ∈ AV.idsL as ∨ i ∈ AV.idsL bs := by
      cases f <;> simp only [AV.ids, List.mem_append, List.mem_singleton, List.not_mem_nil, false_or] at hi
      case yield l => rcases hi with (h | h) | h
                      · exact .inl ⟨l, rfl, h⟩
                      · exact .inr (.inl h)
                      · exact .inr (.inr h)
      all_goals exact .inr hi
    rcases hi with ⟨l, rfl, rfl⟩ | hi | hi
    · cases g <;> simp only [RF] at h1
      obtain ⟨l', q1, q2⟩ := h1
      exact ⟨_, q1⟩
    · rw [idsL_flat, List.mem_flatMap] at hi
      obtain ⟨c, hc, hn⟩ := hi
      obtain ⟨j, hj⟩ := List.mem_iff_getElem?.1 hc
      exact ih1 j c hj i hn
    · rw [idsL_flat, List.mem_flatMap] at hi
      obtain ⟨c, hc, hn⟩ := hi
      obtain ⟨j, hj⟩ := List.mem_iff_getElem?.1 hc
      exact ih2 j c hj i hn
  | ifc _ ih => intro i hi; rw [AV.ids] at hi; exact ih i hi
  | top => intro i hi; simp [AV.ids] at hi

theorem rows_ren {F : Fz} {m m' : Mp} {ρ : Nat → Nat} {c o k} {es : List (List AV)} (h : Rows F m c o k es) (hi : ∀ i ∈ es.flatMap AV.idsL, m' (ρ i) = m i) : Rows F m' c o k (es.map (AV.renL ρ)) := by
  intro i j e x he hx
  simp only [List.getElem?_map, Option.map_eq_some_iff] at he
  obtain ⟨e', he', rfl⟩ := he
  rw [renL_mapF] at hx
  simp only [List.getElem?_map, Option.map_eq_some_iff] at hx
  obtain ⟨x', hx', rfl⟩ := hx
  obtain ⟨v, a, b, d⟩ := h i j e' x' he' hx'
  exact ⟨v, a, b, rv_ren d (fun n hn => hi n (by rw [List.mem_flatMap]; exact ⟨e', List.mem_of_getElem? he', mem_idsL hx' hn⟩))⟩
theorem rows_d {F : Fz} {m m' : Mp} {c o k} {es : List (List DV)} (h : Rows F m c o k (es.map (·.map .d))) : Rows F m' c o k (es.map (·.map .d)) := by
  intro i j e x he hx
  obtain ⟨v, a, b, d⟩ := h i j e x he hx
  simp only [List.getElem?_map, Option.map_eq_some_iff] at he
  obtain ⟨e', he', rfl⟩ := he
  simp only [List.getElem?_map, Option.map_eq_some_iff] at hx
  obtain ⟨x', hx', rfl⟩ := hx
  exact ⟨v, a, b, by cases d with | d d => exact .d d⟩

/-- an object, renumbered -/
theorem obj_ren {F : Fz} {m m' : Mp} {w : World} {ρ : Nat → Nat} {o l} (h : ObjR F m w o l) (hi : ∀ i ∈ o.ids, m' (ρ i) = m i) : ObjR F m' w (o.ren ρ) l := by
  cases o with
  | cells k es =>
    obtain ⟨a, b, c, d, e, c', T, fr, h1, h2, h3, h4⟩ := h
    refine ⟨a, b, by simpa using c, ?_, e, c', T, fr, h1, h2, h3, rows_ren h4 (by simpa [AO.ids] using hi)⟩
    intro e' he'
    simp only [List.mem_map] at he'
    obtain ⟨e'', he'', rfl⟩ := he'
    rw [renL_mapF]; simpa using d e'' he''
  | flat k es =>
    obtain ⟨a, b, c, d, e, c', T, fr, h1, h2, h3, h4⟩ := h
    exact ⟨a, b, c, d, e, c', T, fr, h1, h2, h3, rows_d h4⟩
  | frz k es =>
    obtain ⟨a, b, c, d, c', h1, h4⟩ := h
    exact ⟨a, b, c, d, c', h1, rows_d h4⟩
  | siter s pos => exact h
  | map es =>
    obtain ⟨a, b, ents, clock, h1, h2, h3⟩ := h
    refine ⟨a, b, ents, clock, h1, by simpa using h2, fun i k v hv => ?_⟩
    simp only [List.getElem?_map, Option.map_eq_some_iff] at hv
    obtain ⟨⟨k', v'⟩, hv', he⟩ := hv
    cases he
    obtain ⟨en, e1, e2, e3⟩ := h3 i k' v' hv'
    refine ⟨en, e1, e2, rv_ren e3 (fun n hn => hi n ?_)⟩
    simp only [AO.ids, List.mem_flatMap]
    exact ⟨(k', v'), List.mem_of_getElem? hv', hn⟩
  | loop => exact h.elim
theorem ren_live {o : AO} {ρ} : (o.ren ρ).isLive = o.isLive := by cases o <;> rfl

theorem rows_ids {F : Fz} {m : Mp} {c o k} {es : List (List AV)} (h : Rows F m c o k es) : ∀ i ∈ es.flatMap AV.idsL, ∃ l, m i = some l := by
  intro i hi
  rw [List.mem_flatMap] at hi
  obtain ⟨e, he, hn⟩ := hi
  rw [idsL_flat, List.mem_flatMap] at hn
  obtain ⟨x, hx, hn⟩ := hn
  obtain ⟨p, hp⟩ := List.mem_iff_getElem?.1 he
  obtain ⟨q, hq⟩ := List.mem_iff_getElem?.1 hx
  obtain ⟨v, _, _, d⟩ := h p q e x hp hq
  exact rv_ids d i hn
theorem obj_ids {F : Fz} {m : Mp} {w : World} {o l} (h : ObjR F m w o l) : ∀ i ∈ o.ids, ∃ l, m i = some l := by
  cases o with
  | cells k es => obtain ⟨a, b, c, d, e, c', T, fr, h1, h2, h3, h4⟩ := h; exact rows_ids h4
  | map es =>
    obtain ⟨a, b, ents, clock, h1, h2, h3⟩ := h
    intro i hi
    simp only [AO.ids, List.mem_flatMap] at hi
    obtain ⟨⟨k, v⟩, hv, hn⟩ := hi
    obtain ⟨p, hp⟩ := List.mem_iff_getElem?.1 hv
    obtain ⟨en, _, _, e3⟩ := h3 p k v hp
    exact rv_ids e3 i hn
  | loop => exact h.elim
  | _ => intro i hi; simp [AO.ids] at hi

/-- reaching: each met once, all that they name is met -/
theorem reach_ok {stop : Nat → Bool} {h : Heap} : ∀ (n : Nat) (todo : List Nat) (done res : List (Nat × Option AO)), (reachM stop n todo done).run h = some res →
    (done.map (·.1)).Nodup → (∀ p ∈ done, h[p.1]? = some p.2) → (∀ p ∈ done, ∀ o, p.2 = some o → stop p.1 = false → ∀ j ∈ o.ids, j ∈ todo ∨ j ∈ done.map (·.1)) →
    (res.map (·.1)).Nodup ∧ (∀ p ∈ res, h[p.1]? = some p.2) ∧ (∀ p ∈ res, ∀ o, p.2 = some o → stop p.1 = false → ∀ j ∈ o.ids, j ∈ res.map (·.1)) ∧ (∀ j ∈ todo, j ∈ res.map (·.1)) ∧ ∃ more, res = done ++ more
  | 0, [], done, res, h', h1, h2, h3 => by
    simp only [reachM, AM.run, Option.some.injEq] at h'; subst h'
    exact ⟨h1, h2, fun p hp o ho hs j hj => by simpa using h3 p hp o ho hs j hj, by simp, [], by simp⟩
  | 0, _ :: _, _, _, h', _, _, _ => by simp [reachM, AM.run] at h'
  | n + 1, [], done, res, h', h1, h2, h3 => by
    simp only [reachM, AM.run, Option.some.injEq] at h'; subst h'
    exact ⟨h1, h2, fun p hp o ho hs j hj => by simpa using h3 p hp o ho hs j hj, by simp, [], by simp⟩
  | n + 1, i :: todo, done, res, h', h1, h2, h3 => by
    simp only [reachM] at h'
    split at h'
    · rename_i hc
      have hin : i ∈ done.map (·.1) := by
        simp only [List.any_eq_true, beq_iff_eq] at hc
        obtain ⟨p, hp, rfl⟩ := hc
        exact List.mem_map_of_mem hp
      obtain ⟨a, b, c, d, more, e⟩ := reach_ok n todo done res h' h1 h2 (fun p hp o ho hs j hj => by
        rcases h3 p hp o ho hs j hj with q | q
        · rcases List.mem_cons.1 q with rfl | q
          · exact .inr hin
          · exact .inl q
        · exact .inr q)
      refine ⟨a, b, c, fun j hj => ?_, more, e⟩
      rcases List.mem_cons.1 hj with rfl | hj
      · rw [e, List.map_append, List.mem_append]; exact .inl hin
      · exact d j hj
    · rename_i hc
      have hnin : i ∉ done.map (·.1) := by
        intro hin
        apply hc
        obtain ⟨p, hp, rfl⟩ := List.mem_map.1 hin
        simp only [List.any_eq_true, beq_iff_eq]
        exact ⟨p, hp, rfl⟩
      simp only [AM.run] at h'
      cases hi : h[i]? with
      | none => simp [hi] at h'
      | some o =>
        simp only [hi] at h'
        obtain ⟨a, b, c, d, more, e⟩ := reach_ok n _ _ res h' (by rw [List.map_append, List.nodup_append]; exact ⟨h1, by simp, by simp only [List.map_cons, List.map_nil, List.mem_singleton]; rintro x hx y rfl rfl; exact hnin hx⟩)
          (fun p hp => by
            rcases List.mem_append.1 hp with hp | hp
            · exact h2 p hp
            · simp only [List.mem_singleton] at hp; subst hp; exact hi)
          (fun p hp o' ho hs j hj => by
            rcases List.mem_append.1 hp with hp | hp
            · rcases h3 p hp o' ho hs j hj with q | q
              · rcases List.mem_cons.1 q with rfl | q
                · exact .inr (by simp)
                · exact .inl (List.mem_append_left _ q)
              · exact .inr (by rw [List.map_append]; exact List.mem_append_left _ q)
            · simp only [List.mem_singleton] at hp; subst hp
              simp only at ho hs; subst ho
              exact .inl (List.mem_append_right _ (by simp only [idsOf, hs]; exact hj)))
        refine ⟨a, b, c, fun j hj => ?_, (i, o) :: more, by simpa using e⟩
        rcases List.mem_cons.1 hj with rfl | hj
        · rw [e]; simp
        · exact d j (List.mem_append_left _ hj)
end Go.Ab
namespace Go.Ab
variable {F : Fz} {m : Mp} {w : World} {h : Heap}

open Classical in
/-- frozen blocks, and the blocks of some objects -/
noncomputable def FF (F : Fz) (m : Mp) (w : World) (h : Heap) (ids : List Nat) : Fz := fun b =>
  match F b with
  | some c => some c
  | none => if ∃ i ∈ ids, ∃ ob k ct l, h[i]? = some (some ob) ∧ ob.live? = some (k, ct) ∧ m i = some l ∧ l.b = b then
      (match w.heap[b]? with | some (.cells c _ _) => some c | _ => none) else none

theorem FF_ext {ids b c} (hb : F b = some c) : FF F m w h ids b = some c := by simp [FF, hb]
theorem FF_old {ids b} (hb : ∀ i ∈ ids, ∀ ob k ct l, h[i]? = some (some ob) → ob.live? = some (k, ct) → m i = some l → l.b ≠ b) : FF F m w h ids b = F b := by
  unfold FF
  cases hF : F b with
  | some c => rfl
  | none =>
    simp only
    rw [if_neg]
    rintro ⟨i, hi, ob, k, ct, l, h1, h2, h3, h4⟩
    exact hb i hi ob k ct l h1 h2 h3 h4
theorem FF_new {ids i ob k ct l c T fr} (hi : i ∈ ids) (h1 : h[i]? = some (some ob)) (h2 : ob.live? = some (k, ct)) (h3 : m i = some l) (h4 : F l.b = none) (h5 : w.heap[l.b]? = some (.cells c T fr)) : FF F m w h ids l.b = some c := by
  unfold FF
  rw [h4]
  simp only
  rw [if_pos ⟨i, hi, ob, k, ct, l, h1, h2, h3, rfl⟩, h5]
theorem FF_cells (s : St F m w h) {ids b c} (hb : FF F m w h ids b = some c) : ∃ T fr, w.heap[b]? = some (.cells c T fr) := by
  unfold FF at hb
  cases hF : F b with
  | some c' => rw [hF] at hb; simp only [Option.some.injEq] at hb; subst hb; exact s.frz b c' hF
  | none =>
    rw [hF] at hb
    simp only at hb
    split at hb
    · split at hb
      · rename_i c' T fr hw; cases hb; exact ⟨T, fr, hw⟩
      · cases hb
    · cases hb

theorem norm_rd {F : Fz} {v x} (h : RD F v x) : RD F v.norm x := by
  cases h with
  | snil => exact .fslE (fun h => by cases h) (fun h => by cases h) (fun _ => rfl)
  | fslE h1 h2 h3 => exact .fslE (fun h => by cases h) (fun h => by cases h) h3
  | fsl val h1 h2 h3 h4 h5 h6 h7 h8 h9 => exact .fsl val h1 h2 h3 h4 (fun h => by cases h) h6 h7 h8 h9
  | bool b => exact .bool b
  | int k n => exact .int k n
  | str s => exact .str s
  | nilp => exact .nilp
  | mnil => exact .mnil
  | fnil => exact .fnil
  | inil => exact .inil
  | fptr val h1 h2 h3 => exact .fptr val h1 h2 h3

/-- what a frozen object shows through a slice -/
theorem slice_rd {F : Fz} {m m' : Mp} {w : World} {k es id off len full l x} {nn ful' : Bool} (ho : ObjR F m' w (.frz k es) l) (hx : RV F m (.sl id off len full) x) (hl : m id = some l) (hle : off + len ≤ es.length) (hfull : ful' = true → full = true) :
    RD F (.fsl ((es.drop off).take len) nn ful') x := by
  obtain ⟨hk, hk0, hcap, hlen, c, hF, hrows⟩ := ho
  cases hx with
  | @sl _ _ _ _ l' a cap g1 g2 g3 g4 g5 g6 =>
    rw [hl] at g1; cases g1
    by_cases h0 : len = 0
    · subst h0
      rw [List.take_zero]
      exact .fslE (fun _ => by simp) (fun h => g3 (hfull h)) (fun h => by cases h)
    · have ha := g6 (by omega)
      subst ha
      have hn : ((es.drop off).take len).length = len := by simp; omega
      refine .fsl (c := c) (k := k) (fun i j => c.getD (l.o + off * l.k + (i * k + j)) Go.undef) ?_ hn.symm hF g2 (fun h => g3 (hfull h)) hk0 ?_ ?_ ?_
      · intro hcon; rw [hcon] at hn; simp at hn; omega
      · intro e he; exact hlen e (List.mem_of_mem_drop (List.mem_of_mem_take he))
      · intro i j e y hi hj
        obtain ⟨h1, h2⟩ := extract_drop hi
        have hi' : (es.map (·.map AV.d))[off + i]? = some (e.map AV.d) := by simp [h2]
        obtain ⟨v, q1, q2, q3⟩ := hrows (off + i) j (e.map AV.d) (.d y) hi' (by simp [hj])
        have e1 : l.o + ((off + i) * k + j) = l.o + off * l.k + (i * k + j) := by rw [hk, Nat.add_mul]; omega
        rw [e1] at q1
        simp [q1]
      · intro i j e y hi hj
        obtain ⟨h1, h2⟩ := extract_drop hi
        have hi' : (es.map (·.map AV.d))[off + i]? = some (e.map AV.d) := by simp [h2]
        obtain ⟨v, q1, q2, q3⟩ := hrows (off + i) j (e.map AV.d) (.d y) hi' (by simp [hj])
        have e1 : l.o + ((off + i) * k + j) = l.o + off * l.k + (i * k + j) := by rw [hk, Nat.add_mul]; omega
        rw [e1] at q1
        have : c.getD (l.o + off * l.k + (i * k + j)) Go.undef = v := by simp [q1]
        rw [this]
        cases q3 with | d q3 => exact q3
theorem ptr_rd {F : Fz} {m m' : Mp} {w : World} {k es id i o l x e} (ho : ObjR F m' w (.frz k es) l) (hx : RV F m (.ptr id i o) x) (hl : m id = some l) (he : es[i]? = some e) : RD F (.fptr e o) x := by
  obtain ⟨hk, hk0, hcap, hlen, c, hF, hrows⟩ := ho
  cases hx with
  | @ptr _ _ _ l' g1 =>
    rw [hl] at g1; cases g1
    have hi' : (es.map (·.map AV.d))[i]? = some (e.map AV.d) := by simp [he]
    have := RD.fptr (F := F) (e := e) (o := o) (b := l.b) (c := c) (off := l.o + i * k) (fun j => c.getD (l.o + i * k + j) Go.undef) hF (fun j y hj => by
      obtain ⟨v, q1, q2, q3⟩ := hrows i j (e.map AV.d) (.d y) hi' (by simp [hj])
      rw [← Nat.add_assoc] at q1; simp [q1]) (fun j y hj => by
      obtain ⟨v, q1, q2, q3⟩ := hrows i j (e.map AV.d) (.d y) hi' (by simp [hj])
      rw [← Nat.add_assoc] at q1
      have : c.getD (l.o + i * k + j) Go.undef = v := by simp [q1]
      rw [this]
      cases q3 with | d q3 => exact q3)
    rw [hk, ← Nat.add_assoc]; exact this

/-- an object, frozen -/
def FrzE (F' : Fz) (m : Mp) (w : World) (h : Heap) (p : Nat × Option AO) : Prop :=
  ∃ k es l ob ct, p.2 = some (.frz k es) ∧ h[p.1]? = some (some ob) ∧ ob.cont? = some (k, ct) ∧ m p.1 = some l ∧ ObjR F' m w (.frz k es) l

theorem frz_flat (s : St F m w h) {ids id k es l} (hid : id ∈ ids) (hob : h[id]? = some (some (.flat k es))) (hl : m id = some l) : ObjR (FF F m w h ids) m w (.frz k (es.map (·.map DV.norm))) l := by
  obtain ⟨l', hl', ho⟩ := s.obj id _ hob
  rw [hl] at hl'; cases hl'
  obtain ⟨a, b, c, d, e, c', T, fr, h1, h2, h3, h4⟩ := ho
  refine ⟨a, b, by simpa using c, ?_, c', FF_new hid hob rfl hl e h1, ?_⟩
  · intro e' he'
    simp only [List.mem_map] at he'
    obtain ⟨e'', he'', rfl⟩ := he'
    have := d (e''.map AV.d) (by simp; exact ⟨e'', he'', rfl⟩)
    simpa using this
  · intro i j e' x hi hj
    simp only [List.getElem?_map, Option.map_eq_some_iff] at hi
    obtain ⟨_, ⟨e'', he'', rfl⟩, rfl⟩ := hi
    simp only [List.getElem?_map, Option.map_eq_some_iff] at hj
    obtain ⟨_, ⟨x'', hx'', rfl⟩, rfl⟩ := hj
    obtain ⟨v, q1, q2, q3⟩ := h4 i j (e''.map AV.d) (.d x'') (by simp [he'']) (by simp [hx''])
    refine ⟨v, q1, q2, ?_⟩
    cases q3 with | d q3 => exact .d (norm_rd (q3.mono (fun _ _ h => FF_ext h)))
theorem frz_frz (s : St F m w h) {ids id k es l} (hob : h[id]? = some (some (.frz k es))) (hl : m id = some l) : ObjR (FF F m w h ids) m w (.frz k es) l := by
  obtain ⟨l', hl', ho⟩ := s.obj id _ hob
  rw [hl] at hl'; cases hl'
  exact ho.mono (fun _ _ h => FF_ext h) (fun _ _ h => h) (fun h => by cases h)

/-- rows that are walked one by one -/
theorem row_spec {f : AV → AM (DV × List (Nat × Option AO))} : ∀ {cs : List AV} {ds ws}, (treeM.row f cs).run h = some (ds, ws) →
    ds.length = cs.length ∧ (∀ (j : Nat) v, cs[j]? = some v → ∃ dv wv, ds[j]? = some dv ∧ (f v).run h = some (dv, wv) ∧ ∀ p ∈ wv, p ∈ ws) ∧ ∀ p ∈ ws, ∃ (j : Nat) (v : AV) (dv : DV) (wv : List (Nat × Option AO)), cs[j]? = some v ∧ (f v).run h = some (dv, wv) ∧ p ∈ wv
  | [], ds, ws, hr => by
    simp only [treeM.row, AM.run, Option.some.injEq, Prod.mk.injEq] at hr
    obtain ⟨rfl, rfl⟩ := hr
    exact ⟨rfl, fun j v hj => by simp at hj, fun p hp => by simp at hp⟩
  | c :: r, ds, ws, hr => by
    change ((f c).bind fun q => (treeM.row f r).bind fun q' => .ret (q.1 :: q'.1, q.2 ++ q'.2)).run h = some (ds, ws) at hr
    rw [am_bind] at hr
    cases h1 : (f c).run h with
    | none => simp [h1] at hr
    | some q =>
      simp only [h1, Option.bind_some] at hr
      rw [am_bind] at hr
      cases h2 : (treeM.row f r).run h with
      | none => simp [h2] at hr
      | some q' =>
        simp only [h2, Option.bind_some, AM.run, Option.some.injEq, Prod.mk.injEq] at hr
        obtain ⟨rfl, rfl⟩ := hr
        obtain ⟨l, a, b⟩ := row_spec h2
        refine ⟨by simp [l], fun j v hj => ?_, fun p hp => ?_⟩
        · cases j with
          | zero => simp only [List.getElem?_cons_zero, Option.some.injEq] at hj; subst hj; exact ⟨q.1, q.2, rfl, h1, fun p hp => List.mem_append_left _ hp⟩
          | succ j =>
            obtain ⟨dv, wv, x1, x2, x3⟩ := a j v hj
            exact ⟨dv, wv, x1, x2, fun p hp => List.mem_append_right _ (x3 p hp)⟩
        · rcases List.mem_append.1 hp with hp | hp
          · exact ⟨0, c, q.1, q.2, rfl, h1, hp⟩
          · obtain ⟨j, v, dv, wv, x1, x2, x3⟩ := b p hp
            exact ⟨j + 1, v, dv, wv, x1, x2, x3⟩
theorem rows_spec {f : AV → AM (DV × List (Nat × Option AO))} : ∀ {es : List (List AV)} {ds ws}, (treeM.rows f es).run h = some (ds, ws) →
    ds.length = es.length ∧ (∀ (i : Nat) e, es[i]? = some e → ∃ de, ds[i]? = some de ∧ de.length = e.length ∧ ∀ (j : Nat) v, e[j]? = some v → ∃ dv wv, de[j]? = some dv ∧ (f v).run h = some (dv, wv) ∧ ∀ p ∈ wv, p ∈ ws) ∧
      ∀ p ∈ ws, ∃ (i j : Nat) (e : List AV) (v : AV) (dv : DV) (wv : List (Nat × Option AO)), es[i]? = some e ∧ e[j]? = some v ∧ (f v).run h = some (dv, wv) ∧ p ∈ wv
  | [], ds, ws, hr => by
    simp only [treeM.rows, AM.run, Option.some.injEq, Prod.mk.injEq] at hr
    obtain ⟨rfl, rfl⟩ := hr
    exact ⟨rfl, fun j v hj => by simp at hj, fun p hp => by simp at hp⟩
  | c :: r, ds, ws, hr => by
    change ((treeM.row f c).bind fun q => (treeM.rows f r).bind fun q' => .ret (q.1 :: q'.1, q.2 ++ q'.2)).run h = some (ds, ws) at hr
    rw [am_bind] at hr
    cases h1 : (treeM.row f c).run h with
    | none => simp [h1] at hr
    | some q =>
      simp only [h1, Option.bind_some] at hr
      rw [am_bind] at hr
      cases h2 : (treeM.rows f r).run h with
      | none => simp [h2] at hr
      | some q' =>
        simp only [h2, Option.bind_some, AM.run, Option.some.injEq, Prod.mk.injEq] at hr
        obtain ⟨rfl, rfl⟩ := hr
        obtain ⟨l, a, b⟩ := rows_spec h2
        obtain ⟨l1, a1, b1⟩ := row_spec h1
        refine ⟨by simp [l], fun i e hi => ?_, fun p hp => ?_⟩
        · cases i with
          | zero =>
            simp only [List.getElem?_cons_zero, Option.some.injEq] at hi; subst hi
            refine ⟨q.1, rfl, l1, fun j v hj => ?_⟩
            obtain ⟨dv, wv, x1, x2, x3⟩ := a1 j v hj
            exact ⟨dv, wv, x1, x2, fun p hp => List.mem_append_left _ (x3 p hp)⟩
          | succ i =>
            obtain ⟨de, y1, y2, y3⟩ := a i e hi
            refine ⟨de, y1, y2, fun j v hj => ?_⟩
            obtain ⟨dv, wv, x1, x2, x3⟩ := y3 j v hj
            exact ⟨dv, wv, x1, x2, fun p hp => List.mem_append_right _ (x3 p hp)⟩
        · rcases List.mem_append.1 hp with hp | hp
          · obtain ⟨j, v, dv, wv, x1, x2, x3⟩ := b1 p hp
            exact ⟨0, j, c, v, dv, wv, rfl, x1, x2, x3⟩
          · obtain ⟨i, j, e, v, dv, wv, x0, x1, x2, x3⟩ := b p hp
            exact ⟨i + 1, j, e, v, dv, wv, x0, x1, x2, x3⟩
end Go.Ab
namespace Go.Ab
variable {F : Fz} {m : Mp} {w : World} {h : Heap}

theorem frz_cells (s : St F m w h) {ids id k es es' l} (hid : id ∈ ids) (hob : h[id]? = some (some (.cells k es))) (hl : m id = some l) (hlen : es'.length = es.length)
    (hrow : ∀ (i : Nat) e, es[i]? = some e → ∃ de, es'[i]? = some de ∧ de.length = e.length ∧ ∀ (j : Nat) v, e[j]? = some v → ∃ dv, de[j]? = some dv ∧ ∀ x, RV F m v x → RD (FF F m w h ids) dv x) :
    ObjR (FF F m w h ids) m w (.frz k es') l := by
  obtain ⟨l', hl', ho⟩ := s.obj id _ hob
  rw [hl] at hl'; cases hl'
  obtain ⟨a, b, c, d, e, c', T, fr, h1, h2, h3, h4⟩ := ho
  refine ⟨a, b, by omega, ?_, c', FF_new hid hob rfl hl e h1, ?_⟩
  · intro e' he'
    obtain ⟨i, hi⟩ := List.mem_iff_getElem?.1 he'
    have hlt : i < es.length := by rw [← hlen]; exact (List.getElem?_eq_some_iff.1 hi).1
    obtain ⟨de, q1, q2, _⟩ := hrow i _ (List.getElem?_eq_getElem hlt)
    rw [hi] at q1; cases q1
    rw [q2]; exact d _ (List.getElem_mem hlt)
  · intro i j e' x hi hj
    simp only [List.getElem?_map, Option.map_eq_some_iff] at hi
    obtain ⟨de', hde', rfl⟩ := hi
    simp only [List.getElem?_map, Option.map_eq_some_iff] at hj
    obtain ⟨dv', hdv', rfl⟩ := hj
    have hlt : i < es.length := by rw [← hlen]; exact (List.getElem?_eq_some_iff.1 hde').1
    have hes := List.getElem?_eq_getElem hlt
    obtain ⟨de, q1, q2, q3⟩ := hrow i _ hes
    rw [hde'] at q1; cases q1
    have hlt2 : j < (es[i]).length := by rw [← q2]; exact (List.getElem?_eq_some_iff.1 hdv').1
    obtain ⟨dv, r1, r2⟩ := q3 j _ (List.getElem?_eq_getElem hlt2)
    rw [hdv'] at r1; cases r1
    obtain ⟨v, x1, x2, x3⟩ := h4 i j _ _ hes (List.getElem?_eq_getElem hlt2)
    exact ⟨v, x1, x2, .d (r2 v x3)⟩

theorem tree_ok (s : St F m w h) : ∀ (n : Nat) (ptrs : Bool) (v : AV) (dv : DV) (wr : List (Nat × Option AO)), (treeM n ptrs v).run h = some (dv, wr) → ∀ x, RV F m v x → ∀ ids : List Nat, (∀ p ∈ wr, p.1 ∈ ids) →
    RD (FF F m w h ids) dv x ∧ ∀ p ∈ wr, FrzE (FF F m w h ids) m w h p
  | 0, _, _, _, _, hr, _, _, _, _ => by simp [treeM, AM.run] at hr
  | n + 1, ptrs, v, dv, wr, hr, x, hx, ids, hids => by
    have rows : ∀ ptrs k es es' ws id l, (treeM.rows (treeM n ptrs) es).run h = some (es', ws) → h[id]? = some (some (.cells k es)) → m id = some l → id ∈ ids → (∀ p ∈ ws, p.1 ∈ ids) →
        ObjR (FF F m w h ids) m w (.frz k es') l ∧ ∀ p ∈ ws, FrzE (FF F m w h ids) m w h p := by
      intro ptrs k es es' ws id l hrun hob hl hid hws
      obtain ⟨l', hl', ho⟩ := s.obj id _ hob
      rw [hl] at hl'; cases hl'
      obtain ⟨_, _, _, _, _, c', T, fr, h1, h2, h3, h4⟩ := ho
      obtain ⟨r1, r2, r3⟩ := rows_spec hrun
      refine ⟨frz_cells s hid hob hl r1 (fun i e hi => ?_), fun p hp => ?_⟩
      · obtain ⟨de, q1, q2, q3⟩ := r2 i e hi
        refine ⟨de, q1, q2, fun j v hj => ?_⟩
        obtain ⟨dv, wv, y1, y2, y3⟩ := q3 j v hj
        exact ⟨dv, y1, fun x hx => (tree_ok s n ptrs v dv wv y2 x hx ids (fun p hp => hws p (y3 p hp))).1⟩
      · obtain ⟨i, j, e, v, dv, wv, x0, x1, x2, x3⟩ := r3 p hp
        obtain ⟨xv, z1, z2, z3⟩ := h4 i j e v x0 x1
        obtain ⟨de, q1, q2, q3⟩ := r2 i e x0
        obtain ⟨dv', wv', y1, y2, y3⟩ := q3 j v x1
        rw [x2] at y2; cases y2
        exact (tree_ok s n ptrs v dv wv x2 xv z3 ids (fun p hp => hws p (y3 p hp))).2 p x3
    unfold treeM at hr
    split at hr
    · rename_i heq; cases heq
    · rename_i v'
      simp only [AM.run, Option.some.injEq, Prod.mk.injEq] at hr
      obtain ⟨rfl, rfl⟩ := hr
      cases hx with
      | d hx => exact ⟨norm_rd (hx.mono (fun _ _ h => FF_ext h)), fun p hp => by simp at hp⟩
    · rename_i pp nn bb n' ptrs' id off len full heq
      cases heq
      obtain ⟨ob, hob, hr2⟩ := obj_run hr
      have fin : ∀ k es ws, ((if off + len ≤ es.length then AM.ret (DV.fsl ((es.drop off).take len) false false, (id, some (AO.frz k es)) :: ws) else AM.fail).run h = some (dv, wr)) → (∃ ct, ob.cont? = some (k, ct)) →
          (∀ l, m id = some l → id ∈ ids → (∀ p ∈ ws, p.1 ∈ ids) → ObjR (FF F m w h ids) m w (.frz k es) l ∧ ∀ p ∈ ws, FrzE (FF F m w h ids) m w h p) → RD (FF F m w h ids) dv x ∧ ∀ p ∈ wr, FrzE (FF F m w h ids) m w h p := by
        intro k es ws hrun hct hob'
        split at hrun
        · rename_i hle
          simp only [AM.run, Option.some.injEq, Prod.mk.injEq] at hrun
          obtain ⟨rfl, rfl⟩ := hrun
          obtain ⟨l, hl, _⟩ := s.obj id ob hob
          obtain ⟨o1, o2⟩ := hob' l hl (hids (id, some (AO.frz k es)) (by simp)) (fun p hp => hids p (by simp [hp]))
          obtain ⟨ct, hct⟩ := hct
          refine ⟨slice_rd o1 (hx.mono (fun _ _ h => FF_ext h) (fun _ _ h => h)) hl hle (fun h => by cases h), fun p hp => ?_⟩
          rcases List.mem_cons.1 hp with rfl | hp
          · exact ⟨k, es, l, ob, ct, rfl, hob, hct, hl, o1⟩
          · exact o2 p hp
        · simp [AM.run] at hrun
      cases ob with
      | flat k es => exact fin k _ [] hr2 ⟨_, rfl⟩ (fun l hl hid _ => ⟨frz_flat s hid hob hl, by simp⟩)
      | frz k es => exact fin k _ [] hr2 ⟨_, rfl⟩ (fun l hl hid _ => ⟨frz_frz s hob hl, by simp⟩)
      | cells k es =>
        change ((treeM.rows (treeM n pp) es).bind fun q => if off + len ≤ q.1.length then AM.ret (DV.fsl ((q.1.drop off).take len) false false, (id, some (AO.frz k q.1)) :: q.2) else AM.fail).run h = some (dv, wr) at hr2
        rw [am_bind] at hr2
        cases hq : (treeM.rows (treeM n pp) es).run h with
        | none => simp [hq] at hr2
        | some q =>
          simp only [hq, Option.bind_some] at hr2
          exact fin k q.1 q.2 hr2 ⟨_, rfl⟩ (fun l hl hid hws => rows _ k es q.1 q.2 id l hq hob hl hid hws)
      | _ => simp [AM.run] at hr2
    · rename_i n' id i o heq
      cases heq
      obtain ⟨ob, hob, hr2⟩ := obj_run hr
      have fin : ∀ k es ws, ((match es[i]? with | some e => AM.ret (DV.fptr e o, (id, some (AO.frz k es)) :: ws) | none => AM.fail).run h = some (dv, wr)) → (∃ ct, ob.cont? = some (k, ct)) →
          (∀ l, m id = some l → id ∈ ids → (∀ p ∈ ws, p.1 ∈ ids) → ObjR (FF F m w h ids) m w (.frz k es) l ∧ ∀ p ∈ ws, FrzE (FF F m w h ids) m w h p) → RD (FF F m w h ids) dv x ∧ ∀ p ∈ wr, FrzE (FF F m w h ids) m w h p := by
        intro k es ws hrun hct hob'
        split at hrun
        · rename_i e he
          simp only [AM.run, Option.some.injEq, Prod.mk.injEq] at hrun
          obtain ⟨rfl, rfl⟩ := hrun
          obtain ⟨l, hl, _⟩ := s.obj id ob hob
          obtain ⟨o1, o2⟩ := hob' l hl (hids (id, some (AO.frz k es)) (by simp)) (fun p hp => hids p (by simp [hp]))
          obtain ⟨ct, hct⟩ := hct
          refine ⟨ptr_rd o1 (hx.mono (fun _ _ h => FF_ext h) (fun _ _ h => h)) hl he, fun p hp => ?_⟩
          rcases List.mem_cons.1 hp with rfl | hp
          · exact ⟨k, es, l, ob, ct, rfl, hob, hct, hl, o1⟩
          · exact o2 p hp
        · simp [AM.run] at hrun
      cases ob with
      | flat k es => exact fin k _ [] hr2 ⟨_, rfl⟩ (fun l hl hid _ => ⟨frz_flat s hid hob hl, by simp⟩)
      | frz k es => exact fin k _ [] hr2 ⟨_, rfl⟩ (fun l hl hid _ => ⟨frz_frz s hob hl, by simp⟩)
      | cells k es =>
        change ((treeM.rows (treeM n true) es).bind fun q => match q.1[i]? with | some e => AM.ret (DV.fptr e o, (id, some (AO.frz k q.1)) :: q.2) | none => AM.fail).run h = some (dv, wr) at hr2
        rw [am_bind] at hr2
        cases hq : (treeM.rows (treeM n true) es).run h with
        | none => simp [hq] at hr2
        | some q =>
          simp only [hq, Option.bind_some] at hr2
          exact fin k q.1 q.2 hr2 ⟨_, rfl⟩ (fun l hl hid hws => rows true k es q.1 q.2 id l hq hob hl hid hws)
      | _ => simp [AM.run] at hr2
    · simp [AM.run] at hr
/-- The tree of a slice: the slice's own object, and what it holds. -/
theorem tree_sl (s : St F m w h) {n : Nat} {ptrs : Bool} {id off len : Nat} {full : Bool} {dv : DV} {wr : List (Nat × Option AO)} {ob : AO} {k : Nat} {ct : Cont} (hob : h[id]? = some (some ob)) (hlive : ob.live? = some (k, ct))
    (hr : (treeM (n + 1) ptrs (.sl id off len full)).run h = some (dv, wr)) : ∃ es ws, wr = (id, some (.frz k es)) :: ws ∧ ∀ ids : List Nat, (∀ p ∈ ws, p.1 ∈ ids) → (∀ p ∈ ws, FrzE (FF F m w h ids) m w h p) ∧
      ∀ l, m id = some l → FF F m w h ids l.b = none → ObjR (FF F m w h ids) m w (.flat k es) l := by
  unfold treeM at hr
  obtain ⟨ob', hob', hr2⟩ := obj_run hr
  rw [hob] at hob'; cases hob'
  cases ob with
  | flat k' es =>
    simp only [AO.live?, Option.some.injEq, Prod.mk.injEq] at hlive
    obtain ⟨rfl, rfl⟩ := hlive
    change ((if off + len ≤ (es.map (·.map DV.norm)).length then AM.ret (DV.fsl (((es.map (·.map DV.norm)).drop off).take len) false false, [(id, some (AO.frz k' (es.map (·.map DV.norm))))]) else AM.fail).run h = some (dv, wr)) at hr2
    split at hr2
    · simp only [AM.run, Option.some.injEq, Prod.mk.injEq] at hr2
      obtain ⟨rfl, rfl⟩ := hr2
      refine ⟨_, [], rfl, fun ids _ => ⟨by simp, fun l hl hF => ?_⟩⟩
      obtain ⟨l', hl', ho⟩ := s.obj id _ hob
      rw [hl] at hl'; cases hl'
      obtain ⟨a, b, c, d, e, c', T, fr, h1, h2, h3, h4⟩ := ho
      refine ⟨a, b, by simpa using c, ?_, hF, c', T, fr, h1, h2, h3, ?_⟩
      · intro e' he'
        simp only [List.mem_map] at he'
        obtain ⟨_, ⟨e'', he'', rfl⟩, rfl⟩ := he'
        have := d (e''.map AV.d) (by simp; exact ⟨e'', he'', rfl⟩)
        simpa using this
      · intro i j e' x hi hj
        simp only [List.getElem?_map, Option.map_eq_some_iff] at hi
        obtain ⟨_, ⟨e'', he'', rfl⟩, rfl⟩ := hi
        simp only [List.getElem?_map, Option.map_eq_some_iff] at hj
        obtain ⟨_, ⟨x'', hx'', rfl⟩, rfl⟩ := hj
        obtain ⟨v, q1, q2, q3⟩ := h4 i j (e''.map AV.d) (.d x'') (by simp [he'']) (by simp [hx''])
        refine ⟨v, q1, q2, ?_⟩
        cases q3 with | d q3 => exact .d (norm_rd (q3.mono (fun _ _ h => FF_ext h)))
    · simp [AM.run] at hr2
  | cells k' es =>
    simp only [AO.live?, Option.some.injEq, Prod.mk.injEq] at hlive
    obtain ⟨rfl, rfl⟩ := hlive
    change ((treeM.rows (treeM n ptrs) es).bind fun q => if off + len ≤ q.1.length then AM.ret (DV.fsl ((q.1.drop off).take len) false false, (id, some (AO.frz k' q.1)) :: q.2) else AM.fail).run h = some (dv, wr) at hr2
    rw [am_bind] at hr2
    cases hq : (treeM.rows (treeM n ptrs) es).run h with
    | none => simp [hq] at hr2
    | some q =>
      simp only [hq, Option.bind_some] at hr2
      split at hr2
      · simp only [AM.run, Option.some.injEq, Prod.mk.injEq] at hr2
        obtain ⟨rfl, rfl⟩ := hr2
        obtain ⟨r1, r2, r3⟩ := rows_spec hq
        refine ⟨_, q.2, rfl, fun ids hids => ?_⟩
        obtain ⟨l', hl', ho⟩ := s.obj id _ hob
        obtain ⟨a, b, c, d, e, c', T, fr, h1, h2, h3, h4⟩ := ho
        refine ⟨fun p hp => ?_, fun l hl hF => ?_⟩
        · obtain ⟨i, j, e, v, dv, wv, x0, x1, x2, x3⟩ := r3 p hp
          obtain ⟨xv, z1, z2, z3⟩ := h4 i j e v x0 x1
          obtain ⟨de, q1, q2, q3⟩ := r2 i e x0
          obtain ⟨dv', wv', y1, y2, y3⟩ := q3 j v x1
          rw [x2] at y2; cases y2
          exact (tree_ok s n ptrs v dv wv x2 xv z3 ids (fun p hp => hids p (y3 p hp))).2 p x3
        · rw [hl] at hl'; cases hl'
          refine ⟨a, b, by simp only [List.length_map]; omega, ?_, hF, c', T, fr, h1, h2, h3, ?_⟩
          · intro e' he'
            simp only [List.mem_map] at he'
            obtain ⟨e'', he'', rfl⟩ := he'
            obtain ⟨i, hi⟩ := List.mem_iff_getElem?.1 he''
            have hlt : i < es.length := by rw [← r1]; exact (List.getElem?_eq_some_iff.1 hi).1
            obtain ⟨de, q1, q2, _⟩ := r2 i _ (List.getElem?_eq_getElem hlt)
            rw [hi] at q1; cases q1
            rw [List.length_map, q2]; exact d _ (List.getElem_mem hlt)
          · intro i j e' x hi hj
            simp only [List.getElem?_map, Option.map_eq_some_iff] at hi
            obtain ⟨de', hde', rfl⟩ := hi
            simp only [List.getElem?_map, Option.map_eq_some_iff] at hj
            obtain ⟨dv', hdv', rfl⟩ := hj
            have hlt : i < es.length := by rw [← r1]; exact (List.getElem?_eq_some_iff.1 hde').1
            have hes := List.getElem?_eq_getElem hlt
            obtain ⟨de, q1, q2, q3⟩ := r2 i _ hes
            rw [hde'] at q1; cases q1
            have hlt2 : j < (es[i]).length := by rw [← q2]; exact (List.getElem?_eq_some_iff.1 hdv').1
            obtain ⟨dv, wv, y1, y2, y3⟩ := q3 j _ (List.getElem?_eq_getElem hlt2)
            rw [hdv'] at y1; cases y1
            obtain ⟨v, x1, x2, x3⟩ := h4 i j _ _ hes (List.getElem?_eq_getElem hlt2)
            exact ⟨v, x1, x2, .d (tree_ok s n ptrs _ dv' wv y2 v x3 ids (fun p hp => hids p (y3 p hp))).1⟩
      · simp [AM.run] at hr2
  | _ => simp [AO.live?] at hlive
end Go.Ab
namespace Go.Ab
variable {F : Fz} {m : Mp} {w : World} {h : Heap}

theorem put_mem : ∀ {wr : List (Nat × Option AO)} {h : Heap}, (∀ p ∈ wr, p.1 < h.length) → (put h wr).length = h.length ∧ ∀ x, ((put h wr)[x]? = h[x]? ∧ x ∉ wr.map (·.1)) ∨ ∃ o, (x, o) ∈ wr ∧ (put h wr)[x]? = some o
  | [], h, _ => ⟨rfl, fun x => .inl ⟨rfl, by simp⟩⟩
  | (i, o) :: r, h, hlt => by
    have hi : i < h.length := hlt (i, o) (by simp)
    simp only [put, if_pos hi]
    obtain ⟨a, b⟩ := put_mem (wr := r) (h := h.set i o) (fun p hp => by simpa using hlt p (by simp [hp]))
    refine ⟨by simpa using a, fun x => ?_⟩
    rcases b x with ⟨b1, b2⟩ | ⟨o', b1, b2⟩
    · by_cases hx : x = i
      · subst hx
        refine .inr ⟨o, by simp, ?_⟩
        rw [b1, List.getElem?_set_self hi]
      · refine .inl ⟨?_, by simp only [List.map_cons, List.mem_cons, not_or]; exact ⟨hx, b2⟩⟩
        rw [b1, List.getElem?_set_ne (by omega)]
    · exact .inr ⟨o', by simp [b1], b2⟩

/-- freezing turns no world -/
theorem freeze_st (s : St F m w h) {wr : List (Nat × Option AO)} (hwr : ∀ p ∈ wr, FrzE (FF F m w h (wr.map (·.1))) m w h p) :
    St (FF F m w h (wr.map (·.1))) m w (put h wr) ∧ Ev F m w h (FF F m w h (wr.map (·.1))) m w (put h wr) := by
  have hlt : ∀ p ∈ wr, p.1 < h.length := by
    intro p hp
    obtain ⟨k, es, l, ob, ct, h1, h2, h3, h4, h5⟩ := hwr p hp
    exact s.dom _ _ h4
  obtain ⟨hlen, hget⟩ := put_mem hlt
  have live : ∀ x o, (put h wr)[x]? = some (some o) → o.isLive = true → h[x]? = some (some o) ∧ x ∉ wr.map (·.1) := by
    intro x o hx hv
    rcases hget x with ⟨a, b⟩ | ⟨o', a, b⟩
    · exact ⟨by rw [← a]; exact hx, b⟩
    · rw [b] at hx; cases hx
      obtain ⟨k, es, l, ob, ct, h1, _⟩ := hwr _ a
      simp only [Option.some.injEq] at h1; subst h1; cases hv
  have hFl : ∀ x o l, h[x]? = some (some o) → o.isLive = true → m x = some l → x ∉ wr.map (·.1) → FF F m w h (wr.map (·.1)) l.b = F l.b := by
    intro x o l hx hv hl hn
    refine FF_old (fun i hi ob k ct l' g1 g2 g3 g4 => ?_)
    have := s.sep i x ob o l' l g1 hx (live_cont g2).2 hv g3 hl g4
    subst this; exact hn hi
  refine ⟨⟨fun i l hi => by rw [hlen]; exact s.dom i l hi, fun x o hx => ?_, fun i j o o' l l' hi hj v1 v2 m1 m2 e => ?_, fun b c hb => FF_cells s hb⟩,
    ⟨fun _ _ h => FF_ext h, fun _ _ h => h, Nat.le_refl _, rfl, rfl, rfl, fun b _ ho => ⟨rfl, ?_, ?_⟩, by rw [hlen]; exact Nat.le_refl _⟩⟩
  · rcases hget x with ⟨a, b⟩ | ⟨o', a, b⟩
    · rw [a] at hx
      obtain ⟨l, hl, ho⟩ := s.obj x o hx
      exact ⟨l, hl, ho.mono (fun _ _ h => FF_ext h) (fun _ _ h => h) (fun hv => ⟨rfl, hFl x o l hx hv hl b⟩)⟩
    · rw [b] at hx; cases hx
      obtain ⟨k, es, l, ob, ct, h1, h2, h3, h4, h5⟩ := hwr _ a
      simp only [Option.some.injEq] at h1; subst h1
      exact ⟨l, h4, h5⟩
  · exact s.sep i j o o' l l' (live i o hi v1).1 (live j o' hj v2).1 v1 v2 m1 m2 e
  · refine FF_old (fun i _ ob k ct l g1 g2 g3 g4 => ho ⟨i, ob, l, g1, (live_cont g2).2, g3, g4⟩)
  · rintro ⟨x, o, l, hx, hv, hl, hb⟩
    exact ho ⟨x, o, l, (live x o hx hv).1, hv, hl, hb⟩

/-- a value that went over a border -/
def Passed (F : Fz) (m : Mp) (w : World) (h : Heap) (v v' : AV) (wr : List (Nat × Option AO)) : Prop :=
  ∀ x, RV F m v x → ∀ ids : List Nat, (∀ p ∈ wr, p.1 ∈ ids) → RV (FF F m w h ids) m v' x ∧ ∀ p ∈ wr, FrzE (FF F m w h ids) m w h p

theorem Passed.same {v} : Passed F m w h v v [] := fun _ hx _ _ => ⟨hx.mono (fun _ _ h => FF_ext h) (fun _ _ h => h), fun p hp => by simp at hp⟩

theorem nils_rd {F : Fz} {m : Mp} {id off len full x} {es : List (List DV)} {nn ful : Bool} (hx : RV F m (.sl id off len full) x) {F' : Fz} (h : RD F' (.fsl es nn ful) x) : RD F' (.fsl es true full) x := by
  cases hx with
  | @sl _ _ _ _ l a cap g1 g2 g3 g4 g5 g6 =>
    cases h with
    | fslE q1 q2 q3 => exact .fslE (fun _ => by simp) (fun hf => g3 hf) q3
    | fsl val q1 q2 q3 q4 q5 q6 q7 q8 q9 => 
      rename_i r1 r2 r3
      exact .fsl val (by assumption) (by assumption) (by assumption) (by assumption) (fun hf => g3 hf) (by assumption) (by assumption) (by assumption) (by assumption)

/-- a slice of which it is known that it is not nil -/
def nilTweak (nils full : Bool) (dv : DV) : DV := match nils, dv with
  | true, .fsl es _ _ => .fsl es true full
  | _, v => v
theorem pass1_ok (s : St F m w h) {nils ptrs : Bool} {v v' wr} (hr : (passM.pass1 nils ptrs v).run h = some (v', wr)) : Passed F m w h v v' wr := by
  intro x hx ids hids
  unfold passM.pass1 at hr
  split at hr
  · rename_i dv
    simp only [AM.run, Option.some.injEq, Prod.mk.injEq] at hr
    obtain ⟨rfl, rfl⟩ := hr
    refine ⟨?_, fun p hp => by simp at hp⟩
    cases hx with
    | d hx =>
      have := hx.mono (F' := FF F m w h ids) (fun _ _ h => FF_ext h)
      cases nils with
      | true => exact .d this
      | false => exact .d (norm_rd this)
  · rename_i id off len full
    change ((treeM depth ptrs (.sl id off len full)).bind fun q => .ret (.d (nilTweak nils full q.1), q.2)).run h = some (v', wr) at hr
    rw [am_bind] at hr
    cases hq : (treeM depth ptrs (.sl id off len full)).run h with
    | none => simp [hq] at hr
    | some q =>
      obtain ⟨dv, wq⟩ := q
      simp only [hq, Option.bind_some, AM.run, Option.some.injEq, Prod.mk.injEq] at hr
      obtain ⟨rfl, rfl⟩ := hr
      obtain ⟨t1, t2⟩ := tree_ok s depth ptrs _ dv wq hq x hx ids hids
      refine ⟨.d ?_, t2⟩
      cases nils with
      | false => exact t1
      | true =>
        cases dv with
        | fsl es nn ful => exact nils_rd hx t1
        | _ => exact t1
  · rename_i id i o
    cases ptrs with
    | false =>
      simp only [Bool.false_eq_true, if_false, AM.run, Option.some.injEq, Prod.mk.injEq] at hr
      obtain ⟨rfl, rfl⟩ := hr
      exact Passed.same x hx ids hids
    | true =>
      simp only [if_true] at hr
      change ((treeM depth true (.ptr id i o)).bind fun q => .ret (.d q.1, q.2)).run h = some (v', wr) at hr
      rw [am_bind] at hr
      cases hq : (treeM depth true (.ptr id i o)).run h with
      | none => simp [hq] at hr
      | some q =>
        simp only [hq, Option.bind_some, AM.run, Option.some.injEq, Prod.mk.injEq] at hr
        obtain ⟨rfl, rfl⟩ := hr
        obtain ⟨t1, t2⟩ := tree_ok s depth true _ q.1 q.2 hq x hx ids hids
        exact ⟨.d t1, t2⟩
  · simp only [AM.run, Option.some.injEq, Prod.mk.injEq] at hr
    obtain ⟨rfl, rfl⟩ := hr
    exact Passed.same x hx ids hids

/-- lists of values over a border -/
def PassedL (F : Fz) (m : Mp) (w : World) (h : Heap) (vs vs' : List AV) (wr : List (Nat × Option AO)) : Prop :=
  vs'.length = vs.length ∧ ∀ xs : Nat → Value, (∀ (i : Nat) v, vs[i]? = some v → RV F m v (xs i)) → ∀ ids : List Nat, (∀ p ∈ wr, p.1 ∈ ids) → (∀ (i : Nat) v, vs'[i]? = some v → RV (FF F m w h ids) m v (xs i)) ∧ ∀ p ∈ wr, FrzE (FF F m w h ids) m w h p
theorem PassedL.nil : PassedL F m w h [] [] [] := ⟨rfl, fun xs _ ids _ => ⟨fun i v hi => by simp at hi, fun p hp => by simp at hp⟩⟩
theorem PassedL.cons {v v' vs vs' wr wr'} (h1 : Passed F m w h v v' wr) (h2 : PassedL F m w h vs vs' wr') : PassedL F m w h (v :: vs) (v' :: vs') (wr ++ wr') := by
  refine ⟨by simp [h2.1], fun xs hxs ids hids => ?_⟩
  obtain ⟨a1, a2⟩ := h1 (xs 0) (hxs 0 v rfl) ids (fun p hp => hids p (List.mem_append_left _ hp))
  obtain ⟨b1, b2⟩ := h2.2 (fun i => xs (i + 1)) (fun i u hi => hxs (i + 1) u hi) ids (fun p hp => hids p (List.mem_append_right _ hp))
  refine ⟨fun i u hi => ?_, fun p hp => ?_⟩
  · cases i with
    | zero => simp only [List.getElem?_cons_zero, Option.some.injEq] at hi; subst hi; exact a1
    | succ i => exact b1 i u hi
  · rcases List.mem_append.1 hp with hp | hp
    · exact a2 p hp
    · exact b2 p hp
theorem list_ok {f : AV → AM (AV × List (Nat × Option AO))} {g : List AV → AM (List AV × List (Nat × Option AO))} (hg0 : g [] = .ret ([], [])) (hg1 : ∀ c r, g (c :: r) = (f c).bind fun q => (g r).bind fun q' => .ret (q.1 :: q'.1, q.2 ++ q'.2))
    (hf : ∀ v v' wr, (f v).run h = some (v', wr) → Passed F m w h v v' wr) : ∀ {vs vs' wr}, (g vs).run h = some (vs', wr) → PassedL F m w h vs vs' wr
  | [], vs', wr, hr => by
    rw [hg0] at hr
    simp only [AM.run, Option.some.injEq, Prod.mk.injEq] at hr
    obtain ⟨rfl, rfl⟩ := hr
    exact .nil
  | c :: r, vs', wr, hr => by
    rw [hg1, am_bind] at hr
    cases h1 : (f c).run h with
    | none => simp [h1] at hr
    | some q =>
      simp only [h1, Option.bind_some] at hr
      rw [am_bind] at hr
      cases h2 : (g r).run h with
      | none => simp [h2] at hr
      | some q' =>
        simp only [h2, Option.bind_some, AM.run, Option.some.injEq, Prod.mk.injEq] at hr
        obtain ⟨rfl, rfl⟩ := hr
        exact .cons (hf c q.1 q.2 h1) (list_ok hg0 hg1 hf h2)
end Go.Ab
namespace Go.Ab
variable {F : Fz} {m : Mp} {w : World} {h : Heap}

theorem listed_agg (cs : List AV) (vs' : List AV) (wr : List (Nat × Option AO)) (hp : PassedL F m w h cs vs' wr) (hone : ∀ (i : Nat) v' , vs'[i]? = some v' → True) : Passed F m w h (.agg cs) (.agg vs') wr := by
  intro x hx ids hids
  cases hx with
  | @agg _ arr val h1 h2 h3 =>
    obtain ⟨a, b⟩ := hp.2 val h3 ids hids
    refine ⟨.agg val (by rw [hp.1]; exact h1) (fun i c hi => ?_) a, b⟩
    have hlt : i < cs.length := by rw [← hp.1]; exact (List.getElem?_eq_some_iff.1 hi).1
    exact h2 i _ (List.getElem?_eq_getElem hlt)
theorem listed_tup (cs : List AV) (vs' : List AV) (wr : List (Nat × Option AO)) (hp : PassedL F m w h cs vs' wr) : Passed F m w h (.tup cs) (.tup vs') wr := by
  intro x hx ids hids
  cases hx with
  | @tup _ arr val h1 h2 h3 =>
    obtain ⟨a, b⟩ := hp.2 val h3 ids hids
    refine ⟨.tup val (by rw [hp.1]; exact h1) (fun i c hi => ?_) a, b⟩
    have hlt : i < cs.length := by rw [← hp.1]; exact (List.getElem?_eq_some_iff.1 hi).1
    exact h2 i _ (List.getElem?_eq_getElem hlt)

theorem pass1s_ok (s : St F m w h) {nils ptrs : Bool} {vs vs' wr} (hr : (passM.pass1s nils ptrs vs).run h = some (vs', wr)) : PassedL F m w h vs vs' wr :=
  list_ok (f := passM.pass1 nils ptrs) (g := passM.pass1s nils ptrs) rfl (fun _ _ => rfl) (fun _ _ _ h => pass1_ok s h) hr

theorem pass2_ok (s : St F m w h) {nils ptrs : Bool} {v v' wr} (hr : (passM.pass2 nils ptrs v).run h = some (v', wr)) : Passed F m w h v v' wr := by
  unfold passM.pass2 at hr
  split at hr
  · rename_i cs
    change ((passM.pass1s nils ptrs cs).bind fun q => .ret (.agg q.1, q.2)).run h = some (v', wr) at hr
    rw [am_bind] at hr
    cases hq : (passM.pass1s nils ptrs cs).run h with
    | none => simp [hq] at hr
    | some q =>
      simp only [hq, Option.bind_some, AM.run, Option.some.injEq, Prod.mk.injEq] at hr
      obtain ⟨rfl, rfl⟩ := hr
      exact listed_agg cs q.1 q.2 (pass1s_ok s hq) (fun _ _ _ => trivial)
  · exact pass1_ok s hr
theorem pass2s_ok (s : St F m w h) {nils ptrs : Bool} {vs vs' wr} (hr : (passM.pass2s nils ptrs vs).run h = some (vs', wr)) : PassedL F m w h vs vs' wr :=
  list_ok (f := passM.pass2 nils ptrs) (g := passM.pass2s nils ptrs) rfl (fun _ _ => rfl) (fun _ _ _ h => pass2_ok s h) hr

theorem passM_ok (s : St F m w h) {nils ptrs : Bool} {v v' wr} (hr : (passM nils ptrs v).run h = some (v', wr)) : Passed F m w h v v' wr := by
  cases v with
  | d v => exact pass1_ok s (nils := nils) (ptrs := ptrs) hr
  | sl id off len full => exact pass1_ok s (nils := nils) (ptrs := ptrs) hr
  | ptr id i o => exact pass1_ok s (nils := nils) (ptrs := ptrs) hr
  | agg cs => exact pass2_ok s (nils := nils) (ptrs := ptrs) hr
  | tup cs =>
    change ((passM.pass2s nils ptrs cs).bind fun q => .ret (.tup q.1, q.2)).run h = some (v', wr) at hr
    rw [am_bind] at hr
    cases hq : (passM.pass2s nils ptrs cs).run h with
    | none => simp [hq] at hr
    | some q =>
      simp only [hq, Option.bind_some, AM.run, Option.some.injEq, Prod.mk.injEq] at hr
      obtain ⟨rfl, rfl⟩ := hr
      exact listed_tup cs q.1 q.2 (pass2s_ok s hq)
  | ifc t v =>
    cases v with
    | agg cs =>
      change ((passM.pass1s nils ptrs cs).bind fun q => .ret (.ifc t (.agg q.1), q.2)).run h = some (v', wr) at hr
      rw [am_bind] at hr
      cases hq : (passM.pass1s nils ptrs cs).run h with
      | none => simp [hq] at hr
      | some q =>
        simp only [hq, Option.bind_some, AM.run, Option.some.injEq, Prod.mk.injEq] at hr
        obtain ⟨rfl, rfl⟩ := hr
        intro x hx ids hids
        cases hx with
        | ifc hx =>
          obtain ⟨a, b⟩ := listed_agg cs q.1 q.2 (pass1s_ok s hq) (fun _ _ _ => trivial) _ hx ids hids
          exact ⟨.ifc a, b⟩
    | _ =>
      simp only [passM, AM.run, Option.some.injEq, Prod.mk.injEq] at hr
      obtain ⟨rfl, rfl⟩ := hr
      exact Passed.same
  | _ =>
    simp only [passM, AM.run, Option.some.injEq, Prod.mk.injEq] at hr
    obtain ⟨rfl, rfl⟩ := hr
    exact Passed.same
theorem passAll_ok (s : St F m w h) {nils ptrs : Bool} {vs vs' wr} (hr : (passAll nils ptrs vs).run h = some (vs', wr)) : PassedL F m w h vs vs' wr :=
  list_ok (f := passM nils ptrs) (g := passAll nils ptrs) rfl (fun _ _ => rfl) (fun _ _ _ h => passM_ok s h) hr
theorem PassedL.same {vs} : PassedL F m w h vs vs [] := ⟨rfl, fun _ hxs _ _ => ⟨fun i v hi => (hxs i v hi).mono (fun _ _ h => FF_ext h) (fun _ _ h => h), fun p hp => by simp at hp⟩⟩
end Go.Ab
namespace Go.Ab
variable {F : Fz} {m : Mp} {w : World} {h : Heap}

/-- a slice's object that stays, with deep data -/
def FlatE (F' : Fz) (m : Mp) (w : World) (h : Heap) (p : Nat × Option AO) : Prop :=
  ∃ k es l ob ct, p.2 = some (.flat k es) ∧ h[p.1]? = some (some ob) ∧ ob.live? = some (k, ct) ∧ m p.1 = some l ∧ (F' l.b = none → ObjR F' m w (.flat k es) l)
def Either (F' : Fz) (m : Mp) (w : World) (h : Heap) (p : Nat × Option AO) : Prop := (isFrz p.2 = true ∧ FrzE F' m w h p) ∨ FlatE F' m w h p

def Thawed (F : Fz) (m : Mp) (w : World) (h : Heap) (v v' : AV) (wr : List (Nat × Option AO)) : Prop :=
  v' = v ∧ ∀ ids : List Nat, (∀ p ∈ wr, isFrz p.2 = true → p.1 ∈ ids) → ∀ p ∈ wr, Either (FF F m w h ids) m w h p
theorem Thawed.same {v} : Thawed F m w h v v [] := ⟨rfl, fun _ _ p hp => by simp at hp⟩

theorem frzE_isFrz {F' : Fz} {p : Nat × Option AO} (h' : FrzE F' m w h p) : isFrz p.2 = true := by
  obtain ⟨k, es, l, ob, ct, h1, _⟩ := h'; rw [h1]; rfl

theorem thaw1_ok (s : St F m w h) {ptrs : Bool} {v v' wr} (hr : (thaw1 ptrs v).run h = some (v', wr)) (hv : ∀ i ∈ v.ids, ∃ l, m i = some l) : Thawed F m w h v v' wr := by
  unfold thaw1 at hr
  split at hr
  · rename_i id off len full
    obtain ⟨ob, hob, hr2⟩ := obj_run hr
    cases hlv : ob.live? with
    | none =>
      simp only [hlv, Option.isNone_none, if_true, AM.run, Option.some.injEq, Prod.mk.injEq] at hr2
      obtain ⟨rfl, rfl⟩ := hr2
      exact .same
    | some kc =>
      obtain ⟨k, ct⟩ := kc
      simp only [hlv, Option.isNone_some, Bool.false_eq_true, if_false] at hr2
      rw [am_bind] at hr2
      cases hq : (treeM depth ptrs (.sl id off len full)).run h with
      | none => simp [hq] at hr2
      | some q =>
        obtain ⟨dv, wq⟩ := q
        obtain ⟨es, ws, rfl, hws⟩ := tree_sl s (n := 11) hob hlv hq
        simp only [hq, Option.bind_some, AM.run, Option.some.injEq, Prod.mk.injEq] at hr2
        obtain ⟨rfl, rfl⟩ := hr2
        obtain ⟨l, hl⟩ := hv id (by simp [AV.ids])
        have hany : ∀ p ∈ ws, isFrz p.2 = true := by
          intro p hp
          exact frzE_isFrz ((hws (ws.map (·.1)) (fun p hp => List.mem_map_of_mem hp)).1 p hp)
        refine ⟨rfl, fun ids hids p hp => ?_⟩
        obtain ⟨t1, t2⟩ := hws ids (fun p hp => hids p (List.mem_cons_of_mem _ hp) (hany p hp))
        rcases List.mem_cons.1 hp with rfl | hp
        · exact .inr ⟨k, es, l, ob, ct, rfl, hob, hlv, hl, fun hF => t2 l hl hF⟩
        · exact .inl ⟨hany p hp, t1 p hp⟩
  · rename_i id i o
    obtain ⟨ob, hob, hr2⟩ := obj_run hr
    cases hlv : ob.live? with
    | none =>
      simp only [hlv, Option.isNone_none, if_true, AM.run, Option.some.injEq, Prod.mk.injEq] at hr2
      obtain ⟨rfl, rfl⟩ := hr2
      exact .same
    | some kc =>
      obtain ⟨k, ct⟩ := kc
      simp only [hlv, Option.isNone_some, Bool.false_eq_true, if_false] at hr2
      rw [am_bind] at hr2
      cases hq : (treeM depth ptrs (.sl id 0 0 true)).run h with
      | none => simp [hq] at hr2
      | some q =>
        obtain ⟨dv, wq⟩ := q
        obtain ⟨es, ws, rfl, hws⟩ := tree_sl s (n := 11) hob hlv hq
        simp only [hq, Option.bind_some, AM.run, Option.some.injEq, Prod.mk.injEq] at hr2
        obtain ⟨rfl, rfl⟩ := hr2
        obtain ⟨l, hl⟩ := hv id (by simp [AV.ids])
        have hany : ∀ p ∈ ws, isFrz p.2 = true := by
          intro p hp
          exact frzE_isFrz ((hws (ws.map (·.1)) (fun p hp => List.mem_map_of_mem hp)).1 p hp)
        refine ⟨rfl, fun ids hids p hp => ?_⟩
        obtain ⟨t1, t2⟩ := hws ids (fun p hp => hids p (List.mem_cons_of_mem _ hp) (hany p hp))
        rcases List.mem_cons.1 hp with rfl | hp
        · exact .inr ⟨k, es, l, ob, ct, rfl, hob, hlv, hl, fun hF => t2 l hl hF⟩
        · exact .inl ⟨hany p hp, t1 p hp⟩
  · simp only [AM.run, Option.some.injEq, Prod.mk.injEq] at hr
    obtain ⟨rfl, rfl⟩ := hr
    exact .same
theorem thaws_ok (s : St F m w h) {ptrs : Bool} : ∀ {vs vs' wr}, (thaws ptrs vs).run h = some (vs', wr) → (∀ i ∈ AV.idsL vs, ∃ l, m i = some l) → vs' = vs ∧ ∀ ids : List Nat, (∀ p ∈ wr, isFrz p.2 = true → p.1 ∈ ids) → ∀ p ∈ wr, Either (FF F m w h ids) m w h p
  | [], vs', wr, hr, _ => by
    simp only [thaws, AM.run, Option.some.injEq, Prod.mk.injEq] at hr
    obtain ⟨rfl, rfl⟩ := hr
    exact ⟨rfl, fun _ _ p hp => by simp at hp⟩
  | c :: r, vs', wr, hr, hv => by
    change ((thaw1 ptrs c).bind fun q => (thaws ptrs r).bind fun q' => .ret (q.1 :: q'.1, q.2 ++ q'.2)).run h = some (vs', wr) at hr
    rw [am_bind] at hr
    cases h1 : (thaw1 ptrs c).run h with
    | none => simp [h1] at hr
    | some q =>
      simp only [h1, Option.bind_some] at hr
      rw [am_bind] at hr
      cases h2 : (thaws ptrs r).run h with
      | none => simp [h2] at hr
      | some q' =>
        simp only [h2, Option.bind_some, AM.run, Option.some.injEq, Prod.mk.injEq] at hr
        obtain ⟨rfl, rfl⟩ := hr
        obtain ⟨a1, a2⟩ := thaw1_ok s h1 (fun i hi => hv i (by rw [AV.idsL]; exact List.mem_append_left _ hi))
        obtain ⟨b1, b2⟩ := thaws_ok s h2 (fun i hi => hv i (by rw [AV.idsL]; exact List.mem_append_right _ hi))
        refine ⟨by rw [a1, b1], fun ids hids p hp => ?_⟩
        rcases List.mem_append.1 hp with hp | hp
        · exact a2 ids (fun p hp => hids p (List.mem_append_left _ hp)) p hp
        · exact b2 ids (fun p hp => hids p (List.mem_append_right _ hp)) p hp
theorem thaw_ok (s : St F m w h) {ptrs : Bool} {v v' wr} (hr : (thaw ptrs v).run h = some (v', wr)) (hv : ∀ i ∈ v.ids, ∃ l, m i = some l) : Thawed F m w h v v' wr := by
  unfold thaw at hr
  split at hr
  · rename_i cs
    change ((thaws ptrs cs).bind fun q => .ret (.agg q.1, q.2)).run h = some (v', wr) at hr
    rw [am_bind] at hr
    cases hq : (thaws ptrs cs).run h with
    | none => simp [hq] at hr
    | some q =>
      simp only [hq, Option.bind_some, AM.run, Option.some.injEq, Prod.mk.injEq] at hr
      obtain ⟨rfl, rfl⟩ := hr
      obtain ⟨a, b⟩ := thaws_ok s hq (fun i hi => hv i (by rw [AV.ids]; exact hi))
      exact ⟨by rw [a], b⟩
  · exact thaw1_ok s hr hv

/-- ids of what is frozen -/
def frzIds (wr : List (Nat × Option AO)) : List Nat := (wr.filter fun p => isFrz p.2).map (·.1)
theorem thaw_st (s : St F m w h) {wr : List (Nat × Option AO)} (hok : thawOk wr = true) (hwr : ∀ p ∈ wr, Either (FF F m w h (frzIds wr)) m w h p) :
    (St (FF F m w h (frzIds wr)) m w (put h wr) ∧ ∀ p ∈ wr, p.1 < h.length ∧ ∃ o, p.2 = some o ∧ (∃ l, m p.1 = some l ∧ ObjR (FF F m w h (frzIds wr)) m w o l) ∧ o.ids = []) ∧ Ev F m w h (FF F m w h (frzIds wr)) m w (put h wr) := by
  have hlt : ∀ p ∈ wr, p.1 < h.length := by
    intro p hp
    rcases hwr p hp with ⟨_, k, es, l, ob, ct, h1, h2, h3, h4, h5⟩ | ⟨k, es, l, ob, ct, h1, h2, h3, h4, h5⟩ <;> exact s.dom _ _ h4
  obtain ⟨hlen, hget⟩ := put_mem hlt
  have hnot : ∀ x o, (x, o) ∈ wr → isFrz o = false → x ∉ frzIds wr := by
    intro x o hx ho hin
    simp only [frzIds, List.mem_map, List.mem_filter] at hin
    obtain ⟨p, ⟨hp, hp2⟩, hpe⟩ := hin
    unfold thawOk at hok
    rw [List.all_eq_true] at hok
    have := List.all_eq_true.1 (hok _ hx) p hp
    simp only [Bool.or_eq_true, bne_iff_ne, ne_eq, beq_iff_eq] at this
    rcases this with h1 | h1
    · exact h1 hpe.symm
    · rw [ho, hp2] at h1; cases h1
  have hFl : ∀ x ob l, h[x]? = some (some ob) → ob.isLive = true → m x = some l → x ∉ frzIds wr → FF F m w h (frzIds wr) l.b = F l.b := by
    intro x o l hx hv hl hn
    refine FF_old (fun i hi ob k ct l' g1 g2 g3 g4 => ?_)
    have := s.sep i x ob o l' l g1 hx (live_cont g2).2 hv g3 hl g4
    subst this; exact hn hi
  have hnF : ∀ x ob l, h[x]? = some (some ob) → ob.isLive = true → m x = some l → F l.b = none := by
    intro x ob l hx hv hl
    obtain ⟨l', hl', ho⟩ := s.obj x ob hx
    rw [hl] at hl'; cases hl'
    exact (ho.lt hv).2
  have ent : ∀ p ∈ wr, ∃ o, p.2 = some o ∧ (∃ l, m p.1 = some l ∧ ObjR (FF F m w h (frzIds wr)) m w o l) ∧ o.ids = [] ∧ (o.isLive = true → ∃ ob, h[p.1]? = some (some ob) ∧ ob.isLive = true ∧ p.1 ∉ frzIds wr) := by
    intro p hp
    rcases hwr p hp with ⟨_, k, es, l, ob, ct, h1, h2, h3, h4, h5⟩ | ⟨k, es, l, ob, ct, h1, h2, h3, h4, h5⟩
    · exact ⟨_, h1, ⟨l, h4, h5⟩, rfl, fun h => by cases h⟩
    · have hn := hnot p.1 p.2 hp (by rw [h1]; rfl)
      have hlv := (live_cont h3).2
      exact ⟨_, h1, ⟨l, h4, h5 (by rw [hFl p.1 ob l h2 hlv h4 hn]; exact hnF p.1 ob l h2 hlv h4)⟩, rfl, fun _ => ⟨ob, h2, hlv, hn⟩⟩
  have live : ∀ x o, (put h wr)[x]? = some (some o) → o.isLive = true → ∃ ob, h[x]? = some (some ob) ∧ ob.isLive = true ∧ x ∉ frzIds wr := by
    intro x o hx hv
    rcases hget x with ⟨a, b⟩ | ⟨o', a, b⟩
    · refine ⟨o, by rw [← a]; exact hx, hv, fun hin => b ?_⟩
      simp only [frzIds, List.mem_map, List.mem_filter] at hin
      obtain ⟨p, ⟨hp, _⟩, hpe⟩ := hin
      rw [← hpe]; exact List.mem_map_of_mem hp
    · rw [b] at hx; cases hx
      obtain ⟨o2, e1, _, _, e4⟩ := ent _ a
      cases e1
      exact e4 hv
  refine ⟨⟨⟨fun i l hi => by rw [hlen]; exact s.dom i l hi, fun x o hx => ?_, fun i j o o' l l' hi hj v1 v2 m1 m2 e => ?_, fun b c hb => FF_cells s hb⟩, fun p hp => ?_⟩,
    ⟨fun _ _ h => FF_ext h, fun _ _ h => h, Nat.le_refl _, rfl, rfl, rfl, fun b _ ho => ⟨rfl, ?_, ?_⟩, by rw [hlen]; exact Nat.le_refl _⟩⟩
  · rcases hget x with ⟨a, b⟩ | ⟨o', a, b⟩
    · rw [a] at hx
      obtain ⟨l, hl, ho⟩ := s.obj x o hx
      refine ⟨l, hl, ho.mono (fun _ _ h => FF_ext h) (fun _ _ h => h) (fun hv => ⟨rfl, hFl x o l hx hv hl (fun hin => b ?_)⟩)⟩
      simp only [frzIds, List.mem_map, List.mem_filter] at hin
      obtain ⟨p, ⟨hp, _⟩, hpe⟩ := hin
      rw [← hpe]; exact List.mem_map_of_mem hp
    · rw [b] at hx; cases hx
      obtain ⟨o2, e1, e2, _, _⟩ := ent _ a
      cases e1; exact e2
  · obtain ⟨ob, b1, b2, _⟩ := live i o hi v1
    obtain ⟨ob', b1', b2', _⟩ := live j o' hj v2
    exact s.sep i j ob ob' l l' b1 b1' b2 b2' m1 m2 e
  · obtain ⟨o, e1, e2, e3, _⟩ := ent p hp
    exact ⟨hlt p hp, o, e1, e2, e3⟩
  · refine FF_old (fun i _ ob k ct l g1 g2 g3 g4 => ho ⟨i, ob, l, g1, (live_cont g2).2, g3, g4⟩)
  · rintro ⟨x, o, l, hx, hv, hl, hb⟩
    obtain ⟨ob, b1, b2, _⟩ := live x o hx hv
    exact ho ⟨x, ob, l, b1, b2, hl, hb⟩
end Go.Ab
namespace Go.Ab
variable {F : Fz} {m : Mp} {w : World} {h : Heap}

/-- where the objects that went along lie -/
def sub (L : List Nat) (m : Mp) : Mp := fun i => (L[i]?).bind m
theorem place_get {L : List Nat} {i} (hi : i ∈ L) : L[place L i]? = some i := by
  unfold place
  have := List.idxOf_lt_length_of_mem hi
  rw [List.getElem?_eq_getElem this, List.getElem_idxOf]
theorem sub_place {L : List Nat} {m : Mp} {i} (hi : i ∈ L) : sub L m (place L i) = m i := by simp [sub, place_get hi]

/-- some objects of a state, renumbered, are a state -/
theorem sub_ok (s : St F m w h) {objs : List (Nat × Option AO)} (hnd : (objs.map (·.1)).Nodup)
    (hobj : ∀ p ∈ objs, ∀ o, p.2 = some o → (o.isLive = true → ∃ o', h[p.1]? = some (some o') ∧ o'.isLive = true) ∧ (∃ l, m p.1 = some l ∧ ObjR F m w o l) ∧ ∀ j ∈ o.ids, j ∈ objs.map (·.1)) :
    St F (sub (objs.map (·.1)) m) w (objs.map fun p => p.2.map (AO.ren (place (objs.map (·.1))))) ∧ ∀ b, Own (sub (objs.map (·.1)) m) (objs.map fun p => p.2.map (AO.ren (place (objs.map (·.1))))) b → Own m h b := by
  have get : ∀ (i : Nat) (o : AO), (objs.map fun p => p.2.map (AO.ren (place (objs.map (·.1)))))[i]? = some (some o) → ∃ (p : Nat × Option AO) (o' : AO), objs[i]? = some p ∧ p.2 = some o' ∧ o = o'.ren (place (objs.map (·.1))) ∧ (objs.map (·.1))[i]? = some p.1 := by
    intro i o hi
    simp only [List.getElem?_map, Option.map_eq_some_iff] at hi
    obtain ⟨p, hp, ho⟩ := hi
    cases hp2 : p.2 with
    | none => simp [hp2] at ho
    | some o' =>
      rw [hp2] at ho
      obtain ⟨a, ha, hao⟩ := ho
      cases ha
      exact ⟨p, _, hp, hp2, hao.symm, by simp [hp]⟩
  refine ⟨⟨fun i l hi => ?_, fun i o hi => ?_, fun i j o o' l l' hi hj v1 v2 m1 m2 e => ?_, s.frz⟩, ?_⟩
  · unfold sub at hi
    cases hL : (objs.map (·.1))[i]? with
    | none => simp [hL] at hi
    | some x => have := (List.getElem?_eq_some_iff.1 hL).1; simpa using this
  · obtain ⟨p, o', hp, hp2, rfl, hL⟩ := get i o hi
    obtain ⟨h1, ⟨l, h2, h3⟩, h4⟩ := hobj p (List.mem_of_getElem? hp) o' hp2
    exact ⟨l, by simp only [sub, hL, Option.bind_some]; exact h2, obj_ren h3 (fun j hj => sub_place (h4 j hj))⟩
  · obtain ⟨p, o1, hp, hp2, rfl, hL⟩ := get i o hi
    obtain ⟨p', o1', hp', hp2', rfl, hL'⟩ := get j o' hj
    rw [ren_live] at v1 v2
    obtain ⟨h1, _, _⟩ := hobj p (List.mem_of_getElem? hp) o1 hp2
    obtain ⟨h1', _, _⟩ := hobj p' (List.mem_of_getElem? hp') o1' hp2'
    simp only [sub, hL, hL', Option.bind_some] at m1 m2
    obtain ⟨q, q1, q2⟩ := h1 v1
    obtain ⟨q', q1', q2'⟩ := h1' v2
    have := s.sep p.1 p'.1 q q' l l' q1 q1' q2 q2' m1 m2 e
    rw [this] at hL
    exact (List.getElem?_inj (List.getElem?_eq_some_iff.1 hL).1 hnd).1 (hL.trans hL'.symm)
  · rintro b ⟨i, o, l, hi, hv, hm, hb⟩
    obtain ⟨p, o', hp, hp2, rfl, hL⟩ := get i o hi
    rw [ren_live] at hv
    obtain ⟨h1, _, _⟩ := hobj p (List.mem_of_getElem? hp) o' hp2
    simp only [sub, hL, Option.bind_some] at hm
    obtain ⟨q, q1, q2⟩ := h1 hv
    exact ⟨p.1, q, l, q1, q2, hm, hb⟩

theorem look_some {frz : List (Nat × Option AO)} {i o} (hl : look frz i = some o) : (i, o) ∈ frz := by
  unfold look at hl
  induction frz with
  | nil => simp at hl
  | cons p r ih =>
    obtain ⟨j, o'⟩ := p
    by_cases hj : i = j
    · subst hj; simp [List.lookup] at hl; subst hl; simp
    · have hb : (i == j) = false := by simpa using hj
      simp only [List.lookup, hb] at hl
      exact List.mem_cons_of_mem _ (ih hl)
theorem look_none {frz : List (Nat × Option AO)} {i} (hl : look frz i = none) : i ∉ frz.map (·.1) := by
  unfold look at hl
  induction frz with
  | nil => simp
  | cons p r ih =>
    obtain ⟨j, o'⟩ := p
    by_cases hj : i = j
    · subst hj; simp [List.lookup] at hl
    · have hb : (i == j) = false := by simpa using hj
      simp only [List.lookup, hb] at hl
      simp only [List.map_cons, List.mem_cons, not_or]
      exact ⟨hj, ih hl⟩

/-- the entries that were written over a heap -/
def Laid (F' : Fz) (m : Mp) (w : World) (h : Heap) (wr : List (Nat × Option AO)) : Prop :=
  St F' m w (put h wr) ∧ ∀ p ∈ wr, p.1 < h.length ∧ ∃ o, p.2 = some o ∧ (o.isLive = true → ∃ o', (put h wr)[p.1]? = some (some o') ∧ o'.isLive = true) ∧ (∃ l, m p.1 = some l ∧ ObjR F' m w o l) ∧ o.ids = []

theorem laid_frz (s : St F m w h) {wr : List (Nat × Option AO)} (hwr : ∀ p ∈ wr, FrzE (FF F m w h (wr.map (·.1))) m w h p) : Laid (FF F m w h (wr.map (·.1))) m w h wr := by
  refine ⟨(freeze_st s hwr).1, fun p hp => ?_⟩
  obtain ⟨k, es, l, ob, ct, h1, h2, h3, h4, h5⟩ := hwr p hp
  exact ⟨s.dom _ _ h4, .frz k es, h1, (fun hv => by cases hv), ⟨l, h4, h5⟩, rfl⟩

/-- The objects that are reached, as they are after the writes. -/
theorem reach_sub {F' : Fz} {wr : List (Nat × Option AO)} (hl : Laid F' m w h wr) {start : List Nat} {objs : List (Nat × Option AO)} (hr : (reachM (fun i => (look wr i).isSome) fuel start []).run h = some objs) :
    ((objs.map fun p => (p.1, (look wr p.1).getD p.2)).map (·.1)).Nodup ∧ (objs.map fun p => (p.1, (look wr p.1).getD p.2)).map (·.1) = objs.map (·.1) ∧ (∀ i ∈ start, i ∈ objs.map (·.1)) ∧
    ∀ p ∈ (objs.map fun p => (p.1, (look wr p.1).getD p.2)), ∀ o, p.2 = some o → (o.isLive = true → ∃ o', (put h wr)[p.1]? = some (some o') ∧ o'.isLive = true) ∧ (∃ l, m p.1 = some l ∧ ObjR F' m w o l) ∧ ∀ j ∈ o.ids, j ∈ (objs.map fun p => (p.1, (look wr p.1).getD p.2)).map (·.1) := by
  obtain ⟨r1, r2, r3, r4, _⟩ := reach_ok fuel start [] objs hr (by simp) (by simp) (by simp)
  have hfst : (objs.map fun p => (p.1, (look wr p.1).getD p.2)).map (·.1) = objs.map (·.1) := by simp
  refine ⟨by rw [hfst]; exact r1, hfst, r4, fun p hp o ho => ?_⟩
  rw [hfst]
  simp only [List.mem_map] at hp
  obtain ⟨q, hq, rfl⟩ := hp
  simp only at ho ⊢
  cases hlk : look wr q.1 with
  | some o' =>
    simp only [hlk, Option.getD_some] at ho
    subst ho
    obtain ⟨_, o2, e1, e2, e3, e4⟩ := hl.2 _ (look_some hlk)
    simp only [Option.some.injEq] at e1; subst e1
    exact ⟨e2, e3, fun j hj => by rw [e4] at hj; cases hj⟩
  | none =>
    simp only [hlk, Option.getD_none] at ho
    have hnot := look_none hlk
    have hget : (put h wr)[q.1]? = h[q.1]? := by
      obtain ⟨_, hg⟩ := put_mem (fun p hp => (hl.2 p hp).1)
      rcases hg q.1 with ⟨a, _⟩ | ⟨o', a, _⟩
      · exact a
      · exact absurd (List.mem_map_of_mem a) hnot
    have hq2 := r2 q hq
    rw [ho] at hq2
    obtain ⟨l, l1, l2⟩ := hl.1.obj q.1 o (by rw [hget]; exact hq2)
    exact ⟨fun hv => ⟨o, by rw [hget]; exact hq2, hv⟩, ⟨l, l1, l2⟩, fun j hj => r3 q hq o ho (by simp [hlk]) j hj⟩
theorem reach_from {stop : Nat → Bool} {Q : Nat → Prop} (hobj : ∀ (i : Nat) o, h[i]? = some (some o) → ∀ j ∈ o.ids, Q j) : ∀ {n : Nat} {todo : List Nat} {done res : List (Nat × Option AO)}, (reachM stop n todo done).run h = some res → (∀ i ∈ todo, Q i) → (∀ p ∈ done, Q p.1) → ∀ p ∈ res, Q p.1
  | 0, [], done, res, h', _, h2 => by simp only [reachM, AM.run, Option.some.injEq] at h'; subst h'; exact h2
  | 0, _ :: _, _, _, h', _, _ => by simp [reachM, AM.run] at h'
  | n + 1, [], done, res, h', _, h2 => by simp only [reachM, AM.run, Option.some.injEq] at h'; subst h'; exact h2
  | n + 1, i :: todo, done, res, h', h1, h2 => by
    simp only [reachM] at h'
    split at h'
    · exact reach_from hobj h' (fun j hj => h1 j (List.mem_cons_of_mem _ hj)) h2
    · simp only [AM.run] at h'
      cases hi : h[i]? with
      | none => simp [hi] at h'
      | some o =>
        simp only [hi] at h'
        refine reach_from hobj h' (fun j hj => ?_) (fun p hp => ?_)
        · rcases List.mem_append.1 hj with hj | hj
          · exact h1 j (List.mem_cons_of_mem _ hj)
          · unfold idsOf at hj
            split at hj
            · simp at hj
            · cases o with
              | none => simp at hj
              | some o => exact hobj i o hi j hj
        · rcases List.mem_append.1 hp with hp | hp
          · exact h2 p hp
          · simp only [List.mem_singleton] at hp; subst hp; exact h1 i (by simp)
theorem laid_thaw (s : St F m w h) {wr : List (Nat × Option AO)} (hok : thawOk wr = true) (hwr : ∀ p ∈ wr, Either (FF F m w h (frzIds wr)) m w h p) : Laid (FF F m w h (frzIds wr)) m w h wr := by
  obtain ⟨⟨a, b⟩, _⟩ := thaw_st s hok hwr
  refine ⟨a, fun p hp => ?_⟩
  obtain ⟨h1, o, h2, h3, h4⟩ := b p hp
  refine ⟨h1, o, h2, fun hv => ?_, h3, h4⟩
  obtain ⟨_, hg⟩ := put_mem (fun p hp => (b p hp).1)
  rcases hg p.1 with ⟨_, hn⟩ | ⟨o', g1, g2⟩
  · exact absurd (List.mem_map_of_mem hp) hn
  · obtain ⟨_, o2, e1, e2, e3⟩ := b _ g1
    simp only at e1; subst e1
    refine ⟨o2, g2, ?_⟩
    have hk := List.all_eq_true.1 ((List.all_eq_true.1 hok) _ hp) _ g1
    simp only [bne_self_eq_false, Bool.false_or, beq_iff_eq] at hk
    have hnf : isFrz p.2 = false := by rw [h2]; cases o <;> first | rfl | cases hv
    rw [hnf] at hk
    cases o2 <;> first | rfl | cases hk
theorem pass_ok (s : St F m w h) {pol : Pol} {args : List AV} {xs : Nat → Value} {p : Pass} (hr : (passCall pol args).run h = some p) (hargs : ∀ (i : Nat) v, args[i]? = some v → RV F m v (xs i)) :
    ∃ F', (∀ b c, F b = some c → F' b = some c) ∧ Laid F' m w h p.frz ∧ Ev F m w h F' m w (put h p.frz) ∧ St F' (sub p.L m) w p.heap ∧ (∀ b, Own (sub p.L m) p.heap b → Own m (put h p.frz) b) ∧ p.heap.length = p.L.length ∧
      p.L.Nodup ∧ (∀ i ∈ p.L, i < h.length ∧ ∃ l, m i = some l) ∧ (∀ i ∈ p.L, ∀ o, p.heap[place p.L i]? = some (some o) → o.isLive = true → ∃ o', (put h p.frz)[i]? = some (some o') ∧ o'.isLive = true) ∧
      p.args.length = args.length ∧ ∀ (i : Nat) v, p.args[i]? = some v → RV F' (sub p.L m) v (xs i) := by
  rw [passCall_run] at hr
  cases hq : (if pol.own then some (args, []) else (passAll pol.nils pol.ptrs args).run h : Option (List AV × List (Nat × Option AO))) with
  | none => rw [hq] at hr; cases hr
  | some q =>
    rw [hq] at hr
    have hpl : PassedL F m w h args q.1 q.2 := by
      split at hq
      · simp only [Option.some.injEq] at hq; subst hq; exact PassedL.same
      · exact passAll_ok s hq
    simp only [Option.bind_some] at hr
    cases ho : (reachM (fun i => (look q.2 i).isSome) fuel (AV.idsL q.1) []).run h with
    | none => rw [ho] at hr; cases hr
    | some objs =>
      rw [ho] at hr
      simp only [Option.map_some, Option.some.injEq] at hr
      subst hr
      obtain ⟨h1, h2⟩ := hpl.2 xs hargs (q.2.map (·.1)) (fun p hp => List.mem_map_of_mem hp)
      have hlaid := laid_frz s h2
      obtain ⟨r1, r2, r3, r4⟩ := reach_sub hlaid ho
      obtain ⟨t1, t2⟩ := sub_ok hlaid.1 r1 r4
      rw [r2] at t1 t2 r1
      have hlt : ∀ i ∈ objs.map (·.1), i < h.length := by
        intro i hi
        obtain ⟨_, g2, _, _, _⟩ := reach_ok fuel (AV.idsL q.1) [] objs ho (by simp) (by simp) (by simp)
        simp only [List.mem_map] at hi
        obtain ⟨p, hp, rfl⟩ := hi
        exact (List.getElem?_eq_some_iff.1 (g2 p hp)).1
      have hsome : ∀ i ∈ objs.map (·.1), ∃ l, m i = some l := by
        intro i hi
        simp only [List.mem_map] at hi
        obtain ⟨p, hp, rfl⟩ := hi
        refine reach_from (Q := fun i => ∃ l, m i = some l) (fun i o hio j hj => ?_) ho (fun j hj => ?_) (by simp) p hp
        · obtain ⟨l, _, hR⟩ := s.obj i o hio
          exact obj_ids hR j hj
        · rw [idsL_flat, List.mem_flatMap] at hj
          obtain ⟨v, hv, hj⟩ := hj
          obtain ⟨i, hi⟩ := List.mem_iff_getElem?.1 hv
          exact rv_ids (h1 i v hi) j hj
      refine ⟨_, fun _ _ h => FF_ext h, hlaid, (freeze_st s h2).2, t1, t2, by simp, r1, fun i hi => ⟨hlt i hi, hsome i hi⟩, fun i hi o hio hv => ?_, by simp [renL_mapF, hpl.1], fun i v hi => ?_⟩
      · simp only [List.getElem?_map, Option.map_eq_some_iff] at hio
        obtain ⟨p2, ⟨p1, hp1, rfl⟩, hpo⟩ := hio
        have hi1 : p1.1 = i := by
          have := place_get hi
          simp only [List.getElem?_map, Option.map_eq_some_iff] at this
          obtain ⟨a, ha, hai⟩ := this
          rw [hp1] at ha; cases ha; exact hai
        cases hlk : (look q.2 p1.1).getD p1.2 with
        | none => simp [hlk] at hpo
        | some o' =>
          simp only [hlk] at hpo
          have hpo' : o'.ren (place (objs.map (·.1))) = o := by simpa using hpo
          subst hpo'
          rw [ren_live] at hv
          obtain ⟨g1, _, _⟩ := r4 (p1.1, (look q.2 p1.1).getD p1.2) (List.mem_map.2 ⟨p1, List.mem_of_getElem? hp1, rfl⟩) o' hlk
          rw [← hi1]; exact g1 hv
      · rw [renL_mapF] at hi
        simp only [List.getElem?_map, Option.map_eq_some_iff] at hi
        obtain ⟨v', hv', rfl⟩ := hi
        exact rv_ren (h1 i v' hv') (fun j hj => sub_place (r3 j (mem_idsL hv' hj)))
end Go.Ab
namespace Go.Ab
variable {F : Fz} {m : Mp} {w : World} {h : Heap}

theorem reach_more {stop : Nat → Bool} : ∀ {n : Nat} {todo : List Nat} {done res : List (Nat × Option AO)}, (reachM stop n todo done).run h = some res → ∃ more, res = done ++ more
  | 0, [], done, res, h' => by simp only [reachM, AM.run, Option.some.injEq] at h'; exact ⟨[], by simp [h']⟩
  | 0, _ :: _, _, _, h' => by simp [reachM, AM.run] at h'
  | n + 1, [], done, res, h' => by simp only [reachM, AM.run, Option.some.injEq] at h'; exact ⟨[], by simp [h']⟩
  | n + 1, i :: todo, done, res, h' => by
    simp only [reachM] at h'
    split at h'
    · exact reach_more h'
    · simp only [AM.run] at h'
      cases hi : h[i]? with
      | none => simp [hi] at h'
      | some o =>
        simp only [hi] at h'
        obtain ⟨more, e⟩ := reach_more h'
        exact ⟨(i, o) :: more, by simp [e]⟩
theorem reach_range {stop : Nat → Bool} : ∀ {j n a : Nat} {todo : List Nat} {done res : List (Nat × Option AO)}, (reachM stop n (List.range' a j ++ todo) done).run h = some res → done.map (·.1) = List.range a → ∃ more, res.map (·.1) = List.range (a + j) ++ more
  | 0, n, a, todo, done, res, h', hd => by
    obtain ⟨more, e⟩ := reach_more h'
    exact ⟨more.map (·.1), by simp [e, hd]⟩
  | j + 1, 0, a, todo, done, res, h', hd => by simp [List.range'_succ, reachM, AM.run] at h'
  | j + 1, n + 1, a, todo, done, res, h', hd => by
    rw [List.range'_succ, List.cons_append] at h'
    simp only [reachM] at h'
    split at h'
    · rename_i hc
      simp only [List.any_eq_true, beq_iff_eq] at hc
      obtain ⟨p, hp, hpa⟩ := hc
      have : a ∈ done.map (·.1) := by rw [← hpa]; exact List.mem_map_of_mem hp
      rw [hd] at this; simp at this
    · simp only [AM.run] at h'
      cases hi : h[a]? with
      | none => simp [hi] at h'
      | some o =>
        simp only [hi] at h'
        rw [List.append_assoc] at h'
        obtain ⟨more, e⟩ := reach_range (a := a + 1) h' (by rw [List.map_append, hd, List.range_succ]; rfl)
        exact ⟨more, by rw [e]; congr 2; omega⟩

theorem scalar_ids {v : AV} {ρ} (hs : (v.ren ρ).scalar = true) : v.ids = [] := by
  have all : ∀ cs : List AV, ((AV.renL ρ cs).all fun c => match c with | .d v => v.scalar | _ => false) = true → AV.idsL cs = [] := by
    intro cs
    induction cs with
    | nil => intro _; simp [AV.idsL]
    | cons c r ih =>
      intro hc
      simp only [AV.renL, List.all_cons, Bool.and_eq_true] at hc
      rw [AV.idsL, ih hc.2, List.append_nil]
      cases c with
      | d v => simp [AV.ids]
      | fn f a b => cases f <;> simp [AV.ren] at hc
      | _ => simp [AV.ren] at hc
  cases v with
  | d v => simp [AV.ids]
  | agg cs => rw [AV.ids]; simp only [AV.ren, AV.scalar] at hs; exact all cs hs
  | tup cs => rw [AV.ids]; simp only [AV.ren, AV.scalar] at hs; exact all cs hs
  | fn f a b => cases f <;> simp [AV.ren, AV.scalar] at hs
  | _ => simp [AV.ren, AV.scalar] at hs

theorem ret_ok {F0 : Fz} {m0 : Mp} {w0 : World} {h0 : Heap} (s0 : Ev F0 m0 w0 h0 F m w h) (hd0 : ∀ i l, m0 i = some l → i < h0.length) (s : St F m w h) {pol : Pol} {v v' : AV} {hs : Heap} {x : Value}
    (hr : (retCall pol h0.length v).run h = some (v', hs)) (hv : RV F m v x) :
    ∃ F' m', St F' m' w hs ∧ RV F' m' v' x ∧ Ev F0 m0 w0 h0 F' m' w hs ∧ (h0.length = 0 → v'.scalar = true → hs = []) := by
  rw [retCall_run] at hr
  cases hq : (if pol.ownRes then some (v, []) else if pol.own1 then (thawS pol.ptrs v).run h else (passM pol.nils pol.ptrs v).run h : Option (AV × List (Nat × Option AO))) with
  | none => rw [hq] at hr; cases hr
  | some q =>
    rw [hq] at hr
    have hlay : ∃ F', (∀ b c, F b = some c → F' b = some c) ∧ Laid F' m w h q.2 ∧ RV F' m q.1 x ∧ Ev F m w h F' m w (put h q.2) := by
      split at hq
      · simp only [Option.some.injEq] at hq; subst hq
        exact ⟨F, fun _ _ h => h, ⟨s, by simp⟩, hv, Ev.refl _ _ _ _⟩
      · split at hq
        · unfold thawS at hq
          rw [am_bind] at hq
          cases ht : (thaw pol.ptrs v).run h with
          | none => simp [ht] at hq
          | some t =>
            simp only [ht, Option.bind_some] at hq
            split at hq
            · rename_i hok
              simp only [AM.run, Option.some.injEq] at hq; subst hq
              obtain ⟨t1, t2⟩ := thaw_ok s ht (rv_ids hv)
              have hei := t2 (frzIds t.2) (fun p hp hf => by simp only [frzIds, List.mem_map, List.mem_filter]; exact ⟨p, ⟨hp, hf⟩, rfl⟩)
              exact ⟨_, fun _ _ h => FF_ext h, laid_thaw s hok hei, by rw [t1]; exact hv.mono (fun _ _ h => FF_ext h) (fun _ _ h => h), (thaw_st s hok hei).2⟩
            · simp [AM.run] at hq
        · obtain ⟨p1, p2⟩ := passM_ok s hq x hv (q.2.map (·.1)) (fun p hp => List.mem_map_of_mem hp)
          exact ⟨_, fun _ _ h => FF_ext h, laid_frz s p2, p1, (freeze_st s p2).2⟩
    obtain ⟨F', hFF, hlaid, hrv, hev⟩ := hlay
    simp only [Option.bind_some] at hr
    cases ho : (reachM (fun i => (look q.2 i).isSome) fuel (List.range h0.length ++ q.1.ids) []).run h with
    | none => rw [ho] at hr; cases hr
    | some objs =>
      rw [ho] at hr
      simp only [Option.map_some, Option.some.injEq, Prod.mk.injEq] at hr
      obtain ⟨rfl, rfl⟩ := hr
      obtain ⟨r1, r2, r3, r4⟩ := reach_sub hlaid ho
      obtain ⟨t1, t2⟩ := sub_ok hlaid.1 r1 r4
      rw [r2] at t1 t2 r1
      obtain ⟨more, hmore⟩ := reach_range (j := h0.length) (a := 0) (todo := q.1.ids) (done := []) (by rw [List.range_eq_range'] at ho; exact ho) rfl
      rw [Nat.zero_add] at hmore
      have hL : ∀ i, i < h0.length → (objs.map (·.1))[i]? = some i := by
        intro i hi
        rw [hmore, List.getElem?_append_left (by simpa using hi)]
        simp [hi]
      refine ⟨F', sub (objs.map (·.1)) m, t1, rv_ren hrv (fun j hj => sub_place (r3 j (List.mem_append_right _ hj))), ⟨fun b c hb => hFF b c (s0.fz b c hb), fun i l hi => ?_, s0.size, s0.os, s0.output, s0.tape, fun b hb hno => ?_, ?_⟩, fun hz hsc => ?_⟩
      · simp only [sub, hL i (hd0 i l hi), Option.bind_some]; exact s0.mp i l hi
      · obtain ⟨k1, k2, k3⟩ := s0.keep b hb hno
        obtain ⟨_, q2, q3⟩ := hev.keep b (Nat.lt_of_lt_of_le hb s0.size) k3
        exact ⟨k1, q2.trans k2, fun hown => q3 (t2 b hown)⟩
      · have : (objs.map (·.1)).length = (List.range h0.length ++ more).length := by rw [hmore]
        simp only [List.length_map, List.length_append, List.length_range] at this ⊢
        omega
      · have hids := scalar_ids hsc
        rw [hz, hids] at ho
        simp only [List.range_zero, List.append_nil, fuel, reachM, AM.run, Option.some.injEq] at ho
        subst ho; rfl
theorem gc_ok {F0 : Fz} {m0 : Mp} {w0 : World} {h0 : Heap} (s0 : Ev F0 m0 w0 h0 F m w h) (hd0 : ∀ i l, m0 i = some l → i < h0.length) {k : Nat} (hk : h0.length ≤ k) (s : St F m w h) {pol : Pol} {v v' : AV} {hs : Heap} {x : Value}
    (hr : (retCall pol k v).run h = some (v', hs)) (hv : RV F m v x) :
    ∃ F' m', St F' m' w hs ∧ RV F' m' v' x ∧ Ev F0 m0 w0 h0 F' m' w hs := by
  rw [retCall_run] at hr
  cases hq : (if pol.ownRes then some (v, []) else if pol.own1 then (thawS pol.ptrs v).run h else (passM pol.nils pol.ptrs v).run h : Option (AV × List (Nat × Option AO))) with
  | none => rw [hq] at hr; cases hr
  | some q =>
    rw [hq] at hr
    have hlay : ∃ F', (∀ b c, F b = some c → F' b = some c) ∧ Laid F' m w h q.2 ∧ RV F' m q.1 x ∧ Ev F m w h F' m w (put h q.2) := by
      split at hq
      · simp only [Option.some.injEq] at hq; subst hq
        exact ⟨F, fun _ _ h => h, ⟨s, by simp⟩, hv, Ev.refl _ _ _ _⟩
      · split at hq
        · unfold thawS at hq
          rw [am_bind] at hq
          cases ht : (thaw pol.ptrs v).run h with
          | none => simp [ht] at hq
          | some t =>
            simp only [ht, Option.bind_some] at hq
            split at hq
            · rename_i hok
              simp only [AM.run, Option.some.injEq] at hq; subst hq
              obtain ⟨t1, t2⟩ := thaw_ok s ht (rv_ids hv)
              have hei := t2 (frzIds t.2) (fun p hp hf => by simp only [frzIds, List.mem_map, List.mem_filter]; exact ⟨p, ⟨hp, hf⟩, rfl⟩)
              exact ⟨_, fun _ _ h => FF_ext h, laid_thaw s hok hei, by rw [t1]; exact hv.mono (fun _ _ h => FF_ext h) (fun _ _ h => h), (thaw_st s hok hei).2⟩
            · simp [AM.run] at hq
        · obtain ⟨p1, p2⟩ := passM_ok s hq x hv (q.2.map (·.1)) (fun p hp => List.mem_map_of_mem hp)
          exact ⟨_, fun _ _ h => FF_ext h, laid_frz s p2, p1, (freeze_st s p2).2⟩
    obtain ⟨F', hFF, hlaid, hrv, hev⟩ := hlay
    simp only [Option.bind_some] at hr
    cases ho : (reachM (fun i => (look q.2 i).isSome) fuel (List.range k ++ q.1.ids) []).run h with
    | none => rw [ho] at hr; cases hr
    | some objs =>
      rw [ho] at hr
      simp only [Option.map_some, Option.some.injEq, Prod.mk.injEq] at hr
      obtain ⟨rfl, rfl⟩ := hr
      obtain ⟨r1, r2, r3, r4⟩ := reach_sub hlaid ho
      obtain ⟨t1, t2⟩ := sub_ok hlaid.1 r1 r4
      rw [r2] at t1 t2 r1
      obtain ⟨more, hmore⟩ := reach_range (j := k) (a := 0) (todo := q.1.ids) (done := []) (by rw [List.range_eq_range'] at ho; exact ho) rfl
      rw [Nat.zero_add] at hmore
      have hL : ∀ i, i < k → (objs.map (·.1))[i]? = some i := by
        intro i hi
        rw [hmore, List.getElem?_append_left (by simpa using hi)]
        simp [hi]
      refine ⟨F', sub (objs.map (·.1)) m, t1, rv_ren hrv (fun j hj => sub_place (r3 j (List.mem_append_right _ hj))), ⟨fun b c hb => hFF b c (s0.fz b c hb), fun i l hi => ?_, s0.size, s0.os, s0.output, s0.tape, fun b hb hno => ?_, ?_⟩⟩
      · simp only [sub, hL i (Nat.lt_of_lt_of_le (hd0 i l hi) hk), Option.bind_some]; exact s0.mp i l hi
      · obtain ⟨k1, k2, k3⟩ := s0.keep b hb hno
        obtain ⟨_, q2, q3⟩ := hev.keep b (Nat.lt_of_lt_of_le hb s0.size) k3
        exact ⟨k1, q2.trans k2, fun hown => q3 (t2 b hown)⟩
      · have : (objs.map (·.1)).length = (List.range k ++ more).length := by rw [hmore]
        simp only [List.length_map, List.length_append, List.length_range] at this ⊢
        omega
end Go.Ab
namespace Go.Ab
variable {F : Fz} {m : Mp} {w : World} {h : Heap}

theorem scalar_rd {F F' : Fz} {v x} (hs : v.scalar = true) (h : RD F v x) : RD F' v x := by
  cases h with
  | bool b => exact .bool b
  | int k n => exact .int k n
  | str s => exact .str s
  | nilp => exact .nilp
  | snil => exact .snil
  | mnil => exact .mnil
  | fnil => exact .fnil
  | inil => exact .inil
  | fptr => cases hs
  | fslE => cases hs
  | fsl => cases hs
theorem scalar_rv {F F' : Fz} {m m' : Mp} {ρ} {v x} (hs : v.scalar = true) (h : RV F m v x) : RV F' m' (v.ren ρ) x := by
  have one : ∀ {c : AV} {z : Value}, (match c with | .d v => v.scalar | _ => false) = true → RV F m c z → RV F' m' (c.ren ρ) z := by
    intro c z hc hz
    cases c with
    | d v => cases hz with | d hz => rw [AV.ren]; exact .d (scalar_rd hc hz)
    | _ => cases hc
  cases h with
  | d h => rw [AV.ren]; exact .d (scalar_rd hs h)
  | @agg cs arr val h1 h2 h3 =>
    rw [AV.ren, renL_mapF]
    have hall : ∀ c ∈ cs, (match c with | .d v => v.scalar | _ => false) = true := List.all_eq_true.1 hs
    refine .agg val (by simpa using h1) (fun i c hi => ?_) (fun i c hi => ?_)
    · simp only [List.getElem?_map, Option.map_eq_some_iff] at hi
      obtain ⟨c', hc', rfl⟩ := hi; exact h2 i c' hc'
    · simp only [List.getElem?_map, Option.map_eq_some_iff] at hi
      obtain ⟨c', hc', rfl⟩ := hi; exact one (hall c' (List.mem_of_getElem? hc')) (h3 i c' hc')
  | @tup cs arr val h1 h2 h3 =>
    rw [AV.ren, renL_mapF]
    have hall : ∀ c ∈ cs, (match c with | .d v => v.scalar | _ => false) = true := List.all_eq_true.1 hs
    refine .tup val (by simpa using h1) (fun i c hi => ?_) (fun i c hi => ?_)
    · simp only [List.getElem?_map, Option.map_eq_some_iff] at hi
      obtain ⟨c', hc', rfl⟩ := hi; exact h2 i c' hc'
    · simp only [List.getElem?_map, Option.map_eq_some_iff] at hi
      obtain ⟨c', hc', rfl⟩ := hi; exact one (hall c' (List.mem_of_getElem? hc')) (h3 i c' hc')
  | _ => cases hs

/-- nothing that the caller owns was turned -/
theorem fin_none {F2 m2 w2 hs} {F' : Fz} (s : St F m w h) (ev : Ev F' (sub [] m) w [] F2 m2 w2 hs) : St F m w2 h ∧ Ev F m w h F m w2 h := by
  have hold : ∀ b, b < w.heap.size → w2.heap[b]? = w.heap[b]? := fun b hb => (ev.keep b hb (by rintro ⟨i, o, l, hi, _⟩; simp at hi)).1
  refine ⟨⟨s.dom, fun i o hi => ?_, s.sep, fun b c hb => ?_⟩, ⟨fun _ _ h => h, fun _ _ h => h, ev.size, ev.os, ev.output, ev.tape, fun b hb ho => ⟨hold b hb, rfl, ho⟩, Nat.le_refl _⟩⟩
  · obtain ⟨l, h1, h2⟩ := s.obj i o hi
    exact ⟨l, h1, h2.mono (fun _ _ h => h) (fun _ _ h => h) (fun hv => ⟨hold _ (h2.lt hv).1, rfl⟩)⟩
  · obtain ⟨T, fr, hh⟩ := s.frz b c hb
    exact ⟨T, fr, by rw [hold b (s.lt hb)]; exact hh⟩

/-- writes of which the last ones count; new objects stand at the end -/
theorem put_app {h : Heap} {a b : List (Nat × Option AO)} : put h (a ++ b) = put (put h a) b := by
  induction a generalizing h with
  | nil => rfl
  | cons p r ih => obtain ⟨i, o⟩ := p; simp only [List.cons_append, put]; exact ih
theorem put_range {h : Heap} : ∀ {l : List (Option AO)} {n : Nat}, n = h.length → put h (l.zipIdx.map fun x => (n + x.2, x.1)) = h ++ l := by
  have key : ∀ (l : List (Option AO)) (h : Heap) (n k : Nat), n + k = h.length → put h ((l.zipIdx k).map fun x => (n + x.2, x.1)) = h ++ l := by
    intro l
    induction l with
    | nil => intro h n k _; simp [put]
    | cons o r ih =>
      intro h n k hk
      simp only [List.zipIdx_cons, List.map_cons, put]
      rw [if_neg (by omega), ih (h ++ [o]) n (k + 1) (by simp; omega)]
      simp
  intro l n hn
  exact key l h n 0 (by omega)

/-- the caller's view of the objects that came back -/
def backW (L : List Nat) (base : Nat) (hs : Heap) : List (Nat × Option AO) := hs.zipIdx.map fun x => (back L base x.2, x.1.map (AO.ren (back L base)))
theorem back_lt {L : List Nat} {base i} (hi : i < L.length) : back L base i = L[i] := by simp [back, hi]
theorem back_ge {L : List Nat} {base i} (hi : L.length ≤ i) : back L base i = base + (i - L.length) := by simp [back, List.getElem?_eq_none hi]
theorem backW_split {L : List Nat} {base} {hs : Heap} (hl : L.length ≤ hs.length) : backW L base hs = backW L base (hs.take L.length) ++ ((hs.drop L.length).map fun o => o.map (AO.ren (back L base))).zipIdx.map fun x => (base + x.2, x.1) := by
  unfold backW
  conv => lhs; rw [← List.take_append_drop L.length hs]
  rw [List.zipIdx_append, List.map_append]
  congr 1
  apply List.ext_getElem?
  intro i
  simp only [List.getElem?_map, List.getElem?_zipIdx, List.length_take, Nat.min_eq_left hl, Nat.zero_add, Option.map_map]
  cases (hs.drop L.length)[i]? with
  | none => rfl
  | some o => simp [back_ge (base := base) (show L.length ≤ L.length + i by omega)]
theorem fin_get {h1 : Heap} {L : List Nat} {base : Nat} {hs : Heap} (hl : L.length ≤ hs.length) (hnd : L.Nodup) (hlt : ∀ i ∈ L, i < h1.length) (hb : base ≤ h1.length) (hnx : hs.length - L.length ≤ 1 ∨ base = h1.length) (hnL : base ∉ L) :
    h1.length ≤ (put h1 (backW L base hs)).length ∧ (∀ x, x < h1.length ∨ (∃ i, i < hs.length ∧ back L base i = x) → x < (put h1 (backW L base hs)).length) ∧
    (∀ i o, hs[i]? = some o → (put h1 (backW L base hs))[back L base i]? = some (o.map (AO.ren (back L base)))) ∧ (∀ x, (∀ i, i < hs.length → back L base i ≠ x) → (put h1 (backW L base hs))[x]? = h1[x]?) := by
  have hold : ∀ p ∈ backW L base (hs.take L.length), ∃ i o, i < L.length ∧ hs[i]? = some o ∧ p = (back L base i, o.map (AO.ren (back L base))) := by
    intro p hp
    unfold backW at hp
    obtain ⟨i, hi⟩ := List.mem_iff_getElem?.1 hp
    simp only [List.getElem?_map, List.getElem?_zipIdx, Option.map_map, Option.map_eq_some_iff] at hi
    obtain ⟨o, ho, rfl⟩ := hi
    have hik : i < L.length := by
      have := (List.getElem?_eq_some_iff.1 ho).1; simp at this; omega
    rw [List.getElem?_take_of_lt hik] at ho
    exact ⟨i, o, hik, ho, by simp⟩
  have hlt1 : ∀ p ∈ backW L base (hs.take L.length), p.1 < h1.length := by
    intro p hp
    obtain ⟨i, o, hi, _, rfl⟩ := hold p hp
    rw [back_lt hi]; exact hlt _ (List.getElem_mem hi)
  obtain ⟨len1, get1⟩ := put_mem hlt1
  have getL : ∀ i o, i < L.length → hs[i]? = some o → (put h1 (backW L base (hs.take L.length)))[back L base i]? = some (o.map (AO.ren (back L base))) := by
    intro i o hi ho
    rcases get1 (back L base i) with ⟨_, hn⟩ | ⟨o', hm, hg⟩
    · exfalso
      apply hn
      rw [List.mem_map]
      refine ⟨(back L base i, o.map (AO.ren (back L base))), ?_, rfl⟩
      unfold backW
      rw [List.mem_map]
      refine ⟨(o, i), ?_, rfl⟩
      rw [List.mem_zipIdx_iff_getElem?]
      simp only [List.getElem?_take_of_lt hi]; exact ho
    · obtain ⟨i', o'', hi', ho', he⟩ := hold _ hm
      simp only [Prod.mk.injEq] at he
      obtain ⟨e1, rfl⟩ := he
      rw [back_lt hi, back_lt hi'] at e1
      have : i = i' := (List.getElem_inj hnd).1 e1
      subst this
      rw [ho] at ho'; cases ho'
      exact hg
  have keepL : ∀ x, (∀ i, i < L.length → back L base i ≠ x) → (put h1 (backW L base (hs.take L.length)))[x]? = h1[x]? := by
    intro x hx
    rcases get1 x with ⟨hg, _⟩ | ⟨o', hm, _⟩
    · exact hg
    · obtain ⟨i', o'', hi', ho', he⟩ := hold _ hm
      simp only [Prod.mk.injEq] at he
      exact absurd he.1.symm (hx i' hi')
  rw [backW_split hl, put_app]
  generalize hH : put h1 (backW L base (hs.take L.length)) = H1 at *
  have inL : ∀ i, i < L.length → back L base i < H1.length := by
    intro i hi; rw [len1, back_lt hi]; exact hlt _ (List.getElem_mem hi)
  have neB : ∀ i, i < L.length → back L base i ≠ base := by
    intro i hi he; rw [back_lt hi] at he; exact hnL (he ▸ List.getElem_mem hi)
  by_cases hz : hs.length = L.length
  · have hd : hs.drop L.length = [] := List.drop_eq_nil_of_le (by omega)
    simp only [hd, List.map_nil, List.zipIdx_nil, put]
    refine ⟨by omega, fun x hx => ?_, fun i o ho => getL i o (by have := (List.getElem?_eq_some_iff.1 ho).1; omega) ho, fun x hx => keepL x (fun i hi => hx i (by omega))⟩
    rcases hx with hx | ⟨i, hi, rfl⟩
    · omega
    · exact inL i (by omega)
  · by_cases hbe : base = h1.length
    · rw [put_range (by omega)]
      refine ⟨by simp; omega, fun x hx => ?_, fun i o ho => ?_, fun x hx => ?_⟩
      · simp only [List.length_append, List.length_map, List.length_drop]
        rcases hx with hx | ⟨i, hi, rfl⟩
        · omega
        · by_cases hiL : i < L.length
          · have := inL i hiL; omega
          · rw [back_ge (by omega)]; omega
      · have hi := (List.getElem?_eq_some_iff.1 ho).1
        by_cases hiL : i < L.length
        · rw [List.getElem?_append_left (inL i hiL)]; exact getL i o hiL ho
        · rw [back_ge (by omega), List.getElem?_append_right (by omega)]
          rw [show base + (i - L.length) - H1.length = i - L.length by omega]
          simp only [List.getElem?_map, List.getElem?_drop]
          rw [show L.length + (i - L.length) = i by omega, ho]; rfl
      · by_cases hx1 : x < H1.length
        · rw [List.getElem?_append_left hx1]; exact keepL x (fun i hi => hx i (by omega))
        · rw [List.getElem?_append_right (by omega), List.getElem?_eq_none (l := h1) (by omega)]
          refine List.getElem?_eq_none ?_
          simp only [List.length_map, List.length_drop]
          rcases Nat.lt_or_ge (x - H1.length) (hs.length - L.length) with hlt | hge
          · exact absurd (by rw [back_ge (by omega)]; omega : back L base (L.length + (x - H1.length)) = x) (hx _ (by omega))
          · exact hge
    · have h1' : hs.length = L.length + 1 := by omega
      have hd : ∃ o, hs.drop L.length = [o] ∧ hs[L.length]? = some o := by
        have hlt2 : L.length < hs.length := by omega
        refine ⟨hs[L.length], ?_, List.getElem?_eq_getElem hlt2⟩
        rw [List.drop_eq_getElem_cons hlt2, List.drop_eq_nil_of_le (by omega)]
      obtain ⟨o1, hd1, hd2⟩ := hd
      simp only [hd1, List.map_cons, List.map_nil, List.zipIdx_cons, List.zipIdx_nil, Nat.add_zero]
      have hbH : base ≤ H1.length := by omega
      obtain ⟨l1, l2⟩ := put_one_length (h := H1) (b := base) (o := o1.map (AO.ren (back L base))) hbH
      have hg := fun i => put_one (h := H1) (b := base) (o := o1.map (AO.ren (back L base))) hbH i
      refine ⟨by omega, fun x hx => ?_, fun i o ho => ?_, fun x hx => ?_⟩
      · rcases hx with hx | ⟨i, hi, rfl⟩
        · omega
        · by_cases hiL : i < L.length
          · have := inL i hiL; omega
          · rw [back_ge (by omega)]
            have : i = L.length := by omega
            subst this; simpa using l2
      · have hi := (List.getElem?_eq_some_iff.1 ho).1
        by_cases hiL : i < L.length
        · rw [hg, if_neg (neB i hiL)]; exact getL i o hiL ho
        · have : i = L.length := by omega
          subst this
          rw [hd2] at ho; cases ho
          rw [back_ge (Nat.le_refl _), Nat.sub_self, Nat.add_zero, hg, if_pos rfl]
      · have hxb : x ≠ base := by
          intro he
          exact hx L.length (by omega) (by rw [back_ge (Nat.le_refl _)]; omega)
        rw [hg, if_neg hxb]
        exact keepL x (fun i hi => hx i (by omega))
end Go.Ab
namespace Go.Ab
variable {F : Fz} {m : Mp} {w : World} {h : Heap}

theorem fin_some {F' F2 : Fz} {m2 : Mp} {w2 : World} {hs ph h1 : Heap} {L : List Nat} {base : Nat} (hFF : ∀ b c, F b = some c → F' b = some c) (s1 : St F' m w h1) (hlen1 : h1.length = h.length) (hev : Ev F m w h F' m w h1)
    (hown : ∀ b, Own (sub L m) ph b → Own m h1 b) (hphl : ph.length = L.length) (hnd : L.Nodup) (hlt : ∀ i ∈ L, i < h.length ∧ ∃ l, m i = some l)
    (hlive : ∀ i ∈ L, ∀ o, ph[place L i]? = some (some o) → o.isLive = true → ∃ o', h1[i]? = some (some o') ∧ o'.isLive = true)
    (s2 : St F2 m2 w2 hs) (ev : Ev F' (sub L m) w ph F2 m2 w2 hs) (hb : base ≤ h.length) (hnx : hs.length - L.length ≤ 1 ∨ base = h.length) (hmb : m base = none) :
    ∃ m3 : Mp, St F2 m3 w2 (put h1 (backW L base hs)) ∧ Ev F m w h F2 m3 w2 (put h1 (backW L base hs)) ∧ (∀ i, i < hs.length → m3 (back L base i) = m2 i) ∧ ∀ x, m3 x = m x ∨ ∃ i, i < hs.length ∧ back L base i = x := by
  have hle : L.length ≤ hs.length := by rw [← hphl]; exact ev.len
  have hnL : base ∉ L := by intro hin; obtain ⟨l, hl⟩ := (hlt base hin).2; rw [hmb] at hl; cases hl
  obtain ⟨g1, g2, g3, g4⟩ := fin_get (h1 := h1) (base := base) hle hnd (fun i hi => by rw [hlen1]; exact (hlt i hi).1) (by omega) (by omega) hnL
  have hnew : ∀ x, base ≤ x → x < base + (hs.length - L.length) → x ∉ L ∧ m x = none := by
    intro x hx1 hx2
    by_cases he : x = base
    · subst he; exact ⟨hnL, hmb⟩
    · have hbe : base = h.length := by omega
      refine ⟨fun hin => by have := (hlt x hin).1; omega, ?_⟩
      cases hm : m x with
      | none => rfl
      | some l => have := s1.dom x l hm; omega
  let m3 : Mp := fun x => if x ∈ L then m2 (place L x) else if base ≤ x ∧ x < base + (hs.length - L.length) then m2 (L.length + (x - base)) else m x
  have hback : ∀ i, i < hs.length → m3 (back L base i) = m2 i := by
    intro i hi
    by_cases hiL : i < L.length
    · rw [back_lt hiL]
      simp only [m3, List.getElem_mem, if_true]
      congr 1
      exact hnd.idxOf_getElem i hiL
    · rw [back_ge (by omega)]
      have := (hnew (base + (i - L.length)) (by omega) (by omega)).1
      simp only [m3, if_neg this]
      rw [if_pos (by omega)]
      congr 1; omega
  have hm3 : ∀ x l, m x = some l → m3 x = some l := by
    intro x l hx
    by_cases hin : x ∈ L
    · simp only [m3, hin, if_true]
      exact ev.mp _ _ (by rw [sub_place hin]; exact hx)
    · simp only [m3, hin, if_false]
      rw [if_neg]
      · exact hx
      · rintro ⟨a, b⟩; rw [(hnew x a b).2] at hx; cases hx
  have hLback : ∀ x ∈ L, ∃ i, i < hs.length ∧ back L base i = x := by
    intro x hx
    have hp := List.idxOf_lt_length_of_mem hx
    refine ⟨place L x, by unfold place; omega, ?_⟩
    unfold place; rw [back_lt hp]; exact List.getElem_idxOf hp
  have cases' : ∀ x o, (put h1 (backW L base hs))[x]? = some (some o) → (∃ i o', i < hs.length ∧ back L base i = x ∧ hs[i]? = some (some o') ∧ o = o'.ren (back L base)) ∨ (x ∉ L ∧ m3 x = m x ∧ h1[x]? = some (some o)) := by
    intro x o hx
    by_cases hex : ∃ i, i < hs.length ∧ back L base i = x
    · obtain ⟨i, hi, rfl⟩ := hex
      rw [g3 i _ (List.getElem?_eq_getElem hi)] at hx
      cases hsi : hs[i] with
      | none => rw [hsi] at hx; simp at hx
      | some o' =>
        rw [hsi] at hx
        simp only [Option.map_some, Option.some.injEq] at hx
        exact .inl ⟨i, o', hi, rfl, by rw [List.getElem?_eq_getElem hi, hsi], hx.symm⟩
    · have hx' := g4 x (fun i hi he => hex ⟨i, hi, he⟩)
      rw [hx'] at hx
      have hin : x ∉ L := fun hin => hex (hLback x hin)
      refine .inr ⟨hin, ?_, hx⟩
      simp only [m3, hin, if_false]
      rw [if_neg]
      rintro ⟨a, b⟩
      exact hex ⟨L.length + (x - base), by omega, by rw [back_ge (by omega)]; omega⟩
  have notOwn : ∀ x o l, x ∉ L → h1[x]? = some (some o) → o.isLive = true → m x = some l → ¬ Own (sub L m) ph l.b := by
    rintro x o l hin hx hv hl ⟨i, o2, l2, hi, hv2, hs2, he⟩
    have hiL : i < L.length := by rw [← hphl]; exact (List.getElem?_eq_some_iff.1 hi).1
    have hmem : L[i] ∈ L := List.getElem_mem hiL
    have hpl : place L L[i] = i := hnd.idxOf_getElem i hiL
    obtain ⟨o3, q1, q2⟩ := hlive L[i] hmem o2 (by rw [hpl]; exact hi) hv2
    have hml : m L[i] = some l2 := by simpa [sub, hiL] using hs2
    have := s1.sep x L[i] o o3 l l2 hx q1 hv q2 hl hml he.symm
    exact hin (this ▸ hmem)
  have hgrow : ∀ x, m3 x = m x ∨ ∃ i, i < hs.length ∧ back L base i = x := by
    intro x
    by_cases hin : x ∈ L
    · exact .inr (hLback x hin)
    · by_cases hr : base ≤ x ∧ x < base + (hs.length - L.length)
      · exact .inr ⟨L.length + (x - base), by omega, by rw [back_ge (by omega)]; omega⟩
      · refine .inl ?_
        simp only [m3, hin, if_false]
        rw [if_neg hr]
  refine ⟨m3, ⟨fun x l hx => ?_, fun x o hx => ?_, fun x y o o' l l' hx hy v1 v2 mx my e => ?_, s2.frz⟩,
    ⟨fun b c hbc => ev.fz _ _ (hFF b c hbc), hm3, ev.size, ev.os, ev.output, ev.tape, fun b hbl hno => ?_, by omega⟩, hback, hgrow⟩
  · by_cases hin : x ∈ L
    · obtain ⟨i, hi, he⟩ := hLback x hin
      exact g2 x (.inr ⟨i, hi, he⟩)
    · simp only [m3, hin, if_false] at hx
      split at hx
      · rename_i hr
        exact g2 x (.inr ⟨L.length + (x - base), by omega, by rw [back_ge (by omega)]; omega⟩)
      · exact g2 x (.inl (s1.dom x l hx))
  · rcases cases' x o hx with ⟨i, o', hi, rfl, ho', rfl⟩ | ⟨hin, hmx, hx1⟩
    · obtain ⟨l, hl, hR⟩ := s2.obj i o' ho'
      refine ⟨l, by rw [hback i hi]; exact hl, obj_ren hR (fun j hj => ?_)⟩
      obtain ⟨lj, hlj⟩ := obj_ids hR j hj
      exact hback j (s2.dom j lj hlj)
    · obtain ⟨l, hl, hR⟩ := s1.obj x o hx1
      refine ⟨l, by rw [hmx]; exact hl, hR.mono ev.fz hm3 (fun hv => ?_)⟩
      obtain ⟨a, b, _⟩ := ev.keep l.b (hR.lt hv).1 (notOwn x o l hin hx1 hv hl)
      exact ⟨a, b⟩
  · rcases cases' x o hx with ⟨i, p, hi, rfl, hp, rfl⟩ | ⟨hin, hmx, hx1⟩
    · rw [hback i hi] at mx
      rw [ren_live] at v1
      rcases cases' y o' hy with ⟨j, q, hj, rfl, hq, rfl⟩ | ⟨hin', hmy, hy1⟩
      · rw [hback j hj] at my
        rw [ren_live] at v2
        rw [s2.sep i j p q l l' hp hq v1 v2 mx my e]
      · exfalso
        rw [hmy] at my
        obtain ⟨l0, hl0, hR⟩ := s1.obj y o' hy1
        rw [my] at hl0; cases hl0
        exact (ev.keep l'.b (hR.lt v2).1 (notOwn y o' l' hin' hy1 v2 my)).2.2 ⟨i, p, l, hp, v1, mx, e⟩
    · rw [hmx] at mx
      rcases cases' y o' hy with ⟨j, q, hj, rfl, hq, rfl⟩ | ⟨hin', hmy, hy1⟩
      · exfalso
        rw [hback j hj] at my
        rw [ren_live] at v2
        obtain ⟨l0, hl0, hR⟩ := s1.obj x o hx1
        rw [mx] at hl0; cases hl0
        exact (ev.keep l.b (hR.lt v1).1 (notOwn x o l hin hx1 v1 mx)).2.2 ⟨j, q, l', hq, v2, my, e.symm⟩
      · rw [hmy] at my
        exact s1.sep x y o o' l l' hx1 hy1 v1 v2 mx my e
  · obtain ⟨_, k2, k3⟩ := hev.keep b hbl hno
    obtain ⟨e1, e2, e3⟩ := ev.keep b hbl (fun ho => k3 (hown b ho))
    refine ⟨e1, e2.trans k2, ?_⟩
    rintro ⟨x, o, l, hx, hv, hl, he⟩
    rcases cases' x o hx with ⟨i, p, hi, rfl, hp, rfl⟩ | ⟨hin, hmx, hx1⟩
    · rw [hback i hi] at hl
      rw [ren_live] at hv
      exact e3 ⟨i, p, l, hp, hv, hl, he⟩
    · rw [hmx] at hl
      exact k3 ⟨x, o, l, hx1, hv, hl, he⟩
theorem plain_obj {F F2 : Fz} {m2 : Mp} {w2 : World} {o : AO} {l : Loc} (hF : ∀ b c, F b = some c → F2 b = some c) (hp : plainO (some o) = true) (h : ObjR F2 m2 w2 o l) : ObjR F m2 w2 o l := by
  cases o with
  | flat k es =>
    obtain ⟨a, b, c, d, e, c', T, fr, h1, h2, h3, h4⟩ := h
    refine ⟨a, b, c, d, ?_, c', T, fr, h1, h2, h3, fun i j e x he hx => ?_⟩
    · cases hf : F l.b with
      | none => rfl
      | some z => rw [hF _ _ hf] at e; cases e
    · obtain ⟨v, v1, v2, v3⟩ := h4 i j e x he hx
      refine ⟨v, v1, v2, ?_⟩
      rw [List.getElem?_map] at he
      simp only [Option.map_eq_some_iff] at he
      obtain ⟨e', he', rfl⟩ := he
      rw [List.getElem?_map] at hx
      simp only [Option.map_eq_some_iff] at hx
      obtain ⟨x', hx', rfl⟩ := hx
      simp only [plainO, List.all_eq_true] at hp
      have := hp e' (List.mem_of_getElem? he') x' (List.mem_of_getElem? hx')
      cases v3 with
      | d v3 => exact .d (scalar_rd this v3)
  | _ => cases hp
/-- A call: what goes along and what comes back. -/
theorem fin_ok (s : St F m w h) {pol : Pol} {args : List AV} {xs : Nat → Value} {p : Pass} (hr : (passCall pol args).run h = some p) (hargs : ∀ (i : Nat) v, args[i]? = some v → RV F m v (xs i)) :
    ∃ F', (∀ b c, F b = some c → F' b = some c) ∧ St F' (sub p.L m) w p.heap ∧ p.args.length = args.length ∧ (∀ (i : Nat) v, p.args[i]? = some v → RV F' (sub p.L m) v (xs i)) ∧
      ∀ {F2 m2 w2 hs v x}, St F2 m2 w2 hs → RV F2 m2 v x → Ev F' (sub p.L m) w p.heap F2 m2 w2 hs → (p.heap.length = 0 → v.scalar = true → hs = []) → ∀ {base}, base ≤ h.length → ((finCall p base v hs).nx ≤ 1 ∨ base = h.length) → m base = none →
        ∃ F3 m3, St F3 m3 w2 (put h (finCall p base v hs).wr) ∧ RV F3 m3 (finCall p base v hs).v x ∧ Ev F m w h F3 m3 w2 (put h (finCall p base v hs).wr) ∧ Grown m m3 (finCall p base v hs).wr := by
  obtain ⟨F', hFF, hlaid, hev, t1, hown, hphl, hnd, hlt, hlive, hal, hav⟩ := pass_ok s hr hargs
  refine ⟨F', hFF, t1, hal, hav, ?_⟩
  intro F2 m2 w2 hs v x s2 hv ev hscal base hb hnx hmb
  have hwr : (finCall p base v hs).wr = (if p.L.isEmpty && (v.scalar || resFree v hs) then [] else p.frz) ++ backW p.L base hs := rfl
  have hvv : (finCall p base v hs).v = v.ren (back p.L base) := rfl
  rw [hwr, hvv]
  by_cases hc : (p.L.isEmpty && v.scalar) = true
  · simp only [Bool.and_eq_true, List.isEmpty_iff] at hc
    have hp0 : p.heap.length = 0 := by rw [hphl, hc.1]; rfl
    have hhs := hscal hp0 hc.2
    subst hhs
    have hp1 : p.heap = [] := List.length_eq_zero_iff.1 hp0
    rw [hp1, hc.1] at ev
    obtain ⟨a, b⟩ := fin_none s ev
    have hnil : (if p.L.isEmpty && (v.scalar || resFree v []) then [] else p.frz) ++ backW p.L base [] = [] := by simp [hc.1, hc.2, backW]
    rw [hnil]
    exact ⟨F, m, a, scalar_rv hc.2 hv, b, grown_same⟩
  have hgr : ∀ {m3 : Mp} {a : List (Nat × Option AO)}, (∀ x, m3 x = m x ∨ ∃ i, i < hs.length ∧ back p.L base i = x) → Grown m m3 (a ++ backW p.L base hs) := by
    intro m3 a c4 x
    refine (c4 x).imp id ?_
    rintro ⟨i, hi, rfl⟩
    have hmem : (back p.L base i, (hs[i]).map (AO.ren (back p.L base))) ∈ backW p.L base hs := by
      unfold backW
      refine List.mem_map.2 ⟨(hs[i], i), ?_, rfl⟩
      exact List.mem_zipIdx_iff_getElem?.2 (List.getElem?_eq_getElem hi)
    exact ⟨_, List.mem_append_right _ hmem⟩
  by_cases hc2 : (p.L.isEmpty && resFree v hs) = true
  · simp only [Bool.and_eq_true, List.isEmpty_iff] at hc2
    obtain ⟨hL, hfree⟩ := hc2
    have hp0 : p.heap.length = 0 := by rw [hphl, hL]; rfl
    have hp1 : p.heap = [] := List.length_eq_zero_iff.1 hp0
    have hF2 : ∀ b c, F b = some c → F2 b = some c := fun b c hb => ev.fz _ _ (hFF b c hb)
    have hall : hs.all plainO = true := by cases v <;> first | exact hfree | cases hfree
    have s2' : St F m2 w2 hs := ⟨s2.dom, fun i o hi => by
        obtain ⟨l, h1, h2⟩ := s2.obj i o hi
        exact ⟨l, h1, plain_obj hF2 (List.all_eq_true.1 hall _ (List.mem_of_getElem? hi)) h2⟩, s2.sep, fun b c hb => s2.frz b c (hF2 b c hb)⟩
    have ev' : Ev F (sub [] m) w [] F m2 w2 hs := by
      rw [hp1, hL] at ev
      exact ⟨fun _ _ h => h, ev.mp, ev.size, ev.os, ev.output, ev.tape, fun b hb hno => ⟨(ev.keep b hb hno).1, rfl, (ev.keep b hb hno).2.2⟩, ev.len⟩
    have hv' : RV F m2 v x := by
      cases hv with
      | sl h1 h2 h3 h4 h5 h6 => exact .sl h1 h2 h3 h4 h5 h6
      | _ => cases hfree
    have hnx : hs.length - ([] : List Nat).length ≤ 1 ∨ base = h.length := by
      have h0 : (finCall p base v hs).nx = hs.length - p.L.length := rfl
      rw [h0, hL] at hnx; exact hnx
    have hno : ∀ b, ¬ Own (sub [] m) [] b := by rintro b ⟨i, o, l, hi, _⟩; simp at hi
    obtain ⟨m3, c1, c2, c3, c4⟩ := fin_some (F' := F) (F2 := F) (ph := []) (h1 := h) (L := []) (base := base) (fun _ _ h => h) s rfl (Ev.refl _ _ _ _) (fun b hb => absurd hb (hno b)) rfl List.nodup_nil (by simp) (by simp) s2' ev' hb hnx hmb
    have hcond : (if p.L.isEmpty && (v.scalar || resFree v hs) then [] else p.frz) = ([] : List (Nat × Option AO)) := by simp [hL, hfree]
    rw [hcond, hL, List.nil_append]
    have := hgr (m3 := m3) (a := []) (by rw [hL]; exact c4)
    rw [hL, List.nil_append] at this
    exact ⟨F, m3, c1, rv_ren hv' (fun j hj => by obtain ⟨l, hl⟩ := rv_ids hv' j hj; exact c3 j (s2.dom j l hl)), c2, this⟩
  · have hcond : (if p.L.isEmpty && (v.scalar || resFree v hs) then [] else p.frz) = p.frz := by
      cases h1 : p.L.isEmpty <;> cases h2 : v.scalar <;> cases h3 : resFree v hs <;> simp_all
    rw [hcond, put_app]
    have hlen1 : (put h p.frz).length = h.length := (put_mem (fun q hq => (hlaid.2 q hq).1)).1
    obtain ⟨m3, c1, c2, c3, c4⟩ := fin_some hFF hlaid.1 hlen1 hev hown hphl hnd hlt hlive s2 ev hb hnx hmb
    exact ⟨F2, m3, c1, rv_ren hv (fun j hj => by obtain ⟨l, hl⟩ := rv_ids hv j hj; exact c3 j (s2.dom j l hl)), c2, hgr c4⟩
end Go.Ab
