/-
  How abstract values, objects and heaps stand for the machine's. States: what becomes of them where an object is made, written, moved. Each operation of the machine does what the abstract one says: values, loads, stores, new objects. New objects and stores. Places and elements. Aggregates, slices' literals and lengths. Slices: lengths, parts, made ones. Made slices; what a slice holds; appending and copying. Appending, copying, made slices. Appending and copying, as operations.
-/
import Derived.CallsIn
import Derived.Laws.Rows
import Derived.Laws.Sem
import Derived.Laws.CopyRow
import Derived.Laws.AppendOwn
import Derived.Test.YtfdekggfdklfeaaA1
set_option linter.all false
set_option linter.unusedVariables false
set_option linter.unusedSimpArgs false
namespace Go.Ab

/-- Where an object lies: its block, its first cell, the cells of an element, how many elements there is room for. -/
structure Loc where
  b : Nat
  o : Nat
  k : Nat
  cap : Nat

/-- frozen blocks, with what they hold -/
abbrev Fz := Nat → Option (Array Value)
/-- where the objects lie -/
abbrev Mp := Nat → Option Loc

inductive RD (F : Fz) : DV → Value → Prop where
  | bool (b) : RD F (.bool b) (.bool b)
  | int (k n) : RD F (.int k n) (.int k n)
  | str (s) : RD F (.str s) (.string s)
  | nilp : RD F .nilp (.pointer none)
  | snil : RD F .snil (.slice none 0 0)
  | mnil : RD F .mnil (.map none)
  | fnil : RD F .fnil .nilFunc
  | inil : RD F .inil .nilIface
  | fptr {e o b c off} (val : Nat → Value) : F b = some c → (∀ j x, e[j]? = some x → c[off + j]? = some (val j)) → (∀ j x, e[j]? = some x → RD F x (val j)) →
      RD F (.fptr e o) (.pointer (some ⟨b, off + o, none⟩))
  | fslE {nn full a cap} : (nn = true → a ≠ none) → (full = true → cap = 0) → (a = none → cap = 0) → RD F (.fsl [] nn full) (.slice a 0 cap)
  | fsl {es nn full b c off n cap k} (val : Nat → Nat → Value) : es ≠ [] → n = es.length → F b = some c → n ≤ cap → (full = true → cap = n) → 0 < k → (∀ e ∈ es, e.length = k) →
      (∀ i j e x, es[i]? = some e → e[j]? = some x → c[off + (i * k + j)]? = some (val i j)) → (∀ i j e x, es[i]? = some e → e[j]? = some x → RD F x (val i j)) →
      RD F (.fsl es nn full) (.slice (some ⟨b, off, none⟩) n cap)

theorem RD.mono {F F' : Fz} (h : ∀ b c, F b = some c → F' b = some c) {v x} (r : RD F v x) : RD F' v x := by
  induction r with
  | bool b => exact .bool b
  | int k n => exact .int k n
  | str s => exact .str s
  | nilp => exact .nilp
  | snil => exact .snil
  | mnil => exact .mnil
  | fnil => exact .fnil
  | inil => exact .inil
  | fptr val h1 h2 _ ih => exact .fptr val (h _ _ h1) h2 ih
  | fslE h1 h2 h3 => exact .fslE h1 h2 h3
  | fsl val h1 h2 h3 h4 h5 h6 h7 h8 _ ih => exact .fsl val h1 h2 (h _ _ h3) h4 h5 h6 h7 h8 ih

def one : Value → Bool
  | .agg _ | .tuple _ => false
  | _ => true

theorem RD.one {F v x} (r : RD F v x) : one x = true := by cases r <;> rfl

def RF (m : Mp) : Fn → Fn → Prop
  | .yield i, .yield b => ∃ l, m i = some l ∧ b = l.b
  | .yield _, _ => False
  | f, g => f = g

inductive RV (F : Fz) (m : Mp) : AV → Value → Prop where
  | d {v x} : RD F v x → RV F m (.d v) x
  | agg {cs arr} (val : Nat → Value) : cs.length = arr.size → (∀ i c, cs[i]? = some c → arr[i]? = some (val i) ∧ one (val i) = true) → (∀ i c, cs[i]? = some c → RV F m c (val i)) → RV F m (.agg cs) (.agg arr)
  | tup {cs arr} (val : Nat → Value) : cs.length = arr.size → (∀ i c, cs[i]? = some c → arr[i]? = some (val i)) → (∀ i c, cs[i]? = some c → RV F m c (val i)) → RV F m (.tup cs) (.tuple arr)
  | ptr {id i o l} : m id = some l → RV F m (.ptr id i o) (.pointer (some ⟨l.b, l.o + (i * l.k + o), none⟩))
  | sl {id off len full l a cap} : m id = some l → len ≤ cap → (full = true → cap = len) → (full = false → off + cap = l.cap) → off + cap ≤ l.cap → (0 < cap → a = ⟨l.b, l.o + off * l.k, none⟩) →
      RV F m (.sl id off len full) (.slice (some a) len cap)
  | map {id l} : m id = some l → RV F m (.map id) (.map (some l.b))
  | fn {f g as bs cs ds} (va vb : Nat → Value) : RF m f g → as.length = cs.size → bs.length = ds.size → (∀ i c, as[i]? = some c → cs[i]? = some (va i)) → (∀ i c, as[i]? = some c → RV F m c (va i)) →
      (∀ i c, bs[i]? = some c → ds[i]? = some (vb i)) → (∀ i c, bs[i]? = some c → RV F m c (vb i)) → RV F m (.fn f as bs) (.func g cs ds)
  | ifc {t v x} : RV F m v x → RV F m (.ifc t v) (.iface t x)
  | top {x} : RV F m .top x

theorem RF.mono {m m' : Mp} (h : ∀ i l, m i = some l → m' i = some l) {f g} (r : RF m f g) : RF m' f g := by
  cases f <;> cases g <;> simp_all [RF]
  obtain ⟨l, a, b⟩ := r
  exact ⟨l, h _ _ a, b⟩

theorem RV.mono {F F' : Fz} {m m' : Mp} (hF : ∀ b c, F b = some c → F' b = some c) (hm : ∀ i l, m i = some l → m' i = some l) {v x} (r : RV F m v x) : RV F' m' v x := by
  induction r with
  | d h => exact .d (h.mono hF)
  | agg val h1 h2 _ ih => exact .agg val h1 h2 ih
  | tup val h1 h2 _ ih => exact .tup val h1 h2 ih
  | ptr h => exact .ptr (hm _ _ h)
  | sl h1 h2 h3 h4 h5 h6 => exact .sl (hm _ _ h1) h2 h3 h4 h5 h6
  | map h => exact .map (hm _ _ h)
  | fn va vb h1 h2 h3 h4 _ h6 _ ih1 ih2 => exact .fn va vb (h1.mono hm) h2 h3 h4 ih1 h6 ih2
  | ifc _ ih => exact .ifc ih
  | top => exact .top

/-- rows of cells in an array of cells -/
def Rows (F : Fz) (m : Mp) (c : Array Value) (o k : Nat) (es : List (List AV)) : Prop :=
  ∀ i j e x, es[i]? = some e → e[j]? = some x → ∃ v, c[o + (i * k + j)]? = some v ∧ one v = true ∧ RV F m x v
theorem Rows.mono {F F' : Fz} {m m' : Mp} (hF : ∀ b c, F b = some c → F' b = some c) (hm : ∀ i l, m i = some l → m' i = some l) {c o k es} (r : Rows F m c o k es) : Rows F' m' c o k es :=
  fun i j e x h1 h2 => let ⟨v, a, b, d⟩ := r i j e x h1 h2; ⟨v, a, b, d.mono hF hm⟩

def Live (F : Fz) (m : Mp) (w : World) (k : Nat) (es : List (List AV)) (l : Loc) : Prop :=
  l.k = k ∧ 0 < k ∧ es.length ≤ l.cap ∧ (∀ e ∈ es, e.length = k) ∧ F l.b = none ∧
    ∃ c T fr, w.heap[l.b]? = some (.cells c T fr) ∧ l.o + l.cap * k ≤ c.size ∧ fr = (0, 0) ∧ Rows F m c l.o k es

def ObjR (F : Fz) (m : Mp) (w : World) : AO → Loc → Prop
  | .cells k es, l => Live F m w k es l
  | .flat k es, l => Live F m w k (es.map (·.map .d)) l
  | .frz k es, l => l.k = k ∧ 0 < k ∧ es.length ≤ l.cap ∧ (∀ e ∈ es, e.length = k) ∧ ∃ c, F l.b = some c ∧ Rows F m c l.o k (es.map (·.map .d))
  | .siter s pos, l => l.o = 0 ∧ F l.b = none ∧ w.heap[l.b]? = some (.stringIter s pos)
  | .map es, l => l.o = 0 ∧ F l.b = none ∧ ∃ ents clock, w.heap[l.b]? = some (.map ents clock) ∧ ents.size = es.length ∧ ∀ (i : Nat) k v, es[i]? = some (k, v) → ∃ en : MapEntry, ents[i]? = some en ∧ RD F k en.key ∧ RV F m v en.val
  | _, _ => False

def AO.isLive : AO → Bool
  | .frz .. => false
  | _ => true

theorem ObjR.mono {F F' : Fz} {m m' : Mp} {w w' : World} (hF : ∀ b c, F b = some c → F' b = some c) (hm : ∀ i l, m i = some l → m' i = some l) {o l} (r : ObjR F m w o l)
    (hb : o.isLive = true → w'.heap[l.b]? = w.heap[l.b]? ∧ F' l.b = F l.b) : ObjR F' m' w' o l := by
  cases o with
  | cells k es =>
    obtain ⟨a, b, c, d, e, c', T, fr, h1, h2, h3, h4⟩ := r
    obtain ⟨x, y⟩ := hb rfl
    exact ⟨a, b, c, d, y.trans e, c', T, fr, x.trans h1, h2, h3, h4.mono hF hm⟩
  | flat k es =>
    obtain ⟨a, b, c, d, e, c', T, fr, h1, h2, h3, h4⟩ := r
    obtain ⟨x, y⟩ := hb rfl
    exact ⟨a, b, c, d, y.trans e, c', T, fr, x.trans h1, h2, h3, h4.mono hF hm⟩
  | frz k es =>
    obtain ⟨a, b, c, d, c', h1, h4⟩ := r
    exact ⟨a, b, c, d, c', hF _ _ h1, h4.mono hF hm⟩
  | siter s pos =>
    obtain ⟨a, b, c⟩ := r
    obtain ⟨x, y⟩ := hb rfl
    exact ⟨a, y.trans b, x.trans c⟩
  | map es =>
    obtain ⟨a, b, ents, clock, h1, h2, h3⟩ := r
    obtain ⟨x, y⟩ := hb rfl
    refine ⟨a, y.trans b, ents, clock, x.trans h1, h2, fun i k v hi => ?_⟩
    obtain ⟨en, e1, e2, e3⟩ := h3 i k v hi
    exact ⟨en, e1, e2.mono hF, e3.mono hF hm⟩
  | loop => exact r.elim

structure St (F : Fz) (m : Mp) (w : World) (h : Heap) : Prop where
  dom : ∀ i l, m i = some l → i < h.length
  obj : ∀ i o, h[i]? = some (some o) → ∃ l, m i = some l ∧ ObjR F m w o l
  sep : ∀ i j o o' l l', h[i]? = some (some o) → h[j]? = some (some o') → o.isLive = true → o'.isLive = true → m i = some l → m j = some l' → l.b = l'.b → i = j
  frz : ∀ b c, F b = some c → ∃ T fr, w.heap[b]? = some (.cells c T fr)

/-- blocks that live objects lie in -/
def Own (m : Mp) (h : Heap) (b : Nat) : Prop := ∃ i o l, h[i]? = some (some o) ∧ o.isLive = true ∧ m i = some l ∧ l.b = b

/-- What may turn between two states. -/
structure Ev (F : Fz) (m : Mp) (w : World) (h : Heap) (F' : Fz) (m' : Mp) (w' : World) (h' : Heap) : Prop where
  fz : ∀ b c, F b = some c → F' b = some c
  mp : ∀ i l, m i = some l → m' i = some l
  size : w.heap.size ≤ w'.heap.size
  os : w'.os = w.os
  output : w'.output = w.output
  tape : w'.tape = w.tape
  keep : ∀ b, b < w.heap.size → ¬ Own m h b → w'.heap[b]? = w.heap[b]? ∧ F' b = F b ∧ ¬ Own m' h' b
  len : h.length ≤ h'.length

theorem Ev.refl (F m w h) : Ev F m w h F m w h := ⟨fun _ _ h => h, fun _ _ h => h, Nat.le_refl _, rfl, rfl, rfl, fun _ _ h => ⟨rfl, rfl, h⟩, Nat.le_refl _⟩
theorem Ev.trans {F m w h F' m' w' h' F'' m'' w'' h''} (a : Ev F m w h F' m' w' h') (b : Ev F' m' w' h' F'' m'' w'' h'') : Ev F m w h F'' m'' w'' h'' :=
  ⟨fun x c hc => b.fz _ _ (a.fz _ _ hc), fun i l hl => b.mp _ _ (a.mp _ _ hl), Nat.le_trans a.size b.size, b.os.trans a.os, b.output.trans a.output, b.tape.trans a.tape,
   fun x hx ho => by
     obtain ⟨h1, h2, h3⟩ := a.keep x hx ho
     obtain ⟨g1, g2, g3⟩ := b.keep x (Nat.lt_of_lt_of_le hx a.size) h3
     exact ⟨g1.trans h1, g2.trans h2, g3⟩, Nat.le_trans a.len b.len⟩

structure EnvR (F : Fz) (m : Mp) (N : Nat) (e : Env) (a : Act) : Prop where
  size : a.tmps.size = N
  val : ∀ t v, e.lookup t = some v → RV F m v (a.tmps.getD t Go.undef)

theorem EnvR.get {F m N e a} (r : EnvR F m N e a) (t : Nat) : RV F m (e.get t) (a.tmps.getD t Go.undef) := by
  unfold Env.get
  cases h : e.lookup t with
  | none => exact .top
  | some v => exact r.val t v h
theorem EnvR.mono {F F' : Fz} {m m' : Mp} (hF : ∀ b c, F b = some c → F' b = some c) (hm : ∀ i l, m i = some l → m' i = some l) {N e a} (r : EnvR F m N e a) : EnvR F' m' N e a :=
  ⟨r.size, fun t v h => (r.val t v h).mono hF hm⟩
theorem lookup_cons {t t' : Nat} {v : AV} {e : Env} : List.lookup t' ((t, v) :: e) = if t' = t then some v else List.lookup t' e := by
  by_cases h : t' = t
  · subst h; simp [List.lookup]
  · have hb : (t' == t) = false := by simpa using h
    simp [List.lookup, h, hb]
theorem EnvR.put {F m N e a} (r : EnvR F m N e a) {d : Option Nat} {v x} (hd : ∀ t, d = some t → t < N) (hv : RV F m v x) : EnvR F m N (putE e d v) (a.put d x) := by
  cases d with
  | none => exact r
  | some t =>
    have ht := hd t rfl
    refine ⟨by simp [Act.put, r.size], fun t' v' h => ?_⟩
    simp only [putE, lookup_cons] at h
    simp only [Act.put]
    by_cases hh : t' = t
    · subst hh
      simp only [if_true, Option.some.injEq] at h
      subst h
      have : t' < (a.tmps.setIfInBounds t' x).size := by simp [r.size, ht]
      rw [Array.getD_eq_getD_getElem?, Array.getElem?_setIfInBounds_self_of_lt (by rw [r.size]; exact ht)]
      exact hv
    · simp only [hh, if_false] at h
      have := r.val t' v' h
      rw [Array.getD_eq_getD_getElem?] at this ⊢
      rw [Array.getElem?_setIfInBounds_ne (by omega)]
      exact this
theorem EnvR.keep {F m N e a} (r : EnvR F m N e a) (vs : List Nat) : EnvR F m N (keep vs e) a := by
  refine ⟨r.size, fun t v h => ?_⟩
  induction vs with
  | nil => simp [Ab.keep] at h
  | cons x l ih =>
    simp only [Ab.keep, List.map_cons, lookup_cons] at h
    by_cases hx : t = x
    · simp only [hx, if_true, Option.some.injEq] at h
      subst h; rw [hx]; exact r.get x
    · simp only [hx, if_false] at h; exact ih h

/-- the variables of the package -/
def GlobR (F : Fz) (G : Nat → Option (List DV)) : Prop := ∀ g cs, G g = some cs → ∃ c, F g = some c ∧ ∀ (j : Nat) x, cs[j]? = some x → ∃ v, c[j]? = some v ∧ RD F x v

theorem absZ_rd {F v x} (h : absZ v = some x) : RD F x v := by
  unfold absZ at h
  split at h <;> first | (cases h; constructor) | cases h
theorem absZs_rd {F} : ∀ {vs : List Value} {xs}, absZs vs = some xs → xs.length = vs.length ∧ ∀ (i : Nat) x, xs[i]? = some x → ∃ v, vs[i]? = some v ∧ RD F x v
  | [], xs, h => by simp [absZs] at h; subst h; simp
  | v :: vs, xs, h => by
    simp only [absZs] at h
    cases h1 : absZ v with
    | none => simp [h1] at h
    | some y =>
      cases h2 : absZs vs with
      | none => simp [h1, h2] at h
      | some ys =>
        simp only [h1, h2, Option.some.injEq] at h
        subst h
        obtain ⟨a, b⟩ := absZs_rd (F := F) h2
        refine ⟨by simp [a], fun i x hi => ?_⟩
        cases i with
        | zero => simp only [List.getElem?_cons_zero, Option.some.injEq] at hi; subst hi; exact ⟨v, by simp, absZ_rd h1⟩
        | succ i => simp only [List.getElem?_cons_succ] at hi ⊢; exact b i x hi

theorem absV_rv {F m v x} (h : absV v = some x) : RV F m x v := by
  unfold absV at h
  split at h
  · rename_i cs
    cases h1 : absZs cs.toList with
    | none => simp [h1] at h
    | some l =>
      simp only [h1, Option.map_some, Option.some.injEq] at h
      subst h
      obtain ⟨a, b⟩ := absZs_rd (F := F) h1
      refine .agg (fun i => cs.getD i Go.undef) (by simpa using a) (fun i c hi => ?_) (fun i c hi => ?_)
      · simp only [List.getElem?_map, Option.map_eq_some_iff] at hi
        obtain ⟨y, hy, rfl⟩ := hi
        obtain ⟨v, hv, hr⟩ := b i y hy
        have hv' : cs[i]? = some v := by simpa using hv
        simp only [Array.getD_eq_getD_getElem?, hv', Option.getD_some]
        exact ⟨trivial, hr.one⟩
      · simp only [List.getElem?_map, Option.map_eq_some_iff] at hi
        obtain ⟨y, hy, rfl⟩ := hi
        obtain ⟨v, hv, hr⟩ := b i y hy
        have hv' : cs[i]? = some v := by simpa using hv
        simp only [Array.getD_eq_getD_getElem?, hv', Option.getD_some]
        exact .d hr
  · rename_i fn first cap
    split at h
    · rename_i hc
      simp only [Bool.and_eq_true, Array.isEmpty_iff] at hc
      cases h
      obtain ⟨rfl, rfl⟩ := hc
      exact .fn (fun _ => Go.undef) (fun _ => Go.undef) rfl rfl rfl (by simp) (by simp) (by simp) (by simp)
    · cases h
  · rename_i vs
    split at h
    · rename_i hc
      cases h
      have : vs = #[] := by simpa using hc
      subst this
      exact .tup (fun _ => Go.undef) rfl (by simp) (by simp)
    · cases h
  · cases h1 : absZ v with
    | none => simp [h1] at h
    | some y => simp only [h1, Option.map_some, Option.some.injEq] at h; subst h; exact .d (absZ_rd h1)

theorem ev_rv {F m N e a G op v} (hE : EnvR F m N e a) (hG : GlobR F G) (h : ev G e op = some v) : RV F m v (a.eval op) := by
  cases op with
  | tmp t => simp only [ev, Option.some.injEq] at h; subst h; exact hE.get t
  | const x => exact absV_rv h
  | global g =>
    simp only [ev, Option.map_eq_some_iff] at h
    obtain ⟨cs, hg, rfl⟩ := h
    obtain ⟨c, h1, h2⟩ := hG g cs hg
    refine .d ?_
    have := RD.fptr (F := F) (e := cs) (o := 0) (b := g) (c := c) (off := 0) (fun j => c.getD j Go.undef) h1 (fun j x hj => ?_) (fun j x hj => ?_)
    · simpa [Act.eval] using this
    · obtain ⟨v, hv, hr⟩ := h2 j x hj
      simp [hv]
    · obtain ⟨v, hv, hr⟩ := h2 j x hj
      simpa [hv] using hr
  | func f =>
    simp only [ev, Option.some.injEq] at h; subst h
    exact .fn (fun _ => Go.undef) (fun _ => Go.undef) rfl rfl rfl (by simp) (by simp) (by simp) (by simp)
end Go.Ab
namespace Go.Ab

def upd (m : Mp) (i : Nat) (l : Loc) : Mp := fun j => if j = i then some l else m j
theorem upd_same {m i l} : upd m i l i = some l := by simp [upd]
theorem upd_other {m : Mp} {i l j} (h : j ≠ i) : upd m i l j = m j := by simp [upd, h]
theorem upd_ext {m : Mp} {i l} (h : m i = none) : ∀ j x, m j = some x → upd m i l j = some x := by
  intro j x hj
  by_cases e : j = i
  · subst e; rw [h] at hj; cases hj
  · rw [upd_other e]; exact hj

theorem put_one {h : Heap} {b o} (hb : b ≤ h.length) (i : Nat) : (put h [(b, o)])[i]? = if i = b then some o else h[i]? := by
  simp only [put]
  by_cases hlt : b < h.length
  · rw [if_pos hlt, List.getElem?_set]
    by_cases e : i = b
    · subst e; simp [hlt]
    · rw [if_neg (by omega), if_neg e]
  · rw [if_neg hlt]
    have hb' : b = h.length := by omega
    subst hb'
    rw [List.getElem?_append]
    by_cases e : i = h.length
    · subst e; simp
    · rw [if_neg e]
      by_cases hi : i < h.length
      · rw [if_pos hi]
      · rw [if_neg hi, List.getElem?_eq_none (by simp; omega), List.getElem?_eq_none (by omega)]
theorem put_one_length {h : Heap} {b o} (hb : b ≤ h.length) : h.length ≤ (put h [(b, o)]).length ∧ b < (put h [(b, o)]).length := by
  simp only [put]
  by_cases hlt : b < h.length
  · rw [if_pos hlt]; simp [hlt]
  · rw [if_neg hlt]; simp; omega

theorem St.lt {F m w h} (s : St F m w h) {b c} (hf : F b = some c) : b < w.heap.size := by
  obtain ⟨T, fr, hh⟩ := s.frz b c hf
  exact (Array.getElem?_eq_some_iff.1 hh).1
theorem ObjR.lt {F m w o l} (r : ObjR F m w o l) (hl : o.isLive = true) : l.b < w.heap.size ∧ F l.b = none := by
  cases o with
  | cells k es => obtain ⟨_, _, _, _, e, c', T, fr, h1, _⟩ := r; exact ⟨(Array.getElem?_eq_some_iff.1 h1).1, e⟩
  | flat k es => obtain ⟨_, _, _, _, e, c', T, fr, h1, _⟩ := r; exact ⟨(Array.getElem?_eq_some_iff.1 h1).1, e⟩
  | frz => cases hl
  | siter s p => obtain ⟨_, e, h1⟩ := r; exact ⟨(Array.getElem?_eq_some_iff.1 h1).1, e⟩
  | map es => obtain ⟨_, e, ents, clock, h1, _⟩ := r; exact ⟨(Array.getElem?_eq_some_iff.1 h1).1, e⟩
  | loop => exact r.elim

/-- only the heap counts -/
theorem St.heap {F m w w' h} (s : St F m w h) (hw : w'.heap = w.heap) : St F m w' h :=
  ⟨s.dom, fun i o hi => let ⟨l, a, b⟩ := s.obj i o hi; ⟨l, a, b.mono (fun _ _ h => h) (fun _ _ h => h) (fun _ => ⟨by rw [hw], rfl⟩)⟩, s.sep,
   fun b c hb => let ⟨T, fr, hh⟩ := s.frz b c hb; ⟨T, fr, by rw [hw]; exact hh⟩⟩
theorem Ev.heap {F m w w' h} (hw : w'.heap = w.heap) (ho : w'.os = w.os) (hu : w'.output = w.output) (ht : w'.tape = w.tape) : Ev F m w h F m w' h :=
  ⟨fun _ _ h => h, fun _ _ h => h, by rw [hw]; exact Nat.le_refl _, ho, hu, ht, fun b _ ho => ⟨by rw [hw], rfl, ho⟩, Nat.le_refl _⟩

def pushed (w : World) (o : Obj) : World := { w with heap := w.heap.push o }
theorem pushed_old {w : World} {o : Obj} {b : Nat} (h : b < w.heap.size) : (pushed w o).heap[b]? = w.heap[b]? := by
  simp only [pushed, Array.getElem?_push]; rw [if_neg (by omega)]
theorem pushed_new {w : World} {o : Obj} : (pushed w o).heap[w.heap.size]? = some o := by
  show (w.heap.push o)[w.heap.size]? = some o
  simp

/-- A new object in a new block. -/
theorem St.alloc {F m w h base ao l ob} (s : St F m w h) (hb : base ≤ h.length) (hm : m base = none) (hl : l.b = w.heap.size) (hob : ObjR F (upd m base l) (pushed w ob) ao l) :
    St F (upd m base l) (pushed w ob) (put h [(base, some ao)]) ∧ Ev F m w h F (upd m base l) (pushed w ob) (put h [(base, some ao)]) := by
  have hF : F w.heap.size = none := by
    cases hf : F w.heap.size with
    | none => rfl
    | some c => have := s.lt hf; omega
  have old : ∀ i o, i ≠ base → h[i]? = some (some o) → ∃ l', upd m base l i = some l' ∧ ObjR F (upd m base l) (pushed w ob) o l' := by
    intro i o hi ho
    obtain ⟨l', h1, h2⟩ := s.obj i o ho
    refine ⟨l', by rw [upd_other hi]; exact h1, h2.mono (fun _ _ h => h) (upd_ext hm) (fun hv => ⟨pushed_old (h2.lt hv).1, rfl⟩)⟩
  refine ⟨⟨fun i l' hi => ?_, fun i o hi => ?_, fun i j o o' l1 l2 hi hj v1 v2 m1 m2 e => ?_, fun b c hb => ?_⟩, ⟨fun _ _ h => h, upd_ext hm, by simp [pushed], rfl, rfl, rfl, fun b hb' ho => ⟨pushed_old hb', rfl, ?_⟩, (put_one_length hb).1⟩⟩
  · have hlen := put_one_length (o := some ao) hb
    by_cases e : i = base
    · subst e; exact hlen.2
    · rw [upd_other e] at hi; exact Nat.lt_of_lt_of_le (s.dom i l' hi) hlen.1
  · rw [put_one hb] at hi
    by_cases e : i = base
    · subst e; simp only [if_true, Option.some.injEq] at hi; subst hi; exact ⟨l, upd_same, hob⟩
    · rw [if_neg e] at hi; exact old i o e hi
  · rw [put_one hb] at hi hj
    by_cases ei : i = base
    · by_cases ej : j = base
      · rw [ei, ej]
      · rw [if_neg ej] at hj
        rw [ei, upd_same] at m1; cases m1
        rw [upd_other ej] at m2
        obtain ⟨l', g1, g2⟩ := s.obj j o' hj
        rw [m2] at g1; cases g1
        have := (g2.lt v2).1; omega
    · rw [if_neg ei] at hi
      rw [upd_other ei] at m1
      obtain ⟨l', g1, g2⟩ := s.obj i o hi
      rw [m1] at g1; cases g1
      have := (g2.lt v1).1
      by_cases ej : j = base
      · rw [ej, upd_same] at m2; cases m2; omega
      · rw [if_neg ej] at hj; rw [upd_other ej] at m2; exact s.sep i j o o' l1 l2 hi hj v1 v2 m1 m2 e
  · obtain ⟨T, fr, hh⟩ := s.frz b c hb
    exact ⟨T, fr, by rw [pushed_old (s.lt hb)]; exact hh⟩
  · rintro ⟨i, o, l', hi, hv, hml, he⟩
    rw [put_one hb] at hi
    by_cases e : i = base
    · rw [e, upd_same] at hml; cases hml; omega
    · rw [if_neg e] at hi; rw [upd_other e] at hml; exact ho ⟨i, o, l', hi, hv, hml, he⟩

/-- A live object is written in its block. -/
theorem St.update {F m w w' h i o l ao} (s : St F m w h) (hi : h[i]? = some (some o)) (hv : o.isLive = true) (hml : m i = some l)
    (hsz : w'.heap.size = w.heap.size) (hos : w'.os = w.os) (hou : w'.output = w.output) (hta : w'.tape = w.tape) (hother : ∀ b, b ≠ l.b → w'.heap[b]? = w.heap[b]?) (hob : ObjR F m w' ao l) :
    St F m w' (h.set i (some ao)) ∧ Ev F m w h F m w' (h.set i (some ao)) := by
  have hlt : i < h.length := s.dom i l hml
  obtain ⟨l0, a0, b0⟩ := s.obj i o hi
  rw [hml] at a0; cases a0
  have hget : ∀ j, (h.set i (some ao))[j]? = if j = i then some (some ao) else h[j]? := by
    intro j; rw [List.getElem?_set]
    by_cases e : j = i
    · subst e; simp [hlt]
    · rw [if_neg (by omega), if_neg e]
  have hF := (b0.lt hv).2
  have old : ∀ j oj, j ≠ i → h[j]? = some (some oj) → ∃ l', m j = some l' ∧ ObjR F m w' oj l' ∧ (oj.isLive = true → l'.b ≠ l.b) := by
    intro j oj hj ho
    obtain ⟨l', h1, h2⟩ := s.obj j oj ho
    have hne : oj.isLive = true → l'.b ≠ l.b := fun hvj e => hj (s.sep j i oj o l' l ho hi hvj hv h1 hml e)
    exact ⟨l', h1, h2.mono (fun _ _ h => h) (fun _ _ h => h) (fun hvj => ⟨hother _ (hne hvj), rfl⟩), hne⟩
  refine ⟨⟨fun j l' hj => by simpa using s.dom j l' hj, fun j oj hj => ?_, fun j1 j2 o1 o2 l1 l2 h1 h2 v1 v2 m1 m2 e => ?_, fun b c hb => ?_⟩, ⟨fun _ _ h => h, fun _ _ h => h, by omega, hos, hou, hta, fun b hb' ho => ⟨hother b ?_, rfl, ?_⟩, by simp⟩⟩
  · rw [hget] at hj
    by_cases e : j = i
    · rw [if_pos e] at hj; cases hj; exact ⟨l, by rw [e]; exact hml, hob⟩
    · rw [if_neg e] at hj; obtain ⟨l', x, y, _⟩ := old j oj e hj; exact ⟨l', x, y⟩
  · rw [hget] at h1 h2
    by_cases e1 : j1 = i
    · by_cases e2 : j2 = i
      · rw [e1, e2]
      · rw [if_neg e2] at h2
        obtain ⟨l', x, _, z⟩ := old j2 o2 e2 h2
        rw [m2] at x; cases x
        rw [e1, hml] at m1; cases m1
        exact absurd e.symm (z v2)
    · rw [if_neg e1] at h1
      obtain ⟨l', x, _, z⟩ := old j1 o1 e1 h1
      rw [m1] at x; cases x
      by_cases e2 : j2 = i
      · rw [e2, hml] at m2; cases m2; exact absurd e (z v1)
      · rw [if_neg e2] at h2; exact s.sep j1 j2 o1 o2 l1 l2 h1 h2 v1 v2 m1 m2 e
  · obtain ⟨T, fr, hh⟩ := s.frz b c hb
    refine ⟨T, fr, ?_⟩
    rw [hother b (fun e => by rw [e, hF] at hb; cases hb)]; exact hh
  · intro e; exact ho ⟨i, o, l, hi, hv, hml, e.symm⟩
  · rintro ⟨j, oj, l', hj, hvj, hmj, he⟩
    rw [hget] at hj
    by_cases e : j = i
    · rw [e, hml] at hmj; cases hmj; exact ho ⟨i, o, l, hi, hv, hml, he⟩
    · rw [if_neg e] at hj; exact ho ⟨j, oj, l', hj, hvj, hmj, he⟩

/-- An object is given up. -/
theorem St.drop {F m w h i} (s : St F m w h) : St F m w (h.set i none) ∧ Ev F m w h F m w (h.set i none) := by
  have hget : ∀ j o, (h.set i none)[j]? = some (some o) → j ≠ i ∧ h[j]? = some (some o) := by
    intro j o hj
    rw [List.getElem?_set] at hj
    by_cases e : i = j
    · subst e
      rw [if_pos rfl] at hj
      split at hj <;> cases hj
    · rw [if_neg e] at hj; exact ⟨fun x => e x.symm, hj⟩
  refine ⟨⟨fun j l hj => by simpa using s.dom j l hj, fun j o hj => s.obj j o (hget j o hj).2, fun j1 j2 o1 o2 l1 l2 h1 h2 => s.sep j1 j2 o1 o2 l1 l2 (hget _ _ h1).2 (hget _ _ h2).2, s.frz⟩,
    ⟨fun _ _ h => h, fun _ _ h => h, Nat.le_refl _, rfl, rfl, rfl, fun b _ ho => ⟨rfl, rfl, ?_⟩, by simp⟩⟩
  rintro ⟨j, o, l, hj, r⟩
  exact ho ⟨j, o, l, (hget _ _ hj).2, r⟩

/-- A live object is given up, and another one lies in its block from then on. -/
theorem St.move {F m w w' h i o l base l' ao} (s : St F m w h) (hi : h[i]? = some (some o)) (hv : o.isLive = true) (hml : m i = some l) (hb : base ≤ h.length) (hm : m base = none) (hlb : l'.b = l.b)
    (hsz : w'.heap.size = w.heap.size) (hos : w'.os = w.os) (hou : w'.output = w.output) (hta : w'.tape = w.tape) (hother : ∀ b, b ≠ l.b → w'.heap[b]? = w.heap[b]?) (hob : ObjR F (upd m base l') w' ao l') :
    St F (upd m base l') w' (put h [(i, none), (base, some ao)]) ∧ Ev F m w h F (upd m base l') w' (put h [(i, none), (base, some ao)]) := by
  have hlt : i < h.length := s.dom i l hml
  obtain ⟨l0, a0, b0⟩ := s.obj i o hi
  rw [hml] at a0; cases a0
  have hF := (b0.lt hv).2
  have hput : put h [(i, none), (base, some ao)] = put (h.set i none) [(base, some ao)] := by simp only [put, if_pos hlt]
  have hb' : base ≤ (h.set i none).length := by simpa using hb
  have hne : i ≠ base := fun e => by rw [e, hm] at hml; cases hml
  have hget : ∀ j, (put h [(i, none), (base, some ao)])[j]? = if j = base then some (some ao) else if j = i then some none else h[j]? := by
    intro j
    rw [hput, put_one hb']
    by_cases e : j = base
    · rw [if_pos e, if_pos e]
    · rw [if_neg e, if_neg e, List.getElem?_set]
      by_cases e2 : j = i
      · subst e2; simp [hlt]
      · rw [if_neg (by omega), if_neg e2]
  have old : ∀ j oj, j ≠ base → j ≠ i → h[j]? = some (some oj) → ∃ lj, m j = some lj ∧ upd m base l' j = some lj ∧ ObjR F (upd m base l') w' oj lj ∧ (oj.isLive = true → lj.b ≠ l.b) := by
    intro j oj hj hj2 ho
    obtain ⟨lj, h1, h2⟩ := s.obj j oj ho
    have hne : oj.isLive = true → lj.b ≠ l.b := fun hvj e => hj2 (s.sep j i oj o lj l ho hi hvj hv h1 hml e)
    exact ⟨lj, h1, by rw [upd_other hj]; exact h1, h2.mono (fun _ _ h => h) (upd_ext hm) (fun hvj => ⟨hother _ (hne hvj), rfl⟩), hne⟩
  refine ⟨⟨fun j lj hj => ?_, fun j oj hj => ?_, fun j1 j2 o1 o2 l1 l2 h1 h2 v1 v2 m1 m2 e => ?_, fun b c hb => ?_⟩, ⟨fun _ _ h => h, upd_ext hm, by omega, hos, hou, hta, fun b hb' ho => ⟨hother b ?_, rfl, ?_⟩, ?_⟩⟩
  · have hlen := put_one_length (o := some ao) hb'
    rw [hput]
    by_cases e : j = base
    · rw [e]; exact hlen.2
    · rw [upd_other e] at hj
      have := s.dom j lj hj
      simp only [List.length_set] at hlen; omega
  · rw [hget] at hj
    by_cases e : j = base
    · rw [if_pos e] at hj; cases hj; rw [e]; exact ⟨l', upd_same, hob⟩
    · rw [if_neg e] at hj
      by_cases e2 : j = i
      · rw [if_pos e2] at hj; cases hj
      · rw [if_neg e2] at hj; obtain ⟨lj, _, x, y, _⟩ := old j oj e e2 hj; exact ⟨lj, x, y⟩
  · rw [hget] at h1 h2
    by_cases e1 : j1 = base
    · by_cases e2 : j2 = base
      · rw [e1, e2]
      · rw [if_neg e2] at h2
        by_cases e3 : j2 = i
        · rw [if_pos e3] at h2; cases h2
        · rw [if_neg e3] at h2
          obtain ⟨lj, _, x, _, z⟩ := old j2 o2 e2 e3 h2
          rw [m2] at x; cases x
          rw [e1, upd_same] at m1; cases m1
          exact absurd (e.symm.trans hlb) (z v2)
    · rw [if_neg e1] at h1
      by_cases e3 : j1 = i
      · rw [if_pos e3] at h1; cases h1
      · rw [if_neg e3] at h1
        obtain ⟨lj, y, x, _, z⟩ := old j1 o1 e1 e3 h1
        rw [m1] at x; cases x
        by_cases e2 : j2 = base
        · rw [e2, upd_same] at m2; cases m2; exact absurd (e.trans hlb) (z v1)
        · rw [if_neg e2] at h2
          by_cases e4 : j2 = i
          · rw [if_pos e4] at h2; cases h2
          · rw [if_neg e4] at h2
            rw [upd_other e2] at m2
            exact s.sep j1 j2 o1 o2 _ l2 h1 h2 v1 v2 y m2 e
  · obtain ⟨T, fr, hh⟩ := s.frz b c hb
    refine ⟨T, fr, ?_⟩
    rw [hother b (fun e => by rw [e, hF] at hb; cases hb)]; exact hh
  · intro e; exact ho ⟨i, o, l, hi, hv, hml, e.symm⟩
  · rintro ⟨j, oj, lj, hj, hvj, hmj, he⟩
    rw [hget] at hj
    by_cases e : j = base
    · rw [e, upd_same] at hmj; cases hmj; exact ho ⟨i, o, l, hi, hv, hml, by rw [← hlb]; exact he⟩
    · rw [if_neg e] at hj
      by_cases e2 : j = i
      · rw [if_pos e2] at hj; cases hj
      · rw [if_neg e2] at hj; rw [upd_other e] at hmj; exact ho ⟨j, oj, lj, hj, hvj, hmj, he⟩
  · have hlen := put_one_length (o := some ao) hb'
    rw [hput]; simp only [List.length_set] at hlen; exact hlen.1
end Go.Ab
namespace Go.Ab
variable {P : Program}

/-- only objects that are written are new -/
def Grown (m m' : Mp) (wr : List (Nat × Option AO)) : Prop := ∀ j, m' j = m j ∨ ∃ o, (j, o) ∈ wr
theorem grown_same {m : Mp} {wr} : Grown m m wr := fun _ => .inl rfl
theorem grown_new {m : Mp} {base l o} : Grown m (upd m base l) [(base, o)] := fun j => by
  by_cases h : j = base
  · exact .inr ⟨o, by simp [h]⟩
  · exact .inl (upd_other h)
theorem Grown.cons {m m' : Mp} {wr x} (h : Grown m m' wr) : Grown m m' (x :: wr) := fun j => (h j).imp id fun ⟨o, ho⟩ => ⟨o, List.mem_cons_of_mem _ ho⟩
/-- what is shown of an operation -/
def Does (P : Program) (a : Act) (o : Oper) (F : Fz) (m : Mp) (w : World) (h : Heap) (x : Eff) : Prop :=
  ∃ res v' w', (execOp a.eval o).run P w = .ok res w' ∧ (res = .value v' ∨ res = .skip ∧ v' = Go.undef) ∧
    ∃ m', St F m' w' (put h x.wr) ∧ RV F m' x.v v' ∧ Ev F m w h F m' w' (put h x.wr) ∧ Grown m m' x.wr

theorem Does.val {a o F m w h v v'} (hs : St F m w h) (hr : (execOp a.eval o).run P w = .ok (.value v') w) (hv : RV F m v v') : Does P a o F m w h ⟨v, [], 0⟩ :=
  ⟨_, v', w, hr, .inl rfl, m, hs, hv, Ev.refl _ _ _ _, grown_same⟩

theorem eff_run {h : Heap} {v x} (hx : (eff v).run h = some x) : x = ⟨v, [], 0⟩ := by simp only [eff, AM.run, Option.some.injEq] at hx; exact hx.symm

theorem obj_run {α : Type} {h : Heap} {i} {k : AO → AM α} {x} (hx : (AM.obj i k).run h = some x) : ∃ o, h[i]? = some (some o) ∧ (k o).run h = some x := by
  simp only [AM.obj, AM.run] at hx
  cases hi : h[i]? with
  | none => simp [hi] at hx
  | some o => cases o with
    | none => simp [hi, AM.run] at hx
    | some o => exact ⟨o, rfl, by simpa [hi] using hx⟩

/- ---------- reading cells ---------- -/
theorem cell_at {w : World} {b off : Nat} {c : Array Value} {T fr} (h : w.heap[b]? = some (.cells c T fr)) : w.cell? ⟨b, off, none⟩ = c[off]? := by
  simp [World.cell?, h]
theorem addr_add {b off n : Nat} : (⟨b, off, none⟩ : Addr).add n = ⟨b, off + n, none⟩ := by
  unfold Addr.add; by_cases h : n = 0 <;> simp [h]
theorem run_loadCellsFrom {w : World} {b off : Nat} {c : Array Value} {T fr} (h : w.heap[b]? = some (.cells c T fr)) :
    ∀ (n i : Nat) (acc : Array Value), off + i + n ≤ c.size → (loadCellsFrom ⟨b, off, none⟩ i n acc).run P w = .ok (acc ++ c.extract (off + i) (off + i + n)) w := by
  intro n
  induction n with
  | zero => intro i acc _; simp [loadCellsFrom]; omega
  | succ n ih =>
    intro i acc hle
    have hlt : off + i < c.size := by omega
    have hc : w.cell? ⟨b, off + i, none⟩ = some c[off + i] := by rw [cell_at h]; simp [hlt]
    simp only [loadCellsFrom, addr_add, Sem.run_bind, run_load, hc, Result.andThen_ok]
    rw [ih (i + 1) _ (by omega)]
    congr 1
    apply Array.ext'
    simp only [Array.toList_append, Array.toList_push, Array.toList_extract, List.append_assoc, List.singleton_append]
    congr 1
    rw [show off + (i + 1) = off + i + 1 by omega, show off + i + 1 + n = off + i + (n + 1) by omega]
    have hl : off + i < c.toList.length := by simpa using hlt
    simp only [List.extract_eq_take_drop]
    rw [List.drop_eq_getElem_cons hl, show off + i + (n + 1) - (off + i) = n + 1 by omega, show off + i + (n + 1) - (off + i + 1) = n by omega, List.take_succ_cons]
    simp

theorem isAgg_run {w : World} {t : TypeId} {d : TypeDesc} (hd : P.underlying t = some d) : (isAgg t).run P w = .ok (isAg P t) w := by
  simp only [isAgg, isAg, underlying, Sem.run_bind, run_program, Result.andThen_ok, hd]
  cases d <;> rfl

theorem sizeOf_run {w : World} {t : TypeId} {i : TypeInfo} (hi : P.info? t = some i) {d : TypeDesc} (hd : P.underlying t = some d) : (Go.sizeOf t).run P w = .ok (szOf P t) w := by
  simp only [Go.sizeOf, typeInfo, szOf, hd, Program.cellsOf, Sem.run_bind, run_program, Result.andThen_ok, hi]
  rfl
/-- a type of which the program tells something -/
theorem info_of_underlying {t : TypeId} {d : TypeDesc} (hd : P.underlying t = some d) : ∃ i, P.info? t = some i := by
  unfold Program.underlying at hd
  cases h : P.info? t with
  | none => simp [h] at hd
  | some i => exact ⟨i, rfl⟩

/-- cells of the abstract kind that stand in an array -/
def CellsAt (F : Fz) (m : Mp) (c : Array Value) (base : Nat) (cs : List AV) : Prop := ∀ j x, cs[j]? = some x → ∃ v, c[base + j]? = some v ∧ one v = true ∧ RV F m x v

/-- what is picked has a type -/
theorem pick_known {t : TypeId} {cs o v} (hp : pick (isAg P t) (szOf P t) cs o = some v) : ∃ d, P.underlying t = some d := by
  cases hd : P.underlying t with
  | some d => exact ⟨d, rfl⟩
  | none => simp [pick, isAg, szOf, hd] at hp
theorem load_ok {F m} {w : World} {t : TypeId} {b base o : Nat} {c : Array Value} {T fr} {cs : List AV} {v : AV}
    (hb : w.heap[b]? = some (.cells c T fr)) (hc : CellsAt F m c base cs) (hp : pick (isAg P t) (szOf P t) cs o = some v) :
    ∃ v', (loadVar t ⟨b, base + o, none⟩).run P w = .ok v' w ∧ RV F m v v' := by
  obtain ⟨d, hd⟩ := pick_known hp
  obtain ⟨i, hi⟩ := info_of_underlying hd
  unfold pick at hp
  simp only [loadVar, Sem.run_bind, isAgg_run hd, Result.andThen_ok]
  cases ha : isAg P t with
  | true =>
    rw [ha] at hp
    simp only [if_true] at hp ⊢
    split at hp
    · rename_i hle
      simp only [Option.some.injEq] at hp
      subst hp
      by_cases hz : szOf P t = 0
      · refine ⟨.agg #[], ?_, .agg (fun _ => Go.undef) (by simp [hz]) (by simp [hz]) (by simp [hz])⟩
        simp [Sem.run_bind, sizeOf_run hi hd, loadCells, hz, loadCellsFrom]
      · have hsz : base + o + szOf P t ≤ c.size := by
          have hlast : o + szOf P t - 1 < cs.length := by omega
          obtain ⟨x, hx⟩ : ∃ x, cs[o + szOf P t - 1]? = some x := ⟨_, List.getElem?_eq_getElem hlast⟩
          obtain ⟨v, hv, _⟩ := hc _ x hx
          have := (Array.getElem?_eq_some_iff.1 hv).1
          omega
        refine ⟨.agg (c.extract (base + o) (base + o + szOf P t)), ?_, ?_⟩
        · simp only [Sem.run_bind, sizeOf_run hi hd, Result.andThen_ok, loadCells]
          rw [run_loadCellsFrom hb (szOf P t) 0 #[] (by omega)]
          simp
        · refine .agg (fun j => c.getD (base + o + j) Go.undef) (by simp; omega) (fun j x hx => ?_) (fun j x hx => ?_)
          · have hj : j < szOf P t := by
              have := (List.getElem?_eq_some_iff.1 hx).1
              simp at this; omega
            rw [List.getElem?_take_of_lt hj, List.getElem?_drop] at hx
            obtain ⟨v, hv, h1, _⟩ := hc _ x hx
            rw [← Nat.add_assoc] at hv
            have hd' : c.getD (base + o + j) Go.undef = v := by simp [hv]
            refine ⟨?_, by rw [hd']; exact h1⟩
            rw [hd', Array.getElem?_extract]
            rw [if_pos (by omega)]
            exact hv
          · have hj : j < szOf P t := by
              have := (List.getElem?_eq_some_iff.1 hx).1
              simp at this; omega
            rw [List.getElem?_take_of_lt hj, List.getElem?_drop] at hx
            obtain ⟨v, hv, _, h2⟩ := hc _ x hx
            rw [← Nat.add_assoc] at hv
            simpa [hv] using h2
    · cases hp
  | false =>
    rw [ha] at hp
    simp only [Bool.false_eq_true, if_false] at hp ⊢
    split at hp
    case isFalse => cases hp
    obtain ⟨v', h1, _, h3⟩ := hc o v hp
    exact ⟨v', by simp [run_load, cell_at hb, h1], h3⟩

/-- a slice of an object's rows -/
theorem Rows.row {F m c o k es i e} (r : Rows F m c o k es) (he : es[i]? = some e) : CellsAt F m c (o + i * k) e := by
  intro j x hj
  obtain ⟨v, h1, h2, h3⟩ := r i j e x he hj
  exact ⟨v, by rw [Nat.add_assoc]; exact h1, h2, h3⟩

/-- an object's rows lie in a block of cells -/
theorem ObjR.rows {F m w h o l k ct} (s : St F m w h) (r : ObjR F m w o l) (hc : o.cont? = some (k, ct)) : l.k = k ∧ 0 < k ∧ (∀ e ∈ ct.avs, e.length = k) ∧ ct.length = ct.avs.length ∧ ct.length ≤ l.cap ∧
    ∃ c T fr, w.heap[l.b]? = some (.cells c T fr) ∧ Rows F m c l.o k ct.avs := by
  cases o with
  | cells k' es =>
    simp only [AO.cont?, Option.some.injEq, Prod.mk.injEq] at hc
    obtain ⟨rfl, rfl⟩ := hc
    obtain ⟨a, b, c, d, e, c', T, fr, h1, h2, h3, h4⟩ := r
    exact ⟨a, b, d, rfl, c, c', T, fr, h1, h4⟩
  | flat k' es =>
    simp only [AO.cont?, Option.some.injEq, Prod.mk.injEq] at hc
    obtain ⟨rfl, rfl⟩ := hc
    obtain ⟨a, b, c, d, e, c', T, fr, h1, h2, h3, h4⟩ := r
    exact ⟨a, b, d, by simp [Cont.length, Cont.avs], by simpa [Cont.length] using c, c', T, fr, h1, h4⟩
  | frz k' es =>
    simp only [AO.cont?, Option.some.injEq, Prod.mk.injEq] at hc
    obtain ⟨rfl, rfl⟩ := hc
    obtain ⟨a, b, c, d, c', h1, h4⟩ := r
    obtain ⟨T, fr, hh⟩ := s.frz _ _ h1
    refine ⟨a, b, ?_, by simp [Cont.length, Cont.avs], by simpa [Cont.length] using c, c', T, fr, hh, h4⟩
    intro e he
    simp only [Cont.avs, List.mem_map] at he
    obtain ⟨x, hx, rfl⟩ := he
    simpa using d x hx
  | map => simp [AO.cont?] at hc
  | siter => simp [AO.cont?] at hc
  | loop => simp [AO.cont?] at hc
theorem row_avs {c : Cont} {i} : c.row i = c.avs[i]? := by cases c <;> simp [Cont.row, Cont.avs]

theorem prim_load {F m N e a G base t x d ty pos aft h w y} (hE : EnvR F m N e a) (hG : GlobR F G) (hS : St F m w h)
    (hx : (prim P G e base ⟨d, .load t x, ty, pos, aft, none⟩).run h = some y) : Does P a ⟨d, .load t x, ty, pos, aft, none⟩ F m w h y := by
  simp only [prim] at hx
  cases hv : ev G e x with
  | none => simp [hv, AM.run] at hx
  | some v =>
    have hr := ev_rv hE hG hv
    simp only [hv] at hx
    have key : ∀ b base' o' (c : Array Value) T fr cs z, w.heap[b]? = some (.cells c T fr) → CellsAt F m c base' cs → a.eval x = .pointer (some ⟨b, base' + o', none⟩) → pick (isAg P t) (szOf P t) cs o' = some z →
        Does P a ⟨d, .load t x, ty, pos, aft, none⟩ F m w h ⟨z, [], 0⟩ := by
      intro b base' o' c T fr cs z hb hc hev hp
      obtain ⟨v', hrun, hrv⟩ := load_ok hb hc hp
      refine Does.val hS ?_ hrv
      simp only [execOp, Instr.loadAt, Instr.sureAddr, hev, Sem.run_bind, Sem.run_pure, Result.andThen_ok, hrun]
    cases v with
    | ptr id i o =>
      simp only at hx
      obtain ⟨ob, hob, hx⟩ := obj_run hx
      cases hc : ob.cont? with
      | none => simp [hc, AM.run] at hx
      | some kc =>
        obtain ⟨k, ct⟩ := kc
        simp only [hc, Option.bind_some, row_avs] at hx
        cases hrow : ct.avs[i]? with
        | none => simp [hrow, AM.run] at hx
        | some cs =>
          simp only [hrow] at hx
          cases hp : pick (isAg P t) (szOf P t) cs o with
          | none => simp [hp, AM.run] at hx
          | some z =>
            simp only [hp] at hx
            have := eff_run hx; subst this
            obtain ⟨l, hl, hobr⟩ := hS.obj id ob hob
            obtain ⟨hk, _, _, _, _, c, T, fr, hb, hrows⟩ := hobr.rows hS hc
            generalize hev : a.eval x = av at hr
            cases hr with
            | ptr hl' =>
              rw [hl] at hl'; cases hl'
              refine key l.b (l.o + i * k) o c T fr cs z hb (hrows.row hrow) ?_ hp
              rw [hev, hk, Nat.add_assoc]
    | d v => cases v with
      | fptr cs o =>
        simp only at hx
        cases hp : pick (isAg P t) (szOf P t) (cs.map .d) o with
        | none => simp [hp, AM.run] at hx
        | some z =>
          simp only [hp] at hx
          have := eff_run hx; subst this
          generalize hev : a.eval x = av at hr
          cases hr with
          | d hr => cases hr with
            | @fptr _ _ b c off val h1 h2 h3 =>
              obtain ⟨T, fr, hb⟩ := hS.frz _ _ h1
              refine key b off o c T fr (cs.map .d) z hb ?_ hev hp
              intro j x' hj
              simp only [List.getElem?_map, Option.map_eq_some_iff] at hj
              obtain ⟨y, hy, rfl⟩ := hj
              exact ⟨val j, h2 j y hy, (h3 j y hy).one, .d (h3 j y hy)⟩
      | _ => simp [AM.run] at hx
    | _ => simp [AM.run] at hx

def shiftAV (v : AV) (n : Nat) : Option AV := match v with
  | .ptr id i o => some (.ptr id i (o + n))
  | .d (.fptr cs o) => some (.d (.fptr cs (o + n)))
  | _ => none
section pure
variable {F : Fz} {m : Mp} {N : Nat} {e : Env} {a : Act} {G : Nat → Option (List DV)} {base : Nat} {d : Option Nat} {ty : TypeId} {pos : String} {aft : Array Edge} {h : Heap} {w : World} {y : Eff}

theorem prim_move {x} (hE : EnvR F m N e a) (hG : GlobR F G) (hS : St F m w h) (hx : (prim P G e base ⟨d, .move x, ty, pos, aft, none⟩).run h = some y) : Does P a ⟨d, .move x, ty, pos, aft, none⟩ F m w h y := by
  simp only [prim] at hx
  cases hv : ev G e x with
  | none => simp [hv, AM.run] at hx
  | some v =>
    simp only [hv] at hx
    have := eff_run hx; subst this
    exact Does.val hS rfl (ev_rv hE hG hv)
theorem prim_assign {x} (hE : EnvR F m N e a) (hG : GlobR F G) (hS : St F m w h) (hx : (prim P G e base ⟨d, .assign x, ty, pos, aft, none⟩).run h = some y) : Does P a ⟨d, .assign x, ty, pos, aft, none⟩ F m w h y := by
  simp only [prim] at hx
  cases hv : ev G e x with
  | none => simp [hv, AM.run] at hx
  | some v =>
    simp only [hv] at hx
    have := eff_run hx; subst this
    exact Does.val hS rfl (ev_rv hE hG hv)
theorem rv_bool {x b} (h : RV F m (.d (.bool b)) x) : x = .bool b := by cases h with | d h => cases h; rfl
theorem rv_int {x k n} (h : RV F m (.d (.int k n)) x) : x = .int k n := by cases h with | d h => cases h; rfl
theorem rv_str {x s} (h : RV F m (.d (.str s)) x) : x = .string s := by cases h with | d h => cases h; rfl
theorem prim_pick {c x z} (hE : EnvR F m N e a) (hG : GlobR F G) (hS : St F m w h) (hx : (prim P G e base ⟨d, .pick c x z, ty, pos, aft, none⟩).run h = some y) : Does P a ⟨d, .pick c x z, ty, pos, aft, none⟩ F m w h y := by
  simp only [prim] at hx
  cases hc : ev G e c with
  | none => simp [hc, AM.run] at hx
  | some cv =>
    simp only [hc] at hx
    cases cv with
    | d cv => cases cv with
      | bool t =>
        simp only at hx
        cases hv : ev G e x with
        | none => simp [hv, AM.run] at hx
        | some v =>
          cases hz : ev G e z with
          | none => simp [hv, hz, AM.run] at hx
          | some u =>
            simp only [hv, hz] at hx
            have := eff_run hx; subst this
            have h1 := rv_bool (ev_rv hE hG hc)
            cases t with
            | true =>
              refine Does.val hS ?_ (by simpa using ev_rv hE hG hv)
              simp [execOp, h1, Go.asBool]
            | false =>
              refine Does.val hS ?_ (by simpa using ev_rv hE hG hz)
              simp [execOp, h1, Go.asBool]
      | _ => simp [AM.run] at hx
    | _ => simp [AM.run] at hx
theorem prim_extract {x i} (hE : EnvR F m N e a) (hG : GlobR F G) (hS : St F m w h) (hx : (prim P G e base ⟨d, .extract x i, ty, pos, aft, none⟩).run h = some y) : Does P a ⟨d, .extract x i, ty, pos, aft, none⟩ F m w h y := by
  simp only [prim] at hx
  cases hv : ev G e x with
  | none => simp [hv, AM.run] at hx
  | some v =>
    simp only [hv] at hx
    have hr := ev_rv hE hG hv
    cases v with
    | tup vs =>
      simp only at hx
      cases hi : vs[i]? with
      | none => simp [hi, AM.run] at hx
      | some u =>
        simp only [hi] at hx
        have := eff_run hx; subst this
        generalize hev : a.eval x = av at hr
        cases hr with
        | tup val h1 h2 h3 =>
          refine Does.val hS ?_ (h3 i u hi)
          simp [execOp, Instr.extract, hev, h2 i u hi]
    | _ => simp [AM.run] at hx
theorem evs_rv {F m N e a G} (hE : EnvR F m N e a) (hG : GlobR F G) : ∀ {ops : List Operand} {vs}, evs G e ops = some vs → vs.length = ops.length ∧ ∀ (i : Nat) v, vs[i]? = some v → ∃ op, ops[i]? = some op ∧ RV F m v (a.eval op)
  | [], vs, h => by simp [evs] at h; subst h; simp
  | o :: r, vs, h => by
    simp only [evs] at h
    cases h1 : ev G e o with
    | none => simp [h1] at h
    | some v =>
      cases h2 : evs G e r with
      | none => simp [h1, h2] at h
      | some l =>
        simp only [h1, h2, Option.some.injEq] at h; subst h
        obtain ⟨a1, b1⟩ := evs_rv hE hG h2
        refine ⟨by simp [a1], fun i u hi => ?_⟩
        cases i with
        | zero => simp only [List.getElem?_cons_zero, Option.some.injEq] at hi; subst hi; exact ⟨o, rfl, ev_rv hE hG h1⟩
        | succ i => simp only [List.getElem?_cons_succ] at hi ⊢; exact b1 i u hi
theorem prim_makeFunc {fn f c} (hfn : ∀ i, fn ≠ .yield i) (hE : EnvR F m N e a) (hG : GlobR F G) (hS : St F m w h) (hx : (prim P G e base ⟨d, .makeFunc fn f c, ty, pos, aft, none⟩).run h = some y) : Does P a ⟨d, .makeFunc fn f c, ty, pos, aft, none⟩ F m w h y := by
  simp only [prim] at hx
  cases hf : evs G e f.toList with
  | none => simp [hf, AM.run] at hx
  | some fs =>
    cases hc : evs G e c.toList with
    | none => simp [hf, hc, AM.run] at hx
    | some cs =>
      simp only [hf, hc] at hx
      have := eff_run hx; subst this
      obtain ⟨l1, r1⟩ := evs_rv hE hG hf
      obtain ⟨l2, r2⟩ := evs_rv hE hG hc
      refine Does.val (v' := .func fn (f.map a.eval) (c.map a.eval)) hS (by simp [execOp, Instr.makeFunc]) ?_
      refine .fn (fun i => (f.map a.eval).getD i Go.undef) (fun i => (c.map a.eval).getD i Go.undef) ?_ (by simpa using l1) (by simpa using l2) ?_ ?_ ?_ ?_
      · cases fn <;> first | rfl | exact absurd rfl (hfn _)
      all_goals
        intro i v hi
        first
          | (obtain ⟨op, h1, h2⟩ := r1 i v hi; have h1' : f[i]? = some op := by simpa using h1
             first | (simp [h1']; done) | (simpa [h1'] using h2))
          | (obtain ⟨op, h1, h2⟩ := r2 i v hi; have h1' : c[i]? = some op := by simpa using h1
             first | (simp [h1']; done) | (simpa [h1'] using h2))
theorem prim_nilCheck {x} (hE : EnvR F m N e a) (hG : GlobR F G) (hS : St F m w h) (hx : (prim P G e base ⟨d, .nilCheck x, ty, pos, aft, none⟩).run h = some y) : Does P a ⟨d, .nilCheck x, ty, pos, aft, none⟩ F m w h y := by
  simp only [prim] at hx
  cases hv : ev G e x with
  | none => simp [hv, AM.run] at hx
  | some v =>
    simp only [hv] at hx
    have hr := ev_rv hE hG hv
    generalize hev : a.eval x = av at hr
    cases v with
    | ptr id i o =>
      have := eff_run hx; subst this
      refine Does.val (v' := av) hS ?_ hr
      cases hr; simp [execOp, hev]
    | d v => cases v with
      | fptr cs o =>
        have := eff_run hx; subst this
        refine Does.val (v' := av) hS ?_ hr
        cases hr with | d hr => cases hr; simp [execOp, hev]
      | _ => simp [AM.run] at hx
    | fn g b c => cases g with
      | func k =>
        have := eff_run hx; subst this
        refine Does.val (v' := av) hS ?_ hr
        cases hr with
        | @fn _ g' _ _ _ _ va vb h1 _ _ _ _ _ _ =>
          cases g' <;> simp [RF] at h1
          simp [execOp, hev]
      | _ => simp [AM.run] at hx
    | _ => simp [AM.run] at hx
theorem prim_unOp {op t x} (hE : EnvR F m N e a) (hG : GlobR F G) (hS : St F m w h) (hx : (prim P G e base ⟨d, .unOp op t x, ty, pos, aft, none⟩).run h = some y) : Does P a ⟨d, .unOp op t x, ty, pos, aft, none⟩ F m w h y := by
  simp only [prim] at hx
  cases hv : ev G e x with
  | none => simp [hv, AM.run] at hx
  | some v =>
    simp only [hv] at hx
    have hr := ev_rv hE hG hv
    cases hu : unAV op v with
    | none => simp [hu, AM.run] at hx
    | some u =>
      simp only [hu] at hx
      have := eff_run hx; subst this
      unfold unAV at hu
      split at hu
      · cases hu
        have := rv_int hr
        exact Does.val hS (by simp [execOp, Op.unary, Op.intArith, this]) (.d (.int _ _))
      · cases hu
        have := rv_bool hr
        exact Does.val hS (by simp [execOp, Op.unary, this]) (.d (.bool _))
      · cases hu
theorem part_ok {t : TypeId} {cs : List AV} {arr : Array Value} {o : Nat} {u : AV} (val : Nat → Value) (h1 : cs.length = arr.size) (h2 : ∀ i c, cs[i]? = some c → arr[i]? = some (val i) ∧ one (val i) = true)
    (h3 : ∀ i c, cs[i]? = some c → RV F m c (val i)) (hp : pick (isAg P t) (szOf P t) cs o = some u) : ∃ u', (part t arr o).run P w = .ok u' w ∧ RV F m u u' := by
  obtain ⟨d, hd⟩ := pick_known hp
  obtain ⟨i, hi⟩ := info_of_underlying hd
  unfold pick at hp
  simp only [part, Sem.run_bind, isAgg_run hd, Result.andThen_ok]
  cases ha : isAg P t with
  | true =>
    rw [ha] at hp
    simp only [if_true] at hp ⊢
    split at hp
    · rename_i hle
      simp only [Option.some.injEq] at hp
      subst hp
      refine ⟨.agg (arr.extract o (o + szOf P t)), by simp [Sem.run_bind, sizeOf_run hi hd], ?_⟩
      refine .agg (fun j => val (o + j)) (by simp; omega) (fun j x hx => ?_) (fun j x hx => ?_)
      · have hj : j < szOf P t := by
          have := (List.getElem?_eq_some_iff.1 hx).1
          simp at this; omega
        rw [List.getElem?_take_of_lt hj, List.getElem?_drop] at hx
        obtain ⟨g1, g2⟩ := h2 _ x hx
        refine ⟨?_, g2⟩
        rw [Array.getElem?_extract, if_pos (by omega)]
        exact g1
      · have hj : j < szOf P t := by
          have := (List.getElem?_eq_some_iff.1 hx).1
          simp at this; omega
        rw [List.getElem?_take_of_lt hj, List.getElem?_drop] at hx
        exact h3 _ x hx
    · cases hp
  | false =>
    rw [ha] at hp
    simp only [Bool.false_eq_true, if_false] at hp ⊢
    split at hp
    case isFalse => cases hp
    obtain ⟨g1, _⟩ := h2 o u hp
    exact ⟨val o, by simp [g1], h3 o u hp⟩
theorem fld_some {t i off ft sz} (hf : fld P t i = some (off, ft, sz)) : ∃ fs f, P.underlying t = some (.struct fs) ∧ fs[i]? = some f ∧ f.offset = off ∧ f.type = ft ∧ sz = szOf P ft := by
  unfold fld at hf
  split at hf
  · rename_i fs hd
    simp only [Option.map_eq_some_iff, Prod.mk.injEq] at hf
    obtain ⟨f, h1, h2, h3, h4⟩ := hf
    exact ⟨fs, f, hd, h1, h2, h3, by rw [← h4, h3]⟩
  · cases hf
theorem underlying_run {t : TypeId} {dd : TypeDesc} (hd : P.underlying t = some dd) : (Go.underlying t).run P w = .ok dd w := by
  simp [Go.underlying, hd]
theorem prim_field {t x i} (hE : EnvR F m N e a) (hG : GlobR F G) (hS : St F m w h) (hx : (prim P G e base ⟨d, .field t x i, ty, pos, aft, none⟩).run h = some y) : Does P a ⟨d, .field t x i, ty, pos, aft, none⟩ F m w h y := by
  simp only [prim] at hx
  cases hv : ev G e x with
  | none => simp [hv, AM.run] at hx
  | some v =>
    simp only [hv] at hx
    have hr := ev_rv hE hG hv
    cases hf : fld P t i with
    | none => simp [hf, AM.run] at hx
    | some z =>
      obtain ⟨off, ft, sz⟩ := z
      simp only [hf] at hx
      cases v with
      | agg cs =>
        simp only at hx
        cases hp : pick (isAg P ft) sz cs off with
        | none => simp [hp, AM.run] at hx
        | some u =>
          simp only [hp] at hx
          have := eff_run hx; subst this
          generalize hev : a.eval x = av at hr
          cases hr with
          | @agg _ arr val h1 h2 h3 =>
            obtain ⟨fs, f, g1, g2, g3, g4, g5⟩ := fld_some hf
            subst g3 g4 g5
            obtain ⟨u', hu1, hu2⟩ := part_ok (P := P) (w := w) val h1 h2 h3 hp
            refine Does.val hS ?_ hu2
            simp only [execOp, Instr.field, hev, Sem.run_bind, underlying_run g1, Result.andThen_ok, g2, Go.asAgg, Sem.run_pure, hu1]
      | _ => simp [AM.run] at hx
theorem shift_rv {v v' : AV} {n : Nat} {x} (hv : shiftAV v n = some v') (hr : RV F m v x) : ∃ p : Addr, x = .pointer (some p) ∧ p.spot = none ∧ RV F m v' (.pointer (some ⟨p.block, p.off + n, none⟩)) := by
  unfold shiftAV at hv
  split at hv
  · rename_i id i o
    cases hv
    cases hr with
    | @ptr _ _ _ l h1 =>
      refine ⟨_, rfl, rfl, ?_⟩
      have h2 : RV F m (.ptr id i (o + n)) (.pointer (some ⟨l.b, l.o + (i * l.k + (o + n)), none⟩)) := RV.ptr h1
      simpa [Nat.add_assoc] using h2
  · rename_i e o
    cases hv
    cases hr with
    | d hr => cases hr with
      | @fptr _ _ b c off val h1 h2 h3 =>
        refine ⟨_, rfl, rfl, .d ?_⟩
        have h4 : RD F (.fptr e (o + n)) (.pointer (some ⟨b, off + (o + n), none⟩)) := RD.fptr val h1 h2 h3
        simpa [Nat.add_assoc] using h4
  · cases hv
theorem fieldPlace_run {p : Addr} {f : Field} {dd : TypeDesc} (hd : P.underlying f.type = some dd) (hs : szOf P f.type ≠ 0) (hp : p.spot = none) : (Go.fieldPlace p f).run P w = .ok ⟨p.block, p.off + f.offset, none⟩ w := by
  obtain ⟨i, hi⟩ := info_of_underlying hd
  obtain ⟨b, o, s⟩ := p
  simp only at hp
  subst hp
  simp only [Go.fieldPlace, Sem.run_bind, sizeOf_run hi hd, Result.andThen_ok, if_neg hs, addr_add, Sem.run_pure]
theorem prim_fieldAddr {s x i} (hE : EnvR F m N e a) (hG : GlobR F G) (hS : St F m w h) (hx : (prim P G e base ⟨d, .fieldAddr s x i, ty, pos, aft, none⟩).run h = some y) : Does P a ⟨d, .fieldAddr s x i, ty, pos, aft, none⟩ F m w h y := by
  simp only [prim] at hx
  cases hv : ev G e x with
  | none => simp [hv, AM.run] at hx
  | some v =>
    simp only [hv] at hx
    have hr := ev_rv hE hG hv
    cases hf : fld P s i with
    | none => simp [hf, AM.run] at hx
    | some z =>
      obtain ⟨off, ft, sz⟩ := z
      simp only [hf] at hx
      by_cases hz : sz = 0
      · simp [hz, AM.run] at hx
      · rw [if_neg hz] at hx
        obtain ⟨fs, f, g1, g2, g3, g4, g5⟩ := fld_some hf
        subst g3 g4 g5
        have hd : ∃ dd, P.underlying f.type = some dd := by
          cases hd : P.underlying f.type with
          | some d => exact ⟨d, rfl⟩
          | none => simp [szOf, hd] at hz
        obtain ⟨dd, hd⟩ := hd
        have key : ∀ v', shiftAV v f.offset = some v' → y = ⟨v', [], 0⟩ → Does P a ⟨d, .fieldAddr s x i, ty, pos, aft, none⟩ F m w h y := by
          intro v' hs hy
          subst hy
          obtain ⟨p, hp, hsp, hrv⟩ := shift_rv hs hr
          refine Does.val hS ?_ hrv
          simp only [execOp, Instr.fieldAt, hp, Sem.run_bind, underlying_run g1, Result.andThen_ok, g2, Instr.sureAddr, Sem.run_pure, fieldPlace_run hd hz hsp]
        cases v with
        | ptr id j o => exact key _ rfl (eff_run hx)
        | d v => cases v with
          | fptr cs o => exact key _ rfl (eff_run hx)
          | _ => simp [AM.run] at hx
        | _ => simp [AM.run] at hx
end pure
end Go.Ab
namespace Go.Ab
variable {P : Program}

theorem one_oneCell' {v : Value} (h : one v = true) : v.oneCell' = true := by cases v <;> simp_all [one, Value.oneCell']

/-- a value that fits, as cells -/
theorem rv_cells {F m ag sz v x} (hr : RV F m v x) (hok : okCells ag sz v = true) : v.cellsOf.length = sz ∧ x.cells.size = sz ∧ CellsAt F m x.cells 0 v.cellsOf := by
  have single : ∀ {v : AV} {x : Value}, RV F m v x → one x = true → v.cellsOf = [v] → sz = 1 → v.cellsOf.length = sz ∧ x.cells.size = sz ∧ CellsAt F m x.cells 0 v.cellsOf := by
    intro v x hr ho hc hs
    have hx : x.cells = #[x] := by cases x <;> first | rfl | simp [one] at ho
    rw [hc, hx]
    refine ⟨by simp [hs], by simp [hs], ?_⟩
    intro j y hj
    cases j with
    | zero => simp at hj; subst hj; exact ⟨x, by simp, ho, hr⟩
    | succ j => simp at hj
  cases hr with
  | d h => simp [okCells] at hok; exact single (.d h) h.one rfl hok.2
  | @agg cs arr val h1 h2 h3 =>
    simp [okCells] at hok
    refine ⟨hok.2, by simp [Value.cells, ← h1, hok.2], ?_⟩
    intro j y hj
    obtain ⟨a, b⟩ := h2 j y hj
    exact ⟨val j, by simpa [Value.cells] using a, b, h3 j y hj⟩
  | tup => simp [okCells] at hok
  | ptr h => simp [okCells] at hok; exact single (.ptr h) rfl rfl hok.2
  | sl h1 h2 h3 h4 h5 h6 => simp [okCells] at hok; exact single (.sl h1 h2 h3 h4 h5 h6) rfl rfl hok.2
  | map h => simp [okCells] at hok; exact single (.map h) rfl rfl hok.2
  | fn va vb h1 h2 h3 h4 h5 h6 h7 => simp [okCells] at hok; exact single (.fn va vb h1 h2 h3 h4 h5 h6 h7) rfl rfl hok.2
  | ifc h => simp [okCells] at hok; exact single (.ifc h) rfl rfl hok.2
  | top => simp [okCells] at hok

theorem obj_live {c : Cont} {k} : (c.obj k).live? = some (k, c) := by cases c <;> rfl
theorem live_cont {o : AO} {k c} (h : o.live? = some (k, c)) : o.cont? = some (k, c) ∧ o.isLive = true := by
  cases o <;> simp_all [AO.live?, AO.cont?, AO.isLive]
theorem liveR {F m w o k c l} (h : o.live? = some (k, c)) : ObjR F m w o l ↔ Live F m w k c.avs l := by
  cases o with
  | cells k' es => simp only [AO.live?, Option.some.injEq, Prod.mk.injEq] at h; obtain ⟨rfl, rfl⟩ := h; exact Iff.rfl
  | flat k' es => simp only [AO.live?, Option.some.injEq, Prod.mk.injEq] at h; obtain ⟨rfl, rfl⟩ := h; exact Iff.rfl
  | _ => simp [AO.live?] at h
theorem dvs_map {cs : List AV} {ds} (h : dvs? cs = some ds) : cs = ds.map .d := by
  induction cs generalizing ds with
  | nil => simp [dvs?] at h; subst h; rfl
  | cons c r ih =>
    cases c with
    | d v =>
      simp only [dvs?] at h
      cases hr : dvs? r with
      | none => simp [hr] at h
      | some l => simp only [hr, Option.some.injEq] at h; subst h; simp [ih hr]
    | _ => simp [dvs?] at h
theorem dvss_map {es : List (List AV)} {ds} (h : dvss? es = some ds) : es = ds.map (·.map .d) := by
  induction es generalizing ds with
  | nil => simp [dvss?] at h; subst h; rfl
  | cons c r ih =>
    simp only [dvss?] at h
    cases h1 : dvs? c with
    | none => simp [h1] at h
    | some x =>
      cases hr : dvss? r with
      | none => simp [h1, hr] at h
      | some l => simp only [h1, hr, Option.some.injEq] at h; subst h; simp [ih hr, dvs_map h1]
theorem ofRows_avs {es : List (List AV)} : (Cont.ofRows es).avs = es := by
  unfold Cont.ofRows
  cases h : dvss? es with
  | none => rfl
  | some l => exact (dvss_map h).symm

/-- A new row of cells. -/
theorem alloc_rows {F m w h base k cap ao} {c : Cont} {cells : Array Value} {T : TypeId} (s : St F m w h) (hb : base ≤ h.length) (hm : m base = none) (hl : ao.live? = some (k, c)) (hk : 0 < k)
    (hlen : ∀ e ∈ c.avs, e.length = k) (hcap : c.avs.length ≤ cap) (hsz : cap * k ≤ cells.size) (hrows : Rows F m cells 0 k c.avs) :
    St F (upd m base ⟨w.heap.size, 0, k, cap⟩) (pushed w (.cells cells T)) (put h [(base, some ao)]) ∧ Ev F m w h F (upd m base ⟨w.heap.size, 0, k, cap⟩) (pushed w (.cells cells T)) (put h [(base, some ao)]) := by
  refine s.alloc hb hm rfl ((liveR hl).2 ⟨rfl, hk, hcap, hlen, ?_, cells, T, (0, 0), pushed_new, by simpa using hsz, rfl, hrows.mono (fun _ _ h => h) (upd_ext hm)⟩)
  cases hf : F w.heap.size with
  | none => rfl
  | some c => have := s.lt hf; omega

theorem zero_run {F t z} {w : World} (hz : zeroC P t = some z) : ∃ i zv, P.info? t = some i ∧ i.zero = some zv ∧ (zeroValue t).run P w = .ok zv w ∧ z.length = zv.cells.size ∧ ∀ (j : Nat) x, z[j]? = some x → ∃ v, zv.cells[j]? = some v ∧ RD F x v := by
  unfold zeroC at hz
  split at hz
  · cases hz
  split at hz
  · rename_i zv hzv
    split at hz
    case isFalse => cases hz
    cases hi : P.info? t with
    | none => simp [hi] at hzv
    | some i =>
      simp only [hi, Option.bind_some] at hzv
      obtain ⟨a, b⟩ := absZs_rd (F := F) hz
      refine ⟨i, zv, rfl, hzv, ?_, by simpa using a, fun j x hj => ?_⟩
      · simp [zeroValue, typeInfo, hi, hzv]
      · obtain ⟨v, h1, h2⟩ := b j x hj
        exact ⟨v, by simpa using h1, h2⟩
  · cases hz

theorem Rows.single {F m} {c : Array Value} {cs : List AV} {k} (h : CellsAt F m c 0 cs) : Rows F m c 0 k [cs] := by
  intro i j e x hi hj
  cases i with
  | zero =>
    simp at hi; subst hi
    obtain ⟨v, a, b, d⟩ := h j x hj
    exact ⟨v, by simpa using a, b, d⟩
  | succ i => simp at hi

section ops
variable {F : Fz} {m : Mp} {N : Nat} {e : Env} {a : Act} {G : Nat → Option (List DV)} {base : Nat} {d : Option Nat} {ty : TypeId} {pos : String} {aft : Array Edge} {h : Heap} {w : World} {y : Eff}

theorem prim_alloc {t} (hS : St F m w h) (hb : base ≤ h.length) (hm : m base = none) (hx : (prim P G e base ⟨d, .alloc t, ty, pos, aft, none⟩).run h = some y) : Does P a ⟨d, .alloc t, ty, pos, aft, none⟩ F m w h y := by
  simp only [prim] at hx
  cases hz : zeroC P t with
  | none => simp [hz, AM.run] at hx
  | some z =>
    simp only [hz] at hx
    by_cases he : z.isEmpty
    · simp [he, AM.run] at hx
    · simp only [he, Bool.false_eq_true, if_false, AM.run, Option.some.injEq] at hx
      subst hx
      obtain ⟨i, zv, hi, hzv, hrun, hlen, hcells⟩ := zero_run (P := P) (F := F) (w := w) hz
      have hpos : 0 < z.length := List.length_pos_iff.2 (by simpa using he)
      have hal := alloc_rows (T := t) (ao := .flat z.length [z]) (c := .fl [z]) (k := z.length) (cap := 1) (cells := zv.cells) hS hb hm rfl hpos (by simp [Cont.avs]) (by simp [Cont.avs]) (by simp [hlen])
        (by
          simp only [Cont.avs, List.map_cons, List.map_nil]
          refine Rows.single ?_
          intro j x hj
          simp only [List.getElem?_map, Option.map_eq_some_iff] at hj
          obtain ⟨y, hy, rfl⟩ := hj
          obtain ⟨v, h1, h2⟩ := hcells j y hy
          exact ⟨v, by simpa using h1, h2.one, .d h2⟩)
      refine ⟨.value (.pointer (some ⟨w.heap.size, 0, none⟩)), _, _, ?_, .inl rfl, _, hal.1, ?_, hal.2, grown_new⟩
      · simp only [execOp, Instr.alloc, Sem.run_bind, hrun, Result.andThen_ok, newVar, newRow, run_newObj, Sem.run_pure]
        rfl
      · have := RV.ptr (F := F) (m := upd m base ⟨w.heap.size, 0, z.length, 1⟩) (id := base) (i := 0) (o := 0) upd_same
        simpa using this
theorem prim_box {t x} (hE : EnvR F m N e a) (hG : GlobR F G) (hS : St F m w h) (hb : base ≤ h.length) (hm : m base = none) (hx : (prim P G e base ⟨d, .box t x, ty, pos, aft, none⟩).run h = some y) : Does P a ⟨d, .box t x, ty, pos, aft, none⟩ F m w h y := by
  simp only [prim] at hx
  cases hv : ev G e x with
  | none => simp [hv, AM.run] at hx
  | some v =>
    simp only [hv] at hx
    split at hx
    · rename_i hc
      simp only [Bool.and_eq_true, Bool.not_eq_true'] at hc
      simp only [AM.run, Option.some.injEq] at hx
      subst hx
      obtain ⟨h1, h2, h3⟩ := rv_cells (ev_rv hE hG hv) hc.1
      have hpos : 0 < v.cellsOf.length := List.length_pos_iff.2 (by simpa using hc.2)
      have hal := alloc_rows (T := t) (ao := (Cont.ofRows [v.cellsOf]).obj v.cellsOf.length) (c := Cont.ofRows [v.cellsOf]) (k := v.cellsOf.length) (cap := 1) (cells := (a.eval x).cells) hS hb hm obj_live hpos
        (by simp [ofRows_avs]) (by simp [ofRows_avs]) (by omega) (by rw [ofRows_avs]; exact Rows.single h3)
      refine ⟨.value (.pointer (some ⟨w.heap.size, 0, none⟩)), _, _, ?_, .inl rfl, _, hal.1, ?_, hal.2, grown_new⟩
      · simp only [execOp, Instr.box, Sem.run_bind, Result.andThen_ok, newVar, newRow, run_newObj, Sem.run_pure]
        rfl
      · have := RV.ptr (F := F) (m := upd m base ⟨w.heap.size, 0, v.cellsOf.length, 1⟩) (id := base) (i := 0) (o := 0) upd_same
        simpa using this
    · simp [AM.run] at hx

theorem setCells_avs {c c' : Cont} {i o vs} (h : c.setCells i o vs = some c') : ∃ e, c.avs[i]? = some e ∧ o + vs.length ≤ e.length ∧ c'.avs = c.avs.set i (splice e o vs) := by
  cases c with
  | fl es =>
    simp only [Cont.setCells] at h
    split at h
    · cases h
    · rename_i e he
      split at h
      · rename_i hle
        split at h
        · rename_i ds hds
          cases h
          refine ⟨e.map .d, by simp [Cont.avs, he], by simpa using hle, ?_⟩
          rw [dvs_map hds]
          simp [Cont.avs, splice, List.map_set]
        · cases h
          exact ⟨e.map .d, by simp [Cont.avs, he], by simpa using hle, rfl⟩
      · cases h
  | mx es =>
    simp only [Cont.setCells] at h
    split at h
    · cases h
    · rename_i e he
      split at h
      · rename_i hle; cases h; exact ⟨e, he, hle, rfl⟩
      · cases h

theorem splice_get {α : Type} {cs vs : List α} {o j : Nat} (h : o + vs.length ≤ cs.length) : (splice cs o vs)[j]? = if j < o then cs[j]? else if j < o + vs.length then vs[j - o]? else cs[j]? := by
  unfold splice
  rw [List.append_assoc]
  by_cases h1 : j < o
  · rw [if_pos h1, List.getElem?_append_left (by simp; omega), List.getElem?_take_of_lt h1]
  · rw [if_neg h1, List.getElem?_append_right (by simp; omega)]
    have hl : (cs.take o).length = o := by simp; omega
    rw [hl]
    by_cases h2 : j < o + vs.length
    · rw [if_pos h2, List.getElem?_append_left (by omega)]
    · rw [if_neg h2, List.getElem?_append_right (by omega), List.getElem?_drop]
      congr 1; omega
theorem splice_length {α : Type} {cs vs : List α} {o : Nat} (h : o + vs.length ≤ cs.length) : (splice cs o vs).length = cs.length := by
  unfold splice; simp; omega

theorem row_pos {k i i' o j n : Nat} (hj : j < k) (ho : o + n ≤ k) : (i * k + o ≤ i' * k + j ∧ i' * k + j < i * k + o + n) ↔ (i' = i ∧ o ≤ j ∧ j < o + n) := by
  constructor
  · rintro ⟨h1, h2⟩
    have : i' = i := by
      rcases Nat.lt_trichotomy i' i with hlt | heq | hgt
      · have : (i' + 1) * k ≤ i * k := Nat.mul_le_mul_right k hlt
        rw [Nat.add_mul] at this; omega
      · exact heq
      · have : (i + 1) * k ≤ i' * k := Nat.mul_le_mul_right k hgt
        rw [Nat.add_mul] at this; omega
    subst this
    omega
  · rintro ⟨rfl, h1, h2⟩; omega

/-- cells are written into a live object -/
theorem write_rows {i id : Nat} {o : Nat} {ob ao : AO} {k : Nat} {c c' : Cont} {l : Loc} {vs : List AV} {xs : List Value} (hS : St F m w h) (hob : h[id]? = some (some ob)) (hl : m id = some l) (hlive : ob.live? = some (k, c)) (hao : ao.live? = some (k, c'))
    (hset : c.setCells i o vs = some c') (hxs : xs.length = vs.length) (hcells : CellsAt F m xs.toArray 0 vs) :
    ∃ w', (storeCells ⟨l.b, l.o + (i * l.k + o), none⟩ xs 0).run P w = .ok () w' ∧ St F m w' (h.set id (some ao)) ∧ Ev F m w h F m w' (h.set id (some ao)) := by
  obtain ⟨l0, hl0, hR⟩ := hS.obj id ob hob
  rw [hl] at hl0; cases hl0
  obtain ⟨hk, hk0, hcap, hlen, hF, ca, T, fr, hb, hsz, hfr, hrows⟩ := (liveR hlive).1 hR
  subst hfr
  obtain ⟨e, he, hle, havs⟩ := setCells_avs hset
  have hek : e.length = k := hlen e (List.mem_of_getElem? he)
  have hilt : i < c.avs.length := (List.getElem?_eq_some_iff.1 he).1
  have hfit : l.o + (i * k + o) + xs.length ≤ ca.size := by
    have h1 : (i + 1) * k ≤ l.cap * k := Nat.mul_le_mul_right k (by omega)
    rw [Nat.add_mul] at h1; omega
  have h1c : ∀ v ∈ xs, v.oneCell' = true := by
    intro v hv
    obtain ⟨j, hj, rfl⟩ := List.mem_iff_getElem.1 hv
    obtain ⟨v', a1, b1, _⟩ := hcells j vs[j] (List.getElem?_eq_getElem (by omega))
    simp only [Nat.zero_add, List.getElem?_toArray, List.getElem?_eq_getElem hj, Option.some.injEq] at a1
    rw [a1]; exact one_oneCell' b1
  have hrun := run_storeCells_at P l.b (l.o + (i * k + o)) T xs 0 ca w hb (by simpa using hfit) h1c
  rw [hk]
  refine ⟨_, hrun, ?_⟩
  simp only [Nat.add_zero]
  have hget : ∀ p, (ca.toList.take (l.o + (i * k + o)) ++ xs ++ ca.toList.drop (l.o + (i * k + o) + xs.length)).toArray[p]? = if p < l.o + (i * k + o) then ca[p]? else if p < l.o + (i * k + o) + xs.length then xs[p - (l.o + (i * k + o))]? else ca[p]? := by
    intro p
    have := splice_get (cs := ca.toList) (vs := xs) (o := l.o + (i * k + o)) (j := p) (by simpa using hfit)
    unfold splice at this
    simpa using this
  refine hS.update hob (live_cont hlive).2 hl (size_setRow w _ _) rfl rfl rfl (fun b hbne => setRow_other w _ _ _ hbne) ?_
  refine (liveR hao).2 ⟨hk, hk0, by rw [havs]; simpa using hcap, ?_, hF, _, T, (0, 0), setRow_heap w l.b ca _ T (0, 0) hb, ?_, rfl, ?_⟩
  · intro e' he'
    rw [havs] at he'
    rcases List.mem_or_eq_of_mem_set he' with h1 | h1
    · exact hlen e' h1
    · rw [h1, splice_length hle, hek]
  · simp only [List.size_toArray, List.length_append, List.length_take, List.length_drop, Array.length_toList]
    omega
  · intro i' j e' x hi' hj'
    rw [hget]
    rw [havs, List.getElem?_set] at hi'
    by_cases hii : i' = i
    · subst hii
      rw [if_pos rfl, if_pos hilt, Option.some.injEq] at hi'
      subst hi'
      rw [splice_get hle] at hj'
      have hjk : j < k := by
        split at hj'
        · omega
        · split at hj'
          · omega
          · have := (List.getElem?_eq_some_iff.1 hj').1; omega
      by_cases hj1 : j < o
      · rw [if_pos hj1] at hj'
        rw [if_pos (by omega)]
        exact hrows i' j e x he hj'
      · rw [if_neg hj1] at hj'
        rw [if_neg (by omega)]
        by_cases hj2 : j < o + vs.length
        · rw [if_pos hj2] at hj'
          rw [if_pos (by omega)]
          obtain ⟨v, a1, b1, c1⟩ := hcells (j - o) x hj'
          refine ⟨v, ?_, b1, c1⟩
          rw [← List.getElem?_toArray, ← a1]
          congr 1; omega
        · rw [if_neg hj2] at hj'
          rw [if_neg (by omega)]
          exact hrows i' j e x he hj'
    · rw [if_neg (by omega)] at hi'
      have hjk : j < k := by
        rw [← hlen e' (List.mem_of_getElem? hi')]; exact (List.getElem?_eq_some_iff.1 hj').1
      have hnot : ¬ (i * k + o ≤ i' * k + j ∧ i' * k + j < i * k + o + vs.length) := fun hh => hii ((row_pos (i := i) (i' := i') (o := o) (n := vs.length) hjk (by omega)).1 hh).1
      by_cases hlt : l.o + (i' * k + j) < l.o + (i * k + o)
      · rw [if_pos hlt]; exact hrows i' j e' x hi' hj'
      · rw [if_neg hlt, if_neg (by omega)]
        exact hrows i' j e' x hi' hj'
theorem prim_store {t x z} (hE : EnvR F m N e a) (hG : GlobR F G) (hS : St F m w h) (hx : (prim P G e base ⟨d, .store t x z, ty, pos, aft, none⟩).run h = some y) : Does P a ⟨d, .store t x z, ty, pos, aft, none⟩ F m w h y := by
  simp only [prim] at hx
  cases hv : ev G e x with
  | none => simp [hv, AM.run] at hx
  | some v =>
    cases hz : ev G e z with
    | none => simp [hv, hz, AM.run] at hx
    | some u =>
      simp only [hv, hz] at hx
      cases v with
      | ptr id i o =>
        simp only at hx
        split at hx
        · rename_i hok
          obtain ⟨ob, hob, hx⟩ := obj_run hx
          cases hl : ob.live? with
          | none => simp [hl, AM.run] at hx
          | some kc =>
            obtain ⟨k, c⟩ := kc
            simp only [hl, Option.bind_some] at hx
            cases hset : c.setCells i o u.cellsOf with
            | none => simp [hset, AM.run] at hx
            | some c' =>
              simp only [hset, Option.map_some, AM.run, Option.some.injEq] at hx
              subst hx
              obtain ⟨h1, h2, h3⟩ := rv_cells (ev_rv hE hG hz) hok
              have hr := ev_rv hE hG hv
              generalize hev : a.eval x = av at hr
              cases hr with
              | @ptr _ _ _ l hml =>
                obtain ⟨w', hrun, hst, hevo⟩ := write_rows (P := P) (xs := (a.eval z).cells.toList) hS hob hml hl obj_live hset (by simp [h1, h2]) (by simpa using h3)
                have hd : ∃ dd, P.underlying t = some dd := by
                  cases hd : P.underlying t with
                  | some d => exact ⟨d, rfl⟩
                  | none => simp [okCells, isAg, szOf, hd] at hok; cases u <;> simp at hok
                obtain ⟨dd, hd⟩ := hd
                obtain ⟨ti, hti⟩ := info_of_underlying hd
                have hlt : id < h.length := hS.dom _ _ hml
                refine ⟨.skip, Go.undef, w', ?_, .inr ⟨rfl, rfl⟩, m, ?_, ?_, ?_, grown_same⟩
                · simp only [execOp, Instr.storeAt, hev, Instr.sureAddr, Sem.run_bind, Sem.run_pure, Result.andThen_ok, storeVar, sizeOf_run hti hd, h2, ne_eq, not_true_eq_false, if_false, hrun]
                · simpa [put, hlt] using hst
                · exact .tup (fun _ => Go.undef) rfl (by simp) (by simp)
                · simpa [put, hlt] using hevo
        · simp [AM.run] at hx
      | _ => simp [AM.run] at hx
end ops
end Go.Ab
namespace Go.Ab
variable {P : Program}
theorem asIntOf_run {k n} {w : World} : (asIntOf (.int k n)).run P w = .ok (k, n) w := rfl
theorem nat_some {v : AV} {i} (h : nat? v = some i) : ∃ k n, v = .d (.int k n) ∧ 0 ≤ n ∧ n.toNat = i := by
  unfold nat? at h
  split at h
  · split at h
    · cases h; exact ⟨_, _, rfl, by assumption, rfl⟩
    · cases h
  · cases h
theorem slElem_zero {t el sz by'} (h : slElem P t = some (el, sz, by')) : P.underlying t = some (.slice el) ∧ sz = szOf P el ∧ by' = P.bytesOf el ∧ ∃ z, zeroC P el = some z ∧ z.length = sz := by
  unfold slElem at h
  split at h
  · rename_i e hd
    split at h
    · rename_i hz
      simp only [Option.some.injEq, Prod.mk.injEq] at h; obtain ⟨rfl, rfl, rfl⟩ := h
      unfold zeroOk at hz
      split at hz
      · rename_i z hzz; exact ⟨hd, rfl, rfl, z, hzz, by simpa using hz⟩
      · cases hz
    · cases h
  · cases h
theorem slElem_some {t el sz by'} (h : slElem P t = some (el, sz, by')) : P.underlying t = some (.slice el) ∧ sz = szOf P el ∧ by' = P.bytesOf el :=
  let ⟨a, b, c, _⟩ := slElem_zero h; ⟨a, b, c⟩
theorem arElem_some {t n el sz} (h : arElem P t = some (n, el, sz)) : P.underlying t = some (.array n el) ∧ sz = szOf P el := by
  unfold arElem at h
  split at h
  · rename_i n' e hd; simp only [Option.some.injEq, Prod.mk.injEq] at h; obtain ⟨rfl, rfl, rfl⟩ := h; exact ⟨hd, rfl⟩
  · cases h
theorem size_run {t : TypeId} {w : World} (hz : szOf P t ≠ 0) : (Go.sizeOf t).run P w = .ok (szOf P t) w := by
  cases hd : P.underlying t with
  | none => simp [szOf, hd] at hz
  | some d => obtain ⟨i, hi⟩ := info_of_underlying hd; exact sizeOf_run hi hd
theorem info_size {t : TypeId} (hz : szOf P t ≠ 0) : ∃ i, P.info? t = some i ∧ i.size = szOf P t := by
  cases hd : P.underlying t with
  | none => simp [szOf, hd] at hz
  | some d =>
    obtain ⟨i, hi⟩ := info_of_underlying hd
    exact ⟨i, hi, by simp [szOf, hd, Program.cellsOf, hi]⟩

section ops
variable {F : Fz} {m : Mp} {N : Nat} {e : Env} {a : Act} {G : Nat → Option (List DV)} {base : Nat} {d : Option Nat} {ty : TypeId} {pos : String} {aft : Array Edge} {h : Heap} {w : World} {y : Eff}

theorem prim_indexAddr {t x ix} (hE : EnvR F m N e a) (hG : GlobR F G) (hS : St F m w h) (hx : (prim P G e base ⟨d, .indexAddr t x ix, ty, pos, aft, none⟩).run h = some y) : Does P a ⟨d, .indexAddr t x ix, ty, pos, aft, none⟩ F m w h y := by
  simp only [prim] at hx
  cases hv : ev G e x with
  | none => simp [hv, AM.run] at hx
  | some v =>
    cases hz : ev G e ix with
    | none => simp [hv, hz, AM.run] at hx
    | some u =>
      simp only [hv, hz] at hx
      cases hn : nat? u with
      | none => simp [hn, AM.run] at hx
      | some i =>
        simp only [hn] at hx
        obtain ⟨ki, n, rfl, hn0, hni⟩ := nat_some hn
        have hix := rv_int (ev_rv hE hG hz)
        have hr := ev_rv hE hG hv
        generalize hev : a.eval x = av at hr
        cases hsl : slElem P t with
        | some z =>
          obtain ⟨el, sz, bytes⟩ := z
          obtain ⟨hu, hsz, _⟩ := slElem_some hsl
          simp only [hsl] at hx
          by_cases hz0 : sz = 0
          · simp [hz0, AM.run] at hx
          · rw [if_neg hz0] at hx
            have key : ∀ b off len cap v', av = .slice (some ⟨b, off, none⟩) len cap → i < len → RV F m v' (.pointer (some ⟨b, off + i * sz, none⟩)) → Does P a ⟨d, .indexAddr t x ix, ty, pos, aft, none⟩ F m w h ⟨v', [], 0⟩ := by
              intro b off len cap v' hav hlt hrv
              refine Does.val hS ?_ hrv
              have hin : 0 ≤ n ∧ n < (len : Int) := ⟨hn0, by omega⟩
              simp only [execOp, Instr.indexAt, hev, hix, hav, asIntOf_run, Sem.run_bind, Result.andThen_ok, underlying_run hu, Sem.run_pure, if_pos hin, size_run (hsz ▸ hz0), addr_add, hni, ← hsz]
            cases v with
            | d v => cases v with
              | fsl es nn full =>
                simp only at hx
                cases hes : es[i]? with
                | none => simp [hes, AM.run] at hx
                | some e' =>
                  simp only [hes] at hx
                  by_cases hlen : e'.length = sz
                  · rw [if_pos hlen] at hx
                    have := eff_run hx; subst this
                    cases hr with
                    | d hr => cases hr with
                      | fslE => simp at hes
                      | @fsl _ _ _ b c off n' cap k val h1 h2 h3 h4 h5 h6 h7 h8 h9 =>
                        have hk : k = sz := by rw [← hlen]; exact (h7 e' (List.mem_of_getElem? hes)).symm
                        subst hk
                        refine key b off n' cap _ rfl (by rw [h2]; exact (List.getElem?_eq_some_iff.1 hes).1) (.d ?_)
                        have := RD.fptr (F := F) (e := e') (o := 0) (b := b) (c := c) (off := off + i * k) (fun j => val i j) h3 (fun j x hj => by rw [Nat.add_assoc]; exact h8 i j e' x hes hj) (fun j x hj => h9 i j e' x hes hj)
                        simpa using this
                  · simp [hlen, AM.run] at hx
              | _ => simp [AM.run] at hx
            | sl id off len full =>
              obtain ⟨ob, hob, hx⟩ := obj_run hx
              cases hc : ob.cont? with
              | none => simp [hc, AM.run] at hx
              | some kc =>
                obtain ⟨k, c⟩ := kc
                simp only [hc] at hx
                split at hx
                · rename_i hcond
                  have := eff_run hx; subst this
                  obtain ⟨l, hl, hobr⟩ := hS.obj id ob hob
                  obtain ⟨hk, _, _, _, hcl, _⟩ := hobr.rows hS hc
                  cases hr with
                  | @sl _ _ _ _ l' a' cap g1 g2 g3 g4 g5 g6 =>
                    rw [hl] at g1; cases g1
                    have ha := g6 (by omega)
                    subst ha
                    refine key l.b (l.o + off * l.k) len cap _ rfl hcond.2.1 ?_
                    have h2 : RV F m (.ptr id (off + i) 0) (.pointer (some ⟨l.b, l.o + ((off + i) * l.k + 0), none⟩)) := RV.ptr hl
                    have e1 : l.o + off * l.k + i * sz = l.o + ((off + i) * l.k + 0) := by rw [Nat.add_mul, hk, hcond.1]; omega
                    rw [e1]; exact h2
                · simp [AM.run] at hx
            | _ => simp [AM.run] at hx
        | none =>
          simp only [hsl] at hx
          cases har : arElem P t with
          | none => simp [har, AM.run] at hx
          | some z =>
            obtain ⟨n', el, sz⟩ := z
            obtain ⟨hu, hsz⟩ := arElem_some har
            simp only [har] at hx
            split at hx
            · rename_i hc
              simp only [Bool.and_eq_true, decide_eq_true_eq, ne_eq] at hc
              have key : ∀ v', shiftAV v (i * sz) = some v' → y = ⟨v', [], 0⟩ → Does P a ⟨d, .indexAddr t x ix, ty, pos, aft, none⟩ F m w h y := by
                intro v' hs hy
                subst hy
                obtain ⟨p, hp, hsp, hrv⟩ := shift_rv hs hr
                obtain ⟨pb, po, ps⟩ := p
                simp only at hsp; subst hsp
                refine Does.val hS ?_ hrv
                have hin : 0 ≤ n ∧ n < (n' : Int) := ⟨hn0, by omega⟩
                simp only [execOp, Instr.indexAt, hev, hix, hp, asIntOf_run, Sem.run_bind, Result.andThen_ok, underlying_run hu, Sem.run_pure, Instr.sureAddr, if_pos hin, size_run (hsz ▸ hc.2), addr_add, hni, ← hsz]
              cases v with
              | ptr id j o => exact key _ rfl (eff_run hx)
              | d v => cases v with
                | fptr cs o => exact key _ rfl (eff_run hx)
                | _ => simp [AM.run] at hx
              | _ => simp [AM.run] at hx
            · simp [AM.run] at hx

theorem prim_index {t x ix} (hE : EnvR F m N e a) (hG : GlobR F G) (hS : St F m w h) (hx : (prim P G e base ⟨d, .index t x ix, ty, pos, aft, none⟩).run h = some y) : Does P a ⟨d, .index t x ix, ty, pos, aft, none⟩ F m w h y := by
  simp only [prim] at hx
  cases hv : ev G e x with
  | none => simp [hv, AM.run] at hx
  | some v =>
    cases hz : ev G e ix with
    | none => simp [hv, hz, AM.run] at hx
    | some u =>
      simp only [hv, hz] at hx
      cases hn : nat? u with
      | none => simp [hn, AM.run] at hx
      | some i =>
        simp only [hn] at hx
        obtain ⟨ki, n, rfl, hn0, hni⟩ := nat_some hn
        have hix := rv_int (ev_rv hE hG hz)
        have hr := ev_rv hE hG hv
        cases hsh : shapeOf P t with
        | str =>
          have hu : P.underlying t = some .string := by
            unfold shapeOf at hsh; split at hsh <;> first | assumption | cases hsh
          simp only [hsh] at hx
          cases v with
          | d v => cases v with
            | str s =>
              simp only at hx
              have hs := rv_str hr
              cases hb : s.data.toList[i]? with
              | none => simp [hb, AM.run] at hx
              | some b =>
                simp only [hb] at hx
                have := eff_run hx; subst this
                refine Does.val hS ?_ (.d (.int _ _))
                have hb' : s[i]? = some b := by
                  have hlt := (List.getElem?_eq_some_iff.1 hb)
                  obtain ⟨hl, hv⟩ := hlt
                  have : i < s.size := by simpa using hl
                  rw [getElem?_pos s i this]
                  congr 1
                have hni' : n.toNat = i := hni
                simp only [execOp, Instr.index, hix, hs, asIntOf_run, Sem.run_bind, Result.andThen_ok, underlying_run hu, if_pos hn0, hni', hb', Sem.run_pure]
            | _ => simp [AM.run] at hx
          | _ => simp [AM.run] at hx
        | array n' =>
          simp only [hsh] at hx
          cases v with
          | agg cs =>
            simp only at hx
            cases har : arElem P t with
            | none => simp [har, AM.run] at hx
            | some z =>
              obtain ⟨n'', el, sz⟩ := z
              obtain ⟨hu, hsz⟩ := arElem_some har
              have hnn : n'' = n' := by simp [shapeOf, hu] at hsh; exact hsh
              subst hnn
              simp only [har] at hx
              split at hx
              · rename_i hlt
                cases hp : pick (isAg P el) sz cs (i * sz) with
                | none => simp [hp, AM.run] at hx
                | some u =>
                  simp only [hp] at hx
                  have := eff_run hx; subst this
                  generalize hev : a.eval x = av at hr
                  cases hr with
                  | @agg _ arr val h1 h2 h3 =>
                    subst hsz
                    obtain ⟨u', hu1, hu2⟩ := part_ok (P := P) (w := w) val h1 h2 h3 hp
                    obtain ⟨dd, hd⟩ := pick_known hp
                    obtain ⟨ti, hti⟩ := info_of_underlying hd
                    refine Does.val hS ?_ hu2
                    have hin : 0 ≤ n ∧ n < (n'' : Int) := ⟨hn0, by omega⟩
                    simp only [execOp, Instr.index, hev, hix, asIntOf_run, Sem.run_bind, Result.andThen_ok, underlying_run hu, if_pos hin, sizeOf_run hti hd, hni, hu1, Sem.run_pure]
              · simp [AM.run] at hx
          | _ => simp [AM.run] at hx
        | _ => simp only [hsh] at hx; cases v with
          | d v => cases v <;> simp [AM.run] at hx
          | _ => simp [AM.run] at hx
theorem prim_makeInterface {t x} (hE : EnvR F m N e a) (hG : GlobR F G) (hS : St F m w h) (hx : (prim P G e base ⟨d, .makeInterface t x, ty, pos, aft, none⟩).run h = some y) : Does P a ⟨d, .makeInterface t x, ty, pos, aft, none⟩ F m w h y := by
  simp only [prim] at hx
  cases hv : ev G e x with
  | none => simp [hv, AM.run] at hx
  | some v =>
    simp only [hv] at hx
    have hr := ev_rv hE hG hv
    cases hu : P.underlying t with
    | none => simp [hu, AM.run] at hx
    | some dd =>
      cases dd with
      | interface ms => simp [hu, AM.run] at hx
      | _ =>
        simp only [hu] at hx
        have := eff_run hx; subst this
        refine Does.val hS ?_ (.ifc hr)
        simp [execOp, Instr.makeInterface, underlying_run hu]
end ops
end Go.Ab
namespace Go.Ab
variable {P : Program}

/-- writing some values into an array of cells -/
theorem foldl_set (off : Nat) : ∀ (vs : List Value) (i : Nat) (arr : Array Value), off + i + vs.length ≤ arr.size →
    ((vs.zipIdx i).foldl (fun cs (x : Value × Nat) => cs.setIfInBounds (off + x.2) x.1) arr).size = arr.size ∧
    ∀ p, ((vs.zipIdx i).foldl (fun cs (x : Value × Nat) => cs.setIfInBounds (off + x.2) x.1) arr)[p]? = if off + i ≤ p ∧ p < off + i + vs.length then vs[p - (off + i)]? else arr[p]?
  | [], i, arr, _ => by simp; intro p h1 h2; omega
  | v :: r, i, arr, h => by
    simp only [List.length_cons] at h
    obtain ⟨a, b⟩ := foldl_set off r (i + 1) (arr.setIfInBounds (off + i) v) (by simp; omega)
    simp only [List.zipIdx_cons, List.foldl_cons]
    refine ⟨by rw [a]; simp, fun p => ?_⟩
    rw [b p]
    by_cases h1 : p = off + i
    · subst h1
      rw [if_neg (by omega), if_pos (by simp), Array.getElem?_setIfInBounds_self_of_lt (by omega)]
      simp
    · by_cases h2 : off + i ≤ p ∧ p < off + i + (v :: r).length
      · simp only [List.length_cons] at h2
        rw [if_pos (by omega), if_pos (by simp; omega)]
        obtain ⟨q, hq⟩ : ∃ q, p = off + i + 1 + q := ⟨p - (off + i + 1), by omega⟩
        subst hq
        rw [show off + i + 1 + q - (off + (i + 1)) = q by omega, show off + i + 1 + q - (off + i) = q + 1 by omega]
        simp
      · simp only [List.length_cons] at h2
        rw [if_neg (by omega), if_neg (by simp; omega), Array.getElem?_setIfInBounds_ne (by omega)]

theorem okPart_cells {F m sz v x} (hr : RV F m v x) (hok : okPart sz v = true) : v.cellsOf.length = sz ∧ x.cells.size = sz ∧ CellsAt F m x.cells 0 v.cellsOf := by
  cases v with
  | agg cs => exact rv_cells (ag := true) hr (by simpa [okPart, okCells] using hok)
  | tup => simp [okPart] at hok
  | top => simp [okPart] at hok
  | _ => exact rv_cells (ag := false) hr (by simpa [okPart, okCells] using hok)

/-- parts of an aggregate -/
def PartsR (F : Fz) (m : Mp) : List (Nat × AV) → List (Nat × Value) → Prop
  | [], [] => True
  | (i, v) :: r, (j, x) :: s => i = j ∧ RV F m v x ∧ PartsR F m r s
  | _, _ => False
theorem evAll_rv {F m N e a G} (hE : EnvR F m N e a) (hG : GlobR F G) : ∀ {ops : List (Nat × Operand)} {vs}, evAll G e ops = some vs → PartsR F m vs (ops.map fun (i, x) => (i, a.eval x))
  | [], vs, h => by simp [evAll] at h; subst h; trivial
  | (i, o) :: r, vs, h => by
    simp only [evAll] at h
    cases h1 : ev G e o with
    | none => simp [h1] at h
    | some v =>
      cases h2 : evAll G e r with
      | none => simp [h1, h2] at h
      | some l =>
        simp only [h1, h2, Option.some.injEq] at h; subst h
        exact ⟨rfl, ev_rv hE hG h1, evAll_rv hE hG h2⟩

theorem fill_rv {F m} {place placeM : Nat → Option (Nat × Nat)} (hp : ∀ i p, place i = some p → placeM i = some p) : ∀ {ps : List (Nat × AV)} {qs : List (Nat × Value)} {cs cs' : List AV} {arr : Array Value},
    fillA place cs ps = some cs' → CellsAt F m arr 0 cs → cs.length = arr.size → PartsR F m ps qs → ∃ arr', Instr.fill placeM arr qs = some arr' ∧ CellsAt F m arr' 0 cs' ∧ cs'.length = arr'.size ∧ cs'.length = cs.length
  | [], [], cs, cs', arr, h, hc, hl, _ => by simp only [fillA, Option.some.injEq] at h; subst h; exact ⟨arr, rfl, hc, hl, rfl⟩
  | [], _ :: _, _, _, _, _, _, _, h => h.elim
  | (i, v) :: r, [], _, _, _, _, _, _, h => by simp [PartsR] at h
  | (i, v) :: r, (j, x) :: s, cs, cs', arr, h, hc, hl, hpr => by
    obtain ⟨rfl, hrv, hpr⟩ := hpr
    simp only [fillA] at h
    cases hpl : place i with
    | none => simp [hpl] at h
    | some z =>
      obtain ⟨off, size⟩ := z
      simp only [hpl] at h
      split at h
      · cases h
      · rename_i hcond
        simp only [Bool.or_eq_true, Bool.not_eq_true', decide_eq_true_eq, not_or, Bool.not_eq_false, Nat.not_lt] at hcond
        obtain ⟨hok, hle⟩ := hcond
        obtain ⟨h1, h2, h3⟩ := okPart_cells hrv hok
        have hfit : off + 0 + x.cells.toList.length ≤ arr.size := by simp; omega
        obtain ⟨g1, g2⟩ := foldl_set off x.cells.toList 0 arr hfit
        have hfit' : off + v.cellsOf.length ≤ cs.length := by omega
        have hz : x.cells.zipIdx.foldl (fun cs (x : Value × Nat) => cs.setIfInBounds (off + x.2) x.1) arr = (x.cells.toList.zipIdx 0).foldl (fun cs (x : Value × Nat) => cs.setIfInBounds (off + x.2) x.1) arr := by
          rw [← Array.foldl_toList]; simp
        have hc' : CellsAt F m ((x.cells.toList.zipIdx 0).foldl (fun cs (x : Value × Nat) => cs.setIfInBounds (off + x.2) x.1) arr) 0 (splice cs off v.cellsOf) := by
          intro p y hy
          rw [splice_get hfit'] at hy
          simp only [Nat.zero_add]
          rw [g2 p]
          simp only [Nat.add_zero, Array.length_toList]
          by_cases hp1 : p < off
          · rw [if_pos hp1] at hy; rw [if_neg (by omega)]
            obtain ⟨u, u1, u2, u3⟩ := hc p y hy; exact ⟨u, by simpa using u1, u2, u3⟩
          · rw [if_neg hp1] at hy
            by_cases hp2 : p < off + v.cellsOf.length
            · rw [if_pos hp2] at hy; rw [if_pos (by omega)]
              obtain ⟨u, u1, u2, u3⟩ := h3 _ y hy; exact ⟨u, by simpa using u1, u2, u3⟩
            · rw [if_neg hp2] at hy; rw [if_neg (by omega)]
              obtain ⟨u, u1, u2, u3⟩ := hc p y hy; exact ⟨u, by simpa using u1, u2, u3⟩
        obtain ⟨arr', f1, f2, f3, f4⟩ := fill_rv hp h hc' (by rw [splice_length hfit', g1]; exact hl) hpr
        refine ⟨arr', ?_, f2, f3, by rw [f4, splice_length hfit']⟩
        simp only [Instr.fill, hp _ _ hpl]
        rw [if_neg (by simp; omega), hz]
        exact f1

section ops
variable {F : Fz} {m : Mp} {N : Nat} {e : Env} {a : Act} {G : Nat → Option (List DV)} {base : Nat} {d : Option Nat} {ty : TypeId} {pos : String} {aft : Array Edge} {h : Heap} {w : World} {y : Eff}

theorem mapM_run {α β : Type} {f : α → Sem β} {g : α → β} (l : Array α) (hf : ∀ x ∈ l, (f x).run P w = .ok (g x) w) : (l.mapM f).run P w = .ok (l.map g) w := by
  have key : ∀ (l : List α), (∀ x ∈ l, (f x).run P w = .ok (g x) w) → (l.mapM f).run P w = .ok (l.map g) w := by
    intro l hf
    induction l with
    | nil => rfl
    | cons x r ih => simp only [List.mapM_cons, Sem.run_bind, hf x (by simp), Result.andThen_ok, ih (fun y hy => hf y (by simp [hy])), Sem.run_pure, List.map_cons]
  have := key l.toList (by simpa using hf)
  rw [Array.mapM_eq_mapM_toList]
  show ((l.toList.mapM f) >>= (fun x => (pure x.toArray : Sem (Array β)))).run P w = _
  simp only [Sem.run_bind, this, Result.andThen_ok, Sem.run_pure]
  congr 1
  exact Array.toList_inj.1 (by simp)
theorem zero_fields {t z} (h : zeroC P t = some z) : fieldsOk P t = true := by
  unfold zeroC at h; split at h
  · cases h
  · simp_all
theorem cells_zero {z : List DV} {zv : Value} (hcells : ∀ (j : Nat) x, z[j]? = some x → ∃ v, zv.cells[j]? = some v ∧ RD F x v) : CellsAt F m zv.cells 0 (z.map .d) := by
  intro j x hj
  simp only [List.getElem?_map, Option.map_eq_some_iff] at hj
  obtain ⟨y, hy, rfl⟩ := hj
  obtain ⟨v, h1, h2⟩ := hcells j y hy
  exact ⟨v, by simpa using h1, h2.one, .d h2⟩
theorem agg_rv {cs : List AV} {arr : Array Value} (hc : CellsAt F m arr 0 cs) (hl : cs.length = arr.size) : RV F m (.agg cs) (.agg arr) := by
  refine .agg (fun i => arr.getD i Go.undef) hl (fun i c hi => ?_) (fun i c hi => ?_)
  · obtain ⟨v, h1, h2, h3⟩ := hc i c hi
    have h1' : arr[i]? = some v := by simpa using h1
    simp only [Array.getD_eq_getD_getElem?, h1', Option.getD_some]
    exact ⟨trivial, h2⟩
  · obtain ⟨v, h1, h2, h3⟩ := hc i c hi
    have h1' : arr[i]? = some v := by simpa using h1
    simpa only [Array.getD_eq_getD_getElem?, h1', Option.getD_some] using h3
theorem prim_build {t ps} (hE : EnvR F m N e a) (hG : GlobR F G) (hS : St F m w h) (hx : (prim P G e base ⟨d, .build t ps, ty, pos, aft, none⟩).run h = some y) : Does P a ⟨d, .build t ps, ty, pos, aft, none⟩ F m w h y := by
  simp only [prim] at hx
  cases hp : evAll G e ps.toList with
  | none => simp [hp, AM.run] at hx
  | some vs =>
    cases hz : zeroC P t with
    | none => simp [hp, hz, AM.run] at hx
    | some z =>
      simp only [hp, hz] at hx
      split at hx
      · rename_i hag
        have hparts := evAll_rv hE hG hp
        obtain ⟨i, zv, hi, hzv, hrun, hlen, hcells⟩ := zero_run (P := P) (F := F) (w := w) hz
        have hcz := cells_zero (m := m) hcells
        have hlz : (z.map AV.d).length = zv.cells.size := by simpa using hlen
        have fin : ∀ (place placeM : Nat → Option (Nat × Nat)), (∀ i p, place i = some p → placeM i = some p) →
            ((match fillA place (z.map .d) vs with | some cs => eff (.agg cs) | none => AM.fail).run h = some y) →
            (∀ cells, Instr.fill placeM zv.cells (ps.map fun (i, x) => (i, a.eval x)).toList = some cells → (execOp a.eval ⟨d, .build t ps, ty, pos, aft, none⟩).run P w = .ok (.value (.agg cells)) w) → Does P a ⟨d, .build t ps, ty, pos, aft, none⟩ F m w h y := by
          intro place placeM hpm hx hm
          cases hf : fillA place (z.map .d) vs with
          | none => simp [hf, AM.run] at hx
          | some cs =>
            simp only [hf] at hx
            have := eff_run hx; subst this
            obtain ⟨arr', f1, f2, f3, _⟩ := fill_rv hpm hf hcz hlz hparts
            exact Does.val hS (hm arr' (by simpa using f1)) (agg_rv f2 f3)
        cases hu : P.underlying t with
        | none => simp [isAg, hu] at hag
        | some dd =>
          cases dd with
          | struct fs =>
            have har : arElem P t = none := by simp [arElem, hu]
            simp only [har] at hx
            refine fin _ (fun i => ((fs.map fun f => (f.offset, szOf P f.type))[i]?)) (fun i p hpl => ?_) hx (fun cells hc => ?_)
            · simp only [fld, hu, Option.map_map, Option.map_eq_some_iff] at hpl
              obtain ⟨f, hf, rfl⟩ := hpl
              simp [hf]
            · have hk := zero_fields hz
              simp only [fieldsOk, hu, Array.all_eq_true_iff_forall_mem] at hk
              have hmm : (fs.mapM fun f => (do pure (f.offset, ← Go.sizeOf f.type) : Sem (Nat × Nat))).run P w = .ok (fs.map fun f => (f.offset, szOf P f.type)) w := by
                refine mapM_run fs (fun f hf => ?_)
                have hk' := hk f hf
                cases hif : P.underlying f.type with
                | none => simp [hif] at hk'
                | some dd =>
                  obtain ⟨ti, hti⟩ := info_of_underlying hif
                  simp only [Sem.run_bind, sizeOf_run hti hif, Result.andThen_ok, Sem.run_pure]
              simp only [execOp, Instr.build, Sem.run_bind, hrun, Result.andThen_ok, underlying_run hu, hmm, hc, Sem.run_pure]
          | array n el =>
            have har : arElem P t = some (n, el, szOf P el) := by simp [arElem, hu]
            simp only [har] at hx
            refine fin _ (fun i => some (i * szOf P el, szOf P el)) (fun i p hpl => hpl) hx (fun cells hc => ?_)
            have hk := zero_fields hz
            simp only [fieldsOk, hu] at hk
            cases hif : P.underlying el with
            | none => simp [hif] at hk
            | some dd =>
              obtain ⟨ti, hti⟩ := info_of_underlying hif
              simp only [execOp, Instr.build, Sem.run_bind, hrun, Result.andThen_ok, underlying_run hu, sizeOf_run hti hif, hc, Sem.run_pure]
          | _ => simp [isAg, hu] at hag
      · simp [AM.run] at hx
theorem chunks_get {α : Type} {sz : Nat} : ∀ {n : Nat} {l : List α} {i e}, (chunks sz n l)[i]? = some e → i < n ∧ e = (l.drop (i * sz)).take sz
  | 0, l, i, e, h => by simp [chunks] at h
  | n + 1, l, i, e, h => by
    simp only [chunks] at h
    cases i with
    | zero => simp only [List.getElem?_cons_zero, Option.some.injEq] at h; subst h; simp
    | succ i =>
      simp only [List.getElem?_cons_succ] at h
      obtain ⟨a, b⟩ := chunks_get h
      refine ⟨by omega, ?_⟩
      rw [b, List.drop_drop]
      congr 2
      rw [Nat.add_mul]; omega
theorem chunks_length {α : Type} {sz : Nat} : ∀ {n : Nat} {l : List α}, (chunks sz n l).length = n
  | 0, l => rfl
  | n + 1, l => by simp [chunks, chunks_length]
theorem rows_of_cells {c : Array Value} {k n : Nat} {cs : List AV} (h : CellsAt F m c 0 cs) : Rows F m c 0 k (chunks k n cs) := by
  intro i j e x hi hj
  obtain ⟨a, b⟩ := chunks_get hi
  subst b
  have hjk : j < k := by
    have := (List.getElem?_eq_some_iff.1 hj).1; simp at this; omega
  rw [List.getElem?_take_of_lt hjk, List.getElem?_drop] at hj
  obtain ⟨v, h1, h2, h3⟩ := h _ x hj
  exact ⟨v, by simpa using h1, h2, h3⟩
theorem range_zero {zero : Array Value} {z : List DV} {n : Nat} (hlen : z.length = zero.size) (hk : 0 < z.length) (hcells : ∀ (j : Nat) x, z[j]? = some x → ∃ v, zero[j]? = some v ∧ RD F x v) :
    CellsAt F m ((Array.range (n * z.length)).map (zero[· % zero.size]!)) 0 ((List.replicate n z).flatten.map .d) ∧ (List.replicate n z).flatten.length = n * z.length := by
  have hl : (List.replicate n z).flatten.length = n * z.length := by simp [List.length_flatten]
  refine ⟨?_, hl⟩
  intro j x hj
  have hget : ∀ (n j : Nat), j < n * z.length → (List.replicate n z).flatten[j]? = z[j % z.length]? := by
    intro n
    induction n with
    | zero => intro j hj; simp at hj
    | succ n ih =>
      intro j hj
      rw [List.replicate_succ, List.flatten_cons]
      by_cases h1 : j < z.length
      · rw [List.getElem?_append_left h1, Nat.mod_eq_of_lt h1]
      · rw [List.getElem?_append_right (by omega), ih _ (by rw [Nat.add_mul] at hj; omega), Nat.mod_eq_sub_mod (by omega : j ≥ z.length)]
  simp only [List.getElem?_map, Option.map_eq_some_iff] at hj
  obtain ⟨y, hy, rfl⟩ := hj
  have hjlt := (List.getElem?_eq_some_iff.1 hy).1
  rw [hl] at hjlt
  rw [hget n j hjlt] at hy
  obtain ⟨v, h1, h2⟩ := hcells _ y hy
  refine ⟨v, ?_, h2.one, .d h2⟩
  simp only [Nat.zero_add, Array.getElem?_map, Array.getElem?_range, if_pos hjlt, Option.map_some]
  congr 1
  rw [getElem!_def, ← hlen, h1]
theorem prim_buildSlice {t n ps} (hE : EnvR F m N e a) (hG : GlobR F G) (hS : St F m w h) (hb : base ≤ h.length) (hm : m base = none) (hx : (prim P G e base ⟨d, .buildSlice t n ps, ty, pos, aft, none⟩).run h = some y) : Does P a ⟨d, .buildSlice t n ps, ty, pos, aft, none⟩ F m w h y := by
  simp only [prim] at hx
  cases hp : evAll G e ps.toList with
  | none => simp [hp, AM.run] at hx
  | some vs =>
    cases hsl : slElem P t with
    | none => simp [hp, hsl, AM.run] at hx
    | some q =>
      obtain ⟨el, sz, by'⟩ := q
      simp only [hp, hsl] at hx
      obtain ⟨hu, hsz, _⟩ := slElem_some hsl
      cases hz : zeroC P el with
      | none => simp [hz, AM.run] at hx
      | some z =>
        simp only [hz] at hx
        split at hx
        · simp [AM.run] at hx
        · rename_i hcond
          simp only [Bool.or_eq_true, decide_eq_true_eq, not_or, ne_eq, Decidable.not_not, Nat.not_lt] at hcond
          obtain ⟨⟨hsz0, hbig⟩, hzl⟩ := hcond
          obtain ⟨i, zv, hi, hzv, hrun, hlen, hcells⟩ := zero_run (P := P) (F := F) (w := w) hz
          have hparts := evAll_rv hE hG hp
          subst hzl
          obtain ⟨hr1, hr2⟩ := range_zero (m := m) (n := n) hlen (by omega) hcells
          cases hf : fillA (fun i => some (i * z.length, z.length)) ((List.replicate n z).flatten.map .d) vs with
          | none => simp only [hf, AM.run] at hx; cases hx
          | some cs =>
            simp only [hf, AM.run, Option.some.injEq] at hx
            subst hx
            by_cases hn : n = 0
            · subst hn
              obtain ⟨arr', f1, f2, f3, f4⟩ := fill_rv (F := F) (m := m) (place := fun i => some (i * z.length, z.length)) (placeM := fun i => some (i * z.length, z.length)) (arr := #[]) (fun _ _ h => h) hf (by intro j x hj; simp at hj) (by simp) hparts
              have hal := alloc_rows (T := el) (ao := (Cont.ofRows (chunks z.length 0 cs)).obj z.length) (c := Cont.ofRows (chunks z.length 0 cs)) (k := z.length) (cap := 0) (cells := arr') hS hb hm obj_live (by omega)
                (by simp [ofRows_avs, chunks]) (by simp [ofRows_avs, chunks]) (by simp) (by rw [ofRows_avs]; exact rows_of_cells f2)
              refine ⟨.value (.slice (some ⟨w.heap.size, 0, none⟩) 0 0), _, _, ?_, .inl rfl, _, hal.1, ?_, hal.2, grown_new⟩
              · have f1' : Instr.fill (fun i => some (i * szOf P el, szOf P el)) #[] (ps.toList.map fun (i, x) => (i, a.eval x)) = some arr' := by rw [← hsz]; exact f1
                have e0 : (Array.range 0).map (fun x => (#[] : Array Value)[x % (#[] : Array Value).size]!) = #[] := by simp
                simp only [execOp, Instr.buildSlice, Sem.run_bind, underlying_run hu, Result.andThen_ok, size_run (hsz ▸ hsz0), Nat.zero_mul, if_neg (by decide : ¬ (0 > 2 ^ 24)), ↓reduceIte, Sem.run_pure, e0, Array.toList_map, f1', newRow, run_newObj]
                rfl
              · exact .sl upd_same (Nat.le_refl _) (fun h => by cases h) (fun _ => by simp) (by simp) (fun h => by omega)
            · obtain ⟨arr', f1, f2, f3, f4⟩ := fill_rv (F := F) (m := m) (place := fun i => some (i * z.length, z.length)) (placeM := fun i => some (i * z.length, z.length)) (fun _ _ h => h) hf hr1 (by simp [hr2]) hparts
              have hcl : cs.length = n * z.length := by rw [f4]; simpa using hr2
              have hal := alloc_rows (T := el) (ao := (Cont.ofRows (chunks z.length n cs)).obj z.length) (c := Cont.ofRows (chunks z.length n cs)) (k := z.length) (cap := n) (cells := arr') hS hb hm obj_live (by omega)
                (by
                  rw [ofRows_avs]
                  intro e' he'
                  obtain ⟨j, hj⟩ := List.mem_iff_getElem?.1 he'
                  obtain ⟨j1, j2⟩ := chunks_get hj
                  rw [j2, List.length_take, List.length_drop, hcl]
                  have : (j + 1) * z.length ≤ n * z.length := Nat.mul_le_mul_right _ j1
                  rw [Nat.add_mul] at this; omega)
                (by simp [ofRows_avs, chunks_length]) (by omega) (by rw [ofRows_avs]; exact rows_of_cells f2)
              refine ⟨.value (.slice (some ⟨w.heap.size, 0, none⟩) n n), _, _, ?_, .inl rfl, _, hal.1, ?_, hal.2, grown_new⟩
              · have hne : ¬ (n * szOf P el = 0) := by rw [← hsz]; exact Nat.mul_ne_zero hn hsz0
                have hle : ¬ (n * szOf P el > 2 ^ 24) := by rw [← hsz]; omega
                have f1' : Instr.fill (fun i => some (i * szOf P el, szOf P el)) ((Array.range (n * szOf P el)).map (zv.cells[· % zv.cells.size]!)) (ps.toList.map fun (i, x) => (i, a.eval x)) = some arr' := by rw [← hsz]; exact f1
                simp only [execOp, Instr.buildSlice, Sem.run_bind, underlying_run hu, Result.andThen_ok, size_run (hsz ▸ hsz0), if_neg hle, if_neg hne, hrun, Sem.run_pure, Array.toList_map, f1', newRow, run_newObj]
                rfl
              · exact .sl upd_same (Nat.le_refl _) (fun h => by cases h) (fun _ => by simp) (by simp) (fun _ => by simp)
          
end ops
end Go.Ab
namespace Go.Ab
variable {P : Program}
section ops
variable {F : Fz} {m : Mp} {N : Nat} {e : Env} {a : Act} {G : Nat → Option (List DV)} {base : Nat} {d : Option Nat} {ty : TypeId} {pos : String} {aft : Array Edge} {h : Heap} {w : World} {y : Eff}

theorem getObj_run {r : Nat} {o : Obj} (h : w.heap[r]? = some o) (hn : ∀ c e f, o ≠ .cells c e f) : (getObj r).run P w = .ok o w := by
  unfold getObj
  cases o <;> first | exact absurd rfl (hn _ _ _) | simp only [Sem.run, h]
theorem shape_str {t} (h : shapeOf P t = .str) : P.underlying t = some .string := by unfold shapeOf at h; split at h <;> first | assumption | cases h
theorem shape_slice {t} (h : shapeOf P t = .slice) : ∃ el, P.underlying t = some (.slice el) := by unfold shapeOf at h; split at h <;> first | exact ⟨_, by assumption⟩ | cases h
theorem shape_array {t n} (h : shapeOf P t = .array n) : ∃ el, P.underlying t = some (.array n el) := by unfold shapeOf at h; split at h <;> first | (cases h; exact ⟨_, by assumption⟩) | cases h
theorem shape_map {t} (h : shapeOf P t = .map) : ∃ k el, P.underlying t = some (.map k el) := by unfold shapeOf at h; split at h <;> first | exact ⟨_, _, by assumption⟩ | cases h

/-- a slice value of the machine, and what its abstract form says of its length -/
theorem rd_slice {v x} (h : RD F v x) {es nn full} (hv : v = .fsl es nn full) : ∃ a cap, x = .slice a es.length cap ∧ es.length ≤ cap ∧ (full = true → cap = es.length) ∧ ((nn || !es.isEmpty) = true → a ≠ none) ∧ (a = none → cap = 0) := by
  cases h <;> first | cases hv | skip
  · rename_i a cap h1 h2 h3
    have h1 : nn = true → a ≠ none := by assumption
    have h2 : full = true → cap = 0 := by assumption
    have h3 : a = none → cap = 0 := by assumption
    exact ⟨a, cap, rfl, by simp, by simpa using h2, by simpa using h1, h3⟩
  · rename_i b c off n cap k val h1 h2 h3 h4 h5 h6 h7 h8 h9
    have g1 : n = es.length := by assumption
    have g2 : n ≤ cap := by assumption
    have g3 : full = true → cap = n := by assumption
    subst g1
    exact ⟨_, cap, rfl, g2, g3, by simp, by simp⟩

theorem prim_len {ats x} (hE : EnvR F m N e a) (hG : GlobR F G) (hS : St F m w h) {c} (hc : c = ({ callee := .builtin .len, args := x, argTypes := ats } : Call)) (hx : (prim P G e base ⟨d, .call c, ty, pos, aft, none⟩).run h = some y) : Does P a ⟨d, .call c, ty, pos, aft, none⟩ F m w h y := by
  subst hc
  simp only [prim] at hx
  cases hv : evs G e x.toList with
  | none => simp [hv, AM.run] at hx
  | some vs =>
    simp only [hv] at hx
    obtain ⟨hl, hrv⟩ := evs_rv hE hG hv
    match vs, hx with
    | [v], hx =>
      simp only at hx
      cases ht : ats[0]? with
      | none => simp [ht, AM.run] at hx
      | some t =>
        simp only [ht] at hx
        obtain ⟨op, hop, hr⟩ := hrv 0 v rfl
        have hop' : x[0]? = some op := by simpa using hop
        have harg : (x.map a.eval)[0]? = some (a.eval op) := by simp [hop']
        generalize a.eval op = av at hr harg
        have key : ∀ n : Int, ((Builtin.len_ ats ty (x.map a.eval)).run P w = .ok (goInt n) w) → y = ⟨.d (.int .i64 n), [], 0⟩ → Does P a ⟨d, .call { callee := .builtin .len, args := x, argTypes := ats }, ty, pos, aft, none⟩ F m w h y := by
          intro n hrun hy
          subst hy
          refine Does.val hS ?_ (.d (.int _ _))
          simp only [execOp, resolve, Sem.run_bind, Sem.run_pure, Result.andThen_ok, invoke, builtin, hrun]
          rfl
        simp only [bind] at hx
        unfold lenOf at hx
        split at hx
        · rename_i s hs
          have := eff_run hx; subst this
          refine key _ ?_ rfl
          have hrr := rv_str hr; subst hrr
          simp [Builtin.len_, ht, harg, Sem.run_bind, underlying_run (shape_str hs)]
        · rename_i n _ hs
          have := eff_run hx; subst this
          refine key _ ?_ rfl
          obtain ⟨el, hu⟩ := shape_array hs
          simp [Builtin.len_, ht, harg, Sem.run_bind, underlying_run hu]
        · rename_i hs
          have := eff_run hx; subst this
          refine key _ ?_ rfl
          obtain ⟨el, hu⟩ := shape_slice hs
          cases hr with | d hr => cases hr; simp [Builtin.len_, ht, harg, Sem.run_bind, underlying_run hu]
        · rename_i es _ _ hs
          have := eff_run hx; subst this
          refine key _ ?_ rfl
          obtain ⟨el, hu⟩ := shape_slice hs
          cases hr with | d hr =>
            obtain ⟨b, cap, rfl, _⟩ := rd_slice hr rfl
            simp [Builtin.len_, ht, harg, Sem.run_bind, underlying_run hu]
        · rename_i len _ hs
          have := eff_run hx; subst this
          refine key _ ?_ rfl
          obtain ⟨el, hu⟩ := shape_slice hs
          cases hr; simp [Builtin.len_, ht, harg, Sem.run_bind, underlying_run hu]
        · rename_i hs
          have := eff_run hx; subst this
          refine key _ ?_ rfl
          obtain ⟨k, el, hu⟩ := shape_map hs
          cases hr with | d hr => cases hr; simp [Builtin.len_, ht, harg, Sem.run_bind, underlying_run hu]
        · rename_i id hs
          obtain ⟨k, el, hu⟩ := shape_map hs
          simp only [AM.obj, AM.bind, AM.run] at hx
          cases hi : h[id]? with
          | none => simp [hi] at hx
          | some o => cases o with
            | none => simp [hi, AM.run, AM.bind] at hx
            | some o =>
              obtain ⟨l, hl, ho⟩ := hS.obj id o hi
              cases o with
              | map es =>
                obtain ⟨_, _, ents, clock, h1, h2, h3⟩ := ho
                simp only [hi, AM.run, AM.bind] at hx
                have := eff_run hx; subst this
                refine key _ ?_ rfl
                cases hr with
                | map hl' =>
                  rw [hl] at hl'; cases hl'
                  simp [Builtin.len_, ht, harg, Sem.run_bind, underlying_run hu, getObj_run (P := P) h1 (by simp), h2]
              | _ => simp [hi, AM.run, AM.bind] at hx
        · simp [AM.run, AM.bind] at hx
    | [], hx => simp [AM.run] at hx
    | _ :: _ :: _, hx => simp [AM.run] at hx
/-- an optional bound -/
def BoundR (F : Fz) (m : Mp) : Option AV → Option Value → Prop
  | none, none => True
  | some v, some x => RV F m v x
  | _, _ => False
theorem sliceBound_run {v : AV} {x : Value} {i y : Nat} {code} (hr : RV F m v x) (hn : nat? v = some i) (hle : i ≤ y) : (Instr.sliceBound x y code).run P w = .ok i w := by
  obtain ⟨k, n, rfl, h1, h2⟩ := nat_some hn
  have := rv_int hr; subst this
  have hin : 0 ≤ n ∧ n ≤ (y : Int) := ⟨h1, by omega⟩
  simp only [Instr.sliceBound, asIntOf_run, Sem.run_bind, Result.andThen_ok, if_pos hin, h2, Sem.run_pure]
theorem sliceBounds_run {isSl : Bool} {len cap l hh mm : Nat} {lo hi mx : Option AV} {xlo xhi xmx : Option Value} (rlo : BoundR F m lo xlo) (rhi : BoundR F m hi xhi) (rmx : BoundR F m mx xmx)
    (h1 : boundA hi len = some hh) (h2 : boundA lo 0 = some l) (h3 : boundA mx hh = some mm) (h4 : (mx.isSome && hi.isNone) = false) (h5 : l ≤ hh) (h6 : hh ≤ mm) (h7 : mm ≤ cap) :
    (Instr.sliceBounds isSl len cap xlo xhi xmx).run P w = .ok (l, hh, if mx.isSome then mm else cap) w := by
  cases mx with
  | none =>
    cases xmx with
    | some _ => exact rmx.elim
    | none =>
      simp only [boundA, Option.some.injEq] at h3; subst h3
      cases hi with
      | none =>
        cases xhi with
        | some _ => exact rhi.elim
        | none =>
          simp only [boundA, Option.some.injEq] at h1; subst h1
          cases lo with
          | none => cases xlo with
            | some _ => exact rlo.elim
            | none => simp only [boundA, Option.some.injEq] at h2; subst h2; simp [Instr.sliceBounds]
          | some v => cases xlo with
            | none => exact rlo.elim
            | some x =>
              have := fun code => sliceBound_run (P := P) (w := w) (code := code) (y := len) rlo h2 h5
              simp [Instr.sliceBounds, Sem.run_bind, this]
      | some v => cases xhi with
        | none => exact rhi.elim
        | some x =>
          have hb := fun code => sliceBound_run (P := P) (w := w) (code := code) (y := cap) rhi h1 h7
          cases lo with
          | none => cases xlo with
            | some _ => exact rlo.elim
            | none => simp only [boundA, Option.some.injEq] at h2; subst h2; simp [Instr.sliceBounds, Sem.run_bind, hb]
          | some v => cases xlo with
            | none => exact rlo.elim
            | some x =>
              have := fun code => sliceBound_run (P := P) (w := w) (code := code) (y := hh) rlo h2 h5
              simp [Instr.sliceBounds, Sem.run_bind, this, hb]
  | some v => cases xmx with
    | none => exact rmx.elim
    | some x =>
      have ha := fun code => sliceBound_run (P := P) (w := w) (code := code) (y := cap) rmx h3 h7
      cases hi with
      | none => simp at h4
      | some v => cases xhi with
        | none => exact rhi.elim
        | some x =>
          have hb := fun code => sliceBound_run (P := P) (w := w) (code := code) (y := mm) rhi h1 h6
          cases lo with
          | none => cases xlo with
            | some _ => exact rlo.elim
            | none => simp only [boundA, Option.some.injEq] at h2; subst h2; simp [Instr.sliceBounds, Sem.run_bind, ha, hb]
          | some v => cases xlo with
            | none => exact rlo.elim
            | some x =>
              have := fun code => sliceBound_run (P := P) (w := w) (code := code) (y := hh) rlo h2 h5
              simp [Instr.sliceBounds, Sem.run_bind, this, ha, hb]
theorem slSz_some {t} (h : slSz P t ≠ 0) : ∃ el, P.underlying t = some (.slice el) ∧ slSz P t = szOf P el := by
  unfold slSz at h ⊢
  split at h
  · rename_i el sz b hs
    obtain ⟨h1, h2, _⟩ := slElem_some hs
    exact ⟨el, h1, h2⟩
  · exact absurd rfl h
theorem bound_rv {x : Option Operand} {v : Option AV} (hE : EnvR F m N e a) (hG : GlobR F G) (h : (match x with | none => some none | some x => (ev G e x).map some : Option (Option AV)) = some v) : BoundR F m v (x.map a.eval) := by
  cases x with
  | none => simp at h; subst h; trivial
  | some x =>
    simp only [Option.map_eq_some_iff] at h
    obtain ⟨u, h1, rfl⟩ := h
    exact ev_rv hE hG h1
theorem extract_drop {es : List (List DV)} {l n i : Nat} {e' : List DV} (h : ((es.drop l).take n)[i]? = some e') : i < n ∧ es[l + i]? = some e' := by
  have := (List.getElem?_eq_some_iff.1 h).1
  simp only [List.length_take, List.length_drop] at this
  rw [List.getElem?_take_of_lt (by omega), List.getElem?_drop] at h
  exact ⟨by omega, h⟩
theorem ite_map_none {α : Type} {f : α → α} {b : Option α} {p : Prop} [Decidable p] : (if p then b else b.map f) = none ↔ b = none := by
  split
  · exact Iff.rfl
  · cases b <;> simp
/-- a part of a frozen slice -/
theorem rd_part {es nn full} {l hh mm cap k M : Nat} {b : Option Addr} (hr : RD F (.fsl es nn full) (.slice b es.length cap)) {mx : Bool} (h5 : l ≤ hh) (h6 : hh ≤ mm) (h7 : mx = true → mm ≤ es.length) (h8 : hh ≤ es.length) (hlen : ∀ e' ∈ es, e'.length = k)
    (hcap : es.length ≤ cap) (hM1 : mx = true → M = mm) (hM2 : mx = false → M = cap) :
    RD F (.fsl ((es.drop l).take (hh - l)) (nn || !es.isEmpty) (if mx then mm == hh else full && hh == es.length)) (.slice (if M = l then b else b.map (·.add (l * k))) (hh - l) (M - l)) := by
  have hMh : hh ≤ M := by
    cases mx with
    | true => rw [hM1 rfl]; exact h6
    | false => rw [hM2 rfl]; omega
  generalize hn : es.length = n at hr
  cases hr with
  | fslE g1 g2 g3 =>
    have : hh = 0 := by simpa using h8
    subst this
    have : l = 0 := by omega
    subst this
    simp only [List.drop_nil, List.take_nil, Nat.sub_zero, Nat.zero_mul, List.isEmpty_nil, Bool.not_true, Bool.or_false, List.length_nil, beq_self_eq_true, Bool.and_true]
    refine .fslE (fun hnn => ?_) (fun hf => ?_) (fun hb => ?_)
    · rw [ne_eq, ite_map_none]; exact g1 hnn
    · cases mx with
      | true => have := h7 rfl; simp at this; rw [hM1 rfl]; exact this
      | false => rw [hM2 rfl]; exact g2 (by simpa using hf)
    · rw [ite_map_none] at hb
      cases mx with
      | true => have := h7 rfl; simp at this; rw [hM1 rfl]; exact this
      | false => rw [hM2 rfl]; exact g3 hb
  | @fsl _ _ _ b c off n' cap k' val g1 g2 g3 g4 g5 g6 g7 g8 g9 =>
    have hF : F b = some c := by assumption
    have hval : ∀ i j e x, es[i]? = some e → e[j]? = some x → c[off + (i * k' + j)]? = some (val i j) := by assumption
    have hvr : ∀ i j e x, es[i]? = some e → e[j]? = some x → RD F x (val i j) := by assumption
    have hk' : ∀ e ∈ es, e.length = k' := by assumption
    have hk0 : 0 < k' := by assumption
    have hes : es ≠ [] := by assumption
    have hfu : full = true → cap = n := by assumption
    have hkk : k' = k := by
      cases es with
      | nil => exact absurd rfl hes
      | cons e' r => rw [← hlen e' (by simp), hk' e' (by simp)]
    subst hkk
    have hne : (!es.isEmpty) = true := by simpa using hes
    have hfull : (if mx then mm == hh else full && hh == n) = true → M = hh := by
      intro hf
      cases mx with
      | true => rw [hM1 rfl]; simpa using hf
      | false =>
        simp only [Bool.false_eq_true, if_false, Bool.and_eq_true, beq_iff_eq] at hf
        rw [hM2 rfl, hfu hf.1]; omega
    by_cases h0 : hh - l = 0
    · have hhl : hh = l := by omega
      subst hhl
      rw [Nat.sub_self, List.take_zero]
      refine .fslE (fun _ => ?_) (fun hf => ?_) (fun hb => ?_)
      · rw [ne_eq, ite_map_none]; simp
      · have := hfull hf; omega
      · rw [ite_map_none] at hb; cases hb
    · rw [if_neg (show M ≠ l by omega)]
      simp only [Option.map_some, addr_add]
      refine .fsl (k := k') (fun i j => val (l + i) j) ?_ ?_ hF (by omega) ?_ hk0 ?_ ?_ ?_
      · intro hcon
        have := congrArg List.length hcon
        simp at this; omega
      · simp; omega
      · intro hf; have := hfull hf; omega
      · intro e' he'
        obtain ⟨i, hi⟩ := List.mem_iff_getElem?.1 he'
        exact hk' e' (List.mem_of_getElem? (extract_drop hi).2)
      · intro i j e' x hi hj
        have := hval (l + i) j e' x (extract_drop hi).2 hj
        rw [← this]; congr 1; rw [Nat.add_mul]; omega
      · intro i j e' x hi hj
        exact hvr (l + i) j e' x (extract_drop hi).2 hj
theorem prim_slice {t x lo hi mx} (hE : EnvR F m N e a) (hG : GlobR F G) (hS : St F m w h) (hx : (prim P G e base ⟨d, .slice t x lo hi mx, ty, pos, aft, none⟩).run h = some y) : Does P a ⟨d, .slice t x lo hi mx, ty, pos, aft, none⟩ F m w h y := by
  simp only [prim] at hx
  cases hv : ev G e x with
  | none => simp [hv, AM.run] at hx
  | some v =>
    simp only [hv] at hx
    have hr := ev_rv hE hG hv
    split at hx
    case h_2 => simp [AM.run] at hx
    rename_i lo' hi' mx' elo ehi emx
    have rlo := bound_rv hE hG elo
    have rhi := bound_rv hE hG ehi
    have rmx := bound_rv hE hG emx
    unfold sliceOp at hx
    split at hx
    · simp [AM.run] at hx
    rename_i hmh
    have hmh : (mx'.isSome && hi'.isNone) = false := by simpa only [Bool.not_eq_true] using hmh
    generalize hev : a.eval x = av at hr
    have key : ∀ v', y = ⟨v', [], 0⟩ → ∀ z, (Instr.slice t av (lo.map a.eval) (hi.map a.eval) (mx.map a.eval)).run P w = .ok z w → (∀ n el, P.underlying t ≠ some (.array n el)) → RV F m v' z → Does P a ⟨d, .slice t x lo hi mx, ty, pos, aft, none⟩ F m w h y := by
      intro v' hy z hrun hna hrv
      subst hy
      refine Does.val hS ?_ hrv
      have : ∃ dd, P.underlying t = some dd := by
        cases hu : P.underlying t with
        | some dd => exact ⟨dd, rfl⟩
        | none => simp [Instr.slice, Sem.run_bind, Go.underlying, hu] at hrun
      obtain ⟨dd, hu⟩ := this
      simp only [execOp, Instr.sliceAt, Sem.run_bind, underlying_run hu, Result.andThen_ok, hev]
      cases dd with
      | array n el => exact absurd hu (hna n el)
      | _ => simp only [hrun, Result.andThen_ok, Sem.run_pure]
    split at hx
    · rename_i s hs
      have hu := shape_str hs
      cases mx' with
      | some _ => simp [AM.run] at hx
      | none =>
      split at hx
      · rename_i hh l _ e1 e2
        split at hx
        · rename_i hc
          simp only [Bool.and_eq_true, decide_eq_true_eq] at hc
          have := rv_str hr; subst this
          have hb := sliceBounds_run (P := P) (w := w) (isSl := false) (cap := s.size) rlo rhi rmx e1 e2 rfl hmh hc.1 (Nat.le_refl _) hc.2
          cases mx with
          | some _ => exact rmx.elim
          | none =>
            refine key _ (eff_run hx) (.string (s.extract l hh)) ?_ (by simp [hu]) (.d (.str _))
            simp only [Option.map_none] at hb ⊢
            simp [Instr.slice, Sem.run_bind, underlying_run hu, hb]
        · simp [AM.run] at hx
      · simp [AM.run] at hx
    · rename_i hs
      split at hx
      · simp [AM.run] at hx
      rename_i hsz
      obtain ⟨el, hu, hsl⟩ := slSz_some hsz
      split at hx
      · rename_i e1 e2 e3
        have hav : av = .slice none 0 0 := by cases hr with | d hr => cases hr; rfl
        subst hav
        have hb := sliceBounds_run (P := P) (w := w) (isSl := true) (cap := 0) rlo rhi rmx (len := 0) e2 e3 (hh := 0) (mm := 0) (by cases mx' <;> simp_all [boundA]) hmh (Nat.le_refl _) (Nat.le_refl _) (Nat.le_refl _)
        refine key _ (eff_run hx) (.slice none 0 0) ?_ (by simp [hu]) (.d .snil)
        have : (if mx'.isSome = true then 0 else 0) = 0 := by split <;> rfl
        simp [Instr.slice, Sem.run_bind, underlying_run hu, hb, this, size_run (hsl ▸ hsz)]
      · simp [AM.run] at hx
    · rename_i es nn full hs
      split at hx
      · simp [AM.run] at hx
      rename_i hsz
      obtain ⟨el, hu, hsl⟩ := slSz_some hsz
      split at hx
      · rename_i hh l e1 e2
        split at hx
        · rename_i mm e3
          split at hx
          · rename_i hc
            simp only [Bool.and_eq_true, decide_eq_true_eq] at hc
            obtain ⟨⟨⟨c1, c2⟩, c3⟩, c4⟩ := hc
            cases hr with | d hr =>
            obtain ⟨b, cap, rfl, g1, g2, g3, g4⟩ := rd_slice hr rfl
            have hb := sliceBounds_run (P := P) (w := w) (isSl := true) (cap := cap) rlo rhi rmx e1 e2 e3 hmh c1 c2 (by omega)
            refine key _ (eff_run hx) _ ?_ (by simp [hu]) (.d (rd_part hr (mx := mx'.isSome) (M := if mx'.isSome = true then mm else cap) (k := slSz P t) c1 c2 (fun _ => c3) (by omega) (by simpa [allLen] using c4) g1 (fun hm => if_pos hm) (fun hm => if_neg (by rw [hm]; decide))))
            simp only [Instr.slice, Sem.run_bind, underlying_run hu, Result.andThen_ok, hb, size_run (hsl ▸ hsz), Sem.run_pure, ← hsl]
          · simp [AM.run] at hx
        · simp [AM.run] at hx
      · simp [AM.run] at hx
    · rename_i id off len full hs
      obtain ⟨ob, hob, hx⟩ := obj_run hx
      split at hx
      · simp [AM.run] at hx
      rename_i hcond
      simp only [not_or, ne_eq, Decidable.not_not] at hcond
      obtain ⟨hsz, hk⟩ := hcond
      obtain ⟨el, hu, hsl⟩ := slSz_some hsz
      split at hx
      · rename_i hh l e1 e2
        split at hx
        · rename_i mm e3
          split at hx
          · rename_i hc
            simp only [Bool.and_eq_true, decide_eq_true_eq] at hc
            obtain ⟨⟨c1, c2⟩, c3⟩ := hc
            by_cases hfull : (if mx'.isSome = true then mm != hh else full && hh != len) = true
            · rw [if_pos hfull] at hx; simp [AM.run] at hx
            rw [if_neg hfull] at hx
            cases hr with
            | @sl _ _ _ _ lc b cap g1 g2 g3 g4 g5 g6 =>
              have hb := sliceBounds_run (P := P) (w := w) (isSl := true) (cap := cap) rlo rhi rmx e1 e2 e3 hmh c1 c2 (by omega)
              obtain ⟨l0, hl0, hobr⟩ := hS.obj id ob hob
              rw [g1] at hl0; cases hl0
              have hkk : lc.k = slSz P t := by
                cases hct : ob.cont? with
                | none => simp [hct] at hk
                | some kc =>
                  obtain ⟨k, c⟩ := kc
                  obtain ⟨hk', _⟩ := hobr.rows hS hct
                  simp [hct] at hk; omega
              refine key _ (eff_run hx) (.slice (some (if (if mx'.isSome = true then mm else cap) = l then b else b.add (l * slSz P t))) (hh - l) ((if mx'.isSome = true then mm else cap) - l)) ?_ (by simp [hu]) ?_
              · simp only [Instr.slice, Sem.run_bind, underlying_run hu, Result.andThen_ok, hb, size_run (hsl ▸ hsz), Sem.run_pure, ← hsl, Option.map_some]
                by_cases hMl : (if mx'.isSome = true then mm else cap) = l
                · simp only [if_pos hMl]
                · simp only [if_neg hMl]
              · have hMh : hh ≤ (if mx'.isSome = true then mm else cap) ∧ (if mx'.isSome = true then mm else cap) ≤ cap := by
                  split <;> omega
                refine .sl g1 (by omega) (fun hf => ?_) (fun hf => ?_) (by omega) (fun hpos => ?_)
                · cases hmx : mx'.isSome with
                  | true => simp [hmx] at hfull ⊢; omega
                  | false =>
                    simp [hmx] at hf ⊢
                    have := g3 hf.1; omega
                · cases hmx : mx'.isSome with
                  | true => simp [hmx] at hf
                  | false =>
                    simp only [hmx, Bool.false_eq_true, if_false, Bool.and_eq_true, bne_iff_ne, ne_eq, not_and, Decidable.not_not] at hfull hf ⊢
                    have hff : full = false := by
                      cases full with
                      | false => rfl
                      | true => simp [hfull rfl] at hf
                    have := g4 hff; omega
                · have hb' := g6 (by omega)
                  subst hb'
                  rw [if_neg (by omega), addr_add, hkk]
                  congr 1
                  rw [Nat.add_mul, Nat.add_assoc]
          · simp [AM.run] at hx
        · simp [AM.run] at hx
      · simp [AM.run] at hx
    · simp [AM.run] at hx
end ops
end Go.Ab
namespace Go.Ab
variable {P : Program}
section ops
variable {F : Fz} {m : Mp} {N : Nat} {e : Env} {a : Act} {G : Nat → Option (List DV)} {base : Nat} {d : Option Nat} {ty : TypeId} {pos : String} {aft : Array Edge} {h : Heap} {w : World} {y : Eff}

theorem load_none (p : Addr) : (loadCells p 0).run P w = .ok #[] w := by simp [loadCells, loadCellsFrom]
theorem avs_length {c : Cont} : c.avs.length = c.length := by cases c <;> simp [Cont.avs, Cont.length]
theorem avs_take {c : Cont} {n} : (c.take n).avs = c.avs.take n := by cases c <;> simp [Cont.avs, Cont.take]
theorem avs_drop {c : Cont} {n} : (c.drop n).avs = c.avs.drop n := by cases c <;> simp [Cont.avs, Cont.drop]
theorem avs_app {c c' : Cont} : (c.app c').avs = c.avs ++ c'.avs := by cases c <;> cases c' <;> simp [Cont.avs, Cont.app]
theorem take_length {c : Cont} {n} : (c.take n).length = min n c.length := by cases c <;> simp [Cont.length, Cont.take]
theorem drop_length {c : Cont} {n} : (c.drop n).length = c.length - n := by cases c <;> simp [Cont.length, Cont.drop]
theorem app_length {c c' : Cont} : (c.app c').length = c.length + c'.length := by rw [← avs_length, avs_app, List.length_append, avs_length, avs_length]

/-- rows that lie in a block, loaded -/
theorem load_rows {b o k n : Nat} {ca : Array Value} {T fr} {es : List (List AV)} (hb : w.heap[b]? = some (.cells ca T fr)) (hr : Rows F m ca o k es) (hk : ∀ e ∈ es, e.length = k) (hk0 : 0 < k) (hn : n ≤ es.length) :
    ∃ arr, (loadCells ⟨b, o, none⟩ (n * k)).run P w = .ok arr w ∧ arr.size = n * k ∧ Rows F m arr 0 k (es.take n) := by
  by_cases h0 : n = 0
  · subst h0
    refine ⟨#[], by rw [Nat.zero_mul]; exact load_none _, by simp, ?_⟩
    intro i j e x hi; simp at hi
  · have hsz : o + n * k ≤ ca.size := by
      have hlt : n - 1 < es.length := by omega
      have he := hk es[n - 1] (List.getElem_mem hlt)
      have hlt2 : k - 1 < es[n - 1].length := by omega
      obtain ⟨v, hv, _⟩ := hr (n - 1) (k - 1) es[n - 1] _ (List.getElem?_eq_getElem hlt) (List.getElem?_eq_getElem hlt2)
      have := (Array.getElem?_eq_some_iff.1 hv).1
      have h2 : (n - 1) * k + k = n * k := by rw [← Nat.succ_mul]; congr 1; omega
      omega
    refine ⟨ca.extract o (o + n * k), ?_, by simp; omega, ?_⟩
    · simp only [loadCells]
      rw [run_loadCellsFrom hb (n * k) 0 #[] (by omega)]
      simp
    · intro i j e x hi hj
      have hin : i < n := by
        have := (List.getElem?_eq_some_iff.1 hi).1; simp at this; omega
      rw [List.getElem?_take_of_lt hin] at hi
      have hjk : j < k := by
        rw [← hk e (List.mem_of_getElem? hi)]; exact (List.getElem?_eq_some_iff.1 hj).1
      obtain ⟨v, h1, h2, h3⟩ := hr i j e x hi hj
      refine ⟨v, ?_, h2, h3⟩
      have : (i + 1) * k ≤ n * k := Nat.mul_le_mul_right k hin
      rw [Nat.add_mul] at this
      rw [Array.getElem?_extract, if_pos (by omega), Nat.zero_add]
      exact h1

/-- what a slice shows, in the machine -/
theorem cont_run {k v x c} (hS : St F m w h) (hc : (sliceCont k v).run h = some c) (hr : RV F m v x) (hk : 0 < k) :
    (∀ e ∈ c.avs, e.length = k) ∧ (Builtin.lenOf x).run P w = .ok c.length w ∧ ∀ n, n ≤ c.length → ∃ arr, (Builtin.firstCells k n x).run P w = .ok arr w ∧ arr.size = n * k ∧ Rows F m arr 0 k (c.avs.take n) := by
  unfold sliceCont at hc
  split at hc
  · simp only [AM.run, Option.some.injEq] at hc; subst hc
    have : x = .slice none 0 0 := by cases hr with | d hr => cases hr; rfl
    subst this
    refine ⟨by simp [Cont.avs], by simp [Builtin.lenOf, Cont.length], fun n hn => ?_⟩
    simp only [Cont.length, List.length_nil, Nat.le_zero_eq] at hn; subst hn
    exact ⟨#[], by simp [Builtin.firstCells], by simp, by intro i j e x hi; simp [Cont.avs] at hi⟩
  · rename_i es nn full
    split at hc
    · rename_i hal
      simp only [AM.run, Option.some.injEq] at hc; subst hc
      have hal' : ∀ e ∈ es, e.length = k := by simpa [allLen] using hal
      have hk' : ∀ e ∈ (Cont.fl es).avs, e.length = k := by
        intro e he
        simp only [Cont.avs, List.mem_map] at he
        obtain ⟨z, hz, rfl⟩ := he
        simpa using hal' z hz
      cases hr with
      | d hr =>
        obtain ⟨b, cap, rfl, _⟩ := rd_slice hr rfl
        refine ⟨hk', by simp [Builtin.lenOf, Cont.length], fun n hn => ?_⟩
        simp only [Cont.length] at hn
        generalize hlen : es.length = len at hr
        cases hr with
        | fslE g1 g2 g3 =>
          have : n = 0 := by simpa using hn
          subst this
          refine ⟨#[], ?_, by simp, by intro i j e x hi; simp [Cont.avs] at hi⟩
          cases b with
          | none => simp [Builtin.firstCells]
          | some p => simp only [Builtin.firstCells, Nat.zero_mul]; exact load_none p
        | @fsl _ _ _ b c off n' cap k' val g1 g2 g3 g4 g5 g6 g7 g8 g9 =>
          have hF : F b = some c := by assumption
          have hval : ∀ i j e x, es[i]? = some e → e[j]? = some x → c[off + (i * k' + j)]? = some (val i j) := by assumption
          have hvr : ∀ i j e x, es[i]? = some e → e[j]? = some x → RD F x (val i j) := by assumption
          have hk'' : ∀ e ∈ es, e.length = k' := by assumption
          have hes : es ≠ [] := by assumption
          have hkk : k' = k := by
            cases es with
            | nil => exact absurd rfl hes
            | cons e' r => rw [← hal' e' (by simp), hk'' e' (by simp)]
          subst hkk
          obtain ⟨T, fr, hb⟩ := hS.frz _ _ hF
          have hrows : Rows F m c off k' (Cont.fl es).avs := by
            intro i j e x hi hj
            simp only [Cont.avs, List.getElem?_map, Option.map_eq_some_iff] at hi
            obtain ⟨e', he', rfl⟩ := hi
            simp only [List.getElem?_map, Option.map_eq_some_iff] at hj
            obtain ⟨x', hx', rfl⟩ := hj
            exact ⟨_, hval i j e' x' he' hx', (hvr i j e' x' he' hx').one, .d (hvr i j e' x' he' hx')⟩
          obtain ⟨arr, h1, h2, h3⟩ := load_rows (P := P) (n := n) hb hrows hk' hk (by simpa [Cont.avs] using hn)
          exact ⟨arr, by simpa only [Builtin.firstCells] using h1, h2, h3⟩
    · simp [AM.run] at hc
  · rename_i s
    split at hc
    · rename_i hk1
      subst hk1
      simp only [AM.run, Option.some.injEq] at hc; subst hc
      have := rv_str hr; subst this
      refine ⟨by intro e he; simp only [Cont.avs, List.mem_map] at he; obtain ⟨z, ⟨b, _, rfl⟩, rfl⟩ := he; rfl, by simp [Builtin.lenOf, Cont.length], fun n hn => ?_⟩
      have hss : s.size = s.data.size := rfl
      have hn' : n ≤ s.data.size := by simpa [Cont.length] using hn
      refine ⟨(s.extract 0 n).data.map fun b => .int .u8 b.toNat, by simp [Builtin.firstCells], by simp; omega, ?_⟩
      intro i j e x hi hj
      have hin : i < n := by
        have := (List.getElem?_eq_some_iff.1 hi).1; simp at this; omega
      rw [List.getElem?_take_of_lt hin] at hi
      simp only [Cont.avs, List.getElem?_map, Option.map_eq_some_iff] at hi
      obtain ⟨z, ⟨b, hb, rfl⟩, rfl⟩ := hi
      have hj0 : j = 0 := by
        have := (List.getElem?_eq_some_iff.1 hj).1; simp at this; exact this
      subst hj0
      simp at hj; subst hj
      refine ⟨.int .u8 b.toNat, ?_, rfl, .d (.int _ _)⟩
      have hb' : s.data[i]? = some b := by simpa using hb
      simp [hb', Array.getElem?_extract]
      omega
    · simp [AM.run] at hc
  · rename_i id off len full
    obtain ⟨ob, hob, hc2⟩ := obj_run hc
    clear hc
    cases hct : ob.cont? with
    | none => simp [hct, AM.run] at hc2
    | some kc =>
      obtain ⟨k', ct⟩ := kc
      rw [hct] at hc2
      dsimp only at hc2
      split at hc2
      · rename_i hcond
        obtain ⟨rfl, hle⟩ := hcond
        have hc2 : some ((ct.drop off).take len) = some c := hc2
        cases hc2
        obtain ⟨l, hl, hobr⟩ := hS.obj id ob hob
        obtain ⟨hk1, _, hk2, hk3, hcl, ca, T, fr, hb, hrows⟩ := hobr.rows hS hct
        have hka : ∀ e ∈ ((ct.drop off).take len).avs, e.length = k' := by
          intro e he
          rw [avs_take, avs_drop] at he
          exact hk2 e (List.mem_of_mem_drop (List.mem_of_mem_take he))
        have hlen : ((ct.drop off).take len).length = len := by rw [take_length, drop_length]; omega
        cases hr with
        | @sl _ _ _ _ lc b cap g1 g2 g3 g4 g5 g6 =>
          rw [hl] at g1; cases g1
          refine ⟨hka, by simp [Builtin.lenOf, hlen], fun n hn => ?_⟩
          rw [hlen] at hn
          by_cases h0 : cap = 0
          · have : n = 0 := by omega
            subst this
            refine ⟨#[], by simp only [Builtin.firstCells, Nat.zero_mul]; exact load_none b, by simp, by intro i j e x hi; simp at hi⟩
          · have hb' := g6 (by omega)
            subst hb'
            have hrows' : Rows F m ca (l.o + off * l.k) k' ((ct.drop off).take len).avs := by
              intro i j e x hi hj
              rw [avs_take, avs_drop] at hi
              have hil : i < len := by
                have := (List.getElem?_eq_some_iff.1 hi).1; simp at this; omega
              rw [List.getElem?_take_of_lt hil, List.getElem?_drop] at hi
              obtain ⟨v, h1, h2, h3⟩ := hrows (off + i) j e x hi hj
              refine ⟨v, ?_, h2, h3⟩
              rw [← h1, hk1]; congr 1; rw [Nat.add_mul]; omega
            obtain ⟨arr, h1, h2, h3⟩ := load_rows (P := P) (n := n) hb hrows' hka hk (by rw [avs_length, hlen]; exact hn)
            exact ⟨arr, by simpa only [Builtin.firstCells] using h1, h2, h3⟩
      · simp [AM.run] at hc2
  · simp [AM.run] at hc
end ops
end Go.Ab
namespace Go.Ab
variable {P : Program}
section ops
variable {F : Fz} {m : Mp} {N : Nat} {e : Env} {a : Act} {G : Nat → Option (List DV)} {base : Nat} {d : Option Nat} {ty : TypeId} {pos : String} {aft : Array Edge} {h : Heap} {w : World} {y : Eff}

theorem rows_one {xs : Array Value} {k n : Nat} {es : List (List AV)} (hs : xs.size = n * k) (hl : es.length = n) (hk : ∀ e ∈ es, e.length = k) (hk0 : 0 < k) (hr : Rows F m xs 0 k es) : ∀ v ∈ xs.toList, v.oneCell' = true := by
  intro v hv
  obtain ⟨p, hp, rfl⟩ := List.mem_iff_getElem.1 hv
  have hp' : p < n * k := by simpa [hs] using hp
  have hi : p / k < es.length := by rw [hl]; exact Nat.div_lt_of_lt_mul (by rwa [Nat.mul_comm])
  have hj : p % k < es[p / k].length := by rw [hk _ (List.getElem_mem hi)]; exact Nat.mod_lt _ hk0
  obtain ⟨v, h1, h2, _⟩ := hr (p / k) (p % k) _ _ (List.getElem?_eq_getElem hi) (List.getElem?_eq_getElem hj)
  have e1 : 0 + (p / k * k + p % k) = p := by rw [Nat.zero_add, Nat.mul_comm]; exact Nat.div_add_mod p k
  rw [e1] at h1
  have : xs.toList[p] = v := by
    have := (Array.getElem?_eq_some_iff.1 h1).2
    simpa using this
  rw [this]; exact one_oneCell' h2

theorem store_rows {b o k cap q n : Nat} {ca : Array Value} {T} {xs : Array Value} (hb : w.heap[b]? = some (.cells ca T (0, 0))) (hsz : o + cap * k ≤ ca.size) (hx : xs.size = n * k) (hq : q + n ≤ cap) (h1 : ∀ v ∈ xs.toList, v.oneCell' = true) :
    ∃ w' ca', (storeCells ⟨b, o + q * k, none⟩ xs.toList).run P w = .ok () w' ∧ w'.heap[b]? = some (.cells ca' T (0, 0)) ∧ ca'.size = ca.size ∧ w'.heap.size = w.heap.size ∧ w'.os = w.os ∧ w'.output = w.output ∧ w'.tape = w.tape ∧
      (∀ b', b' ≠ b → w'.heap[b']? = w.heap[b']?) ∧ ∀ i j, j < k → ca'[o + (i * k + j)]? = if q ≤ i ∧ i < q + n then xs[(i - q) * k + j]? else ca[o + (i * k + j)]? := by
  have hqn : q * k + n * k ≤ cap * k := by rw [← Nat.add_mul]; exact Nat.mul_le_mul_right k hq
  have hfit : o + q * k + xs.toList.length ≤ ca.size := by simp; omega
  have hrun := run_storeCells_at P b (o + q * k) T xs.toList 0 ca w hb (by simpa using hfit) h1
  simp only [Nat.add_zero] at hrun
  refine ⟨_, _, hrun, setRow_heap w b ca _ T (0, 0) hb, ?_, size_setRow w _ _, rfl, rfl, rfl, fun b' hne => setRow_other w _ _ _ hne, ?_⟩
  · simp only [List.size_toArray, List.length_append, List.length_take, List.length_drop, Array.length_toList] at hfit ⊢; omega
  · intro i j hj
    have hg := splice_get (cs := ca.toList) (vs := xs.toList) (o := o + q * k) (j := o + (i * k + j)) (by simpa using hfit)
    unfold splice at hg
    rw [List.getElem?_toArray, hg]
    simp only [Array.length_toList, hx, Array.getElem?_toList]
    by_cases h1 : i < q
    · have : (i + 1) * k ≤ q * k := Nat.mul_le_mul_right k h1
      rw [Nat.add_mul] at this
      rw [if_pos (by omega), if_neg (by omega)]
    · have h2 : q * k ≤ i * k := Nat.mul_le_mul_right k (by omega)
      rw [if_neg (by omega)]
      by_cases h3 : i < q + n
      · have h4 : (i - q + 1) * k ≤ n * k := Nat.mul_le_mul_right k (by omega)
        have h5 : (i - q) * k + q * k = i * k := by rw [← Nat.add_mul]; congr 1; omega
        rw [Nat.add_mul] at h4
        rw [if_pos (by omega), if_pos (by omega)]
        congr 1; omega
      · have h4 : (q + n) * k ≤ i * k := Nat.mul_le_mul_right k (by omega)
        rw [Nat.add_mul] at h4
        rw [if_neg (by omega), if_neg (by omega)]

theorem rows_app {xs ys : Array Value} {k n : Nat} {es fs : List (List AV)} (hn : es.length = n) (hx : xs.size = n * k) (hk1 : ∀ e ∈ es, e.length = k) (hk2 : ∀ e ∈ fs, e.length = k) (h1 : Rows F m xs 0 k es) (h2 : Rows F m ys 0 k fs) : Rows F m (xs ++ ys) 0 k (es ++ fs) := by
  intro i j e x hi hj
  by_cases hlt : i < es.length
  · rw [List.getElem?_append_left hlt] at hi
    obtain ⟨v, a, b, c⟩ := h1 i j e x hi hj
    refine ⟨v, ?_, b, c⟩
    rw [Array.getElem?_append, if_pos]
    · exact a
    · have := (Array.getElem?_eq_some_iff.1 a).1; exact this
  · rw [List.getElem?_append_right (by omega)] at hi
    obtain ⟨v, a, b, c⟩ := h2 _ j e x hi hj
    refine ⟨v, ?_, b, c⟩
    have e1 : (i - es.length) * k + n * k = i * k := by rw [← Nat.add_mul]; congr 1; omega
    rw [Array.getElem?_append, if_neg (by omega), ← a]
    congr 1; omega
theorem rows_ext {xs ys : Array Value} {o k} {es : List (List AV)} (h1 : Rows F m xs o k es) (h : ∀ (p : Nat) v, xs[p]? = some v → ys[p]? = some v) : Rows F m ys o k es := by
  intro i j e x hi hj
  obtain ⟨v, a, b, c⟩ := h1 i j e x hi hj
  exact ⟨v, h _ v a, b, c⟩
theorem rows_lens {c c' : Cont} {k} (h1 : ∀ e ∈ c.avs, e.length = k) (h2 : ∀ e ∈ c'.avs, e.length = k) : ∀ e ∈ (c.app c').avs, e.length = k := by
  intro e he; rw [avs_app, List.mem_append] at he
  rcases he with h | h
  · exact h1 e h
  · exact h2 e h

theorem grow_bound {need old : Nat} (h1 : ¬ need ≤ old) (h2 : need ≤ big) : Builtin.nextslicecap need old ≤ 2 * big := by
  unfold Builtin.nextslicecap
  split
  · omega
  · split
    · omega
    · have key : ∀ r c, c ≤ 2 * big → c < need ∨ True → Builtin.growBy need r c ≤ 2 * big := by
        intro r
        induction r with
        | zero => intro c hc _; exact hc
        | succ r ih =>
          intro c hc _
          simp only [Builtin.growBy]
          split
          · exact hc
          · exact ih _ (by simp only [big] at h2 hc ⊢; omega) (.inr trivial)
      exact key 4 old (by omega) (.inr trivial)

theorem zeroCells_size (z : Array Value) (n : Nat) : (Builtin.zeroCells z n).size = n * z.size := by simp [Builtin.zeroCells]

theorem okSrc_cases {ts : Array TypeId} (hok : okSrc P ts = true) : ts[1]? = none ∨ ∃ t1, ts[1]? = some t1 ∧ (P.underlying t1 = some .string ∨ ∃ e, P.underlying t1 = some (.slice e)) := by
  unfold okSrc at hok
  cases h1 : ts[1]? with
  | none => exact .inl rfl
  | some t1 =>
    simp only [h1] at hok
    refine .inr ⟨t1, rfl, ?_⟩
    unfold shapeOf at hok
    cases h2 : P.underlying t1 with
    | none => simp [h2] at hok
    | some dd => cases dd <;> simp [h2] at hok ⊢
/-- What append does when there is no room: a new row. -/
theorem append_grow {t : TypeId} {ts : Array TypeId} {el : TypeId} {sz bytes} {sb : Option Addr} {sLen sCap : Nat} {x : Value} {ca cb : Cont} (hS : St F m w h) (hsl : slElem P t = some (el, sz, bytes)) (hsz : sz ≠ 0) (hby : bytes ≤ 65536) (ht : ts[0]? = some t) (hok : okSrc P ts = true)
    (hb : base ≤ h.length) (hm : m base = none)
    (hlen : sLen = ca.length) (hka : ∀ e ∈ ca.avs, e.length = sz) (hkb : ∀ e ∈ cb.avs, e.length = sz)
    (hfa : ∃ arr, (Builtin.firstCells sz sLen (.slice sb sLen sCap)).run P w.drew = .ok arr w.drew ∧ arr.size = sLen * sz ∧ Rows F m arr 0 sz ca.avs)
    (hfb : ∃ arr, (Builtin.firstCells sz cb.length x).run P w.drew = .ok arr w.drew ∧ arr.size = cb.length * sz ∧ Rows F m arr 0 sz cb.avs)
    (hlb : (Builtin.lenOf x).run P w = .ok cb.length w) (hbig : sLen + cb.length ≤ big) (hno : ¬ sLen + cb.length ≤ sCap) :
    ∃ v' w' m', (Builtin.append_ ts ty #[.slice sb sLen sCap, x]).run P w = .ok v' w' ∧ St F m' w' (put h [(base, some ((ca.app cb).obj sz))]) ∧ RV F m' (.sl base 0 (sLen + cb.length) false) v' ∧ Ev F m w h F m' w' (put h [(base, some ((ca.app cb).obj sz))]) ∧ Grown m m' [(base, some ((ca.app cb).obj sz))] := by
  obtain ⟨hu, hsz', hby', z, hz, hzl⟩ := slElem_zero hsl
  obtain ⟨i, zv, hi, hzv, hrun, hzlen, _⟩ := zero_run (P := P) (F := F) (w := w.drew) hz
  obtain ⟨arrA, fa1, fa2, fa3⟩ := hfa
  obtain ⟨arrB, fb1, fb2, fb3⟩ := hfb
  have hisz : i.size = sz := by
    obtain ⟨i', hi', h2⟩ := info_size (P := P) (t := el) (hsz' ▸ hsz)
    rw [hi] at hi'; cases hi'; omega
  have hib : i.bytes = bytes := by rw [hby']; simp [Program.bytesOf, hi]
  have hcap := grownCap_ge w (sLen + cb.length) sCap el
  generalize hgc : grownCap w (sLen + cb.length) sCap el = newCap at hcap
  have hgrow := grow_bound hno hbig
  have hroom : ¬ (Builtin.nextslicecap (sLen + cb.length) sCap * i.bytes > 2 ^ 48) := by
    have h1 : Builtin.nextslicecap (sLen + cb.length) sCap * i.bytes ≤ (2 * big) * 65536 := Nat.mul_le_mul hgrow (by omega)
    simp only [big] at h1; omega
  have hi63 : ¬ (((sLen + cb.length : Nat) : Int) > IntKind.i64.max) := by
    have : IntKind.i64.max = 9223372036854775807 := by decide
    rw [this]; simp only [big] at hbig; omega
  have hal := alloc_rows (T := el) (ao := (ca.app cb).obj sz) (c := ca.app cb) (k := sz) (cap := newCap) (cells := arrA ++ arrB ++ Builtin.zeroCells zv.cells (newCap - (sLen + cb.length)))
    (hS.heap (w' := w.drew) rfl) hb hm obj_live (by omega) (rows_lens hka hkb) (by rw [avs_length, app_length]; omega)
    (by
      simp only [Array.size_append, zeroCells_size, fa2, fb2, ← hzlen, hzl]
      rw [← Nat.add_mul, ← Nat.add_mul]; exact Nat.mul_le_mul_right sz (by omega))
    (by
      rw [avs_app]
      refine rows_ext (rows_app (n := sLen) (by rw [avs_length]; exact hlen.symm) fa2 hka hkb fa3 fb3) (fun p v hp => ?_)
      rw [Array.getElem?_append, if_pos (Array.getElem?_eq_some_iff.1 hp).1]; exact hp)
  have hev0 : Ev F m w h F m w.drew h := Ev.heap rfl rfl rfl rfl
  refine ⟨.slice (some ⟨w.heap.size, 0, none⟩) (sLen + cb.length) newCap, _, _, ?_, hal.1, ?_, hev0.trans hal.2, grown_new⟩
  · have hg : (Question.appendCap (sLen + cb.length) sCap el).forced = false := rfl
    have hgc' : (Question.appendCap (sLen + cb.length) sCap el).cut (w.tape w.drawn (.appendCap (sLen + cb.length) sCap el)) = newCap := hgc
    have hno' : ¬ (sLen + cb.length ≤ sCap) := hno
    have hz0 : ¬ (i.bytes = 0 ∧ ((sLen + cb.length : Nat) : Int) > IntKind.i64.max) := fun h => hi63 h.2
    have hsr := size_run (P := P) (w := w) (t := el) (hsz' ▸ hsz)
    subst hsz'
    have hA : ¬ ((9223372036854775807 : Int) < (sLen : Int) + (cb.length : Int)) := by simp only [big] at hbig; omega
    have hB : ¬ (281474976710656 < Builtin.nextslicecap (sLen + cb.length) sCap * i.bytes) := by omega
    have hf : pushed w.drew (.cells (arrA ++ (arrB ++ Builtin.zeroCells zv.cells (newCap - (sLen + cb.length)))) el) = pushed w.drew (.cells (arrA ++ arrB ++ Builtin.zeroCells zv.cells (newCap - (sLen + cb.length))) el) := by rw [Array.append_assoc]
    rcases okSrc_cases hok with h1 | ⟨t1, h1, h2 | ⟨e1, h2⟩⟩
    · simp [Builtin.append_, ht, h1, underlying_run hu, hsr, hlb, hno', typeInfo, hi, hA, hB, hg, hgc', fa1, fb1, hrun, newRow, ← hf]
      rfl
    · simp [Builtin.append_, ht, h1, underlying_run hu, underlying_run h2, hsr, hlb, hno', typeInfo, hi, hA, hB, hg, hgc', fa1, fb1, hrun, newRow, ← hf]
      rfl
    · simp [Builtin.append_, ht, h1, underlying_run hu, underlying_run h2, hsr, hlb, hno', typeInfo, hi, hA, hB, hg, hgc', fa1, fb1, hrun, newRow, ← hf]
      rfl
  · exact .sl upd_same hcap (fun h => by cases h) (fun _ => by simp) (by simp) (fun _ => by simp)
/-- What append does when there is room. -/
theorem append_stay {t : TypeId} {ts : Array TypeId} {el : TypeId} {sz bytes} {sb : Option Addr} {sLen sCap n : Nat} {x : Value} {arr : Array Value} (hsl : slElem P t = some (el, sz, bytes)) (hsz : sz ≠ 0) (ht : ts[0]? = some t) (hok : okSrc P ts = true)
    (hfb : (Builtin.firstCells sz n x).run P w = .ok arr w) (hlb : (Builtin.lenOf x).run P w = .ok n w) (hno : sLen + n ≤ sCap) :
    (Builtin.append_ ts ty #[.slice sb sLen sCap, x]).run P w = ((match sb with | some p => storeCells (p.add (sLen * sz)) arr.toList | none => pure () : Sem Unit).run P w).andThen fun _ w' => .ok (.slice sb (sLen + n) sCap) w' := by
  obtain ⟨hu, hsz', hby', z, hz, hzl⟩ := slElem_zero hsl
  subst hsz'
  have hsr := size_run (P := P) (w := w) (t := el) hsz
  rcases okSrc_cases hok with h1 | ⟨t1, h1, h2 | ⟨e1, h2⟩⟩
  · cases sb <;> simp [Builtin.append_, ht, h1, underlying_run hu, hsr, hlb, hno, hfb]
  · cases sb <;> simp [Builtin.append_, ht, h1, underlying_run hu, underlying_run h2, hsr, hlb, hno, hfb]
  · cases sb <;> simp [Builtin.append_, ht, h1, underlying_run hu, underlying_run h2, hsr, hlb, hno, hfb]

theorem builtin_run {b : Builtin} {x : Array Operand} {ats : Array TypeId} {f : Array TypeId → TypeId → Array Value → Sem Value} (hb : ∀ c args, builtin b ats ty c args = (do pure (Next.value (← f ats ty args)) : Sem Next)) {v' w'} (hr : (f ats ty (x.map a.eval)).run P w = .ok v' w') :
    (execOp a.eval ⟨d, .call { callee := .builtin b, args := x, argTypes := ats }, ty, pos, aft, none⟩).run P w = .ok (.value v') w' := by
  simp only [execOp, resolve, Sem.run_bind, Sem.run_pure, Result.andThen_ok, invoke, hb, hr]

theorem args2 {x : Array Operand} {u v : AV} (hE : EnvR F m N e a) (hG : GlobR F G) (h : evs G e x.toList = some [u, v]) : ∃ ux vx, x.map a.eval = #[ux, vx] ∧ RV F m u ux ∧ RV F m v vx := by
  obtain ⟨hl, hrv⟩ := evs_rv hE hG h
  obtain ⟨o1, h1, r1⟩ := hrv 0 u rfl
  obtain ⟨o2, h2, r2⟩ := hrv 1 v rfl
  refine ⟨a.eval o1, a.eval o2, ?_, r1, r2⟩
  apply Array.toList_inj.1
  have : x.toList = [o1, o2] := by
    match hx : x.toList, hl with
    | [p, q], _ => rw [hx] at h1 h2; simp at h1 h2; rw [h1, h2]
  simp [this]

theorem drew_first {k n x arr} (hf : (Builtin.firstCells k n x).run P w = .ok arr w) (hS : St F m w h) {v c} (hc : (sliceCont k v).run h = some c) (hr : RV F m v x) (hk : 0 < k) (hn : n ≤ c.length) :
    ∃ arr, (Builtin.firstCells k n x).run P w.drew = .ok arr w.drew ∧ arr.size = n * k ∧ Rows F m arr 0 k (c.avs.take n) :=
  (cont_run (hS.heap (w' := w.drew) rfl) hc hr hk).2.2 n hn
end ops
end Go.Ab
namespace Go.Ab
variable {P : Program}
theorem am_bind {α β : Type} {h : Heap} {x : AM α} {f : α → AM β} : (x.bind f).run h = (x.run h).bind fun a => (f a).run h := by
  induction x with
  | ret a => rfl
  | fail => rfl
  | get i k ih =>
    simp only [AM.bind, AM.run]
    cases h[i]? with
    | none => rfl
    | some o => exact ih o
section ops
variable {F : Fz} {m : Mp} {N : Nat} {e : Env} {a : Act} {G : Nat → Option (List DV)} {base : Nat} {d : Option Nat} {ty : TypeId} {pos : String} {aft : Array Edge} {h : Heap} {w : World} {y : Eff}

/-- what a builtin's value and writes must show -/
def Gives (P : Program) (s : Sem Value) (F : Fz) (m : Mp) (w : World) (h : Heap) (x : Eff) : Prop :=
  ∃ v' w' m', s.run P w = .ok v' w' ∧ St F m' w' (put h x.wr) ∧ RV F m' x.v v' ∧ Ev F m w h F m' w' (put h x.wr) ∧ Grown m m' x.wr

theorem Gives.same {s : Sem Value} {v v'} (hS : St F m w h) (hr : s.run P w = .ok v' w) (hv : RV F m v v') : Gives P s F m w h ⟨v, [], 0⟩ := ⟨v', w, m, hr, hS, hv, Ev.refl _ _ _ _, grown_same⟩

theorem store_nil {p : Addr} : (storeCells p []).run P w = .ok () w := rfl
theorem store_opt_nil {sb : Option Addr} {f : Addr → Addr} : (match sb with | some p => storeCells (f p) [] | none => pure () : Sem Unit).run P w = .ok () w := by cases sb <;> rfl

theorem slice_shape {k v x c} (hc : (sliceCont k v).run h = some c) (hr : RV F m v x) (hns : ∀ s, v ≠ .d (.str s)) : ∃ sb cap, x = .slice sb c.length cap ∧ c.length ≤ cap := by
  unfold sliceCont at hc
  split at hc
  · simp only [AM.run, Option.some.injEq] at hc; subst hc
    cases hr with | d hr => cases hr; exact ⟨none, 0, rfl, Nat.le_refl _⟩
  · split at hc
    · simp only [AM.run, Option.some.injEq] at hc; subst hc
      cases hr with | d hr =>
        obtain ⟨b, cap, rfl, h1, _⟩ := rd_slice hr rfl
        exact ⟨b, cap, rfl, h1⟩
    · simp [AM.run] at hc
  · exact absurd rfl (hns _)
  · obtain ⟨ob, hob, hc2⟩ := obj_run hc
    cases hct : ob.cont? with
    | none => simp [hct, AM.run] at hc2
    | some kc =>
      obtain ⟨k', ct⟩ := kc
      rw [hct] at hc2
      dsimp only at hc2
      split at hc2
      · rename_i hcond
        simp only [AM.run, Option.some.injEq] at hc2
        subst hc2
        cases hr with
        | @sl _ _ _ _ lc b cap g1 g2 g3 g4 g5 g6 =>
          refine ⟨some b, cap, ?_, by rw [take_length, drop_length]; omega⟩
          congr 1
          rw [take_length, drop_length]; omega
      · simp [AM.run] at hc2
  · simp [AM.run] at hc

/-- appending to what has no room behind it -/
theorem fresh_gives {t : TypeId} {ts : Array TypeId} {el : TypeId} {sz bytes} {dst src : AV} {ux vx : Value} {old s : Cont} (hS : St F m w h) (hsl : slElem P t = some (el, sz, bytes)) (hsz : sz ≠ 0) (hby : bytes ≤ 65536) (ht : ts[0]? = some t) (hok : okSrc P ts = true)
    (hb : base ≤ h.length) (hm : m base = none) (hold : (sliceCont sz dst).run h = some old) (hs : (sliceCont sz src).run h = some s) (ru : RV F m dst ux) (rv : RV F m src vx) (hfull : ∀ sb len cap, ux = .slice sb len cap → cap = len) (hns : ∀ s, dst ≠ .d (.str s))
    (hx : ((if old.length + s.length ≤ big then (if s.length = 0 then eff dst else .ret ⟨.sl base 0 (old.length + s.length) false, [(base, some ((old.app s).obj sz))], 1⟩) else .fail) : AM Eff).run h = some y) :
    Gives P (Builtin.append_ ts ty #[ux, vx]) F m w h y := by
  obtain ⟨sb, cap, rfl, hle⟩ := slice_shape hold ru hns
  have hcap := hfull _ _ _ rfl
  subst hcap
  obtain ⟨hka, hla, hfa⟩ := cont_run (P := P) hS hold ru (Nat.pos_of_ne_zero hsz)
  obtain ⟨hkb, hlb, hfb⟩ := cont_run (P := P) hS hs rv (Nat.pos_of_ne_zero hsz)
  split at hx
  · rename_i hbig
    split at hx
    · rename_i h0
      have := eff_run hx; subst this
      obtain ⟨arr, f1, f2, f3⟩ := hfb s.length (Nat.le_refl _)
      have harr : arr = #[] := by
        apply Array.eq_empty_of_size_eq_zero; rw [f2, h0, Nat.zero_mul]
      subst harr
      refine Gives.same hS ?_ ru
      rw [append_stay (n := s.length) hsl hsz ht hok f1 hlb (by omega)]
      cases sb <;> simp [storeCells, h0]
    · simp only [AM.run, Option.some.injEq] at hx; subst hx
      have e1 : s.avs.take s.length = s.avs := List.take_of_length_le (by rw [avs_length]; exact Nat.le_refl _)
      have e2 : old.avs.take old.length = old.avs := List.take_of_length_le (by rw [avs_length]; exact Nat.le_refl _)
      have hfa' := (cont_run (P := P) (hS.heap (w' := w.drew) rfl) hold ru (Nat.pos_of_ne_zero hsz)).2.2 old.length (Nat.le_refl _)
      have hfb' := (cont_run (P := P) (hS.heap (w' := w.drew) rfl) hs rv (Nat.pos_of_ne_zero hsz)).2.2 s.length (Nat.le_refl _)
      rw [e1] at hfb'
      rw [e2] at hfa'
      obtain ⟨v', w', m', r1, r2, r3, r4, r5⟩ := append_grow (ty := ty) hS hsl hsz hby ht hok hb hm rfl hka hkb hfa' hfb' hlb hbig (by omega)
      exact ⟨v', w', m', r1, r2, r3, r4, r5⟩
  · simp [AM.run] at hx

theorem app_rows {c s c' : Cont} {k q n : Nat} {l : Loc} {ca ca' arr : Array Value} {o : Nat} (hrows : Rows F m ca l.o k c.avs) (harr : Rows F m arr 0 k s.avs) (hk : ∀ e ∈ c.avs, e.length = k) (hks : ∀ e ∈ s.avs, e.length = k) (hn : s.length = n)
    (hq : q ≤ c.length) (hoff : o ≤ q) (hc' : c'.avs = (c.avs.drop o).take (q - o) ++ (s.avs ++ c.avs.drop (q + n)))
    (hg : ∀ i j, j < k → ca'[l.o + (i * k + j)]? = if q ≤ i ∧ i < q + n then arr[(i - q) * k + j]? else ca[l.o + (i * k + j)]?) : Rows F m ca' (l.o + o * k) k c'.avs := by
  intro i j e x hi hj
  have hl : ((c.avs.drop o).take (q - o)).length = q - o := by rw [List.length_take, List.length_drop, avs_length]; omega
  have e0 : l.o + o * k + (i * k + j) = l.o + ((o + i) * k + j) := by rw [Nat.add_mul]; omega
  rw [e0]
  rw [hc'] at hi
  by_cases h1 : i < q - o
  · rw [List.getElem?_append_left (by omega), List.getElem?_take_of_lt h1, List.getElem?_drop] at hi
    have hjk : j < k := by rw [← hk e (List.mem_of_getElem? hi)]; exact (List.getElem?_eq_some_iff.1 hj).1
    rw [hg _ _ hjk, if_neg (by omega)]
    exact hrows _ j e x hi hj
  · rw [List.getElem?_append_right (by omega), hl] at hi
    by_cases h2 : i - (q - o) < s.avs.length
    · rw [List.getElem?_append_left h2] at hi
      have hjk : j < k := by rw [← hks e (List.mem_of_getElem? hi)]; exact (List.getElem?_eq_some_iff.1 hj).1
      rw [avs_length] at h2
      rw [hg _ _ hjk, if_pos (by omega)]
      obtain ⟨v, a1, a2, a3⟩ := harr _ j e x hi hj
      refine ⟨v, ?_, a2, a3⟩
      rw [← a1]; congr 1; rw [Nat.zero_add]; congr 2; omega
    · rw [List.getElem?_append_right (by omega), List.getElem?_drop, avs_length] at hi
      rw [avs_length] at h2
      have hjk : j < k := by rw [← hk e (List.mem_of_getElem? hi)]; exact (List.getElem?_eq_some_iff.1 hj).1
      rw [hg _ _ hjk, if_neg (by omega)]
      have e2 : q + n + (i - (q - o) - s.length) = o + i := by omega
      rw [e2] at hi
      exact hrows _ j e x hi hj

theorem append_gives {ts : Array TypeId} {dst src : AV} {ux vx : Value} (hS : St F m w h) (hb : base ≤ h.length) (hm : m base = none) (ru : RV F m dst ux) (rv : RV F m src vx) (hx : (appendOp P base ts dst src).run h = some y) : Gives P (Builtin.append_ ts ty #[ux, vx]) F m w h y := by
  unfold appendOp at hx
  split at hx
  · simp [AM.run] at hx
  rename_i hok
  have hok : okSrc P ts = true := by simpa using hok
  cases ht : ts[0]? with
  | none => simp [ht, AM.run] at hx
  | some t =>
    cases hsl : slElem P t with
    | none => simp [ht, hsl, AM.run] at hx
    | some q =>
      obtain ⟨el, sz, bytes⟩ := q
      simp only [ht, hsl, Option.bind_some] at hx
      split at hx
      · simp [AM.run] at hx
      rename_i hcond
      simp only [not_or, Nat.not_lt] at hcond
      obtain ⟨hsz, hby⟩ := hcond
      rw [am_bind] at hx
      cases hs : (sliceCont sz src).run h with
      | none => simp [hs] at hx
      | some s =>
        simp only [hs, Option.bind_some] at hx
        split at hx
        · exact fresh_gives hS hsl hsz hby ht hok hb hm (old := .fl []) rfl hs ru rv (by intro sb len cap he; subst he; cases ru with | d hr => cases hr; rfl) (by simp) hx
        · rename_i es nn
          split at hx
          · rename_i hal
            refine fresh_gives hS hsl hsz hby ht hok hb hm (old := .fl es) (by simp [sliceCont, hal, AM.run]) hs ru rv ?_ (by simp) hx
            intro sb len cap he; subst he
            cases ru with | d hr =>
              obtain ⟨b, cap', heq, _, h2, _⟩ := rd_slice hr rfl
              cases heq; exact h2 rfl
          · simp [AM.run] at hx
        · rename_i id off len full
          obtain ⟨ob, hob, hx2⟩ := obj_run hx
          clear hx
          cases hct : ob.cont? with
          | none => simp [hct, AM.run] at hx2
          | some kc =>
            obtain ⟨k, c⟩ := kc
            simp only [hct] at hx2
            split at hx2
            · simp [AM.run] at hx2
            rename_i hcond
            simp only [ne_eq, gt_iff_lt, not_or, Decidable.not_not, Nat.not_lt] at hcond
            obtain ⟨rfl, hle⟩ := hcond
            have hcont : (sliceCont k (.sl id off len full)).run h = some ((c.drop off).take len) := by
              simp only [sliceCont, AM.obj, AM.run, hob, hct]
              rw [if_pos ⟨trivial, hle⟩]; rfl
            split at hx2
            · rename_i hfull
              subst hfull
              refine fresh_gives hS hsl hsz hby ht hok hb hm hcont hs ru rv ?_ (by simp) hx2
              intro sb len cap he; subst he
              cases ru with | sl g1 g2 g3 g4 g5 g6 => exact g3 rfl
            · rename_i hfull
              have hfull : full = false := by simpa using hfull
              subst hfull
              cases hlv : ob.live? with
              | none => simp [hlv, AM.run] at hx2
              | some kc =>
                obtain ⟨k1, c1⟩ := kc
                obtain ⟨hct', hlive⟩ := live_cont hlv
                rw [hct] at hct'; cases hct'
                simp only [hlv, Bool.false_eq_true, if_false] at hx2
                split at hx2
                case isFalse => simp [AM.run] at hx2
                rename_i hbig
                have hk0 : 0 < k := Nat.pos_of_ne_zero hsz
                obtain ⟨l, hml, hobr⟩ := hS.obj id ob hob
                obtain ⟨hlk, _, hlcap, hlens, hF, ca, T, fr, hblk, hsize, hfr, hrows⟩ := (liveR hlv).1 hobr
                subst hfr
                have hidlt : id < h.length := hS.dom _ _ hml
                obtain ⟨hkb, hlb, hfb⟩ := cont_run (P := P) hS hs rv hk0
                obtain ⟨arr, f1, f2, f3⟩ := hfb s.length (Nat.le_refl _)
                have e1 : s.avs.take s.length = s.avs := List.take_of_length_le (by rw [avs_length]; exact Nat.le_refl _)
                rw [e1] at f3
                have hone := rows_one f2 avs_length hkb hk0 f3
                cases ru with
                | @sl _ _ _ _ l' b cap g1 g2 g3 g4 g5 g6 =>
                  rw [hml] at g1; cases g1
                  have hcap : off + cap = l.cap := g4 rfl
                  rw [avs_length] at hlcap
                  split at hx2
                  · rename_i hfit
                    simp only [AM.run, Option.some.injEq] at hx2; subst hx2
                    have hlen' : ((c.take (off + len)).app (s.app (c.drop (off + len + s.length)))).avs = (c.avs.drop 0).take (off + len - 0) ++ (s.avs ++ c.avs.drop (off + len + s.length)) := by
                      rw [avs_app, avs_app, avs_take, avs_drop]; simp
                    have hsame : ((c.take (off + len)).app (s.app (c.drop (off + len + s.length)))).length = c.length := by
                      rw [app_length, app_length, take_length, drop_length]; omega
                    have hkn : ∀ e ∈ ((c.take (off + len)).app (s.app (c.drop (off + len + s.length)))).avs, e.length = k := by
                      refine rows_lens ?_ (rows_lens hkb ?_)
                      · intro e he; rw [avs_take] at he; exact hlens e (List.mem_of_mem_take he)
                      · intro e he; rw [avs_drop] at he; exact hlens e (List.mem_of_mem_drop he)
                    have hput : ∀ o : Option AO, put h [(id, o)] = h.set id o := by intro o; simp [put, hidlt]
                    have fin : ∀ w' ca', (Builtin.append_ ts ty #[.slice (some b) len cap, vx]).run P w = .ok (.slice (some b) (len + s.length) cap) w' → w'.heap[l.b]? = some (.cells ca' T (0, 0)) → ca'.size = ca.size → w'.heap.size = w.heap.size → w'.os = w.os → w'.output = w.output → w'.tape = w.tape → (∀ b', b' ≠ l.b → w'.heap[b']? = w.heap[b']?) →
                        (∀ i j, j < k → ca'[l.o + (i * k + j)]? = if off + len ≤ i ∧ i < off + len + s.length then arr[(i - (off + len)) * k + j]? else ca[l.o + (i * k + j)]?) →
                        Gives P (Builtin.append_ ts ty #[.slice (some b) len cap, vx]) F m w h ⟨.sl id off (len + s.length) false, [(id, some (((c.take (off + len)).app (s.app (c.drop (off + len + s.length)))).obj k))], 0⟩ := by
                      intro w' ca' hrun hb1 hb2 hb3 hb4 hb5 hb6 hb7 hb8
                      have hrn := app_rows (o := 0) (c' := (c.take (off + len)).app (s.app (c.drop (off + len + s.length)))) hrows f3 hlens hkb rfl hle (by omega) hlen' hb8
                      rw [Nat.zero_mul, Nat.add_zero] at hrn
                      have hu := hS.update (ao := ((c.take (off + len)).app (s.app (c.drop (off + len + s.length)))).obj k) hob hlive hml hb3 hb4 hb5 hb6 hb7
                        ((liveR obj_live).2 ⟨hlk, hk0, by rw [avs_length, hsame]; exact hlcap, hkn, hF, ca', T, (0, 0), hb1, by rw [hb2]; exact hsize, rfl, hrn⟩)
                      refine ⟨_, w', m, hrun, by rw [hput]; exact hu.1, ?_, by rw [hput]; exact hu.2, grown_same⟩
                      exact .sl hml (by omega) (fun h => by cases h) (fun _ => hcap) (by omega) g6
                    by_cases h0 : s.length = 0
                    · refine fin w ca ?_ hblk rfl rfl rfl rfl rfl (fun _ _ => rfl) (fun i j _ => by rw [if_neg (by omega)])
                      have harr : arr = #[] := by apply Array.eq_empty_of_size_eq_zero; rw [f2, h0, Nat.zero_mul]
                      rw [append_stay (n := s.length) hsl hsz ht hok f1 hlb (by omega), harr]
                      rfl
                    · have hbp := g6 (by omega)
                      obtain ⟨w', ca', s1, s2, s3, s4, s5, s6, s7, s8, s9⟩ := store_rows (P := P) (n := s.length) (q := off + len) (cap := l.cap) hblk hsize f2 (by omega) hone
                      refine fin w' ca' ?_ s2 s3 s4 s5 s6 s7 s8 s9
                      rw [append_stay (n := s.length) hsl hsz ht hok f1 hlb (by omega)]
                      have ea : b.add (len * k) = ⟨l.b, l.o + (off + len) * k, none⟩ := by rw [hbp, addr_add, hlk, Nat.add_mul, Nat.add_assoc]
                      simp only [ea, s1, Result.andThen_ok]
                  · rename_i hfit
                    simp only [AM.run, Option.some.injEq] at hx2; subst hx2
                    by_cases hroom : len + s.length ≤ cap
                    · have hbp := g6 (by omega)
                      obtain ⟨w', ca', s1, s2, s3, s4, s5, s6, s7, s8, s9⟩ := store_rows (P := P) (n := s.length) (q := off + len) (cap := l.cap) hblk hsize f2 (by omega) hone
                      have hlen' : (((c.drop off).take len).app s).avs = (c.avs.drop off).take (off + len - off) ++ (s.avs ++ c.avs.drop (off + len + s.length)) := by
                        rw [avs_app, avs_take, avs_drop, show c.avs.drop (off + len + s.length) = [] from List.drop_eq_nil_of_le (by rw [avs_length]; omega), List.append_nil]; congr 2; omega
                      have hrn := app_rows (o := off) (c' := ((c.drop off).take len).app s) hrows f3 hlens hkb rfl hle (by omega) hlen' s9
                      have hkn : ∀ e ∈ (((c.drop off).take len).app s).avs, e.length = k := by
                        refine rows_lens ?_ hkb
                        intro e he; rw [avs_take, avs_drop] at he; exact hlens e (List.mem_of_mem_drop (List.mem_of_mem_take he))
                      have hoc : off * k + cap * k = l.cap * k := by rw [← Nat.add_mul, hcap]
                      have hmv := hS.move (l' := ⟨l.b, l.o + off * k, k, cap⟩) (ao := (((c.drop off).take len).app s).obj k) hob hlive hml hb hm rfl s4 s5 s6 s7 s8
                        ((liveR obj_live).2 ⟨rfl, hk0, by rw [avs_length, app_length, take_length, drop_length]; simp only; omega, hkn, hF, ca', T, (0, 0), s2, by rw [s3]; simp only; omega, rfl, hrn.mono (fun _ _ h => h) (upd_ext hm)⟩)
                      refine ⟨.slice (some b) (len + s.length) cap, w', _, ?_, hmv.1, ?_, hmv.2, grown_new.cons⟩
                      · rw [append_stay (n := s.length) hsl hsz ht hok f1 hlb hroom]
                        have ea : b.add (len * k) = ⟨l.b, l.o + (off + len) * k, none⟩ := by rw [hbp, addr_add, hlk, Nat.add_mul, Nat.add_assoc]
                        simp only [ea, s1, Result.andThen_ok]
                      · refine .sl upd_same hroom (fun h => by cases h) (fun _ => by simp) (by simp) (fun _ => ?_)
                        rw [hbp, hlk]; simp
                    · have hd := hS.drop (i := id)
                      have hka : ∀ e ∈ ((c.drop off).take len).avs, e.length = k := by
                        intro e he; rw [avs_take, avs_drop] at he; exact hlens e (List.mem_of_mem_drop (List.mem_of_mem_take he))
                      have hru : RV F m (.sl id off len false) (.slice (some b) len cap) := .sl hml g2 g3 g4 g5 g6
                      have hcl : ((c.drop off).take len).length = len := by rw [take_length, drop_length]; omega
                      have e2 : ((c.drop off).take len).avs.take len = ((c.drop off).take len).avs := List.take_of_length_le (by rw [avs_length, hcl]; exact Nat.le_refl _)
                      have hfa' := (cont_run (P := P) (hS.heap (w' := w.drew) rfl) hcont hru hk0).2.2 len (by omega)
                      have hfb' := (cont_run (P := P) (hS.heap (w' := w.drew) rfl) hs rv hk0).2.2 s.length (Nat.le_refl _)
                      rw [e1] at hfb'
                      rw [e2] at hfa'
                      obtain ⟨v', w', m', r1, r2, r3, r4, r5⟩ := append_grow (ty := ty) hd.1 hsl hsz hby ht hok (by simpa using hb) hm hcl.symm hka hkb hfa' hfb' hlb hbig hroom
                      have hput : put h [(id, none), (base, some ((((c.drop off).take len).app s).obj k))] = put (h.set id none) [(base, some ((((c.drop off).take len).app s).obj k))] := by simp only [put, if_pos hidlt]
                      exact ⟨v', w', m', r1, by rw [hput]; exact r2, r3, by rw [hput]; exact hd.2.trans r4, r5.cons⟩
        · simp [AM.run] at hx
theorem prim_append {ats x} (hE : EnvR F m N e a) (hG : GlobR F G) (hS : St F m w h) (hb : base ≤ h.length) (hm : m base = none) {c} (hc : c = ({ callee := .builtin .append, args := x, argTypes := ats } : Call)) (hx : (prim P G e base ⟨d, .call c, ty, pos, aft, none⟩).run h = some y) : Does P a ⟨d, .call c, ty, pos, aft, none⟩ F m w h y := by
  subst hc
  simp only [prim] at hx
  cases hv : evs G e x.toList with
  | none => simp [hv, AM.run] at hx
  | some vs =>
    simp only [hv] at hx
    match vs, hv, hx with
    | [u, v], hv, hx =>
      obtain ⟨ux, vx, hargs, ru, rv⟩ := args2 hE hG hv
      obtain ⟨v', w', m', h1, h2, h3, h4, h5⟩ := append_gives (ty := ty) hS hb hm ru rv hx
      exact ⟨_, v', w', builtin_run (f := Builtin.append_) (fun _ _ => rfl) (by rw [hargs]; exact h1), .inl rfl, m', h2, h3, h4, h5⟩
    | [], _, hx => simp [AM.run] at hx
    | [_], _, hx => simp [AM.run] at hx
    | _ :: _ :: _ :: _, _, hx => simp [AM.run] at hx

theorem copy_gives {ts : Array TypeId} {dst src : AV} {ux vx : Value} (hS : St F m w h) (ru : RV F m dst ux) (rv : RV F m src vx) (hx : (copyOp P ts dst src).run h = some y) : Gives P (Builtin.copy_ ts ty #[ux, vx]) F m w h y := by
  unfold copyOp at hx
  cases ht : ts[0]? with
  | none => simp [ht, AM.run] at hx
  | some t =>
    cases hsl : slElem P t with
    | none => simp [ht, hsl, AM.run] at hx
    | some q =>
      obtain ⟨el, sz, bytes⟩ := q
      simp only [ht, hsl, Option.bind_some] at hx
      split at hx
      · simp [AM.run] at hx
      rename_i hsz
      obtain ⟨hu, hsz', _⟩ := slElem_some hsl
      rw [am_bind] at hx
      cases hs : (sliceCont sz src).run h with
      | none => simp [hs] at hx
      | some s =>
        simp only [hs, Option.bind_some] at hx
        have hk0 : 0 < sz := Nat.pos_of_ne_zero hsz
        obtain ⟨hkb, hlb, hfb⟩ := cont_run (P := P) hS hs rv hk0
        have hsr := size_run (P := P) (w := w) (t := el) (hsz' ▸ hsz)
        have start : ∀ sb dLen dCap arr, ux = .slice sb dLen dCap → (Builtin.firstCells sz (Nat.min s.length dLen) vx).run P w = .ok arr w → (Builtin.copy_ ts ty #[ux, vx]).run P w = ((match sb with | some p => storeCells p arr.toList | none => pure () : Sem Unit).run P w).andThen fun _ w' => .ok (goInt (Nat.min s.length dLen)) w' := by
          intro sb dLen dCap arr hux hf
          subst hux
          subst hsz'
          cases sb <;> simp [Builtin.copy_, ht, underlying_run hu, hsr, hlb, hf]
        have zero : ∀ sb dCap, ux = .slice sb 0 dCap → (Builtin.copy_ ts ty #[ux, vx]).run P w = .ok (goInt 0) w := by
          intro sb dCap hux
          obtain ⟨arr, f1, f2, f3⟩ := hfb 0 (Nat.zero_le _)
          have hmin : Nat.min s.length 0 = 0 := Nat.min_zero _
          have harr : arr = #[] := by apply Array.eq_empty_of_size_eq_zero; rw [f2, Nat.zero_mul]
          subst harr
          rw [start sb 0 dCap #[] hux (by rw [hmin]; exact f1), hmin]
          cases sb <;> rfl
        split at hx
        · have := eff_run hx; subst this
          refine Gives.same hS (zero none 0 ?_) (.d (.int _ _))
          cases ru with | d hr => cases hr; rfl
        · have := eff_run hx; subst this
          cases ru with | d hr =>
            obtain ⟨b, cap, rfl, _⟩ := rd_slice hr rfl
            exact Gives.same hS (zero b cap rfl) (.d (.int _ _))
        · rename_i id off len full
          obtain ⟨ob, hob, hx2⟩ := obj_run hx
          clear hx
          cases hlv : ob.live? with
          | none => simp [hlv, AM.run] at hx2
          | some kc =>
            obtain ⟨k, c⟩ := kc
            obtain ⟨hct, hlive⟩ := live_cont hlv
            simp only [hlv] at hx2
            split at hx2
            · simp [AM.run] at hx2
            rename_i hcond
            simp only [ne_eq, gt_iff_lt, not_or, Decidable.not_not, Nat.not_lt] at hcond
            obtain ⟨rfl, hle⟩ := hcond
            simp only [AM.run, Option.some.injEq] at hx2; subst hx2
            obtain ⟨l, hml, hobr⟩ := hS.obj id ob hob
            obtain ⟨hlk, _, hlcap, hlens, hF, ca, T, fr, hblk, hsize, hfr, hrows⟩ := (liveR hlv).1 hobr
            subst hfr
            have hidlt : id < h.length := hS.dom _ _ hml
            have hput : ∀ o : Option AO, put h [(id, o)] = h.set id o := by intro o; simp [put, hidlt]
            generalize hn : min s.length len = n at *
            have hns : n ≤ s.length := by omega
            obtain ⟨arr, f1, f2, f3⟩ := hfb n hns
            have hsn : ((s.take n)).length = n := by rw [take_length]; omega
            have hkn1 : ∀ e ∈ (s.take n).avs, e.length = k := by intro e he; rw [avs_take] at he; exact hkb e (List.mem_of_mem_take he)
            rw [← avs_take] at f3
            have hone := rows_one f2 (by rw [avs_length, hsn]) hkn1 hk0 f3
            rw [avs_length] at hlcap
            have hlen' : ((c.take off).app ((s.take n).app (c.drop (off + n)))).avs = (c.avs.drop 0).take (off - 0) ++ ((s.take n).avs ++ c.avs.drop (off + n)) := by
              rw [avs_app, avs_app, avs_take, avs_drop]; simp
            have hsame : ((c.take off).app ((s.take n).app (c.drop (off + n)))).length = c.length := by
              rw [app_length, app_length, take_length, drop_length, hsn]; omega
            have hkn : ∀ e ∈ ((c.take off).app ((s.take n).app (c.drop (off + n)))).avs, e.length = k := by
              refine rows_lens ?_ (rows_lens hkn1 ?_)
              · intro e he; rw [avs_take] at he; exact hlens e (List.mem_of_mem_take he)
              · intro e he; rw [avs_drop] at he; exact hlens e (List.mem_of_mem_drop he)
            cases ru with
            | @sl _ _ _ _ l' b cap g1 g2 g3 g4 g5 g6 =>
              rw [hml] at g1; cases g1
              have fin : ∀ w' ca', (Builtin.copy_ ts ty #[.slice (some b) len cap, vx]).run P w = .ok (goInt n) w' → w'.heap[l.b]? = some (.cells ca' T (0, 0)) → ca'.size = ca.size → w'.heap.size = w.heap.size → w'.os = w.os → w'.output = w.output → w'.tape = w.tape → (∀ b', b' ≠ l.b → w'.heap[b']? = w.heap[b']?) →
                  (∀ i j, j < k → ca'[l.o + (i * k + j)]? = if off ≤ i ∧ i < off + n then arr[(i - off) * k + j]? else ca[l.o + (i * k + j)]?) →
                  Gives P (Builtin.copy_ ts ty #[.slice (some b) len cap, vx]) F m w h ⟨.d (.int .i64 (n : Nat)), [(id, some (((c.take off).app ((s.take n).app (c.drop (off + n)))).obj k))], 0⟩ := by
                intro w' ca' hrun hb1 hb2 hb3 hb4 hb5 hb6 hb7 hb8
                have hrn := app_rows (o := 0) (q := off) (c' := (c.take off).app ((s.take n).app (c.drop (off + n)))) hrows f3 hlens hkn1 hsn (by omega) (by omega) hlen' hb8
                rw [Nat.zero_mul, Nat.add_zero] at hrn
                have hu := hS.update (ao := ((c.take off).app ((s.take n).app (c.drop (off + n)))).obj k) hob hlive hml hb3 hb4 hb5 hb6 hb7
                  ((liveR obj_live).2 ⟨hlk, hk0, by rw [avs_length, hsame]; exact hlcap, hkn, hF, ca', T, (0, 0), hb1, by rw [hb2]; exact hsize, rfl, hrn⟩)
                exact ⟨_, w', m, hrun, by rw [hput]; exact hu.1, .d (.int _ _), by rw [hput]; exact hu.2, grown_same⟩
              have hmin : Nat.min s.length len = n := hn
              by_cases h0 : n = 0
              · refine fin w ca ?_ hblk rfl rfl rfl rfl rfl (fun _ _ => rfl) (fun i j _ => by rw [if_neg (by omega)])
                have harr : arr = #[] := by apply Array.eq_empty_of_size_eq_zero; rw [f2, h0, Nat.zero_mul]
                rw [start (some b) len cap arr rfl (by rw [hmin]; exact f1), harr, hmin]
                rfl
              · have hbp := g6 (by omega)
                obtain ⟨w', ca', s1, s2, s3, s4, s5, s6, s7, s8, s9⟩ := store_rows (P := P) (n := n) (q := off) (cap := l.cap) hblk hsize f2 (by omega) hone
                refine fin w' ca' ?_ s2 s3 s4 s5 s6 s7 s8 s9
                rw [start (some b) len cap arr rfl (by rw [hmin]; exact f1), hmin]
                have ea : b = ⟨l.b, l.o + off * k, none⟩ := by rw [hbp, hlk]
                simp only [ea, s1, Result.andThen_ok]
        · simp [AM.run] at hx
theorem prim_copy {ats x} (hE : EnvR F m N e a) (hG : GlobR F G) (hS : St F m w h) {c} (hc : c = ({ callee := .builtin .copy, args := x, argTypes := ats } : Call)) (hx : (prim P G e base ⟨d, .call c, ty, pos, aft, none⟩).run h = some y) : Does P a ⟨d, .call c, ty, pos, aft, none⟩ F m w h y := by
  subst hc
  simp only [prim] at hx
  cases hv : evs G e x.toList with
  | none => simp [hv, AM.run] at hx
  | some vs =>
    simp only [hv] at hx
    match vs, hv, hx with
    | [u, v], hv, hx =>
      obtain ⟨ux, vx, hargs, ru, rv⟩ := args2 hE hG hv
      obtain ⟨v', w', m', h1, h2, h3, h4, h5⟩ := copy_gives (ty := ty) hS ru rv hx
      exact ⟨_, v', w', builtin_run (f := Builtin.copy_) (fun _ _ => rfl) (by rw [hargs]; exact h1), .inl rfl, m', h2, h3, h4, h5⟩
    | [], _, hx => simp [AM.run] at hx
    | [_], _, hx => simp [AM.run] at hx
    | _ :: _ :: _ :: _, _, hx => simp [AM.run] at hx
theorem prim_makeSlice {t x z} (hE : EnvR F m N e a) (hG : GlobR F G) (hS : St F m w h) (hb : base ≤ h.length) (hm : m base = none) (hx : (prim P G e base ⟨d, .makeSlice t x z, ty, pos, aft, none⟩).run h = some y) : Does P a ⟨d, .makeSlice t x z, ty, pos, aft, none⟩ F m w h y := by
  simp only [prim] at hx
  cases hv : ev G e x with
  | none => simp [hv, AM.run] at hx
  | some lv =>
    cases hz : ev G e z with
    | none => simp [hv, hz, AM.run] at hx
    | some cv =>
      simp only [hv, hz] at hx
      cases hsl : slElem P t with
      | none => simp [hsl, AM.run] at hx
      | some q =>
        obtain ⟨el, sz, bytes⟩ := q
        cases hnl : nat? lv with
        | none => simp [hsl, hnl, AM.run] at hx
        | some l =>
          cases hnc : nat? cv with
          | none => simp [hsl, hnl, hnc, AM.run] at hx
          | some c =>
            simp only [hsl, hnl, hnc] at hx
            obtain ⟨hu, hsz', hby', zz, hzz, hzl⟩ := slElem_zero hsl
            simp only [hzz] at hx
            split at hx
            · simp [AM.run] at hx
            rename_i hcond
            simp only [Bool.or_eq_true, decide_eq_true_eq, not_or, ne_eq, Decidable.not_not, Nat.not_lt] at hcond
            obtain ⟨⟨⟨⟨hsz, hby⟩, hlc⟩, hcb⟩, _⟩ := hcond
            simp only [AM.run, Option.some.injEq] at hx; subst hx
            obtain ⟨k1, n1, rfl, p1, q1⟩ := nat_some hnl
            obtain ⟨k2, n2, rfl, p2, q2⟩ := nat_some hnc
            have hl := rv_int (ev_rv hE hG hv)
            have hc := rv_int (ev_rv hE hG hz)
            obtain ⟨i, zv, hi, hzv, hrun, hzlen, hcells⟩ := zero_run (P := P) (F := F) (w := w) hzz
            subst hzl
            obtain ⟨hr1, hr2⟩ := range_zero (m := m) (n := c) hzlen (Nat.pos_of_ne_zero hsz) hcells
            have hrows : Rows F m ((Array.range (c * zz.length)).map (zv.cells[· % zv.cells.size]!)) 0 zz.length ((List.replicate l zz).map (·.map .d)) := by
              intro p j e x hp hj
              simp only [List.map_replicate] at hp
              have hpl : p < l := by have := (List.getElem?_eq_some_iff.1 hp).1; simpa using this
              rw [List.getElem?_replicate, if_pos hpl, Option.some.injEq] at hp
              subst hp
              have hjk : j < zz.length := by have := (List.getElem?_eq_some_iff.1 hj).1; simpa using this
              have hle : (p + 1) * zz.length ≤ c * zz.length := Nat.mul_le_mul_right _ (by omega)
              rw [Nat.add_mul] at hle
              obtain ⟨u, u1, u2, u3⟩ := cells_zero (F := F) (m := m) hcells j x hj
              refine ⟨u, ?_, u2, u3⟩
              rw [Nat.zero_add] at u1
              rw [Nat.zero_add, Array.getElem?_map, Array.getElem?_range, if_pos (by omega)]
              simp only [Option.map_some, Option.some.injEq]
              rw [← hzlen, Nat.mul_comm, Nat.mul_add_mod, Nat.mod_eq_of_lt hjk, getElem!_def, u1]
            have hal := alloc_rows (T := el) (ao := .flat zz.length (List.replicate l zz)) (c := .fl (List.replicate l zz)) (k := zz.length) (cap := c) (cells := (Array.range (c * zz.length)).map (zv.cells[· % zv.cells.size]!)) hS hb hm rfl (Nat.pos_of_ne_zero hsz)
              (by intro e he; simp only [Cont.avs, List.map_replicate, List.mem_replicate] at he; rw [he.2]; simp) (by simp [Cont.avs]; exact hlc) (by simp) hrows
            refine ⟨.value (.slice (some ⟨w.heap.size, 0, none⟩) l c), _, _, ?_, .inl rfl, _, hal.1, ?_, hal.2, grown_new⟩
            · have hib : i.bytes = bytes := by rw [hby']; simp [Program.bytesOf, hi]
              have hw : ∀ n : Int, 0 ≤ n → n ≤ 2 ^ 30 → IntKind.i64.wrap n = n := by
                intro n h1 h2
                simp only [IntKind.wrap, IntKind.bits, IntKind.signed]
                have : n % (2 ^ 64 : Int) = n := Int.emod_eq_of_lt h1 (by omega)
                simp only [this]
                rw [if_neg]; simp; omega
              have hw1 := hw n1 p1 (by simp only [big] at hcb; omega)
              have hw2 := hw n2 p2 (by simp only [big] at hcb; omega)
              have hbc : (i.bytes : Int) * n2 ≤ 2 ^ 48 := by
                have h1 : i.bytes * n2.toNat ≤ 65536 * 2 ^ 30 := Nat.mul_le_mul (by omega) (by simp only [big] at hcb; omega)
                have h2 : ((i.bytes * n2.toNat : Nat) : Int) = (i.bytes : Int) * n2 := by rw [Int.natCast_mul, Int.toNat_of_nonneg p2]
                omega
              have hsr := size_run (P := P) (w := w) (t := el) (hsz' ▸ hsz)
              have hA : ¬ ((decide (n2 < 0) || decide ((i.bytes : Int) * n2 > 2 ^ 48) || decide (n1 < 0) || decide (n1 > n2)) = true) := by
                simp only [Bool.or_eq_true, decide_eq_true_eq]; omega
              subst q1 q2
              have ai : ∀ (k : IntKind) (n : Int) (w : World), (Go.asInt (.int k n)).run P w = .ok n w := fun _ _ _ => rfl
              have hneg1 : ¬ n1 < 0 := by omega
              have hneg2 : ¬ n2 < 0 := by omega
              have hlt : ¬ n2 < n1 := by omega
              have hbig : ¬ (281474976710656 < (i.bytes : Int) * n2) := by omega
              by_cases hc0 : n2.toNat = 0
              · have hn2 : n2 = 0 := by omega
                have hn1 : n1 = 0 := by omega
                subst hn2 hn1
                simp [execOp, Instr.makeSlice, hl, hc, underlying_run hu, ai, typeInfo, hi, hw1, hsr, newRow]
                have e0 : ∀ f : Nat → Value, (Array.range 0).map f = #[] := fun f => by simp
                have e1 : (Array.range (Int.toNat 0 * zz.length)).map (fun x => zv.cells[x % zv.cells.size]!) = #[] := by
                  rw [show Int.toNat 0 * zz.length = 0 from Nat.zero_mul _]; exact e0 _
                first
                  | (rw [e0, e0]; rfl)
                  | (rw [e0, e1]; rfl)
              · have hne : ¬ (n2.toNat * zz.length = 0) := Nat.mul_ne_zero hc0 hsz
                simp only [execOp, Instr.makeSlice, hl, hc, Sem.run_bind, underlying_run hu, Result.andThen_ok, ai, typeInfo, run_program, hi, Sem.run_pure, hw1, hw2, hneg1, hneg2, hlt, hbig, decide_false, Bool.or_self, Bool.false_eq_true, if_false, run_askRoom, hsr, if_neg hne, hrun, newRow, run_newObj, ← hsz', gt_iff_lt, show (2 : Int) ^ 48 = 281474976710656 from rfl]
                rfl
            · exact .sl upd_same hlc (fun h => by cases h) (fun _ => by simp) (by simp) (fun _ => by simp)
end ops
end Go.Ab
