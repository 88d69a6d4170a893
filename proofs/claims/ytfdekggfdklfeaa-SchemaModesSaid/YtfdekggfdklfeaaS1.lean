/-
  How a judgement is reckoned, continued: the remaining operations; regions that draw their order. One step of a judgement's reckoning, backwards: what is known first, then what comes after it. Small facts that the reckoning uses. What a call's passing over reads. Both ways of a branch come to one state.
-/
import Derived.Test.YtfdekggfdklfeaaA1
set_option linter.all false
set_option linter.unusedVariables false
set_option linter.unusedSimpArgs false
namespace Go.Ab
variable {P : Program} {C : Ctx}

section
variable {f : FuncId} {all : Array Oper} {r : List Oper} {e : Env} {h : Heap} {Q : Env → Heap → Prop} {d : Option Nat} {ty : TypeId} {pos : String} {aft : Array Edge}
/-- any operation that calls nothing, by its effect -/
theorem op_any {o : Oper} (hg : o.guard = none) (hc : callee P C.glob e o = none) (hq : noBin o = true) :
    Ops P C f all (o :: r) e h Q ↔ effK ((prim P C.glob e h.length o).run h) (fun x => Ops P C f all r (putE e o.dst x.v) (put h x.wr) Q) := ops_prim hg hc hq
@[go_sem] theorem op_convert {s t x} : Ops P C f all (⟨d, .convert s t x, ty, pos, aft, none⟩ :: r) e h Q ↔ valK (ev C.glob e x) fun v => valK ((convAV P s t v).run h) fun v => Ops P C f all r (putE e d v) h Q := by
  rw [op_any rfl rfl rfl]
  simp only [prim]
  cases ev C.glob e x with
  | none => simp [AM.run, effK, valK]
  | some v => simp only [valK, run_bind']; cases (convAV P s t v).run h <;> simp [eff, AM.run, effK, put]
@[go_sem] theorem op_makeIface {t x} : Ops P C f all (⟨d, .makeInterface t x, ty, pos, aft, none⟩ :: r) e h Q ↔ valK (ev C.glob e x) fun v => effK ((prim P C.glob [(0, v)] h.length ⟨none, .makeInterface t (.tmp 0), ty, pos, aft, none⟩).run h) fun x => Ops P C f all r (putE e d x.v) (put h x.wr) Q := by
  rw [op_any rfl rfl rfl]
  have hev : ∀ v, ev C.glob [(0, v)] (.tmp 0) = some v := fun v => rfl
  simp only [prim, hev]
  cases ev C.glob e x with
  | none => simp [AM.run, effK, valK]
  | some v => simp only [valK]
@[go_sem] theorem op_makeSlice {t x y} : Ops P C f all (⟨d, .makeSlice t x y, ty, pos, aft, none⟩ :: r) e h Q ↔ valK (ev C.glob e x) fun a => valK (ev C.glob e y) fun b => slK (slElem P t) fun el sz bytes => natK a fun l => natK b fun c => zeroK (zeroC P el) fun z =>
    sz ≠ 0 ∧ bytes ≤ 65536 ∧ l ≤ c ∧ c ≤ big ∧ z.length = sz ∧ Ops P C f all r (putE e d (.sl h.length 0 l false)) (h ++ [some (.flat sz (List.replicate l z))]) Q := by
  rw [op_any rfl rfl rfl]
  simp only [prim]
  cases ev C.glob e x with
  | none => simp [AM.run, effK, valK]
  | some a => cases ev C.glob e y with
    | none => simp [AM.run, effK, valK]
    | some b =>
      simp only [valK]
      cases slElem P t with
      | none => simp [AM.run, effK, slK]
      | some q =>
        obtain ⟨el, sz, bytes⟩ := q
        simp only [slK, natK]
        cases nat? a with
        | none => simp [AM.run, effK]
        | some l => cases nat? b with
          | none => simp [AM.run, effK]
          | some c =>
            simp only
            cases zeroC P el with
            | none => simp [AM.run, effK, zeroK]
            | some z =>
              simp only [zeroK]
              by_cases hcond : sz = 0 ∨ bytes > 65536 ∨ l > c ∨ c > big ∨ z.length ≠ sz
              · have : (sz = 0 || bytes > 65536 || l > c || c > big || z.length ≠ sz) = true := by
                  simp only [Bool.or_eq_true, decide_eq_true_eq]; rcases hcond with h | h | h | h | h <;> simp [h]
                simp only [this, if_true, AM.run, effK]
                constructor
                · intro hf; exact hf.elim
                · rintro ⟨h1, h2, h3, h4, h5, _⟩; rcases hcond with h | h | h | h | h <;> first | exact absurd h h1 | omega | exact absurd h5 h
              · simp only [not_or] at hcond
                obtain ⟨h1, h2, h3, h4, h5⟩ := hcond
                have : (sz = 0 || bytes > 65536 || l > c || c > big || z.length ≠ sz) = false := by
                  simp only [Bool.or_eq_false_iff, decide_eq_false_iff_not]; exact ⟨⟨⟨⟨h1, h2⟩, h3⟩, h4⟩, h5⟩
                simp only [this, Bool.false_eq_true, if_false, AM.run, effK, put_new]
                constructor
                · intro q; exact ⟨h1, by omega, by omega, by omega, by simpa using h5, q⟩
                · rintro ⟨_, _, _, _, _, q⟩; exact q
@[go_sem] theorem op_index {t x y} : Ops P C f all (⟨d, .index t x y, ty, pos, aft, none⟩ :: r) e h Q ↔ effK ((prim P C.glob e h.length ⟨d, .index t x y, ty, pos, aft, none⟩).run h) fun x => Ops P C f all r (putE e d x.v) (put h x.wr) Q := op_any rfl rfl rfl
@[go_sem] theorem op_lookup {t x y ok} : Ops P C f all (⟨d, .lookup t x y ok, ty, pos, aft, none⟩ :: r) e h Q ↔ effK ((prim P C.glob e h.length ⟨d, .lookup t x y ok, ty, pos, aft, none⟩).run h) fun x => Ops P C f all r (putE e d x.v) (put h x.wr) Q := op_any rfl rfl rfl
@[go_sem] theorem op_mapUpdate {t x y z} : Ops P C f all (⟨d, .mapUpdate t x y z, ty, pos, aft, none⟩ :: r) e h Q ↔ effK ((prim P C.glob e h.length ⟨d, .mapUpdate t x y z, ty, pos, aft, none⟩).run h) fun x => Ops P C f all r (putE e d x.v) (put h x.wr) Q := op_any rfl rfl rfl
@[go_sem] theorem op_insert {t x y z} : Ops P C f all (⟨d, .insert t x y z, ty, pos, aft, none⟩ :: r) e h Q ↔ effK ((prim P C.glob e h.length ⟨d, .insert t x y z, ty, pos, aft, none⟩).run h) fun x => Ops P C f all r (putE e d x.v) (put h x.wr) Q := op_any rfl rfl rfl
@[go_sem] theorem op_range {t x} : Ops P C f all (⟨d, .range t x, ty, pos, aft, none⟩ :: r) e h Q ↔ effK ((prim P C.glob e h.length ⟨d, .range t x, ty, pos, aft, none⟩).run h) fun x => Ops P C f all r (putE e d x.v) (put h x.wr) Q := op_any rfl rfl rfl
@[go_sem] theorem op_next {x b} : Ops P C f all (⟨d, .next x b, ty, pos, aft, none⟩ :: r) e h Q ↔ effK ((prim P C.glob e h.length ⟨d, .next x b, ty, pos, aft, none⟩).run h) fun x => Ops P C f all r (putE e d x.v) (put h x.wr) Q := op_any rfl rfl rfl
@[go_sem] theorem op_typeAssert {x t u b} : Ops P C f all (⟨d, .typeAssert x t u b, ty, pos, aft, none⟩ :: r) e h Q ↔ effK ((prim P C.glob e h.length ⟨d, .typeAssert x t u b, ty, pos, aft, none⟩).run h) fun x => Ops P C f all r (putE e d x.v) (put h x.wr) Q := op_any rfl rfl rfl

/- ---------- regions that draw their order ---------- -/
/-- run, with the objects that were asked for -/
def AM.rl {α : Type} (q : AM α) (h : Heap) : Option (α × List Nat) := (q.run h).map fun x => (x, q.log h)
@[go_sem] theorem rl_ret {α : Type} {a : α} {h : Heap} : (AM.ret a).rl h = some (a, []) := rfl
@[go_sem] theorem rl_fail {α : Type} {h : Heap} : (AM.fail : AM α).rl h = none := rfl
@[go_sem] theorem rl_eff {v : AV} {h : Heap} : (eff v).rl h = some (⟨v, [], 0⟩, []) := rfl
@[go_sem] theorem rl_obj {α : Type} {i : Nat} {k : AO → AM α} {h : Heap} : (AM.obj i k).rl h = match h[i]? with | some (some o) => ((k o).rl h).map fun x => (x.1, i :: x.2) | _ => none := by
  unfold AM.rl AM.obj
  simp only [AM.run, AM.log]
  cases h[i]? with
  | none => rfl
  | some o => cases o with
    | none => rfl
    | some o => simp only; cases (k o).run h <;> rfl
@[go_sem] theorem rl_bind {α β : Type} {x : AM α} {g : α → AM β} {h : Heap} : (x.bind g).rl h = (x.rl h).bind fun a => ((g a.1).rl h).map fun b => (b.1, a.2 ++ b.2) := by
  unfold AM.rl
  rw [run_bind, log_bind]
  cases x.run h with
  | none => rfl
  | some a => simp only [Option.bind_some, Option.map_some]; cases (g a).run h <;> rfl
@[go_sem] theorem rl_bind' {α β : Type} {x : AM α} {g : α → AM β} {h : Heap} : (x >>= g).rl h = (x.rl h).bind fun a => ((g a.1).rl h).map fun b => (b.1, a.2 ++ b.2) := rl_bind

@[go_sem] theorem run_eff {v : AV} {h : Heap} : (eff v).run h = some ⟨v, [], 0⟩ := rfl
@[go_sem] theorem run_obj {α : Type} {i : Nat} {k : AO → AM α} {h : Heap} : (AM.obj i k).run h = match h[i]? with | some (some o) => (k o).run h | _ => none := by
  simp only [AM.obj, AM.run]
  cases h[i]? with
  | none => rfl
  | some o => cases o <;> rfl
attribute [go_sem] prim callee List.map_cons List.zipIdx_cons List.zipIdx_nil noBin
end
end Go.Ab
namespace Go.Ab
variable {P : Program} {C : Ctx}

section
variable {f : FuncId} {all : Array Oper} {r : List Oper} {e e' : Env} {h h' : Heap} {Q : Env → Heap → Prop} {d : Nat} {ty : TypeId} {pos : String} {aft : Array Edge} {op : Op} {v : AV} {wr : List (Nat × Option AO)} {nx : Nat}

/- ---------- code ---------- -/
def keepL : List Nat → Env → Env
  | [], _ => []
  | t :: r, e => (t, e.get t) :: keepL r e
theorem keepL_eq : ∀ {vs : List Nat} {e : Env}, keepL vs e = keep vs e
  | [], _ => rfl
  | t :: r, e => by simp only [keepL, keepL_eq (vs := r)]; rfl
attribute [go_sem] keepL
theorem x_seq {a b : Code} {Q : Out → Env → Heap → Prop} (hk : Ex P C f a e h (seqK P C f b Q)) : Ex P C f (.seq a b) e h Q := ex_seq.2 hk
theorem x_next {b : Code} {Q : Out → Env → Heap → Prop} (hk : Ex P C f b e h Q) : seqK P C f b Q .normal e h := hk
theorem x_pass_ret {b : Code} {Q : Out → Env → Heap → Prop} (hk : Q .ret e h) : seqK P C f b Q .ret e h := hk
theorem x_pass_exit {b : Code} {i : Nat} {Q : Out → Env → Heap → Prop} (hk : Q (.exit i) e h) : seqK P C f b Q (.exit i) e h := hk
def blockK (i : Nat) (Q : Out → Env → Heap → Prop) : Out → Env → Heap → Prop := fun o e h => Q (leave i o) e h
theorem x_block {i : Nat} {b : Code} {Q : Out → Env → Heap → Prop} (hk : Ex P C f b e h (blockK i Q)) : Ex P C f (.block i b) e h Q := ex_block.2 hk
theorem x_leave_normal {i : Nat} {Q : Out → Env → Heap → Prop} (hk : Q .normal e h) : blockK i Q .normal e h := hk
theorem x_leave_ret {i : Nat} {Q : Out → Env → Heap → Prop} (hk : Q .ret e h) : blockK i Q .ret e h := hk
theorem x_leave_exit {i j : Nat} {o : Out} {Q : Out → Env → Heap → Prop} (ho : leave i (.exit j) = o) (hk : Q o e h) : blockK i Q (.exit j) e h := by subst ho; exact hk
theorem x_skip {Q : Out → Env → Heap → Prop} (hk : Q .normal e h) : Ex P C f .skip e h Q := .skip hk
theorem x_label {l : Nat} {Q : Out → Env → Heap → Prop} (hk : Q .normal e h) : Ex P C f (.label l) e h Q := .label hk
theorem x_exit {i : Nat} {Q : Out → Env → Heap → Prop} (hk : Q (.exit i) e h) : Ex P C f (.exit i) e h Q := .exit hk
theorem x_ret {Q : Out → Env → Heap → Prop} (hk : Q .ret e h) : Ex P C f .ret e h Q := .ret hk
theorem x_scope {b : Code} {Q : Out → Env → Heap → Prop} (hk : Ex P C f b e h Q) : Ex P C f (.scope b) e h Q := .scope hk
theorem x_region {i : Nat} {l : List Oper} {Q : Out → Env → Heap → Prop} (he : keepL (C.vars f) e = e') (hk : Ops P C f l.toArray l e' h (Q .normal)) : Ex P C f (.region i l.toArray false) e h Q := by rw [keepL_eq] at he; subst he; exact .region hk
theorem x_condT {c : Operand} {a b : Code} {Q : Out → Env → Heap → Prop} (hc : ev C.glob e c = some (.d (.bool true))) (hk : Ex P C f a e h Q) : Ex P C f (.cond c a b) e h Q := .cond hc hk
theorem x_condF {c : Operand} {a b : Code} {Q : Out → Env → Heap → Prop} (hc : ev C.glob e c = some (.d (.bool false))) (hk : Ex P C f b e h Q) : Ex P C f (.cond c a b) e h Q := .cond hc hk
theorem x_condP {c : Operand} {a b : Code} {p : Prop} [Decidable p] {Q : Out → Env → Heap → Prop} (hc : ev C.glob e c = some (.d (.bool (decide p)))) (h1 : p → Ex P C f a e h Q) (h2 : ¬ p → Ex P C f b e h Q) : Ex P C f (.cond c a b) e h Q := by
  by_cases hp : p
  · exact x_condT (by rw [hc]; simp [hp]) (h1 hp)
  · exact x_condF (by rw [hc]; simp [hp]) (h2 hp)
theorem x_condB {c : Operand} {a b : Code} {t : Bool} {Q : Out → Env → Heap → Prop} (hc : ev C.glob e c = some (.d (.bool t))) (h1 : t = true → Ex P C f a e h Q) (h2 : t = false → Ex P C f b e h Q) : Ex P C f (.cond c a b) e h Q := by
  cases t
  · exact x_condF hc (h2 rfl)
  · exact x_condT hc (h1 rfl)
theorem x_end {fn : Func} {m : Pol} {k : Nat} {o : Out} {v' : AV} {hs : Heap} {Q : AV → Heap → Prop} (ho : o = .normal ∨ o = .ret) (hr : resultOf P fn e h = some v) (hc : (retCall m k v).run h = some (v', hs)) (hk : Q v' hs) : endK P fn m k Q o e h := by
  rcases ho with rfl | rfl <;> (unfold endK; simp only [hr, valK, hc]; exact hk)

/- ---------- loops ---------- -/
def valsL : List Nat → Env → List AV
  | [], _ => []
  | t :: r, e => e.get t :: valsL r e
theorem valsL_eq : ∀ {vs : List Nat} {e : Env}, valsL vs e = vs.map e.get
  | [], _ => rfl
  | t :: r, e => by simp only [valsL, valsL_eq (vs := r), List.map_cons]
/-- the state at a loop's head, gone over -/
def gcRun (m : Pol) (k : Nat) (vs : List Nat) (e : Env) (h : Heap) : Option (Env × Heap) := match (retCall m k (.tup (valsL vs e))).run h with
  | some (.tup vals, h') => some (vs.zip vals, h')
  | _ => none
attribute [go_sem] valsL gcRun List.zip_cons_cons List.zip_nil_left List.zip_nil_right
def loopK {α : Type} (C : Ctx) (f : FuncId) (m : Pol) (ks : List Nat) (L : α → Env) (H : α → Heap) (I : α → Prop) (μ : α → Nat) (x : α) (Q : Out → Env → Heap → Prop) : Out → Env → Heap → Prop := fun o e h => match o with
  | .normal => ∃ y, I y ∧ μ y < μ x ∧ gcRun m (C.keepN f) ks e h = some (L y, H y)
  | o => Q o e h
theorem x_loopG {α : Type} {b : Code} {Q : Out → Env → Heap → Prop} (m : Pol) (ks : List Nat) (L : α → Env) (H : α → Heap) (I : α → Prop) (μ : α → Nat) (x : α) (h0 : gcRun m (C.keepN f) ks e h = some (L x, H x)) (hI : I x)
    (step : ∀ x, I x → Ex P C f b (L x) (H x) (loopK C f m ks L H I μ x Q)) : Ex P C f (.loop b) e h Q := by
  generalize hn : μ x = n
  induction n using Nat.strongRecOn generalizing x e h with
  | _ n ih =>
    have hg : ∃ vals, (retCall m (C.keepN f) (.tup (ks.map e.get))).run h = some (.tup vals, H x) ∧ ks.zip vals = L x := by
      unfold gcRun at h0
      rw [valsL_eq] at h0
      split at h0
      · rename_i vals h' heq
        simp only [Option.some.injEq, Prod.mk.injEq] at h0
        exact ⟨vals, by rw [heq, h0.2], h0.1⟩
      · cases h0
    obtain ⟨vals, g1, g2⟩ := hg
    refine .loopG g1 (R := loopK C f m ks L H I μ x Q) (by rw [g2]; exact step x hI) (fun e' h' r => ?_) (fun o e' h' n r => ?_)
    · obtain ⟨y, hy, hlt, hgc⟩ := r
      exact ih (μ y) (hn ▸ hlt) y hgc hy rfl
    · cases o with
      | normal => exact absurd rfl n
      | exit i => exact r
      | ret => exact r
theorem x_loop_exit {α : Type} {m : Pol} {ks : List Nat} {L : α → Env} {H : α → Heap} {I : α → Prop} {μ : α → Nat} {x : α} {i : Nat} {Q : Out → Env → Heap → Prop} (hk : Q (.exit i) e h) : loopK C f m ks L H I μ x Q (.exit i) e h := hk
theorem x_loop_ret {α : Type} {m : Pol} {ks : List Nat} {L : α → Env} {H : α → Heap} {I : α → Prop} {μ : α → Nat} {x : α} {Q : Out → Env → Heap → Prop} (hk : Q .ret e h) : loopK C f m ks L H I μ x Q .ret e h := hk
theorem x_again {α : Type} {m : Pol} {ks : List Nat} {L : α → Env} {H : α → Heap} {I : α → Prop} {μ : α → Nat} {x : α} {Q : Out → Env → Heap → Prop} (y : α) (hI : I y) (hlt : μ y < μ x) (hg : gcRun m (C.keepN f) ks e h = some (L y, H y)) : loopK C f m ks L H I μ x Q .normal e h := ⟨y, hI, hlt, hg⟩

/- ---------- operations ---------- -/
theorem o_nil (hk : Q e h) : Ops P C f all [] e h Q := .nil hk
theorem o_some (hx : (prim P C.glob e h.length ⟨some d, op, ty, pos, aft, none⟩).run h = some ⟨v, wr, nx⟩) (hh : put h wr = h') (hk : Ops P C f all r ((d, v) :: e) h' Q) : Ops P C f all (⟨some d, op, ty, pos, aft, none⟩ :: r) e h Q := by
  subst hh; exact .prim rfl hx hk
theorem o_none (hx : (prim P C.glob e h.length ⟨none, op, ty, pos, aft, none⟩).run h = some ⟨v, wr, nx⟩) (hh : put h wr = h') (hk : Ops P C f all r e h' Q) : Ops P C f all (⟨none, op, ty, pos, aft, none⟩ :: r) e h Q := by
  subst hh; exact .prim rfl hx hk
theorem o_nilq {o : BinOp} {t yt : TypeId} {x y : Operand} {full : Bool} (ho : (o = .eql ∨ o = .neq) ∧ eqShape P t = .slice) (hx : ev C.glob e x = some (.d (.fsl [] false full))) (hy : ev C.glob e y = some (.d .snil))
    (h1 : Ops P C f all r ((d, .d (.bool true)) :: e) h Q) (h2 : Ops P C f all r ((d, .d (.bool false)) :: e) h Q) : Ops P C f all (⟨some d, .binOp o t x y yt, ty, pos, aft, none⟩ :: r) e h Q := .nilq rfl rfl ho hx rfl hy h1 h2
theorem o_call {tgt tgt' : Fn} {args args' : List AV} {hp hs0 : Heap} {L : List Nat} {frz : List (Nat × Option AO)} {m : Pol} {v0 v1 : AV} (hc : callee P C.glob e ⟨some d, op, ty, pos, aft, none⟩ = some (tgt, args)) (hm : polOf C f tgt = m)
    (hpass : (passCall m (.fn tgt [] [] :: args)).run h = some ⟨.fn tgt' [] [] :: args', hp, L, frz⟩) (hcall : CallA P C tgt' m args' hp fun v hs => v = v0 ∧ hs = hs0)
    (hv : (finCall ⟨.fn tgt' [] [] :: args', hp, L, frz⟩ h.length v0 hs0).v = v1) (hh : put h (finCall ⟨.fn tgt' [] [] :: args', hp, L, frz⟩ h.length v0 hs0).wr = h') (hk : Ops P C f all r ((d, v1) :: e) h' Q) :
    Ops P C f all (⟨some d, op, ty, pos, aft, none⟩ :: r) e h Q := by
  subst hm; subst hv; subst hh
  exact .opcall rfl hc hpass rfl hcall (fun v hs hq => by obtain ⟨rfl, rfl⟩ := hq; exact hk)
theorem o_callN {tgt tgt' : Fn} {args args' : List AV} {hp hs0 : Heap} {L : List Nat} {frz : List (Nat × Option AO)} {m : Pol} {v0 : AV} (hc : callee P C.glob e ⟨none, op, ty, pos, aft, none⟩ = some (tgt, args)) (hm : polOf C f tgt = m)
    (hpass : (passCall m (.fn tgt [] [] :: args)).run h = some ⟨.fn tgt' [] [] :: args', hp, L, frz⟩) (hcall : CallA P C tgt' m args' hp fun v hs => v = v0 ∧ hs = hs0)
    (hh : put h (finCall ⟨.fn tgt' [] [] :: args', hp, L, frz⟩ h.length v0 hs0).wr = h') (hk : Ops P C f all r e h' Q) :
    Ops P C f all (⟨none, op, ty, pos, aft, none⟩ :: r) e h Q := by
  subst hm; subst hh
  exact .opcall rfl hc hpass rfl hcall (fun v hs hq => by obtain ⟨rfl, rfl⟩ := hq; exact hk)
/-- a guarded operation -/
theorem o_gT {dst : Option Nat} {j t : Nat} {w : Bool} (ht : (all[j]?).bind (·.dst) = some t) (hv : e.get t = .d (.bool w)) (hk : Ops P C f all (⟨dst, op, ty, pos, aft, none⟩ :: r) e h Q) : Ops P C f all (⟨dst, op, ty, pos, aft, some (j, w)⟩ :: r) e h Q := by
  rw [op_guard_iff, ht, gTmp_some, hv]; simp only [gK, if_true]; exact hk
theorem o_gF {j t : Nat} {w b : Bool} (ht : (all[j]?).bind (·.dst) = some t) (hv : e.get t = .d (.bool b)) (hb : (b == w) = false) (hk : Ops P C f all r ((d, undef) :: e) h Q) : Ops P C f all (⟨some d, op, ty, pos, aft, some (j, w)⟩ :: r) e h Q := by
  rw [op_guard_iff, ht, gTmp_some, hv]
  have : b ≠ w := by simpa using hb
  simp only [gK, if_neg this]; exact hk
theorem o_gFN {j t : Nat} {w b : Bool} (ht : (all[j]?).bind (·.dst) = some t) (hv : e.get t = .d (.bool b)) (hb : (b == w) = false) (hk : Ops P C f all r e h Q) : Ops P C f all (⟨none, op, ty, pos, aft, some (j, w)⟩ :: r) e h Q := by
  rw [op_guard_iff, ht, gTmp_some, hv]
  have : b ≠ w := by simpa using hb
  simp only [gK, if_neg this]; exact hk
/-- the guard was left out itself -/
theorem o_gU {j t : Nat} {w : Bool} (ht : (all[j]?).bind (·.dst) = some t) (hv : e.get t = .tup []) (hk : Ops P C f all r ((d, undef) :: e) h Q) : Ops P C f all (⟨some d, op, ty, pos, aft, some (j, w)⟩ :: r) e h Q := by
  rw [op_guard_iff, ht, gTmp_some, hv]; exact hk
theorem o_gUN {j t : Nat} {w : Bool} (ht : (all[j]?).bind (·.dst) = some t) (hv : e.get t = .tup []) (hk : Ops P C f all r e h Q) : Ops P C f all (⟨none, op, ty, pos, aft, some (j, w)⟩ :: r) e h Q := by
  rw [op_guard_iff, ht, gTmp_some, hv]; exact hk
/-- a guard that is not decided -/
theorem o_gP {l : List Oper} {dst : Option Nat} {j t : Nat} {w : Bool} {p : Prop} [Decidable p] (ht : (all[j]?).bind (·.dst) = some t) (hv : e.get t = .d (.bool (decide p))) (h1 : p → Ops P C f all (⟨dst, op, ty, pos, aft, some (j, w)⟩ :: l) e h Q) (h2 : ¬ p → Ops P C f all (⟨dst, op, ty, pos, aft, some (j, w)⟩ :: l) e h Q) :
    Ops P C f all (⟨dst, op, ty, pos, aft, some (j, w)⟩ :: l) e h Q := by
  by_cases hp : p
  · exact h1 hp
  · exact h2 hp
theorem o_gB {l : List Oper} {dst : Option Nat} {j t : Nat} {w b : Bool} (ht : (all[j]?).bind (·.dst) = some t) (hv : e.get t = .d (.bool b)) (h1 : b = true → Ops P C f all (⟨dst, op, ty, pos, aft, some (j, w)⟩ :: l) e h Q) (h2 : b = false → Ops P C f all (⟨dst, op, ty, pos, aft, some (j, w)⟩ :: l) e h Q) :
    Ops P C f all (⟨dst, op, ty, pos, aft, some (j, w)⟩ :: l) e h Q := by
  cases b
  · exact h2 rfl
  · exact h1 rfl
/-- the value of a temporary that is a condition becomes a literal -/
theorem get_lit {t : Nat} {p : Prop} [Decidable p] (hv : e.get t = .d (.bool (decide p))) (hp : p) : e.get t = .d (.bool true) := by rw [hv]; simp [hp]
end

/- ---------- regions that draw their order ---------- -/
section
variable {f : FuncId} {all : Array Oper} {base : Nat} {r : List Oper} {e e' : Env} {h h' : Heap} {Q : Env → Heap → Prop} {d : Nat} {ty : TypeId} {pos : String} {aft : Array Edge} {op : Op} {v : AV} {wr : List (Nat × Option AO)} {nx : Nat}
abbrev RW := List (List Nat × List Nat)
def numbered : RW → List FP
  | [] => []
  | f :: fs => ⟨fs.length, f.1, f.2⟩ :: numbered fs
def rwAll (b : Array Nat) (base : Nat) : RW → Bool
  | [] => true
  | f :: fs => fpOk b base ⟨fs.length, f.1, f.2⟩ (numbered fs) && rwAll b base fs
def zipL : Nat → List Oper → List (Nat × Oper)
  | _, [] => []
  | i, o :: r => (i, o) :: zipL (i + 1) r
theorem zipL_eq : ∀ {l : List Oper} {i : Nat}, zipL i l = (l.zipIdx i).map fun x => (x.2, x.1)
  | [], _ => rfl
  | o :: r, i => by simp only [zipL, List.zipIdx_cons, List.map_cons, zipL_eq (l := r)]
def padL : List Oper → List (Option AO)
  | [] => []
  | _ :: r => none :: padL r
theorem padL_eq : ∀ {l : List Oper}, padL l = List.replicate l.length none
  | [] => rfl
  | _ :: r => by simp only [padL, padL_eq (l := r), List.length_cons, List.replicate_succ]
attribute [go_sem] padL
/-- what is shown of the rest of a region that draws its order: that what was touched does not meet, and the end -/
def DrS (P : Program) (C : Ctx) (f : FuncId) (all : Array Oper) (base : Nat) (r : List Oper) (fs : RW) (e : Env) (h : Heap) (Q : Env → Heap → Prop) : Prop :=
  rwAll (Region.before all) base fs = true ∧ ∀ fs0 : List FP, (∀ g ∈ fs0, g ∈ numbered fs) → Dr P C f all base (zipL fs.length r) fs0 e h Q
theorem fp_sub {b : Array Nat} {g : FP} {fs fs' : List FP} (hm : ∀ g ∈ fs', g ∈ fs) (hg : fpOk b base g fs = true) : fpOk b base g fs' = true := by
  simp only [fpOk, Bool.and_eq_true, List.all_eq_true] at hg ⊢
  exact ⟨hg.1, fun x hx => hg.2 x (hm x hx)⟩
theorem d_end {fs : RW} (hf : rwAll (Region.before all) base fs = true) (hk : Q e h) : DrS P C f all base [] fs e h Q := ⟨hf, fun _ _ => .dnil hk⟩
theorem x_regionD {i : Nat} {l : List Oper} {Q : Out → Env → Heap → Prop} (hd : drawOk l.toArray = true) (he : keepL (C.vars f) e = e') (hh : h ++ padL l = h') (hl : DrS P C f l.toArray h.length l [] e' h' (Q .normal)) : Ex P C f (.region i l.toArray true) e h Q := by
  rw [keepL_eq] at he
  subst he; subst hh
  refine .regionD hd ?_
  have := hl.2 [] (by simp)
  rw [padL_eq, List.length_nil, zipL_eq] at this
  have e2 : l.toArray.size = l.length := by simp
  show W P C (.draw f l.toArray h.length _ _ _ _ _)
  rw [e2]
  exact this
theorem d_step {o : Oper} {fs : RW} {rd ws : List Nat} (hk : DrS P C f all base r ((rd, ws) :: fs) e' h' Q)
    (hs : ∀ fs0 : List FP, fpOk (Region.before all) base ⟨fs.length, rd, ws⟩ fs0 = true → Dr P C f all base (zipL (fs.length + 1) r) (⟨fs.length, rd, ws⟩ :: fs0) e' h' Q → Dr P C f all base ((fs.length, o) :: zipL (fs.length + 1) r) fs0 e h Q) : DrS P C f all base (o :: r) fs e h Q := by
  obtain ⟨h1, h2⟩ := hk
  simp only [rwAll, Bool.and_eq_true] at h1
  refine ⟨h1.2, fun fs0 hfs => ?_⟩
  refine hs fs0 (fp_sub hfs h1.1) (h2 _ (fun g hg => ?_))
  rcases List.mem_cons.1 hg with rfl | hg
  · simp [numbered]
  · simp only [numbered, List.mem_cons]; exact .inr (hfs g hg)
theorem d_prim {o : Oper} {fs : RW} {rd ws : List Nat} (hw : wanted all e o = some true) (hx : (prim P C.glob e (base + fs.length) o).rl h = some (⟨v, wr, nx⟩, rd)) (hws : wr.map (·.1) = ws) (hh : put h wr = h') (hk : DrS P C f all base r ((rd, ws) :: fs) (putE e o.dst v) h' Q) : DrS P C f all base (o :: r) fs e h Q := by
  subst hws; subst hh
  unfold AM.rl at hx
  cases hr : (prim P C.glob e (base + fs.length) o).run h with
  | none => simp [hr] at hx
  | some x =>
    simp only [hr, Option.map_some, Option.some.injEq, Prod.mk.injEq] at hx
    obtain ⟨rfl, rfl⟩ := hx
    exact d_step hk fun fs0 hf hd => .dprim hw hr hf hd
theorem d_call {o : Oper} {fs : RW} {rd ws : List Nat} {tgt tgt' : Fn} {args args' : List AV} {hp hs0 : Heap} {L : List Nat} {frz : List (Nat × Option AO)} {m : Pol} {v0 v1 : AV} (hw : wanted all e o = some true) (hc : callee P C.glob e o = some (tgt, args)) (hm : polOf C f tgt = m)
    (hpass : (passCall m (.fn tgt [] [] :: args)).rl h = some (⟨.fn tgt' [] [] :: args', hp, L, frz⟩, rd)) (hcall : CallA P C tgt' m args' hp fun v hs => v = v0 ∧ hs = hs0)
    (hnx : (finCall ⟨.fn tgt' [] [] :: args', hp, L, frz⟩ (base + fs.length) v0 hs0).nx ≤ 1) (hv : (finCall ⟨.fn tgt' [] [] :: args', hp, L, frz⟩ (base + fs.length) v0 hs0).v = v1)
    (hwr : (finCall ⟨.fn tgt' [] [] :: args', hp, L, frz⟩ (base + fs.length) v0 hs0).wr = wr) (hws : wr.map (·.1) = ws) (hh : put h wr = h') (hk : DrS P C f all base r ((rd, ws) :: fs) (putE e o.dst v1) h' Q) : DrS P C f all base (o :: r) fs e h Q := by
  subst hm; subst hv; subst hws; subst hh; subst hwr
  unfold AM.rl at hpass
  cases hr : (passCall (polOf C f tgt) (.fn tgt [] [] :: args)).run h with
  | none => simp [hr] at hpass
  | some x =>
    simp only [hr, Option.map_some, Option.some.injEq, Prod.mk.injEq] at hpass
    obtain ⟨rfl, rfl⟩ := hpass
    exact d_step hk fun fs0 hf hd => .dcall hw hc hr rfl hcall hnx hf hd
theorem d_skip {o : Oper} {fs : RW} (hw : wanted all e o = some false) (hk : DrS P C f all base r (([], []) :: fs) (putE e o.dst undef) h Q) : DrS P C f all base (o :: r) fs e h Q := by
  obtain ⟨h1, h2⟩ := hk
  simp only [rwAll, Bool.and_eq_true] at h1
  refine ⟨h1.2, fun fs0 hfs => .dskipped hw (h2 fs0 fun g hg => ?_)⟩
  simp only [numbered, List.mem_cons]; exact .inr (hfs g hg)
/-- a plain operation, its place known -/
theorem d_some {fs : RW} {rd ws : List Nat} (hx : (prim P C.glob e (base + fs.length) ⟨some d, op, ty, pos, aft, none⟩).rl h = some (⟨v, wr, nx⟩, rd)) (hws : wr.map (·.1) = ws) (hh : put h wr = h') (hk : DrS P C f all base r ((rd, ws) :: fs) ((d, v) :: e) h' Q) : DrS P C f all base (⟨some d, op, ty, pos, aft, none⟩ :: r) fs e h Q := d_prim rfl hx hws hh hk
theorem d_none {fs : RW} {rd ws : List Nat} (hx : (prim P C.glob e (base + fs.length) ⟨none, op, ty, pos, aft, none⟩).rl h = some (⟨v, wr, nx⟩, rd)) (hws : wr.map (·.1) = ws) (hh : put h wr = h') (hk : DrS P C f all base r ((rd, ws) :: fs) e h' Q) : DrS P C f all base (⟨none, op, ty, pos, aft, none⟩ :: r) fs e h Q := d_prim rfl hx hws hh hk
theorem d_callS {fs : RW} {rd ws : List Nat} {tgt tgt' : Fn} {args args' : List AV} {hp hs0 : Heap} {L : List Nat} {frz : List (Nat × Option AO)} {m : Pol} {v0 v1 : AV} (hc : callee P C.glob e ⟨some d, op, ty, pos, aft, none⟩ = some (tgt, args)) (hm : polOf C f tgt = m)
    (hpass : (passCall m (.fn tgt [] [] :: args)).rl h = some (⟨.fn tgt' [] [] :: args', hp, L, frz⟩, rd)) (hcall : CallA P C tgt' m args' hp fun v hs => v = v0 ∧ hs = hs0)
    (hnx : (finCall ⟨.fn tgt' [] [] :: args', hp, L, frz⟩ (base + fs.length) v0 hs0).nx ≤ 1) (hv : (finCall ⟨.fn tgt' [] [] :: args', hp, L, frz⟩ (base + fs.length) v0 hs0).v = v1)
    (hwr : (finCall ⟨.fn tgt' [] [] :: args', hp, L, frz⟩ (base + fs.length) v0 hs0).wr = wr) (hws : wr.map (·.1) = ws) (hh : put h wr = h') (hk : DrS P C f all base r ((rd, ws) :: fs) ((d, v1) :: e) h' Q) : DrS P C f all base (⟨some d, op, ty, pos, aft, none⟩ :: r) fs e h Q := d_call rfl hc hm hpass hcall hnx hv hwr hws hh hk
/-- a guarded operation whose guard is decided: it is as if it bore none -/
theorem drs_free {dst : Option Nat} {fs : RW} {g : Option (Nat × Bool)} (hw : wanted all e ⟨dst, op, ty, pos, aft, g⟩ = some true) (hk : DrS P C f all base (⟨dst, op, ty, pos, aft, none⟩ :: r) fs e h Q) : DrS P C f all base (⟨dst, op, ty, pos, aft, g⟩ :: r) fs e h Q := by
  refine ⟨hk.1, fun fs0 hfs => ?_⟩
  have := hk.2 fs0 hfs
  simp only [zipL] at this ⊢
  cases this with
  | dskipped h1 _ => simp [wanted] at h1
  | dprim h1 h2 h3 h4 => exact .dprim hw h2 h3 h4
  | dcall h1 h2 h3 h4 h5 h6 h7 h8 => exact .dcall hw h2 h3 h4 h5 h6 h7 h8
theorem d_gT {dst : Option Nat} {j t : Nat} {w : Bool} {fs : RW} (ht : (all[j]?).bind (·.dst) = some t) (hv : e.get t = .d (.bool w)) (hk : DrS P C f all base (⟨dst, op, ty, pos, aft, none⟩ :: r) fs e h Q) : DrS P C f all base (⟨dst, op, ty, pos, aft, some (j, w)⟩ :: r) fs e h Q :=
  drs_free (by simp [wanted, ht, hv]) hk
theorem d_gF {j t : Nat} {w b : Bool} {fs : RW} (ht : (all[j]?).bind (·.dst) = some t) (hv : e.get t = .d (.bool b)) (hb : (b == w) = false) (hk : DrS P C f all base r (([], []) :: fs) ((d, undef) :: e) h Q) : DrS P C f all base (⟨some d, op, ty, pos, aft, some (j, w)⟩ :: r) fs e h Q :=
  d_skip (by simp [wanted, ht, hv]; simpa using hb) hk
theorem d_gFN {j t : Nat} {w b : Bool} {fs : RW} (ht : (all[j]?).bind (·.dst) = some t) (hv : e.get t = .d (.bool b)) (hb : (b == w) = false) (hk : DrS P C f all base r (([], []) :: fs) e h Q) : DrS P C f all base (⟨none, op, ty, pos, aft, some (j, w)⟩ :: r) fs e h Q :=
  d_skip (by simp [wanted, ht, hv]; simpa using hb) hk
theorem d_gU {j t : Nat} {w : Bool} {fs : RW} (ht : (all[j]?).bind (·.dst) = some t) (hv : e.get t = .tup []) (hk : DrS P C f all base r (([], []) :: fs) ((d, undef) :: e) h Q) : DrS P C f all base (⟨some d, op, ty, pos, aft, some (j, w)⟩ :: r) fs e h Q :=
  d_skip (by simp [wanted, ht, hv]) hk
theorem d_gP {l : List Oper} {dst : Option Nat} {fs : RW} {j t : Nat} {w : Bool} {p : Prop} [Decidable p] (ht : (all[j]?).bind (·.dst) = some t) (hv : e.get t = .d (.bool (decide p))) (h1 : p → DrS P C f all base (⟨dst, op, ty, pos, aft, some (j, w)⟩ :: l) fs e h Q) (h2 : ¬ p → DrS P C f all base (⟨dst, op, ty, pos, aft, some (j, w)⟩ :: l) fs e h Q) :
    DrS P C f all base (⟨dst, op, ty, pos, aft, some (j, w)⟩ :: l) fs e h Q := by
  by_cases hp : p
  · exact h1 hp
  · exact h2 hp
theorem d_gB {l : List Oper} {dst : Option Nat} {fs : RW} {j t : Nat} {w b : Bool} (ht : (all[j]?).bind (·.dst) = some t) (hv : e.get t = .d (.bool b)) (h1 : b = true → DrS P C f all base (⟨dst, op, ty, pos, aft, some (j, w)⟩ :: l) fs e h Q) (h2 : b = false → DrS P C f all base (⟨dst, op, ty, pos, aft, some (j, w)⟩ :: l) fs e h Q) :
    DrS P C f all base (⟨dst, op, ty, pos, aft, some (j, w)⟩ :: l) fs e h Q := by
  cases b
  · exact h2 rfl
  · exact h1 rfl
end
end Go.Ab
namespace Go.Ab
variable {P : Program}
section
variable {t : TypeId} {c : Bool} {k : IntKind} {a b : Int}
@[go_sem] theorem bin_add : binAV P .add t c (.d (.int k a)) (.d (.int k b)) = some (.d (.int k (k.wrap (a + b)))) := by simp [binAV, binInt]
@[go_sem] theorem bin_sub : binAV P .sub t c (.d (.int k a)) (.d (.int k b)) = some (.d (.int k (k.wrap (a - b)))) := by simp [binAV, binInt]
@[go_sem] theorem bin_mul : binAV P .mul t c (.d (.int k a)) (.d (.int k b)) = some (.d (.int k (k.wrap (a * b)))) := by simp [binAV, binInt]
@[go_sem] theorem bin_eql : binAV P .eql t c (.d (.int k a)) (.d (.int k b)) = some (.d (.bool (decide (a = b)))) := by
  have : (a == b) = decide (a = b) := by by_cases h : a = b <;> simp [h]
  simp [binAV, binInt, this]
@[go_sem] theorem bin_neq : binAV P .neq t c (.d (.int k a)) (.d (.int k b)) = some (.d (.bool (decide (a ≠ b)))) := by
  have : (a != b) = decide (a ≠ b) := by by_cases h : a = b <;> simp [h]
  simp [binAV, binInt, this]
@[go_sem] theorem bin_lss : binAV P .lss t c (.d (.int k a)) (.d (.int k b)) = some (.d (.bool (decide (a < b)))) := by simp [binAV, binInt]
@[go_sem] theorem bin_leq : binAV P .leq t c (.d (.int k a)) (.d (.int k b)) = some (.d (.bool (decide (a ≤ b)))) := by simp [binAV, binInt]
@[go_sem] theorem bin_gtr : binAV P .gtr t c (.d (.int k a)) (.d (.int k b)) = some (.d (.bool (decide (b < a)))) := by simp [binAV, binInt]
@[go_sem] theorem bin_geq : binAV P .geq t c (.d (.int k a)) (.d (.int k b)) = some (.d (.bool (decide (b ≤ a)))) := by simp [binAV, binInt]
theorem bin_quo (h : b ≠ 0) : binAV P .quo t c (.d (.int k a)) (.d (.int k b)) = some (.d (.int k (k.wrap (a.tdiv b)))) := by simp [binAV, binInt, h]
theorem bin_rem (h : b ≠ 0) : binAV P .rem t c (.d (.int k a)) (.d (.int k b)) = some (.d (.int k (a.tmod b))) := by simp [binAV, binInt, h]
@[go_sem] theorem bin_seq {x y : ByteArray} : binAV P .eql t c (.d (.str x)) (.d (.str y)) = some (.d (.bool (decide (x = y)))) := by
  have : (x.toList == y.toList) = decide (x = y) := by
    rw [Bool.eq_iff_iff]; simp only [beq_iff_eq, decide_eq_true_eq]
    rw [bytes_eq, bytes_eq, Array.toList_inj]
    exact ⟨fun h => ByteArray.ext h, fun h => by rw [h]⟩
  simp [binAV, binStr, this]
@[go_sem] theorem bin_sne {x y : ByteArray} : binAV P .neq t c (.d (.str x)) (.d (.str y)) = some (.d (.bool (decide (x ≠ y)))) := by
  have : (x.toList == y.toList) = decide (x = y) := by
    rw [Bool.eq_iff_iff]; simp only [beq_iff_eq, decide_eq_true_eq]
    rw [bytes_eq, bytes_eq, Array.toList_inj]
    exact ⟨fun h => ByteArray.ext h, fun h => by rw [h]⟩
  simp [binAV, binStr, this]
@[go_sem] theorem bin_slss {x y : ByteArray} : binAV P .lss t c (.d (.str x)) (.d (.str y)) = some (.d (.bool (Op.bytesLess x.toList y.toList))) := by simp [binAV, binStr]
@[go_sem] theorem bin_sgtr {x y : ByteArray} : binAV P .gtr t c (.d (.str x)) (.d (.str y)) = some (.d (.bool !(Op.bytesLess x.toList y.toList || x.toList == y.toList))) := by simp [binAV, binStr]
@[go_sem] theorem bin_sleq {x y : ByteArray} : binAV P .leq t c (.d (.str x)) (.d (.str y)) = some (.d (.bool (Op.bytesLess x.toList y.toList || x.toList == y.toList))) := by simp [binAV, binStr]
@[go_sem] theorem bin_sgeq {x y : ByteArray} : binAV P .geq t c (.d (.str x)) (.d (.str y)) = some (.d (.bool !Op.bytesLess x.toList y.toList)) := by simp [binAV, binStr]
@[go_sem] theorem bin_bb {x y : Bool} (h : eqShape P t = .bool) : binAV P .eql t c (.d (.bool x)) (.d (.bool y)) = some (.d (.bool (x == y))) := by simp [binAV, equalAV, h]
@[go_sem] theorem bin_bn {x y : Bool} (h : eqShape P t = .bool) : binAV P .neq t c (.d (.bool x)) (.d (.bool y)) = some (.d (.bool !(x == y))) := by simp [binAV, equalAV, h]
@[go_sem] theorem bin_p1 (h : eqShape P t = .ptr) : binAV P .eql t c (.d .nilp) (.d .nilp) = some (.d (.bool true)) := by simp [binAV, equalAV, h]
@[go_sem] theorem bin_p2 {x o} (h : eqShape P t = .ptr) : binAV P .eql t c (.d (.fptr x o)) (.d .nilp) = some (.d (.bool false)) := by simp [binAV, equalAV, h]
@[go_sem] theorem bin_p3 {x i o} (h : eqShape P t = .ptr) : binAV P .eql t c (.ptr x i o) (.d .nilp) = some (.d (.bool false)) := by simp [binAV, equalAV, h]
@[go_sem] theorem bin_p4 (h : eqShape P t = .ptr) : binAV P .neq t c (.d .nilp) (.d .nilp) = some (.d (.bool false)) := by simp [binAV, equalAV, h]
@[go_sem] theorem bin_p5 {x o} (h : eqShape P t = .ptr) : binAV P .neq t c (.d (.fptr x o)) (.d .nilp) = some (.d (.bool true)) := by simp [binAV, equalAV, h]
@[go_sem] theorem bin_p6 {x i o} (h : eqShape P t = .ptr) : binAV P .neq t c (.ptr x i o) (.d .nilp) = some (.d (.bool true)) := by simp [binAV, equalAV, h]
@[go_sem] theorem bin_s1 (h : eqShape P t = .slice) : binAV P .eql t c (.d .snil) (.d .snil) = some (.d (.bool true)) := by simp [binAV, equalAV, h]
@[go_sem] theorem bin_s2 (h : eqShape P t = .slice) : binAV P .neq t c (.d .snil) (.d .snil) = some (.d (.bool false)) := by simp [binAV, equalAV, h]
@[go_sem] theorem bin_s3 {i o l u} (h : eqShape P t = .slice) : binAV P .eql t c (.sl i o l u) (.d .snil) = some (.d (.bool false)) := by simp [binAV, equalAV, h]
@[go_sem] theorem bin_s4 {i o l u} (h : eqShape P t = .slice) : binAV P .neq t c (.sl i o l u) (.d .snil) = some (.d (.bool true)) := by simp [binAV, equalAV, h]
@[go_sem] theorem bin_s5 {x r n u} (h : eqShape P t = .slice) : binAV P .eql t c (.d (.fsl (x :: r) n u)) (.d .snil) = some (.d (.bool false)) := by simp [binAV, equalAV, h]
@[go_sem] theorem bin_s6 {x r n u} (h : eqShape P t = .slice) : binAV P .neq t c (.d (.fsl (x :: r) n u)) (.d .snil) = some (.d (.bool true)) := by simp [binAV, equalAV, h]
@[go_sem] theorem bin_s7 {es u} (h : eqShape P t = .slice) : binAV P .eql t c (.d (.fsl es true u)) (.d .snil) = some (.d (.bool false)) := by simp [binAV, equalAV, h]
@[go_sem] theorem bin_s8 {es u} (h : eqShape P t = .slice) : binAV P .neq t c (.d (.fsl es true u)) (.d .snil) = some (.d (.bool true)) := by simp [binAV, equalAV, h]
@[go_sem] theorem bin_i1 (h : eqShape P t = .ifc) : binAV P .eql t true (.d .inil) (.d .inil) = some (.d (.bool true)) := by simp [binAV, equalAV, h]
@[go_sem] theorem bin_i2 (h : eqShape P t = .ifc) : binAV P .neq t true (.d .inil) (.d .inil) = some (.d (.bool false)) := by simp [binAV, equalAV, h]
@[go_sem] theorem bin_i3 {u v} (h : eqShape P t = .ifc) : binAV P .eql t c (.ifc u v) (.d .inil) = some (.d (.bool false)) := by simp [binAV, equalAV, h]
@[go_sem] theorem bin_i4 {u v} (h : eqShape P t = .ifc) : binAV P .neq t c (.ifc u v) (.d .inil) = some (.d (.bool true)) := by simp [binAV, equalAV, h]
@[go_sem] theorem bin_f1 (h : eqShape P t = .fn) : binAV P .eql t c (.d .fnil) (.d .fnil) = some (.d (.bool true)) := by simp [binAV, equalAV, h]
@[go_sem] theorem bin_f2 {u v w} (h : eqShape P t = .fn) : binAV P .eql t c (.fn u v w) (.d .fnil) = some (.d (.bool false)) := by simp [binAV, equalAV, h]
@[go_sem] theorem bin_f3 {u v w} (h : eqShape P t = .fn) : binAV P .neq t c (.fn u v w) (.d .fnil) = some (.d (.bool true)) := by simp [binAV, equalAV, h]
@[go_sem] theorem bin_m1 (h : eqShape P t = .map) : binAV P .eql t c (.d .mnil) (.d .mnil) = some (.d (.bool true)) := by simp [binAV, equalAV, h]
@[go_sem] theorem bin_m2 {i} (h : eqShape P t = .map) : binAV P .eql t c (.map i) (.d .mnil) = some (.d (.bool false)) := by simp [binAV, equalAV, h]
@[go_sem] theorem bin_sadd {x y : ByteArray} : binAV P .add t c (.d (.str x)) (.d (.str y)) = if x.size + y.size ≤ big then some (.d (.str (x ++ y))) else none := by
  by_cases h : x.size + y.size ≤ big <;> simp [binAV, binStr, h]
@[go_sem] theorem bin_agg {ks xs ys} (h : eqShape P t = .agg ks) : binAV P .eql t c (.agg xs) (.agg ys) = (match dvs? xs, dvs? ys with | some a, some b => (eqKs ks a b).map fun r => .d (.bool r) | _, _ => none) := by
  simp only [binAV, equalAV, h]
  cases dvs? xs <;> cases dvs? ys <;> simp
@[go_sem] theorem bin_agn {ks xs ys} (h : eqShape P t = .agg ks) : binAV P .neq t c (.agg xs) (.agg ys) = (match dvs? xs, dvs? ys with | some a, some b => (eqKs ks a b).map fun r => .d (.bool !r) | _, _ => none) := by
  simp only [binAV, equalAV, h]
  cases dvs? xs <;> cases dvs? ys <;> simp
@[go_sem] theorem un_not {x : Bool} : unAV .not (.d (.bool x)) = some (.d (.bool !x)) := rfl
@[go_sem] theorem un_neg {n : Int} : unAV .neg (.d (.int k n)) = some (.d (.int k (k.wrap (0 - n)))) := rfl
theorem wrap_i64 {x : Int} (h1 : -9223372036854775808 ≤ x) (h2 : x ≤ 9223372036854775807) : IntKind.i64.wrap x = x := by
  simp [IntKind.wrap, IntKind.signed, IntKind.bits]
  split <;> omega
theorem wrap_u8 {x : Int} (h1 : 0 ≤ x) (h2 : x ≤ 255) : IntKind.u8.wrap x = x := by
  simp [IntKind.wrap, IntKind.signed, IntKind.bits]
  omega
theorem wrap_i32 {x : Int} (h1 : -2147483648 ≤ x) (h2 : x ≤ 2147483647) : IntKind.i32.wrap x = x := by
  simp [IntKind.wrap, IntKind.signed, IntKind.bits]
  split <;> omega
end
@[go_sem] theorem nat_int {k : IntKind} {n : Int} : nat? (.d (.int k n)) = if 0 ≤ n then some n.toNat else none := rfl
@[go_sem] theorem nat_cast {k : IntKind} {n : Nat} : nat? (.d (.int k (n : Int))) = some n := by simp [nat?]
@[go_sem] theorem pick_one {cs : List AV} {o : Nat} : pick false 1 cs o = cs[o]? := rfl
@[go_sem] theorem pick_ag {sz : Nat} {cs : List AV} {o : Nat} : pick true sz cs o = if o + sz ≤ cs.length then some (.agg ((cs.drop o).take sz)) else none := rfl
@[go_sem] theorem eff_eq {v : AV} : eff v = .ret ⟨v, [], 0⟩ := rfl
@[go_sem] theorem conv_ii {s d k k' n} (h : convShape P s d = .ii k) : convAV P s d (.d (.int k' n)) = .ret (.d (.int k (k.wrap n))) := by simp [convAV, h]
@[go_sem] theorem conv_is {s d k' n} (h : convShape P s d = .is) : convAV P s d (.d (.int k' n)) = .ret (.d (.str (Utf8.encode n))) := by simp [convAV, h]
@[go_sem] theorem conv_ss {s d x} (h : convShape P s d = .ss) : convAV P s d (.d (.str x)) = .ret (.d (.str x)) := by simp [convAV, h]
@[go_sem] theorem allLen_nil {α : Type} {k : Nat} : allLen k ([] : List (List α)) = true := rfl
@[go_sem] theorem allLen_cons {α : Type} {k : Nat} {e : List α} {r : List (List α)} : allLen k (e :: r) = (e.length == k && allLen k r) := rfl
@[go_sem] theorem allLen_1 {α β : Type} {f : α → β} {l : List α} : allLen 1 (l.map fun b => [f b]) = true := by simp [allLen]
@[go_sem] theorem allLen_2 {α β : Type} {f g : α → β} {l : List α} : allLen 2 (l.map fun b => [f b, g b]) = true := by simp [allLen]
@[go_sem] theorem allLen_3 {α β : Type} {f g h : α → β} {l : List α} : allLen 3 (l.map fun b => [f b, g b, h b]) = true := by simp [allLen]
@[go_sem] theorem dec_le {a b : Nat} (h : a ≤ b) : decide (a ≤ b) = true := by simp [h]
@[go_sem] theorem dec_lt {a b : Nat} (h : a < b) : decide (a < b) = true := by simp [h]
@[go_sem] theorem dec_nle {a b : Nat} (h : b < a) : decide (a ≤ b) = false := by simp; omega
@[go_sem] theorem dec_nlt {a b : Nat} (h : b ≤ a) : decide (a < b) = false := by simp; omega
@[go_sem] theorem ite_le {α : Type} {a b : Nat} {x y : α} (h : a ≤ b) : (if a ≤ b then x else y) = x := if_pos h
@[go_sem] theorem ite_lt {α : Type} {a b : Nat} {x y : α} (h : a < b) : (if a < b then x else y) = x := if_pos h
@[go_sem] theorem ite_nle {α : Type} {a b : Nat} {x y : α} (h : b < a) : (if a ≤ b then x else y) = y := if_neg (by omega)
@[go_sem] theorem ite_nlt {α : Type} {a b : Nat} {x y : α} (h : b ≤ a) : (if a < b then x else y) = y := if_neg (by omega)
@[go_sem] theorem take_map {α β : Type} {f : α → β} {l : List α} {n : Nat} : (l.map f).take n = (l.take n).map f := List.map_take.symm
@[go_sem] theorem drop_map {α β : Type} {f : α → β} {l : List α} {n : Nat} : (l.map f).drop n = (l.drop n).map f := List.map_drop.symm
@[go_sem] theorem beq_ft : (false == true) = false := rfl
@[go_sem] theorem beq_tf : (true == false) = false := rfl
@[go_sem] theorem bne_tt : (true != true) = false := rfl
@[go_sem] theorem bne_tf : (true != false) = true := rfl
@[go_sem] theorem bne_ft : (false != true) = true := rfl
@[go_sem] theorem bsize {l : List UInt8} : (ByteArray.mk l.toArray).size = l.length := rfl
@[go_sem] theorem nrm_false' : nrm false = DV.norm := rfl
@[go_sem] theorem nrm_true' : nrm true = fun v => v := rfl
@[go_sem] theorem pass1s_map {n p : Bool} {l : List DV} {h : Heap} : (passM.pass1s n p (l.map .d)).run h = some ((l.map (nrm n)).map .d, []) := by
  induction l with
  | nil => rfl
  | cons v r ih => simp only [List.map_cons, pass1s_cons, pass1_d, ih, Option.bind_some, Option.map_some, List.nil_append]
@[go_sem] theorem idsL_map {l : List DV} : AV.idsL (l.map .d) = [] := by
  induction l with
  | nil => rfl
  | cons v r ih => simp only [List.map_cons, AV.idsL, AV.ids, ih, List.append_nil]
@[go_sem] theorem renL_map {ρ : Nat → Nat} {l : List DV} : AV.renL ρ (l.map .d) = l.map .d := by
  induction l with
  | nil => rfl
  | cons v r ih => simp only [List.map_cons, AV.renL, AV.ren, ih]
@[go_sem] theorem range_0 : List.range 0 = [] := rfl
@[go_sem] theorem range_1 : List.range 1 = [0] := rfl
@[go_sem] theorem range_2 : List.range 2 = [0, 1] := rfl
@[go_sem] theorem range_3 : List.range 3 = [0, 1, 2] := rfl
@[go_sem] theorem range_4 : List.range 4 = [0, 1, 2, 3] := rfl
@[go_sem] theorem range_5 : List.range 5 = [0, 1, 2, 3, 4] := rfl
@[go_sem] theorem range_6 : List.range 6 = [0, 1, 2, 3, 4, 5] := rfl
attribute [go_sem] or_false false_or or_true true_or or_self and_self not_or Bool.true_eq_false gt_iff_lt ge_iff_le Classical.not_not decide_eq_true_eq decide_true decide_false Bool.false_eq_true Bool.not_true Bool.not_false Bool.true_and Bool.and_true Bool.false_and Bool.and_false Bool.or_true Bool.true_or Bool.or_false Bool.false_or Bool.and_self Bool.or_self true_and and_true false_and and_false not_true_eq_false not_false_eq_true
  List.length_map List.length_append List.length_take List.length_drop Nat.min_eq_left Nat.min_eq_right List.length_set List.getElem?_cons_zero List.getElem?_cons_succ List.getElem?_nil List.append_nil List.set_cons_zero List.set_cons_succ List.drop_zero List.drop_succ_cons List.take_succ_cons List.take_zero List.take_nil List.drop_nil List.take_take List.take_length Nat.min_self List.getElem?_map List.drop_append_of_le_length
  Option.isSome_some Option.isSome_none Option.isNone_some Option.isNone_none Function.comp_def id_eq List.map_map Nat.le_refl Int.cast_ofNat_Int Int.natCast_zero Nat.add_zero Nat.zero_add Nat.sub_zero if_true if_false Nat.not_lt_zero ne_eq
  AO.cont? AO.live? Cont.row Cont.obj Cont.length Cont.avs Cont.setCells Cont.take Cont.drop Cont.app splice okPart fillA chunks lenOf appendOp copyOp sliceOp boundA slSz sliceCont Cont.ofRows dvss? dvs? okSrc minMax mapFind mapSet reAgg Cont.allLen List.all_cons List.all_nil beq_self_eq_true bne_self_eq_false
 minMax thaw thaw1 thaws thawOk isFrz back place_cons undef polOf envOf wrap_i64 wrap_u8 wrap_i32 bin_quo bin_rem Int.add_sub_cancel Int.sub_add_cancel Int.toNat_natCast Int.natCast_nonneg List.flatMap_cons List.flatMap_nil List.replicate_zero List.replicate_succ List.flatten_cons List.flatten_nil Nat.add_sub_cancel
end Go.Ab
namespace Go.Ab
section
variable {n p : Bool} {h : Heap} {v : DV} {r : List AV} {c : AV}
theorem rl_get {α : Type} {i : Nat} {k : Option AO → AM α} : (AM.get i k).rl h = match h[i]? with | some o => ((k o).rl h).map fun x => (x.1, i :: x.2) | none => none := by
  unfold AM.rl
  simp only [AM.run, AM.log]
  cases h[i]? with
  | none => rfl
  | some o => simp only; cases (k o).run h <;> rfl
@[go_sem] theorem rl_pass1s_nil : (passM.pass1s n p []).rl h = some (([], []), []) := rfl
@[go_sem] theorem rl_pass1s_cons : (passM.pass1s n p (c :: r)).rl h = ((passM.pass1 n p c).rl h).bind fun x => ((passM.pass1s n p r).rl h).map fun y => ((x.1.1 :: y.1.1, x.1.2 ++ y.1.2), x.2 ++ y.2) := by
  simp only [passM.pass1s, rl_bind', rl_ret]
  cases (passM.pass1 n p c).rl h with
  | none => rfl
  | some x => simp only [Option.bind_some]; cases (passM.pass1s n p r).rl h <;> simp
@[go_sem] theorem rl_pass1_d : (passM.pass1 n p (.d v)).rl h = some ((.d (nrm n v), []), []) := rfl
@[go_sem] theorem rl_pass1_ptr {a b c} : (passM.pass1 n false (.ptr a b c)).rl h = some ((.ptr a b c, []), []) := rfl
@[go_sem] theorem rl_pass1_map {a} : (passM.pass1 n p (.map a)).rl h = some ((.map a, []), []) := rfl
@[go_sem] theorem rl_pass1_fn {a b c} : (passM.pass1 n p (.fn a b c)).rl h = some ((.fn a b c, []), []) := rfl
@[go_sem] theorem rl_passM_d : (passM n p (.d v)).rl h = some ((.d (nrm n v), []), []) := rfl
@[go_sem] theorem rl_passM_ptr {a b c} : (passM n false (.ptr a b c)).rl h = some ((.ptr a b c, []), []) := rfl
@[go_sem] theorem rl_passM_map {a} : (passM n p (.map a)).rl h = some ((.map a, []), []) := rfl
@[go_sem] theorem rl_passM_fn {a b c} : (passM n p (.fn a b c)).rl h = some ((.fn a b c, []), []) := rfl
@[go_sem] theorem rl_passM_agg {cs} : (passM n p (.agg cs)).rl h = ((passM.pass1s n p cs).rl h).map fun x => ((.agg x.1.1, x.1.2), x.2) := by
  simp only [passM, rl_bind', rl_ret]; cases (passM.pass1s n p cs).rl h <;> simp
@[go_sem] theorem rl_passAll_nil : (passAll n p []).rl h = some (([], []), []) := rfl
@[go_sem] theorem rl_passAll_cons : (passAll n p (c :: r)).rl h = ((passM n p c).rl h).bind fun x => ((passAll n p r).rl h).map fun y => ((x.1.1 :: y.1.1, x.1.2 ++ y.1.2), x.2 ++ y.2) := by
  simp only [passAll, rl_bind', rl_ret]
  cases (passM n p c).rl h with
  | none => rfl
  | some x => simp only [Option.bind_some]; cases (passAll n p r).rl h <;> simp
@[go_sem] theorem rl_passM_sl {id off len full} : (passM n p (.sl id off len full)).rl h = ((treeM depth p (.sl id off len full)).rl h).map fun x => ((.d (flagged n full x.1.1), x.1.2), x.2) := by
  simp only [passM, rl_bind', rl_ret]; cases (treeM depth p (.sl id off len full)).rl h with
  | none => rfl
  | some x => obtain ⟨⟨v, w⟩, l⟩ := x; cases n <;> cases v <;> simp [flagged]
@[go_sem] theorem rl_pass1_sl {id off len full} : (passM.pass1 n p (.sl id off len full)).rl h = ((treeM depth p (.sl id off len full)).rl h).map fun x => ((.d (flagged n full x.1.1), x.1.2), x.2) := by
  simp only [passM.pass1, rl_bind', rl_ret]; cases (treeM depth p (.sl id off len full)).rl h with
  | none => rfl
  | some x => obtain ⟨⟨v, w⟩, l⟩ := x; cases n <;> cases v <;> simp [flagged]
end
theorem treeM_slq {n p id off len full} : treeM (n + 1) p (.sl id off len full) = AM.obj id fun o =>
    let done (k : Nat) (es : List (List DV)) (w : List (Nat × Option AO)) : AM (DV × List (Nat × Option AO)) :=
      if off + len ≤ es.length then .ret (.fsl ((es.drop off).take len) false false, (id, some (.frz k es)) :: w) else .fail
    match o with
    | .flat k es => done k (es.map (·.map DV.norm)) []
    | .frz k es => done k es []
    | .cells k es => do
      let (es, w) ← treeM.rows (treeM n p) es
      done k es w
    | _ => .fail := by rfl
/-- rows that were read become a slice -/
def slRd (id off len k : Nat) (x : Option ((List (List DV) × List (Nat × Option AO)) × List Nat)) : Option ((DV × List (Nat × Option AO)) × List Nat) := match x with
  | some ((es, w), l) => if off + len ≤ es.length then some ((.fsl ((es.drop off).take len) false false, (id, some (.frz k es)) :: w), id :: l) else none
  | none => none
@[go_sem] theorem slRd_some {id off len k es w l} : slRd id off len k (some ((es, w), l)) = if off + len ≤ es.length then some ((.fsl ((es.drop off).take len) false false, (id, some (.frz k es)) :: w), id :: l) else none := rfl
def rlRows (p : Bool) (n : Nat) (h : Heap) (id off len : Nat) : AO → Option ((DV × List (Nat × Option AO)) × List Nat)
  | .flat k es => slRd id off len k (some ((es.map (·.map DV.norm), []), []))
  | .frz k es => slRd id off len k (some ((es, []), []))
  | .cells k es => slRd id off len k ((treeM.rows (treeM n p) es).rl h)
  | _ => none
@[go_sem] theorem rlRows_flat {p n h id off len k es} : rlRows p n h id off len (.flat k es) = slRd id off len k (some ((es.map (·.map DV.norm), []), [])) := rfl
@[go_sem] theorem rlRows_frz {p n h id off len k es} : rlRows p n h id off len (.frz k es) = slRd id off len k (some ((es, []), [])) := rfl
@[go_sem] theorem rlRows_cells {p n h id off len k es} : rlRows p n h id off len (.cells k es) = slRd id off len k ((treeM.rows (treeM n p) es).rl h) := rfl
@[go_sem] theorem rl_treeM_sl {n p h id off len full} : (treeM (n + 1) p (.sl id off len full)).rl h = match h[id]? with
    | some (some o) => rlRows p n h id off len o
    | _ => none := by
  rw [treeM_slq, rl_obj]
  cases h[id]? with
  | none => rfl
  | some o => cases o with
    | none => rfl
    | some o =>
      simp only
      cases o with
      | flat k es =>
        simp only [rlRows, slRd]
        by_cases hc : off + len ≤ (es.map (·.map DV.norm)).length
        · rw [if_pos hc, if_pos hc]; rfl
        · rw [if_neg hc, if_neg hc]; rfl
      | frz k es =>
        simp only [rlRows, slRd]
        by_cases hc : off + len ≤ es.length
        · rw [if_pos hc, if_pos hc]; rfl
        · rw [if_neg hc, if_neg hc]; rfl
      | cells k es =>
        simp only [rlRows, rl_bind']
        cases (treeM.rows (treeM n p) es).rl h with
        | none => rfl
        | some x =>
          obtain ⟨⟨es', w⟩, l⟩ := x
          simp only [Option.bind_some, slRd]
          by_cases hl : off + len ≤ es'.length
          · rw [if_pos hl, if_pos hl]; simp [rl_ret]
          · rw [if_neg hl, if_neg hl]; simp [rl_fail]
      | _ => rfl
@[go_sem] theorem rl_treeM_d {n p h v} : (treeM (n + 1) p (.d v)).rl h = some ((v.norm, []), []) := rfl
@[go_sem] theorem rl_rows_nil {f h} : (treeM.rows f []).rl h = some (([], []), []) := rfl
@[go_sem] theorem rl_rows_cons {f h c r} : (treeM.rows f (c :: r)).rl h = ((treeM.row f c).rl h).bind fun x => ((treeM.rows f r).rl h).map fun y => ((x.1.1 :: y.1.1, x.1.2 ++ y.1.2), x.2 ++ y.2) := by
  simp only [treeM.rows, rl_bind', rl_ret]
  cases (treeM.row f c).rl h with
  | none => rfl
  | some x => simp only [Option.bind_some]; cases (treeM.rows f r).rl h <;> simp
@[go_sem] theorem rl_row_nil {f h} : (treeM.row f []).rl h = some (([], []), []) := rfl
@[go_sem] theorem rl_row_cons {f h c r} : (treeM.row f (c :: r)).rl h = ((f c).rl h).bind fun x => ((treeM.row f r).rl h).map fun y => ((x.1.1 :: y.1.1, x.1.2 ++ y.1.2), x.2 ++ y.2) := by
  simp only [treeM.row, rl_bind', rl_ret]
  cases (f c).rl h with
  | none => rfl
  | some x => simp only [Option.bind_some]; cases (treeM.row f r).rl h <;> simp
@[go_sem] theorem rl_reach_nil {stop k done h} : (reachM stop k [] done).rl h = some (done, []) := by cases k <;> rfl
theorem rl_reach_cons {stop k i todo done h} : (reachM stop (k + 1) (i :: todo) done).rl h = if done.any (·.1 == i) then (reachM stop k todo done).rl h else
    match h[i]? with | some o => ((reachM stop k (todo ++ idsOf stop i o) (done ++ [(i, o)])).rl h).map fun x => (x.1, i :: x.2) | none => none := by
  simp only [reachM]
  by_cases hd : (done.any (·.1 == i)) = true
  · rw [if_pos hd, if_pos hd]
  · rw [if_neg hd, if_neg hd, rl_get]
attribute [go_sem] rl_reach_cons
@[go_sem] theorem rl_passCall {m args h} : (passCall m args).rl h = (if m.own then some ((args, []), []) else (passAll m.nils m.ptrs args).rl h).bind fun x =>
    ((reachM (fun i => (look x.1.2 i).isSome) fuel (AV.idsL x.1.1) []).rl h).map fun objs =>
      (⟨AV.renL (place (objs.1.map (·.1))) x.1.1, (objs.1.map fun (i, o) => (i, (look x.1.2 i).getD o)).map fun (_, o) => o.map (AO.ren (place (objs.1.map (·.1)))), objs.1.map (·.1), x.1.2⟩, x.2 ++ objs.2) := by
  simp only [passCall]
  by_cases ho : m.own
  · rw [if_pos ho, if_pos ho]; simp only [rl_bind', rl_ret, Option.bind_some]
    cases (reachM _ fuel (AV.idsL args) []).rl h <;> simp
  · rw [if_neg ho, if_neg ho]; simp only [rl_bind', rl_ret]
    cases (passAll m.nils m.ptrs args).rl h with
    | none => rfl
    | some x => obtain ⟨⟨as, w⟩, l⟩ := x; simp only [Option.bind_some]; cases (reachM _ fuel (AV.idsL as) []).rl h <;> simp
@[go_sem] theorem fin_nx {p base v h} : (finCall p base v h).nx = h.length - p.L.length := rfl
end Go.Ab
namespace Go.Ab
variable {P : Program} {C : Ctx} {f : FuncId} {e e' : Env} {h h' : Heap}
def joinK (C : Ctx) (f : FuncId) (E : Env) (H : Heap) (K : Out → Env → Heap → Prop) : Out → Env → Heap → Prop := fun o e h => match o with
  | .normal => keepL (C.vars f) e = E ∧ h = H
  | o => K o e h
theorem x_join {c : Operand} {a b : Code} {K : Out → Env → Heap → Prop} (E : Env) (H : Heap) (hc : Ex P C f (.cond c a b) e h (joinK C f E H K)) (hk : ∀ e', keepL (C.vars f) e' = E → K .normal e' H) : Ex P C f (.cond c a b) e h K := by
  refine Ex.mono hc fun o e' h' r => ?_
  cases o with
  | normal => obtain ⟨r1, r2⟩ := r; subst r2; exact hk _ r1
  | exit i => exact r
  | ret => exact r
theorem x_joined {E : Env} {H : Heap} {K : Out → Env → Heap → Prop} (h1 : keepL (C.vars f) e = E) (h2 : h = H) : joinK C f E H K .normal e h := ⟨h1, h2⟩
theorem x_join_ret {E : Env} {H : Heap} {K : Out → Env → Heap → Prop} (hk : K .ret e h) : joinK C f E H K .ret e h := hk
theorem x_join_exit {E : Env} {H : Heap} {i : Nat} {K : Out → Env → Heap → Prop} (hk : K (.exit i) e h) : joinK C f E H K (.exit i) e h := hk
end Go.Ab
