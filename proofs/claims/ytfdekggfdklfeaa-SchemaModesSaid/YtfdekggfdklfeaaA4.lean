/-
  What the rules say of the machine. The rules are sound: code, operations, calls. Functions' results; calls. Operations that call a function; comparing an empty slice with nil. What an operation asks of the variables and of the objects. Variables and objects after some of a region's operations. A region that draws its order ends as it ends in the order of the text. From the rules of a region that draws its order to its trace, and to the machine. The rules are sound: every judgement that can be derived holds of the machine. From what was shown of the rules to the given row.
-/
import Derived.LoopNIn
import Derived.OrdersIn
import Derived.WalkKit
import Derived.ProofKit
import Derived.OpenShut
import Derived.JoinedCond
import Derived.Test.YtfdekggfdklfeaaA3
set_option linter.all false
set_option linter.unusedVariables false
set_option linter.unusedSimpArgs false
namespace Go.Ab

def exitOf : Out → Exit
  | .normal => .normal
  | .exit i => .exit i
  | .ret => .ret

/-- the state after a piece of code, or after some operations -/
def Post (F : Fz) (m : Mp) (w : World) (h : Heap) (N : Nat) (Q : Env → Heap → Prop) (a' : Act) (w' : World) : Prop :=
  a'.defers = [] ∧ ∃ F' m' e' h', St F' m' w' h' ∧ EnvR F' m' N e' a' ∧ Ev F m w h F' m' w' h' ∧ Q e' h'
def PostX (F : Fz) (m : Mp) (w : World) (h : Heap) (N : Nat) (Q : Out → Env → Heap → Prop) (x : Exit) (a' : Act) (w' : World) : Prop :=
  ∃ o, x = exitOf o ∧ Post F m w h N (Q o) a' w'

/-- what a call does -/
def CallS (P : Program) (G : Nat → Option (List DV)) (k : FuncId) (args : List AV) (hs : Heap) (Q : AV → Heap → Prop) : Prop :=
  ∀ (F : Fz) (m : Mp) (w : World) (xs : Array Value), St F m w hs → GlobR F G → args.length = xs.size → (∀ (i : Nat) v, args[i]? = some v → ∃ x, xs[i]? = some x ∧ RV F m v x) →
    CallsIn Fence.wide 0 P k xs w fun e w' => ∃ x F' m' v hs', e = .returned x ∧ St F' m' w' hs' ∧ RV F' m' v x ∧ Ev F m w hs F' m' w' hs' ∧ (hs.length = 0 → v.scalar = true → hs' = []) ∧ Q v hs'
/-- what a piece of code does; of a loop: what it does from inside -/
def inIn (P : Program) (c : Code) (Q : Exit → Act → World → Prop) (a : Act) (w : World) : Prop := match c with
  | .loop x => ∀ (b : Frame) (k : List Item) (cs : List Frame), b.roundOf = Fence.wide.round → Fence.wide.fn b.fn → Fence.wide.room (cs.length + 1 + 0) →
      ∃ e a' w', Q e a' w' ∧ ArrivesIn (Machine.fenced P Fence.wide) P (lone (b.atR a (.code x :: .inLoop x :: k)) cs w) b k cs e a' w'
  | c => c.wpIn Fence.wide 0 P Q a w
theorem in_wp {P : Program} {c : Code} {Q : Exit → Act → World → Prop} {a : Act} {w : World} (h : inIn P c Q a w) : c.wpIn Fence.wide 0 P Q a w := by
  cases c with
  | loop x =>
    intro b k cs hro hb hr
    obtain ⟨e, a', w', hq, harr⟩ := h b k cs hro hb hr
    exact ⟨e, a', w', hq, .of_steps (.one (fenced_calm hb hr rfl) stepR_loop) harr⟩
  | _ => exact h
/-- the state a function began in -/
structure Ref where
  F : Fz
  m : Mp
  w : World
  h : Heap
structure Ref.ok (R : Ref) (G : Nat → Option (List DV)) (k : Nat) (F : Fz) (m : Mp) (w : World) (h : Heap) : Prop where
  len : R.h.length ≤ k
  dom : ∀ i l, R.m i = some l → i < R.h.length
  glob : GlobR R.F G
  ev : Ev R.F R.m R.w R.h F m w h
abbrev Ref.post (R : Ref) (N : Nat) (Q : Out → Env → Heap → Prop) : Exit → Act → World → Prop := PostX R.F R.m R.w R.h N Q
def ExecS (P : Program) (C : Ctx) (f : FuncId) (c : Code) (e : Env) (h : Heap) (Q : Out → Env → Heap → Prop) : Prop :=
  ∀ (N : Nat) (F : Fz) (m : Mp) (w : World) (a : Act) (R : Ref), codeOk N c = true → St F m w h → EnvR F m N e a → a.defers = [] → R.ok C.glob (C.keepN f) F m w h → inIn P c (R.post N Q) a w
def OpsS (P : Program) (C : Ctx) (f : FuncId) (all : Array Oper) (todo : List Oper) (e : Env) (h : Heap) (Q : Env → Heap → Prop) : Prop :=
  ∀ (N : Nat) (F : Fz) (m : Mp) (w : World) (a : Act) (is : List Nat) (R : Ref), is.map (fun i => all[i]?) = todo.map some → (∀ o ∈ todo, opOk N o = true) → St F m w h → EnvR F m N e a → a.defers = [] → R.ok C.glob (C.keepN f) F m w h →
    wpOpsIn Fence.wide 0 P all (R.post N fun o e h => o = .normal ∧ Q e h) is a w

theorem GlobR.ev {F m w h F' m' w' h' G} (g : GlobR F G) (e : Ev F m w h F' m' w' h') : GlobR F' G := fun i cs hi =>
  let ⟨c, h1, h2⟩ := g i cs hi
  ⟨c, e.fz _ _ h1, fun j x hj => let ⟨v, a, b⟩ := h2 j x hj; ⟨v, a, b.mono e.fz⟩⟩
theorem Ref.ok.g {R : Ref} {G k F m w h} (r : R.ok G k F m w h) : GlobR F G := r.glob.ev r.ev
theorem Ref.ok.step {R : Ref} {G k F m w h F' m' w' h'} (r : R.ok G k F m w h) (e : Ev F m w h F' m' w' h') : R.ok G k F' m' w' h' := ⟨r.len, r.dom, r.glob, r.ev.trans e⟩
theorem Ref.ok.to {R : Ref} {G k F m w h F' m' w' h'} (r : R.ok G k F m w h) (e : Ev R.F R.m R.w R.h F' m' w' h') : R.ok G k F' m' w' h' := ⟨r.len, r.dom, r.glob, e⟩
theorem Ref.here {R : Ref} {G k F m w h N Q a o e} (hs : St F m w h) (he : EnvR F m N e a) (hd : a.defers = []) (hR : R.ok G k F m w h) (hq : Q o e h) : R.post N Q (exitOf o) a w :=
  ⟨o, rfl, hd, F, m, e, h, hs, he, hR.ev, hq⟩
theorem Post.after {F m w h F' m' w' h' N Q a'' w''} (e : Ev F m w h F' m' w' h') (p : Post F' m' w' h' N Q a'' w'') : Post F m w h N Q a'' w'' :=
  let ⟨d, F2, m2, e2, h2, s, r, ev, q⟩ := p; ⟨d, F2, m2, e2, h2, s, r, e.trans ev, q⟩
theorem PostX.after {F m w h F' m' w' h' N Q x a'' w''} (e : Ev F m w h F' m' w' h') (p : PostX F' m' w' h' N Q x a'' w'') : PostX F m w h N Q x a'' w'' :=
  let ⟨o, ho, q⟩ := p; ⟨o, ho, q.after e⟩
theorem PostX.here {F m w h N Q a o e} (hs : St F m w h) (he : EnvR F m N e a) (hd : a.defers = []) (hq : Q o e h) : PostX F m w h N Q (exitOf o) a w :=
  ⟨o, rfl, hd, F, m, e, h, hs, he, Ev.refl _ _ _ _, hq⟩

theorem upon_mono {P : Program} {o : Oper} {a : Act} {n1 n2 : Act → World → Prop} {Q1 Q2 : Exit → Act → World → Prop} (hn : ∀ a w, n1 a w → n2 a w) (hq : ∀ e a w, Q1 e a w → Q2 e a w) : ∀ {r : Result Next}, o.uponIn Fence.wide 0 P a n1 Q1 r → o.uponIn Fence.wide 0 P a n2 Q2 r := by
  intro r hr
  unfold Oper.uponIn at hr ⊢
  split at hr
  · exact hn _ _ hr
  · exact hn _ _ hr
  · exact hn _ _ hr
  · refine ⟨hr.1, hr.2.mono (fun e w he => ?_)⟩
    cases e with
    | returned v => exact hn _ _ he
    | panicked c => exact hq _ _ _ he
    | outgrown =>
      have he : LetsOut Q1 := he
      obtain ⟨a, w, hx⟩ := he
      exact ⟨a, w, hq _ _ _ hx⟩
  · exact ⟨hr.1, hr.2.mono (fun v w h => hn _ _ h)⟩
  · refine ⟨hr.1, hr.2.mono (fun e w he => ?_)⟩
    cases e with
    | returned v => exact hn _ _ he
    | panicked c => exact hq _ _ _ he
    | outgrown =>
      have he : LetsOut Q1 := he
      obtain ⟨a, w, hx⟩ := he
      exact ⟨a, w, hq _ _ _ hx⟩
  · exact hq _ _ _ hr
  · exact hr.elim
theorem ops_mono {P : Program} {all : Array Oper} {Q1 Q2 : Exit → Act → World → Prop} (hq : ∀ e a w, Q1 e a w → Q2 e a w) : ∀ {is : List Nat} {a : Act} {w : World}, wpOpsIn Fence.wide 0 P all Q1 is a w → wpOpsIn Fence.wide 0 P all Q2 is a w
  | [], _, _, h => hq _ _ _ h
  | i :: is, a, w, h => by
    unfold wpOpsIn at h ⊢
    split at h
    · exact ops_mono hq h
    · split at h
      · rename_i hw
        rw [if_pos hw]
        exact ⟨h.1, upon_mono (fun a w h => ops_mono hq h) hq h.2⟩
      · rename_i hw
        rw [if_neg hw]
        exact ⟨h.1, ops_mono hq h.2⟩
/-- one operation that calls nothing -/
theorem ops_value {P : Program} {all : Array Oper} {w w' : World} {a : Act} {o : Oper} {i : Nat} {is : List Nat} {Q : Exit → Act → World → Prop} {v : Value} {res : Next}
    (hi : all[i]? = some o) (hw : Region.wanted o (yielded all a.tmps) = true) (hnd : ∀ c, o.op ≠ .defer c) (hrun : (execOp a.eval o).run P w = .ok res w') (hres : res = .value v ∨ res = .skip ∧ v = Go.undef)
    (hrest : wpOpsIn Fence.wide 0 P all Q is (a.put o.dst v) w') : wpOpsIn Fence.wide 0 P all Q (i :: is) a w := by
  simp only [wpOpsIn, hi, hw, if_true]
  refine ⟨fun _ _ => trivial, ?_⟩
  rw [Oper.semAt_eq _ _ _ hnd, hrun]
  rcases hres with rfl | ⟨rfl, rfl⟩
  · exact hrest
  · exact hrest
theorem not_bool {F m v x} (h : RV F m v x) (hb : ∀ b, v ≠ .d (.bool b)) (ht : v ≠ .top) : ∀ b, x ≠ .bool b := by
  intro b he
  subst he
  cases h with
  | d h => cases h; exact hb _ rfl
  | top => exact ht rfl
theorem wanted_ok {F : Fz} {m : Mp} {N : Nat} {all : Array Oper} {e : Env} {a : Act} {o : Oper} {b : Bool} (hE : EnvR F m N e a) (h : wanted all e o = some b) : Region.wanted o (yielded all a.tmps) = b := by
  unfold wanted at h
  unfold Region.wanted
  split at h
  · rename_i hg
    rw [hg]; cases h; rfl
  · rename_i j want hg
    rw [hg]
    simp only
    split at h
    · cases h
    · rename_i t ht
      have hr := hE.get t
      unfold yielded
      rw [ht]
      simp only [Option.bind_some]
      cases hx : a.tmps[t]? with
      | none =>
        have hu : a.tmps.getD t Go.undef = Go.undef := by simp [hx]
        rw [hu] at hr
        split at h
        · rename_i c hc; rw [hc] at hr; cases hr with | d hr => cases hr
        · cases h
        · cases h; rfl
      | some x =>
        have hu : a.tmps.getD t Go.undef = x := by simp [hx]
        rw [hu] at hr
        split at h
        · rename_i c hc
          rw [hc] at hr
          have := rv_bool hr; subst this
          cases h
          cases c <;> cases want <;> rfl
        · cases h
        · rename_i hnb hnt
          cases h
          have hne := not_bool hr (fun c hc => hnb c hc) (fun hc => hnt hc)
          cases x <;> first | rfl | exact absurd rfl (hne _)
end Go.Ab
namespace Go.Ab
variable {P : Program} {C : Ctx}

theorem s_block {f : FuncId} {i : Nat} {b : Code} {e : Env} {h : Heap} {R Q : Out → Env → Heap → Prop} (hb : ExecS P C f b e h R) (hq : ∀ o e' h', R o e' h' → Q (leave i o) e' h') : ExecS P C f (.block i b) e h Q := by
  intro N F m w a rf hc hS hE hd hR
  refine wpIn_block (wpIn_mono (in_wp (hb N F m w a rf hc hS hE hd hR)) ?_)
  rintro x a' w' ⟨o, rfl, d, F', m', e', h', s, r, ev, q⟩
  have q' := hq o e' h' q
  cases o with
  | normal => exact ⟨.normal, rfl, d, F', m', e', h', s, r, ev, q'⟩
  | ret => exact ⟨.ret, rfl, d, F', m', e', h', s, r, ev, q'⟩
  | exit j =>
    simp only [exitOf, Exit.inBlock]
    by_cases hj : j = i
    · rw [if_pos hj]
      simp only [leave, if_pos hj] at q'
      exact ⟨.normal, rfl, d, F', m', e', h', s, r, ev, q'⟩
    · rw [if_neg hj]
      simp only [leave, if_neg hj] at q'
      exact ⟨.exit j, rfl, d, F', m', e', h', s, r, ev, q'⟩
theorem s_seq {f : FuncId} {x y : Code} {e : Env} {h : Heap} {R Q : Out → Env → Heap → Prop} (hx : ExecS P C f x e h R) (hy : ∀ e' h', R .normal e' h' → ExecS P C f y e' h' Q) (ho : ∀ o e' h', o ≠ .normal → R o e' h' → Q o e' h') : ExecS P C f (.seq x y) e h Q := by
  intro N F m w a rf hc hS hE hd hR
  simp only [codeOk, Bool.and_eq_true] at hc
  refine wpIn_seq (wpIn_mono (in_wp (hx N F m w a rf hc.1 hS hE hd hR)) ?_)
  rintro x' a' w' ⟨o, rfl, d, F', m', e', h', s, r, ev, q⟩
  cases o with
  | normal => exact in_wp (hy e' h' q N F' m' w' a' rf hc.2 s r d (hR.to ev))
  | exit j => exact ⟨.exit j, rfl, d, F', m', e', h', s, r, ev, ho _ e' h' (by simp) q⟩
  | ret => exact ⟨.ret, rfl, d, F', m', e', h', s, r, ev, ho _ e' h' (by simp) q⟩
theorem s_cond {f : FuncId} {c : Operand} {x y : Code} {e : Env} {h : Heap} {t : Bool} {Q : Out → Env → Heap → Prop} (hc : ev C.glob e c = some (.d (.bool t))) (hx : ExecS P C f (if t then x else y) e h Q) : ExecS P C f (.cond c x y) e h Q := by
  intro N F m w a rf hok hS hE hd hR
  simp only [codeOk, Bool.and_eq_true] at hok
  refine wpIn_cond (rv_bool (ev_rv hE hR.g hc)) ?_
  have := in_wp (hx N F m w a rf (by cases t <;> simp [hok.1, hok.2]) hS hE hd hR)
  cases t <;> exact this
/-- a loop, from inside: what is known of the variables where its body begins -/
theorem s_loopI {f : FuncId} {b : Code} {e : Env} {h : Heap} {R Q : Out → Env → Heap → Prop} (hb : ∀ (N : Nat) (F : Fz) (m : Mp) (w : World) (a : Act) (rf : Ref), codeOk N b = true → St F m w h → EnvR F m N e a → a.defers = [] → rf.ok C.glob (C.keepN f) F m w h → b.wpIn Fence.wide 0 P (rf.post N R) a w)
    (hl : ∀ e' h', R .normal e' h' → ExecS P C f (.loop b) e' h' Q) (ho : ∀ o e' h', o ≠ .normal → R o e' h' → Q o e' h') : ExecS P C f (.loop b) e h Q := by
  intro N F m w a rf hc hS hE hd hR b' k cs hro hbf hr
  have hcb : codeOk N b = true := hc
  obtain ⟨x, a₁, w₁, ⟨o, rfl, d, F', m', e', h', s, r, ev, q⟩, harr⟩ := hb N F m w a rf hcb hS hE hd hR b' (.inLoop b :: k) cs hro hbf hr
  cases o with
  | normal =>
    obtain ⟨e₂, a₂, w₂, hq₂, harr₂⟩ := hl e' h' q N F' m' w₁ a₁ rf hc s r d (hR.to ev) b' k cs hro hbf hr
    exact ⟨e₂, a₂, w₂, hq₂, .of_steps (StepsIn.trans harr (.one (fenced_calm hbf hr rfl) stepR_inLoop)) harr₂⟩
  | exit j => exact ⟨_, a₁, w₁, ⟨.exit j, rfl, d, F', m', e', h', s, r, ev, ho _ e' h' (by simp) q⟩, .pass (x := .inLoop b) rfl (fun _ _ => .inl (by simp [exitOf])) harr⟩
  | ret => exact ⟨_, a₁, w₁, ⟨.ret, rfl, d, F', m', e', h', s, r, ev, ho _ e' h' (by simp) q⟩, .pass (x := .inLoop b) rfl (fun _ _ => .inl (by simp [exitOf])) harr⟩
theorem s_loop {f : FuncId} {vs : List Nat} {b : Code} {e : Env} {h : Heap} {R Q : Out → Env → Heap → Prop} (hb : ExecS P C f b (keep vs e) h R) (hl : ∀ e' h', R .normal e' h' → ExecS P C f (.loop b) e' h' Q) (ho : ∀ o e' h', o ≠ .normal → R o e' h' → Q o e' h') : ExecS P C f (.loop b) e h Q :=
  s_loopI (fun N F m w a rf hc hS hE hd hR => in_wp (hb N F m w a rf hc hS (hE.keep vs) hd hR)) hl ho
theorem s_flat {f : FuncId} {c : Code} {o : Out} {e : Env} {h : Heap} {Q : Out → Env → Heap → Prop} (hw : ∀ (Q' : Exit → Act → World → Prop) a w, Q' (exitOf o) a w → inIn P c Q' a w) (hq : Q o e h) : ExecS P C f c e h Q := by
  intro N F m w a rf hc hS hE hd hR
  exact hw _ a w (Ref.here hS hE hd hR hq)
theorem s_region {f : FuncId} {vs : List Nat} {i : Nat} {os : Array Oper} {e : Env} {h : Heap} {Q : Out → Env → Heap → Prop} (hb : OpsS P C f os os.toList (keep vs e) h (Q .normal)) : ExecS P C f (.region i os false) e h Q := by
  intro N F m w a rf hc hS hE hd hR
  have hok : ∀ o ∈ os.toList, opOk N o = true := by
    simp only [codeOk, Array.all_eq_true_iff_forall_mem] at hc
    intro o ho; exact hc o (by simpa using ho)
  have := hb N F m w a (List.range os.size) rf (by
    apply List.ext_getElem?
    intro j
    by_cases hj : j < os.size
    · simp [hj]
    · rw [List.getElem?_eq_none (by simp; omega), List.getElem?_eq_none (by simp; omega)]) hok hS (hE.keep vs) hd hR
  refine wpIn_region (ops_mono ?_ this)
  rintro x a' w' ⟨o, rfl, d, F', m', e', h', s, r, ev, rfl, q⟩
  exact ⟨.normal, rfl, d, F', m', e', h', s, r, ev, q⟩
theorem is_cons {all : Array Oper} {o : Oper} {r : List Oper} {is : List Nat} (h : is.map (fun i => all[i]?) = (o :: r).map some) : ∃ i is', is = i :: is' ∧ all[i]? = some o ∧ is'.map (fun i => all[i]?) = r.map some := by
  cases is with
  | nil => simp at h
  | cons i is' =>
    simp only [List.map_cons, List.cons.injEq] at h
    exact ⟨i, is', rfl, h.1, h.2⟩
theorem opOk_dst {N : Nat} {o : Oper} (h : opOk N o = true) : ∀ t, o.dst = some t → t < N := by
  intro t ht
  simp only [opOk, ht, Bool.and_eq_true, decide_eq_true_eq] at h; exact h.1
theorem opOk_fn {N : Nat} {o : Oper} (h : opOk N o = true) : ∀ fn f c i, o.op = .makeFunc fn f c → fn ≠ .yield i := by
  rintro fn f c i ho rfl
  simp only [opOk, Bool.and_eq_true, noYield, ho, Bool.false_eq_true, and_false] at h
theorem undef_rv {F m} : RV F m undef Go.undef := .tup (fun _ => Go.undef) rfl (by simp) (by simp)
theorem s_nil {f : FuncId} {all : Array Oper} {e : Env} {h : Heap} {Q : Env → Heap → Prop} (hq : Q e h) : OpsS P C f all [] e h Q := by
  intro N F m w a is rf his hok hS hE hd hR
  have : is = [] := by simpa using his
  subst this
  exact Ref.here (o := .normal) hS hE hd hR ⟨rfl, hq⟩
theorem s_skipped {f : FuncId} {all : Array Oper} {o : Oper} {r : List Oper} {e : Env} {h : Heap} {Q : Env → Heap → Prop} (hw : wanted all e o = some false) (hr : OpsS P C f all r (putE e o.dst undef) h Q) : OpsS P C f all (o :: r) e h Q := by
  intro N F m w a is rf his hok hS hE hd hR
  obtain ⟨i, is', rfl, hi, his'⟩ := is_cons his
  simp only [wpOpsIn, hi, wanted_ok hE hw, Bool.false_eq_true, if_false]
  refine ⟨fun _ _ => trivial, hr N F m w _ is' rf his' (fun o ho => hok o (by simp [ho])) hS (hE.put (opOk_dst (hok o (by simp))) undef_rv) ?_ hR⟩
  cases hdst : o.dst <;> simpa [Act.put] using hd
theorem s_prim {f : FuncId} {all : Array Oper} {o : Oper} {r : List Oper} {e : Env} {h : Heap} {x : Eff} {Q : Env → Heap → Prop} (hw : wanted all e o = some true) (hx : (prim P C.glob e h.length o).run h = some x)
    (hr : OpsS P C f all r (putE e o.dst x.v) (put h x.wr) Q) : OpsS P C f all (o :: r) e h Q := by
  intro N F m w a is rf his hok hS hE hd hR
  obtain ⟨i, is', rfl, hi, his'⟩ := is_cons his
  have hmb : m h.length = none := by
    cases hm : m h.length with
    | none => rfl
    | some l => exact absurd (hS.dom _ _ hm) (by omega)
  obtain ⟨res, v', w', hrun, hres, m', hS', hrv, hev, _⟩ := prim_does (opOk_fn (hok o (by simp))) hE hR.g hS (Nat.le_refl _) hmb hx
  have hnd : ∀ c, o.op ≠ .defer c := by
    intro c hc
    obtain ⟨d, op, ty, pos, aft, g⟩ := o
    simp only at hc; subst hc
    simp [prim, AM.run] at hx
  refine ops_value hi (wanted_ok hE hw) hnd hrun hres (hr N F m' w' _ is' rf his' (fun o ho => hok o (by simp [ho])) hS' ((hE.mono hev.fz hev.mp).put (opOk_dst (hok o (by simp))) hrv) ?_ (hR.step hev))
  cases hdst : o.dst <;> simpa [Act.put] using hd
end Go.Ab
namespace Go.Ab
variable {P : Program} {C : Ctx}

theorem result_one {F : Fz} {m : Mp} {w : World} {h : Heap} {N : Nat} {e : Env} {a : Act} {r : ResultVar} {v : AV} (hS : St F m w h) (hE : EnvR F m N e a) (hr : resultOne P e h r = some v) :
    ∃ x, (match r with | .tmp t => pure (a.tmps.getD t Go.undef) | .cell c t => do loadVar t (← asAddr (a.tmps.getD c Go.undef)) : Sem Value).run P w = .ok x w ∧ RV F m v x := by
  cases r with
  | tmp t =>
    simp only [resultOne, Option.some.injEq] at hr; subst hr
    exact ⟨_, rfl, hE.get t⟩
  | cell c t =>
    simp only [resultOne] at hr
    have hx := hE.get c
    generalize hg : a.tmps.getD c Go.undef = xv at hx
    split at hr
    · rename_i id i o he
      rw [he] at hx
      split at hr
      · rename_i ob hob
        cases hc : ob.cont? with
        | none => simp [hc] at hr
        | some kc =>
          obtain ⟨k, ct⟩ := kc
          simp only [hc, Option.bind_some, row_avs] at hr
          cases hrow : ct.avs[i]? with
          | none => simp [hrow] at hr
          | some cs =>
            simp only [hrow, Option.bind_some] at hr
            obtain ⟨l, hl, hobr⟩ := hS.obj id ob hob
            obtain ⟨hk, _, _, _, _, ca, T, fr, hb, hrows⟩ := hobr.rows hS hc
            cases hx with
            | @ptr _ _ _ l' hl' =>
              rw [hl] at hl'; cases hl'
              obtain ⟨x, h1, h2⟩ := load_ok (P := P) hb (hrows.row hrow) hr
              refine ⟨x, ?_, h2⟩
              have e1 : l.o + (i * l.k + o) = l.o + i * k + o := by rw [hk, Nat.add_assoc]
              simp only [hg, Sem.run_bind, asAddr, Sem.run_pure, Result.andThen_ok, e1, h1]
      · cases hr
    · cases hr
theorem result_list {F : Fz} {m : Mp} {w : World} {h : Heap} {N : Nat} {e : Env} {a : Act} (hS : St F m w h) (hE : EnvR F m N e a) : ∀ {rs : List ResultVar} {vs : List AV}, resultAll P e h rs = some vs →
    ∃ xs : List Value, (rs.mapM fun r => (match r with | .tmp t => pure (a.tmps.getD t Go.undef) | .cell c t => do loadVar t (← asAddr (a.tmps.getD c Go.undef)) : Sem Value)).run P w = .ok xs w ∧ xs.length = vs.length ∧ ∀ (i : Nat) v, vs[i]? = some v → ∃ x, xs[i]? = some x ∧ RV F m v x
  | [], vs, h' => by simp only [resultAll, Option.some.injEq] at h'; subst h'; exact ⟨[], rfl, rfl, fun i v hi => by simp at hi⟩
  | r :: rs, vs, h' => by
    simp only [resultAll] at h'
    cases h1 : resultOne P e h r with
    | none => simp [h1] at h'
    | some v =>
      cases h2 : resultAll P e h rs with
      | none => simp [h1, h2] at h'
      | some l =>
        simp only [h1, h2, Option.some.injEq] at h'; subst h'
        obtain ⟨x, x1, x2⟩ := result_one (P := P) hS hE h1
        obtain ⟨xs, y1, y2, y3⟩ := result_list hS hE h2
        refine ⟨x :: xs, ?_, by simp [y2], fun i u hi => ?_⟩
        · rw [List.mapM_cons]
          simp only [Sem.run_bind, x1, Result.andThen_ok, y1, Sem.run_pure]
        · cases i with
          | zero => simp only [List.getElem?_cons_zero, Option.some.injEq] at hi; subst hi; exact ⟨x, rfl, x2⟩
          | succ i => exact y3 i u hi
theorem result_of {F : Fz} {m : Mp} {w : World} {h : Heap} {N : Nat} {e : Env} {a : Act} {fn : Func} {v : AV} (hS : St F m w h) (hE : EnvR F m N e a) (hr : resultOf P fn e h = some v) : ∃ x, (results fn a.tmps).run P w = .ok x w ∧ RV F m v x := by
  unfold resultOf at hr
  cases h1 : resultAll P e h fn.results.toList with
  | none => simp [h1] at hr
  | some vs =>
    simp only [h1, Option.map_some, Option.some.injEq] at hr
    obtain ⟨xs, x1, x2, x3⟩ := result_list (P := P) hS hE h1
    have hrun : (results fn a.tmps).run P w = .ok (if h : xs.toArray.size = 1 then xs.toArray[0] else .tuple xs.toArray) w := by
      have hm : (fn.results.mapM fun r => (match r with | .tmp t => pure (a.tmps.getD t Go.undef) | .cell c t => do loadVar t (← asAddr (a.tmps.getD c Go.undef)) : Sem Value)).run P w = .ok xs.toArray w := by
        rw [Array.mapM_eq_mapM_toList]
        show ((fn.results.toList.mapM fun r => (match r with | .tmp t => pure (a.tmps.getD t Go.undef) | .cell c t => do loadVar t (← asAddr (a.tmps.getD c Go.undef)) : Sem Value)) >>= (fun x => (pure x.toArray : Sem (Array Value)))).run P w = _
        simp only [Sem.run_bind, x1, Result.andThen_ok, Sem.run_pure]
      unfold results
      rw [Sem.run_bind]
      exact (congrArg (fun r => Result.andThen r _) hm).trans rfl
    refine ⟨_, hrun, ?_⟩
    clear hrun h1 x1
    match vs, xs, x2, hr, x3 with
    | [], [], _, hr, _ => subst hr; exact .tup (fun _ => Go.undef) rfl (by simp) (by simp)
    | [u], [x], _, hr, x3 =>
      subst hr
      obtain ⟨x', h2, h3⟩ := x3 0 u rfl
      simp at h2; subst h2; simpa using h3
    | u1 :: u2 :: us, y1 :: y2 :: ys, hlen, hr, x3 =>
      subst hr
      simp only [List.size_toArray, List.length_cons, Nat.add_eq_right, Nat.add_eq_zero_iff, Nat.succ_ne_self, and_false, dif_neg, not_false_eq_true]
      refine .tup (fun i => (y1 :: y2 :: ys).getD i Go.undef) (by simpa using hlen.symm) (fun i c hi => ?_) (fun i c hi => ?_)
      · obtain ⟨x', h2, h3⟩ := x3 i c hi; simp [h2]
      · obtain ⟨x', h2, h3⟩ := x3 i c hi; simpa [h2] using h3
theorem envOf_lookup : ∀ {args : List AV} {i t : Nat} {v}, (envOf args i).lookup t = some v → i ≤ t ∧ args[t - i]? = some v
  | [], i, t, v, h => by simp [envOf] at h
  | a :: r, i, t, v, h => by
    simp only [envOf, lookup_cons] at h
    split at h
    · rename_i ht
      subst ht
      cases h
      exact ⟨Nat.le_refl _, by simp⟩
    · obtain ⟨h1, h2⟩ := envOf_lookup h
      refine ⟨by omega, ?_⟩
      rw [show t - i = (t - (i + 1)) + 1 by omega]
      simpa using h2
theorem s_call {k : FuncId} {fn : Func} {c : Code} {pol : Pol} {args : List AV} {hs : Heap} {R : Out → Env → Heap → Prop} {Q : AV → Heap → Prop} (hf : P.funcs[k]? = some fn) (hb : fn.body = some c) (hok : codeOk fn.ntmps c = true) (hlen : args.length ≤ fn.ntmps ∧ hs.length ≤ C.keepN k)
    (hx : ExecS P C k c (envOf args) hs R) (hr : ∀ o e' h', R o e' h' → (o = .normal ∨ o = .ret) ∧ ∃ v v' hs', resultOf P fn e' h' = some v ∧ (retCall pol hs.length v).run h' = some (v', hs') ∧ Q v' hs') : CallS P C.glob k args hs Q := by
  intro F m w xs hS hG hl hrv
  have hlen1 := hlen.1
  have hE : EnvR F m fn.ntmps (envOf args) { tmps := xs ++ Array.replicate (fn.ntmps - xs.size) Go.undef, defers := [] } := by
    refine ⟨by simp; omega, fun t v ht => ?_⟩
    obtain ⟨_, h2⟩ := envOf_lookup ht
    obtain ⟨x, h3, h4⟩ := hrv t v (by simpa using h2)
    have : (xs ++ Array.replicate (fn.ntmps - xs.size) Go.undef).getD t Go.undef = x := by
      have hlt := (Array.getElem?_eq_some_iff.1 h3).1
      rw [Array.getD_eq_getD_getElem?, Array.getElem?_append, if_pos hlt, h3]; rfl
    simp only [this]; exact h4
  refine callsIn_of_wp hf hb trivial (wpIn_mono (in_wp (hx fn.ntmps F m w _ ⟨F, m, w, hs⟩ hok hS hE rfl ⟨hlen.2, fun i l hi => hS.dom i l hi, hG, Ev.refl _ _ _ _⟩)) ?_)
  rintro e a' w' ⟨o, rfl, d, F', m', e', h', s, r, ev, q⟩
  obtain ⟨ho, v, v', hs', h1, h2, h3⟩ := hr o e' h' q
  obtain ⟨x, hres, hxv⟩ := result_of (P := P) s r h1
  obtain ⟨F2, m2, g1, g2, g3, g4⟩ := ret_ok ev (fun i l hi => hS.dom i l hi) s h2 hxv
  have hfin : a'.defers = [] ∧ ∃ v_1, (results fn a'.tmps).run P w' = .ok v_1 w' ∧ ∃ x F' m' v hs', Ending.returned v_1 = .returned x ∧ St F' m' w' hs' ∧ RV F' m' v x ∧ Ev F m w hs F' m' w' hs' ∧ (hs.length = 0 → v.scalar = true → hs' = []) ∧ Q v hs' :=
    ⟨d, x, hres, x, F2, m2, v', hs', rfl, g1, g2, g3, g4, h3⟩
  rcases ho with rfl | rfl
  · exact hfin
  · exact hfin
end Go.Ab
namespace Go.Ab
variable {P : Program} {C : Ctx}

theorem typeInfo_run {t : TypeId} {i : TypeInfo} {w : World} (h : P.info? t = some i) : (typeInfo t).run P w = .ok i w := by
  simp [typeInfo, h]
theorem callee_ok {F : Fz} {m : Mp} {w : World} {N : Nat} {e : Env} {a : Act} {o : Oper} {tgt : Fn} {args : List AV} (hE : EnvR F m N e a) (hG : GlobR F C.glob) (h : callee P C.glob e o = some (tgt, args)) :
    ∃ (g : Fn) (xs : Array Value), RF m tgt g ∧ args.length = xs.size ∧ (∀ (i : Nat) v, args[i]? = some v → ∃ x, xs[i]? = some x ∧ RV F m v x) ∧ (∀ c, o.op ≠ .defer c) ∧
      ∀ k fn, g = .func k → P.funcs[k]? = some fn → fn.body.isSome = true → fn.name ≠ "runtime.NumGoroutine" → (execOp a.eval o).run P w = .ok (.enter k xs) w := by
  have hcf : ∀ (k : FuncId) (fn : Func) (ys : Array Value), P.funcs[k]? = some fn → fn.body.isSome = true → fn.name ≠ "runtime.NumGoroutine" → (callFunc k ys).run P w = .ok (.enter k ys) w := by
    intro k fn ys hf hb hn
    cases hbb : fn.body with
    | none => rw [hbb] at hb; cases hb
    | some c => simp [callFunc, hf, hn, hbb]
  unfold callee at h
  split at h
  · rename_i f as rest hop
    split at h
    · rename_i fn first cap avs h1 h2
      simp only [Option.some.injEq, Prod.mk.injEq] at h
      obtain ⟨rfl, rfl⟩ := h
      obtain ⟨hl, hrv⟩ := evs_rv hE hG h2
      have hfv := ev_rv hE hG h1
      generalize hgx : a.eval f = fx at hfv
      cases hfv with
      | @fn _ g _ _ cs ds va vb hRF l1 l2 v1 v2 v3 v4 =>
        refine ⟨g, cs ++ as.map a.eval ++ ds, hRF, by simp [hl, l1, l2], ?_, (fun c hc => by rw [hop] at hc; cases hc), ?_⟩
        · intro i v hi
          rw [List.append_assoc, List.getElem?_append] at hi
          rw [Array.append_assoc, Array.getElem?_append]
          split at hi
          · rename_i hlt
            rw [if_pos (by omega)]
            exact ⟨_, v1 i v hi, v2 i v hi⟩
          · rename_i hlt
            rw [if_neg (by omega), ← l1]
            rw [List.getElem?_append] at hi
            rw [Array.getElem?_append]
            split at hi
            · rename_i hlt2
              obtain ⟨op, h3, h4⟩ := hrv _ _ hi
              have hlt3 : i - first.length < (as.map a.eval).size := by
                have := hl; simp at this ⊢; omega
              rw [if_pos hlt3]
              refine ⟨a.eval op, ?_, h4⟩
              simp only [Array.getElem?_toList] at h3
              simp [h3]
            · rename_i hlt2
              have e2 : (as.map a.eval).size = avs.length := by simp [hl]
              rw [if_neg (by omega), e2]
              exact ⟨_, v3 _ v hi, v4 _ v hi⟩
        · intro k fn hg hf hb hn
          subst hg
          simp only [execOp, hop, resolve, Deferred.ofValue, hgx, Sem.run_bind, Sem.run_pure, Result.andThen_ok, invoke]
          exact hcf k fn _ hf hb hn
    · cases h
  · rename_i r name as rest hop
    split at h
    · rename_i t v avs h1 h2
      split at h
      · rename_i mt hmt
        split at h
        · rename_i f pr hfn
          split at h
          · rename_i hpath
            simp only [Bool.and_eq_true] at hpath
            simp only [Option.some.injEq, Prod.mk.injEq] at h
            obtain ⟨rfl, rfl⟩ := h
            obtain ⟨hl, hrv⟩ := evs_rv hE hG h2
            have hfv := ev_rv hE hG h1
            generalize hgx : a.eval r = fx at hfv
            cases hfv with
            | @ifc _ _ x hx =>
              refine ⟨.func f, #[x] ++ as.map a.eval, rfl, by simp [hl]; omega, ?_, (by intro c hc; rw [hop] at hc; cases hc), ?_⟩
              · intro i u hi
                cases i with
                | zero => simp only [List.getElem?_cons_zero, Option.some.injEq] at hi; subst hi; refine ⟨x, ?_, hx⟩; rw [Array.getElem?_append]; simp
                | succ i =>
                  simp only [List.getElem?_cons_succ] at hi
                  obtain ⟨op, h3, h4⟩ := hrv _ _ hi
                  simp only [Array.getElem?_toList] at h3
                  refine ⟨a.eval op, ?_, h4⟩
                  rw [Array.getElem?_append]
                  simp [h3]
              · intro k fn hg hf hb hn
                cases hg
                cases hin : P.info? t with
                | none => simp [hin] at hmt
                | some info =>
                  simp only [hin, Option.bind_some] at hmt
                  have hnm : mt.path.toList = [] := by simpa using hpath.1
                  have hrecv : ∀ wr, (receiverAt t (.val x) pr wr).run P w = .ok x w := by
                    intro wr
                    have hrk := hpath.2
                    unfold recvOk at hrk
                    cases hu : P.underlying t with
                    | none => simp [hu] at hrk
                    | some d =>
                      rw [hu] at hrk
                      simp only [receiverAt, Sem.run_bind, run_underlying hu, Result.andThen_ok]
                      cases d <;> simp only [Bool.not_eq_true'] at hrk <;> subst hrk <;> rfl
                  have hmeth : ∀ n, (method (n + 1) t x name).run P w = .ok (f, x) w := by
                    intro n
                    simp only [method, Sem.run_bind, typeInfo_run hin, Result.andThen_ok, hmt, Sem.run_pure, hnm, follow, hfn, hrecv]
                  have hdep : ∃ n, P.types.size + Made.depth = n + 1 := by
                    refine ⟨P.types.size + Made.depth - 1, ?_⟩
                    have : 0 < Made.depth := by decide
                    omega
                  obtain ⟨n, hdep⟩ := hdep
                  have hargs0 : (#[Value.iface t x] ++ as.map a.eval)[0]? = some (Value.iface t x) := by rw [Array.getElem?_append]; simp
                  have hex : (#[Value.iface t x] ++ as.map a.eval).extract 1 (#[Value.iface t x] ++ as.map a.eval).size = as.map a.eval := by
                    rw [Array.extract_append]; simp
                  simp only [execOp, hop, resolve, hgx, Sem.run_bind, Sem.run_pure, Result.andThen_ok, invoke, hargs0, hex, callMethod, run_program, hdep, hmeth]
                  exact hcf f fn _ hf hb hn
          · cases h
        · cases h
      · cases h
    · cases h
  · cases h

/-- a call's way in, and its way out -/
theorem enter_ok {F : Fz} {m : Mp} {w : World} {N : Nat} {e : Env} {h : Heap} {a : Act} {o : Oper} {tgt : Fn} {args : List AV} {pol : Pol} {p : Pass} {k : FuncId} {fn : Func} {args' : List AV} (hS : St F m w h) (hE : EnvR F m N e a) (hG : GlobR F C.glob)
    (hcal : callee P C.glob e o = some (tgt, args)) (hp : (passCall pol (.fn tgt [] [] :: args)).run h = some p) (ht : tailOf p.args = some (.func k, args')) (hf : P.funcs[k]? = some fn) (hb : fn.body.isSome = true) (hn : fn.name ≠ "runtime.NumGoroutine") :
    ∃ xs : Array Value, (∀ c, o.op ≠ .defer c) ∧ (execOp a.eval o).run P w = .ok (.enter k xs) w ∧ ∃ F', St F' (sub p.L m) w p.heap ∧ GlobR F' C.glob ∧ args'.length = xs.size ∧ (∀ (i : Nat) v, args'[i]? = some v → ∃ x, xs[i]? = some x ∧ RV F' (sub p.L m) v x) ∧
      ∀ {F2 m2 w2 hs v x}, St F2 m2 w2 hs → RV F2 m2 v x → Ev F' (sub p.L m) w p.heap F2 m2 w2 hs → (p.heap.length = 0 → v.scalar = true → hs = []) → ∀ {base}, base ≤ h.length → ((finCall p base v hs).nx ≤ 1 ∨ base = h.length) → m base = none →
        ∃ F3 m3, St F3 m3 w2 (put h (finCall p base v hs).wr) ∧ RV F3 m3 (finCall p base v hs).v x ∧ Ev F m w h F3 m3 w2 (put h (finCall p base v hs).wr) ∧ Grown m m3 (finCall p base v hs).wr := by
  obtain ⟨g, xs, hRF, hlen, hargs, hnd, hrun⟩ := callee_ok (w := w) hE hG hcal
  obtain ⟨F', hFF, t1, hal, hav, hfin⟩ := fin_ok hS hp (xs := fun j => if j = 0 then .func g #[] #[] else xs.getD (j - 1) Go.undef) (by
    intro j v hj
    cases j with
    | zero =>
      simp only [List.getElem?_cons_zero, Option.some.injEq] at hj; subst hj
      exact .fn (fun _ => Go.undef) (fun _ => Go.undef) hRF rfl rfl (by simp) (by simp) (by simp) (by simp)
    | succ j =>
      simp only [List.getElem?_cons_succ] at hj
      obtain ⟨x, h1, h2⟩ := hargs j v hj
      simpa [h1] using h2)
  have hpa : p.args = .fn (.func k) [] [] :: args' := by
    unfold tailOf at ht
    split at ht
    · rename_i t r' heq; cases ht; exact heq
    · cases ht
  have hg : g = .func k := by
    have := hav 0 (.fn (.func k) [] []) (by rw [hpa]; rfl)
    simp only [if_true] at this
    cases this with
    | fn va vb h1 => cases g <;> simp_all [RF]
  subst hg
  have hGF : GlobR F' C.glob := fun i cs hi => let ⟨c, h1, h2⟩ := hG i cs hi; ⟨c, hFF _ _ h1, fun j x hj => let ⟨v, a, b⟩ := h2 j x hj; ⟨v, a, b.mono hFF⟩⟩
  refine ⟨xs, hnd, hrun k fn rfl hf hb hn, F', t1, hGF, ?_, ?_, hfin⟩
  · rw [hpa] at hal; simp at hal; omega
  · intro j v hj
    have h1 := hav (j + 1) v (by rw [hpa]; simpa using hj)
    have hlt : j < xs.size := by
      have := (List.getElem?_eq_some_iff.1 hj).1
      rw [hpa] at hal; simp at hal; omega
    refine ⟨xs[j], by simp [hlt], ?_⟩
    simpa [hlt] using h1

theorem s_opcall {f : FuncId} {all : Array Oper} {o : Oper} {r : List Oper} {e : Env} {h : Heap} {tgt : Fn} {args : List AV} {pol : Pol} {p : Pass} {k : FuncId} {fn : Func} {args' : List AV} {R : AV → Heap → Prop} {Q : Env → Heap → Prop}
    (hw : wanted all e o = some true) (hcal : callee P C.glob e o = some (tgt, args)) (hp : (passCall pol (.fn tgt [] [] :: args)).run h = some p) (ht : tailOf p.args = some (.func k, args'))
    (hf : P.funcs[k]? = some fn) (hb : fn.body.isSome = true) (hn : fn.name ≠ "runtime.NumGoroutine") (hc : CallS P C.glob k args' p.heap R)
    (hr : ∀ v hs, R v hs → OpsS P C f all r (putE e o.dst (finCall p h.length v hs).v) (put h (finCall p h.length v hs).wr) Q) : OpsS P C f all (o :: r) e h Q := by
  intro N F m w a is rf his hok hS hE hd hR
  obtain ⟨i, is', rfl, hi, his'⟩ := is_cons his
  have hmb : m h.length = none := by
    cases hm : m h.length with
    | none => rfl
    | some l => exact absurd (hS.dom _ _ hm) (by omega)
  obtain ⟨xs, hnd, hrun, F', t1, hGF, hl, hxs, hfin⟩ := enter_ok (w := w) hS hE hR.g hcal hp ht hf hb hn
  simp only [wpOpsIn, hi, wanted_ok hE hw, if_true]
  refine ⟨fun _ _ => trivial, ?_⟩
  rw [Oper.semAt_eq _ _ _ hnd, hrun, Oper.uponIn_enter]
  refine ⟨(fun hx => by cases hx), (hc F' (sub p.L m) w xs t1 hGF hl hxs).mono ?_⟩
  rintro e' w' ⟨x, F2, m2, v, hs, rfl, s2, hv, ev2, hsc, hq⟩
  obtain ⟨F3, m3, s3, hv3, ev3, _⟩ := hfin s2 hv ev2 hsc (Nat.le_refl _) (.inr rfl) hmb
  exact hr v hs hq N F3 m3 w' (a.put o.dst x) is' rf his' (fun o ho => hok o (by simp [ho])) s3 ((hE.mono ev3.fz ev3.mp).put (opOk_dst (hok o (by simp))) hv3) (by cases hdst : o.dst <;> simpa [Act.put] using hd) (hR.step ev3)

theorem s_nilq {f : FuncId} {all : Array Oper} {o : Oper} {r : List Oper} {e : Env} {h : Heap} {op : BinOp} {t yt : TypeId} {x y : Operand} {full : Bool} {Q : Env → Heap → Prop} (hw : wanted all e o = some true) (ho : o.op = .binOp op t x y yt) (hop : (op = .eql ∨ op = .neq) ∧ eqShape P t = .slice)
    (hx : ev C.glob e x = some (.d (.fsl [] false full))) (hy : ev C.glob e y = some (.d .snil))
    (h1 : OpsS P C f all r (putE e o.dst (.d (.bool true))) h Q) (h2 : OpsS P C f all r (putE e o.dst (.d (.bool false))) h Q) : OpsS P C f all (o :: r) e h Q := by
  intro N F m w a is rf his hok hS hE hd hR
  obtain ⟨i, is', rfl, hi, his'⟩ := is_cons his
  have hxr := ev_rv hE hR.g hx
  have hyr := ev_rv hE hR.g hy
  obtain ⟨b, hrun⟩ : ∃ b, (execOp a.eval o).run P w = .ok (.value (.bool b)) w := by
    have hs := eqShape_cases (P := P) t
    rw [hop.2] at hs
    obtain ⟨el, hs⟩ := hs
    have fx := rv_form hxr
    have fy := rv_form hyr
    simp only [FormOf] at fx fy
    obtain ⟨p, n, c, fx, -⟩ := fx
    have h1 : ∀ d, ∃ r, (Op.equalIn (d + 9) t (.slice p n c) (.slice none 0 0)).run P w = .ok r w := fun d => by
      cases p <;> exact ⟨_, by unfold Op.equalIn; rw [Sem.run_bind, underlying_run hs]; rfl⟩
    obtain ⟨r, h1⟩ := h1 9991
    have h2 : (Op.equal t (.slice p n c) (.slice none 0 0)).run P w = .ok r w := h1
    have hg : ∀ op, (eqGuard op t x y (.slice p n c) (.slice none 0 0)).run P w = .ok () w := fun _ => guard_other (.inl (by simp)) (.inl (by simp))
    rcases hop.1 with rfl | rfl
    · exact ⟨r, by simp only [execOp, ho, fx, fy, Sem.run_bind, hg, Result.andThen_ok, binOp, h2, Sem.run_pure]⟩
    · exact ⟨!r, by simp only [execOp, ho, fx, fy, Sem.run_bind, hg, Result.andThen_ok, binOp, h2, Sem.run_pure]⟩
  have hnd : ∀ c, o.op ≠ .defer c := by rw [ho]; intro c hc; cases hc
  refine ops_value hi (wanted_ok hE hw) hnd hrun (.inl rfl) ?_
  have hput : ∀ b, EnvR F m N (putE e o.dst (.d (.bool b))) (a.put o.dst (.bool b)) := fun b => hE.put (opOk_dst (hok o (by simp))) (.d (.bool b))
  have hdd : (a.put o.dst (.bool b)).defers = [] := by cases hdst : o.dst <;> simpa [Act.put] using hd
  cases b
  · exact h2 N F m w _ is' rf his' (fun o ho => hok o (by simp [ho])) hS (hput _) hdd hR
  · exact h1 N F m w _ is' rf his' (fun o ho => hok o (by simp [ho])) hS (hput _) hdd hR
end Go.Ab
namespace Go.Ab
variable {P : Program} {C : Ctx}

theorem AM.same {α : Type} {h h' : Heap} : ∀ {q : AM α}, (∀ x ∈ q.log h, h'[x]? = h[x]?) → q.run h' = q.run h
  | .ret _, _ => rfl
  | .fail, _ => rfl
  | .get i k, hs => by
    simp only [AM.run, AM.log] at hs ⊢
    cases hi : h[i]? with
    | none =>
      rw [hi] at hs
      rw [hs i (by simp), hi]
    | some o =>
      rw [hi] at hs
      rw [hs i (by simp), hi]
      exact AM.same (q := k o) (fun x hx => hs x (by simp [hx]))

theorem ev_same {G : Nat → Option (List DV)} {e e' : Env} {x : Operand} (h : ∀ t, x = .tmp t → e'.lookup t = e.lookup t) : ev G e' x = ev G e x := by
  cases x with
  | tmp t => simp only [ev, Env.get, h t rfl]
  | _ => rfl
theorem evs_same {G : Nat → Option (List DV)} {e e' : Env} : ∀ {xs : List Operand}, (∀ x ∈ xs, ev G e' x = ev G e x) → evs G e' xs = evs G e xs
  | [], _ => rfl
  | x :: r, h => by simp only [evs, h x (by simp), evs_same (xs := r) (fun y hy => h y (by simp [hy]))]
theorem evAll_same {G : Nat → Option (List DV)} {e e' : Env} : ∀ {xs : List (Nat × Operand)}, (∀ x ∈ xs, ev G e' x.2 = ev G e x.2) → evAll G e' xs = evAll G e xs
  | [], _ => rfl
  | (i, x) :: r, h => by simp only [evAll, h (i, x) (by simp), evAll_same (xs := r) (fun y hy => h y (by simp [hy]))]

theorem names_ev {G : Nat → Option (List DV)} {e e' : Env} {o : Oper} (h : ∀ t ∈ namesOf o, e'.lookup t = e.lookup t) : ∀ x ∈ o.op.operands.toList, ev G e' x = ev G e x := by
  intro x hx
  refine ev_same fun t ht => h t ?_
  subst ht
  exact List.mem_filterMap.2 ⟨.tmp t, hx, rfl⟩
theorem prim_same {G : Nat → Option (List DV)} {e e' : Env} {base : Nat} {o : Oper} (h : ∀ t ∈ namesOf o, e'.lookup t = e.lookup t) : prim P G e' base o = prim P G e base o := by
  have h := names_ev (G := G) h
  obtain ⟨d, op, ty, pos, aft, g⟩ := o
  cases op with
  | build t ps =>
    have := evAll_same (G := G) (e := e) (e' := e') (xs := ps.toList) (fun x hx => h x.2 (by simp only [Op.operands, List.mem_map]; exact ⟨x, hx, rfl⟩))
    simp only [prim, this]
  | buildSlice t n ps =>
    have := evAll_same (G := G) (e := e) (e' := e') (xs := ps.toList) (fun x hx => h x.2 (by simp only [Op.operands, List.mem_map]; exact ⟨x, hx, rfl⟩))
    simp only [prim, this]
  | makeFunc fn first cap =>
    have h1 := evs_same (G := G) (e := e) (e' := e') (xs := first.toList) (fun x hx => h x (by simp only [Op.operands, Array.toList_append, List.mem_append]; exact .inl hx))
    have h2 := evs_same (G := G) (e := e) (e' := e') (xs := cap.toList) (fun x hx => h x (by simp only [Op.operands, Array.toList_append, List.mem_append]; exact .inr hx))
    simp only [prim, h1, h2]
  | slice t x lo hi mx =>
    have hx := h x (by simp [Op.operands])
    have h1 : ∀ y, lo = some y → ev G e' y = ev G e y := fun y hy => h y (by simp [Op.operands, hy])
    have h2 : ∀ y, hi = some y → ev G e' y = ev G e y := fun y hy => h y (by simp [Op.operands, hy])
    have h3 : ∀ y, mx = some y → ev G e' y = ev G e y := fun y hy => h y (by simp [Op.operands, hy])
    cases lo <;> cases hi <;> cases mx <;> simp_all [prim]
  | call c =>
    obtain ⟨cal, args, ats⟩ := c
    cases cal with
    | builtin b =>
      have := evs_same (G := G) (e := e) (e' := e') (xs := args.toList) (fun x hx => h x (by simp only [Op.operands, Call.operands, Array.toList_append, List.mem_append]; exact .inr hx))
      simp only [prim, this]
    | _ => rfl
  | next it b =>
    cases b
    · rfl
    · simp only [Op.operands, List.mem_cons, List.not_mem_nil, or_false, forall_eq] at h
      simp only [prim, h]
  | _ =>
    first
    | rfl
    | (simp only [Op.operands, List.mem_cons, List.not_mem_nil, or_false, forall_eq_or_imp, forall_eq] at h
       simp only [prim, h])
theorem callee_same {G : Nat → Option (List DV)} {e e' : Env} {o : Oper} (h : ∀ t ∈ namesOf o, e'.lookup t = e.lookup t) : callee P G e' o = callee P G e o := by
  have h := names_ev (G := G) h
  obtain ⟨d, op, ty, pos, aft, g⟩ := o
  cases op with
  | call c =>
    obtain ⟨cal, args, ats⟩ := c
    cases cal with
    | builtin b => rfl
    | value f =>
      have h1 := evs_same (G := G) (e := e) (e' := e') (xs := args.toList) (fun x hx => h x (by simp only [Op.operands, Call.operands, Array.toList_append, List.mem_append]; exact .inr hx))
      have h2 := h f (by simp [Op.operands, Call.operands])
      simp only [callee, h1, h2]
    | invoke r nm =>
      have h1 := evs_same (G := G) (e := e) (e' := e') (xs := args.toList) (fun x hx => h x (by simp only [Op.operands, Call.operands, Array.toList_append, List.mem_append]; exact .inr hx))
      have h2 := h r (by simp [Op.operands, Call.operands])
      simp only [callee, h1, h2]
  | _ => rfl
theorem wanted_same {all : Array Oper} {e e' : Env} {o : Oper} (h : ∀ t ∈ guardTmp all o, e'.lookup t = e.lookup t) : wanted all e' o = wanted all e o := by
  unfold wanted
  unfold guardTmp at h
  cases hg : o.guard with
  | none => rfl
  | some jw =>
    obtain ⟨j, want⟩ := jw
    rw [hg] at h
    simp only at h ⊢
    cases ht : (all[j]?).bind (·.dst) with
    | none => rfl
    | some t =>
      rw [ht] at h
      have : e'.get t = e.get t := by simp only [Env.get, h t (by simp)]
      simp only [this]

/-- what one operation does wherever its variables and its objects are as they were -/
def OpDoes (P : Program) (G : Nat → Option (List DV)) (all : Array Oper) (base i : Nat) (o : Oper) (e : Env) (h : Heap) (v : AV) (wr : List (Nat × Option AO)) (rd : List Nat) : Prop :=
  ∀ (N : Nat) (F : Fz) (m : Mp) (w : World) (a : Act) (e' : Env) (h' : Heap) (Q : Exit → Act → World → Prop) (K : Act → World → Prop),
    opOk N o = true → (∀ t ∈ namesOf o ++ guardTmp all o, e'.lookup t = e.lookup t) → (∀ x ∈ rd, h'[x]? = h[x]?) → base + i ≤ h'.length → St F m w h' → GlobR F G → EnvR F m N e' a → m (base + i) = none →
    (∀ F' m' w' x, St F' m' w' (put h' wr) → RV F' m' v x → Ev F m w h' F' m' w' (put h' wr) → Grown m m' wr → K (a.put o.dst x) w') → wpOpIn Fence.wide 0 P all Q i K a w

theorem does_skipped {all : Array Oper} {base i : Nat} {o : Oper} {e : Env} {h : Heap} (hi : all[i]? = some o) (hw : wanted all e o = some false) : OpDoes P C.glob all base i o e h undef [] [] := by
  intro N F m w a e' h' Q K hok he _ _ hS hG hE _ hK
  have hw' : wanted all e' o = some false := by rw [wanted_same (fun t ht => he t (by simp [ht])), hw]
  unfold wpOpIn
  simp only [hi, wanted_ok hE hw', Bool.false_eq_true, if_false]
  exact ⟨fun _ _ => trivial, hK F m w _ hS undef_rv (Ev.refl _ _ _ _) grown_same⟩
theorem does_prim {all : Array Oper} {base i : Nat} {o : Oper} {e : Env} {h : Heap} {x : Eff} (hi : all[i]? = some o) (hw : wanted all e o = some true) (hx : (prim P C.glob e (base + i) o).run h = some x) :
    OpDoes P C.glob all base i o e h x.v x.wr ((prim P C.glob e (base + i) o).log h) := by
  intro N F m w a e' h' Q K hok he hrd hb hS hG hE hm hK
  have hw' : wanted all e' o = some true := by rw [wanted_same (fun t ht => he t (by simp [ht])), hw]
  have hx' : (prim P C.glob e' (base + i) o).run h' = some x := by rw [prim_same (fun t ht => he t (by simp [ht])), AM.same hrd, hx]
  obtain ⟨res, v', w', hrun, hres, m', hS', hrv, hev, hgr⟩ := prim_does (opOk_fn hok) hE hG hS hb hm hx'
  have hnd : ∀ c, o.op ≠ .defer c := by
    intro c hc
    obtain ⟨d, op, ty, pos, aft, g⟩ := o
    simp only at hc; subst hc
    simp [prim, AM.run] at hx
  unfold wpOpIn
  simp only [hi, wanted_ok hE hw', if_true]
  refine ⟨fun _ _ => trivial, ?_⟩
  rw [Oper.semAt_eq _ _ _ hnd, hrun]
  rcases hres with rfl | ⟨rfl, rfl⟩
  · exact hK F m' w' _ hS' hrv hev hgr
  · exact hK F m' w' _ hS' hrv hev hgr
theorem does_call {all : Array Oper} {base i : Nat} {o : Oper} {e : Env} {h : Heap} {tgt : Fn} {args : List AV} {pol : Pol} {p : Pass} {k : FuncId} {fn : Func} {args' : List AV} {v : AV} {hs : Heap} (hi : all[i]? = some o)
    (hw : wanted all e o = some true) (hcal : callee P C.glob e o = some (tgt, args)) (hp : (passCall pol (.fn tgt [] [] :: args)).run h = some p) (ht : tailOf p.args = some (.func k, args'))
    (hf : P.funcs[k]? = some fn) (hb : fn.body.isSome = true) (hn : fn.name ≠ "runtime.NumGoroutine") (hc : CallS P C.glob k args' p.heap (fun v' hs' => v' = v ∧ hs' = hs)) (hnx : (finCall p (base + i) v hs).nx ≤ 1) :
    OpDoes P C.glob all base i o e h (finCall p (base + i) v hs).v (finCall p (base + i) v hs).wr ((passCall pol (.fn tgt [] [] :: args)).log h) := by
  intro N F m w a e' h' Q K hok he hrd hbase hS hG hE hm hK
  have hw' : wanted all e' o = some true := by rw [wanted_same (fun t ht => he t (by simp [ht])), hw]
  have hcal' : callee P C.glob e' o = some (tgt, args) := by rw [callee_same (fun t ht => he t (by simp [ht])), hcal]
  have hp' : (passCall pol (.fn tgt [] [] :: args)).run h' = some p := by rw [AM.same hrd, hp]
  obtain ⟨xs, hnd, hrun, F', t1, hGF, hl, hxs, hfin⟩ := enter_ok (w := w) hS hE hG hcal' hp' ht hf hb hn
  unfold wpOpIn
  simp only [hi, wanted_ok hE hw', if_true]
  refine ⟨fun _ _ => trivial, ?_⟩
  rw [Oper.semAt_eq _ _ _ hnd, hrun, Oper.uponIn_enter]
  refine ⟨(fun hx => by cases hx), (hc F' (sub p.L m) w xs t1 hGF hl hxs).mono ?_⟩
  rintro e' w' ⟨x, F2, m2, v, hs, rfl, s2, hv, ev2, hsc, rfl, rfl⟩
  obtain ⟨F3, m3, s3, hv3, ev3, hgr⟩ := hfin s2 hv ev2 hsc hbase (.inl hnx) hm
  exact hK F3 m3 w' x s3 hv3 ev3 hgr
end Go.Ab
namespace Go.Ab

structure Stp where
  v : AV
  wr : List (Nat × Option AO)
  rd : List Nat
def Stp.ids (s : Stp) : List Nat := s.wr.map (·.1)

def envAt (all : Array Oper) (e : Env) (tr : Nat → Stp) (S : Nat → Bool) : Nat → Env
  | 0 => e
  | n + 1 => if S n then putE (envAt all e tr S n) ((all[n]?).bind (·.dst)) (tr n).v else envAt all e tr S n
def heapAt (h : Heap) (tr : Nat → Stp) (S : Nat → Bool) : Nat → Heap
  | 0 => h
  | n + 1 => if S n then put (heapAt h tr S n) (tr n).wr else heapAt h tr S n

theorem putE_lookup {e : Env} {d : Option Nat} {v : AV} {t : Nat} : (putE e d v).lookup t = if d = some t then some v else e.lookup t := by
  cases d with
  | none => simp [putE]
  | some d =>
    simp only [putE, lookup_cons, Option.some.injEq]
    by_cases h : t = d
    · simp [h]
    · simp [h, Ne.symm h]
theorem envAt_congr {all : Array Oper} {e : Env} {tr tr' : Nat → Stp} {S S' : Nat → Bool} : ∀ {n : Nat}, (∀ j, j < n → tr j = tr' j ∧ S j = S' j) → envAt all e tr S n = envAt all e tr' S' n
  | 0, _ => rfl
  | n + 1, h => by
    simp only [envAt, envAt_congr (n := n) (fun j hj => h j (by omega)), (h n (by omega)).1, (h n (by omega)).2]
theorem heapAt_congr {h : Heap} {tr tr' : Nat → Stp} {S S' : Nat → Bool} : ∀ {n : Nat}, (∀ j, j < n → tr j = tr' j ∧ S j = S' j) → heapAt h tr S n = heapAt h tr' S' n
  | 0, _ => rfl
  | n + 1, hh => by
    simp only [heapAt, heapAt_congr (n := n) (fun j hj => hh j (by omega)), (hh n (by omega)).1, (hh n (by omega)).2]
theorem envAt_stop {all : Array Oper} {e : Env} {tr : Nat → Stp} {S : Nat → Bool} {i : Nat} : ∀ {n : Nat}, i ≤ n → (∀ j, i ≤ j → j < n → S j = false) → envAt all e tr S n = envAt all e tr S i
  | 0, hi, _ => by have : i = 0 := by omega
                   rw [this]
  | n + 1, hi, h => by
    by_cases hn : i = n + 1
    · rw [hn]
    · simp only [envAt, h n (by omega) (by omega)]
      exact envAt_stop (by omega) (fun j h1 h2 => h j h1 (by omega))
theorem heapAt_stop {h : Heap} {tr : Nat → Stp} {S : Nat → Bool} {i : Nat} : ∀ {n : Nat}, i ≤ n → (∀ j, i ≤ j → j < n → S j = false) → heapAt h tr S n = heapAt h tr S i
  | 0, hi, _ => by have : i = 0 := by omega
                   rw [this]
  | n + 1, hi, hh => by
    by_cases hn : i = n + 1
    · rw [hn]
    · simp only [heapAt, hh n (by omega) (by omega)]
      exact heapAt_stop (by omega) (fun j h1 h2 => hh j h1 (by omega))
/-- the first i operations, among all -/
theorem envAt_below {all : Array Oper} {e : Env} {tr : Nat → Stp} {i n : Nat} (hi : i ≤ n) : envAt all e tr (fun j => decide (j < i)) n = envAt all e tr (fun _ => true) i := by
  rw [envAt_stop hi (fun j h1 h2 => by simp; omega)]
  exact envAt_congr (fun j hj => ⟨rfl, by simp [hj]⟩)
theorem heapAt_below {h : Heap} {tr : Nat → Stp} {i n : Nat} (hi : i ≤ n) : heapAt h tr (fun j => decide (j < i)) n = heapAt h tr (fun _ => true) i := by
  rw [heapAt_stop hi (fun j h1 h2 => by simp; omega)]
  exact heapAt_congr (fun j hj => ⟨rfl, by simp [hj]⟩)
theorem envAt_lookup {all : Array Oper} {e : Env} {tr : Nat → Stp} {S S' : Nat → Bool} {t : Nat} : ∀ {n : Nat}, (∀ j, j < n → S j ≠ S' j → (all[j]?).bind (·.dst) ≠ some t) → (envAt all e tr S n).lookup t = (envAt all e tr S' n).lookup t
  | 0, _ => rfl
  | n + 1, h => by
    have ih := envAt_lookup (all := all) (e := e) (tr := tr) (S := S) (S' := S') (t := t) (n := n) (fun j hj => h j (by omega))
    have hn := h n (by omega)
    simp only [envAt]
    cases h1 : S n <;> cases h2 : S' n
    · simpa using ih
    · rw [h1, h2] at hn
      simp only [Bool.false_eq_true, if_false, if_true, putE_lookup, hn (by simp)]
      exact ih
    · rw [h1, h2] at hn
      simp only [Bool.false_eq_true, if_false, if_true, putE_lookup, hn (by simp)]
      exact ih
    · simp only [if_true, putE_lookup, ih]
theorem envAt_add {all : Array Oper} {e : Env} {tr : Nat → Stp} {S : Nat → Bool} {i t : Nat} (hi : S i = false) : ∀ {n : Nat}, i < n → (∀ j, i < j → j < n → S j = true → ∀ d, (all[i]?).bind (·.dst) = some d → (all[j]?).bind (·.dst) ≠ some d) →
    (envAt all e tr (fun j => S j || j == i) n).lookup t = (putE (envAt all e tr S n) ((all[i]?).bind (·.dst)) (tr i).v).lookup t
  | 0, hn, _ => by omega
  | n + 1, hn, h => by
    by_cases he : i = n
    · subst he
      simp only [envAt, hi, Bool.false_or, beq_self_eq_true, if_true, Bool.false_eq_true, if_false, putE_lookup]
      rw [envAt_congr (S' := S) (tr' := tr) (fun j hj => ⟨rfl, by have : (j == i) = false := by simp; omega
                                                                  simp [this]⟩)]
    · have ih := envAt_add (all := all) (e := e) (tr := tr) (S := S) (i := i) (t := t) hi (n := n) (by omega) (fun j h1 h2 => h j h1 (by omega))
      have hni : (n == i) = false := by simp; omega
      have hd := h n (by omega) (by omega)
      simp only [envAt, hni, Bool.or_false]
      cases hS : S n
      · simpa using ih
      · simp only [if_true, putE_lookup] at ih ⊢
        rw [ih]
        by_cases h1 : (all[n]?).bind (·.dst) = some t
        · by_cases h2 : (all[i]?).bind (·.dst) = some t
          · exact absurd h1 (hd hS t h2)
          · simp [h1, h2]
        · simp [h1]

theorem put_ids : ∀ {wr : List (Nat × Option AO)} {h : Heap}, (∀ p ∈ wr, p.1 < h.length) → (put h wr).length = h.length := fun h => (put_mem h).1
theorem put_set : ∀ {wr : List (Nat × Option AO)} {h : Heap} {i : Nat} {o : Option AO}, (∀ p ∈ wr, p.1 < h.length) → i ∉ wr.map (·.1) → put (h.set i o) wr = (put h wr).set i o
  | [], _, _, _, _, _ => rfl
  | (j, u) :: r, h, i, o, hb, hi => by
    simp only [List.map_cons, List.mem_cons, not_or] at hi
    have hj := hb (j, u) (by simp)
    simp only [put, List.length_set, if_pos hj]
    rw [List.set_comm _ _ hi.1]
    exact put_set (fun p hp => by rw [List.length_set]; exact hb p (by simp [hp])) hi.2
theorem put_swap : ∀ {a b : List (Nat × Option AO)} {h : Heap}, (∀ p ∈ a, p.1 < h.length) → (∀ p ∈ b, p.1 < h.length) → (∀ x ∈ b.map (·.1), x ∉ a.map (·.1)) → put (put h a) b = put (put h b) a
  | [], _, _, _, _, _ => rfl
  | (j, u) :: r, b, h, ha, hb, hd => by
    have hj := ha (j, u) (by simp)
    simp only [put, if_pos hj]
    rw [if_pos (by rw [put_ids hb]; exact hj)]
    rw [put_swap (a := r) (fun p hp => by rw [List.length_set]; exact ha p (by simp [hp])) (fun p hp => by rw [List.length_set]; exact hb p hp) (fun x hx hr => hd x hx (by simp at hr ⊢; exact .inr hr))]
    rw [put_set hb (fun hin => hd j hin (by simp))]
theorem put_at : ∀ {wr : List (Nat × Option AO)} {h h' : Heap} {x : Nat}, h.length = h'.length → (∀ p ∈ wr, p.1 < h.length) → h[x]? = h'[x]? → (put h wr)[x]? = (put h' wr)[x]?
  | [], _, _, _, _, _, hx => hx
  | (j, u) :: r, h, h', x, hl, hb, hx => by
    have hj := hb (j, u) (by simp)
    simp only [put, if_pos hj, if_pos (hl ▸ hj)]
    refine put_at (by simpa using hl) (fun p hp => by rw [List.length_set]; exact hb p (by simp [hp])) ?_
    simp only [List.getElem?_set, hx, hl]
theorem put_not {wr : List (Nat × Option AO)} {h : Heap} {x : Nat} (hb : ∀ p ∈ wr, p.1 < h.length) (hx : x ∉ wr.map (·.1)) : (put h wr)[x]? = h[x]? := by
  rcases (put_mem hb).2 x with ⟨h1, _⟩ | ⟨o, h1, h2⟩
  · exact h1
  · exact absurd (List.mem_map.2 ⟨(x, o), h1, rfl⟩) hx

theorem heapAt_length {h : Heap} {tr : Nat → Stp} {S : Nat → Bool} : ∀ {n : Nat}, (∀ j, j < n → ∀ p ∈ (tr j).wr, p.1 < h.length) → (heapAt h tr S n).length = h.length
  | 0, _ => rfl
  | n + 1, hb => by
    have ih := heapAt_length (h := h) (tr := tr) (S := S) (n := n) (fun j hj => hb j (by omega))
    simp only [heapAt]
    split
    · rw [put_ids (by rw [ih]; exact hb n (by omega)), ih]
    · exact ih
theorem heapAt_get {h : Heap} {tr : Nat → Stp} {S S' : Nat → Bool} {x : Nat} : ∀ {n : Nat}, (∀ j, j < n → ∀ p ∈ (tr j).wr, p.1 < h.length) → (∀ j, j < n → S j ≠ S' j → x ∉ (tr j).ids) → (heapAt h tr S n)[x]? = (heapAt h tr S' n)[x]?
  | 0, _, _ => rfl
  | n + 1, hb, hx => by
    have ih := heapAt_get (h := h) (tr := tr) (S := S) (S' := S') (x := x) (n := n) (fun j hj => hb j (by omega)) (fun j hj => hx j (by omega))
    have hn := hx n (by omega)
    have l1 := heapAt_length (h := h) (tr := tr) (S := S) (n := n) (fun j hj => hb j (by omega))
    have l2 := heapAt_length (h := h) (tr := tr) (S := S') (n := n) (fun j hj => hb j (by omega))
    simp only [heapAt]
    cases h1 : S n <;> cases h2 : S' n
    · simpa using ih
    · rw [h1, h2] at hn
      simp only [Bool.false_eq_true, if_false, if_true]
      rw [put_not (by rw [l2]; exact hb n (by omega)) (hn (by simp))]
      exact ih
    · rw [h1, h2] at hn
      simp only [Bool.false_eq_true, if_false, if_true]
      rw [put_not (by rw [l1]; exact hb n (by omega)) (hn (by simp))]
      exact ih
    · simp only [if_true]
      exact put_at (by rw [l1, l2]) (by rw [l1]; exact hb n (by omega)) ih
theorem heapAt_add {h : Heap} {tr : Nat → Stp} {S : Nat → Bool} {i : Nat} (hi : S i = false) : ∀ {n : Nat}, i < n → (∀ j, j < n → ∀ p ∈ (tr j).wr, p.1 < h.length) → (∀ j, i < j → j < n → S j = true → ∀ x ∈ (tr j).ids, x ∉ (tr i).ids) →
    heapAt h tr (fun j => S j || j == i) n = put (heapAt h tr S n) (tr i).wr
  | 0, hn, _, _ => by omega
  | n + 1, hn, hb, hd => by
    by_cases he : i = n
    · subst he
      simp only [heapAt, hi, Bool.false_or, beq_self_eq_true, if_true, Bool.false_eq_true, if_false]
      rw [heapAt_congr (S' := S) (tr' := tr) (fun j hj => ⟨rfl, by have : (j == i) = false := by simp; omega
                                                                   simp [this]⟩)]
    · have ih := heapAt_add (h := h) (tr := tr) (S := S) (i := i) hi (n := n) (by omega) (fun j hj => hb j (by omega)) (fun j h1 h2 => hd j h1 (by omega))
      have hni : (n == i) = false := by simp; omega
      have l1 := heapAt_length (h := h) (tr := tr) (S := S) (n := n) (fun j hj => hb j (by omega))
      simp only [heapAt, hni, Bool.or_false]
      cases hS : S n
      · simpa using ih
      · simp only [if_true]
        rw [ih]
        exact put_swap (by rw [l1]; exact hb i (by omega)) (by rw [l1]; exact hb n (by omega)) (hd n (by omega) (by omega) hS)

/- ---------- what comes before what ---------- -/
theorem before_bit {ops : Array Oper} {j : Nat} {o : Oper} (ho : ops[j]? = some o) {i : Nat} (hb : ((Region.before ops).getD j 0).testBit i = true) :
    ∃ e ∈ o.after, Region.binds .any e = true ∧ (e.on = i ∨ e.on < j ∧ ((Region.before ops).getD e.on 0).testBit i = true) := by
  have key : ∀ (l : List Oper) (acc : Array Nat), (l.foldl (fun acc o => acc.push (o.after.foldl (fun s e => if Region.binds .any e then s ||| 2 ^ e.on ||| acc.getD e.on 0 else s) 0)) acc).size = acc.size + l.length ∧
      (∀ x, x < acc.size → (l.foldl (fun acc o => acc.push (o.after.foldl (fun s e => if Region.binds .any e then s ||| 2 ^ e.on ||| acc.getD e.on 0 else s) 0)) acc)[x]? = acc[x]?) ∧
      ∀ x o, l[x]? = some o → ∃ acc' : Array Nat, acc'.size = acc.size + x ∧ (∀ y, y < acc'.size → (l.foldl (fun acc o => acc.push (o.after.foldl (fun s e => if Region.binds .any e then s ||| 2 ^ e.on ||| acc.getD e.on 0 else s) 0)) acc)[y]? = acc'[y]?) ∧
        (l.foldl (fun acc o => acc.push (o.after.foldl (fun s e => if Region.binds .any e then s ||| 2 ^ e.on ||| acc.getD e.on 0 else s) 0)) acc)[acc.size + x]? = some (o.after.foldl (fun s e => if Region.binds .any e then s ||| 2 ^ e.on ||| acc'.getD e.on 0 else s) 0) := by
    intro l
    induction l with
    | nil => intro acc; simp
    | cons o r ih =>
      intro acc
      obtain ⟨h1, h2, h3⟩ := ih (acc.push (o.after.foldl (fun s e => if Region.binds .any e then s ||| 2 ^ e.on ||| acc.getD e.on 0 else s) 0))
      simp only [List.foldl_cons]
      refine ⟨by rw [h1]; simp; omega, fun x hx => ?_, fun x o' hx => ?_⟩
      · rw [h2 x (by simp; omega)]; simp [Array.getElem?_push]; omega
      · cases x with
        | zero =>
          simp only [List.getElem?_cons_zero, Option.some.injEq] at hx; subst hx
          refine ⟨acc, by simp, fun y hy => ?_, ?_⟩
          · rw [h2 y (by simp; omega)]; simp [Array.getElem?_push]; omega
          · rw [h2 (acc.size + 0) (by simp)]; simp
        | succ x =>
          obtain ⟨acc', g1, g2, g3⟩ := h3 x o' (by simpa using hx)
          refine ⟨acc', by rw [g1]; simp; omega, g2, ?_⟩
          rw [← g3]; congr 1; simp; omega
  obtain ⟨_, _, h3⟩ := key ops.toList #[]
  obtain ⟨acc', g1, g2, g3⟩ := h3 j o (by simpa using ho)
  have hB : (Region.before ops) = ops.toList.foldl (fun acc o => acc.push (o.after.foldl (fun s e => if Region.binds .any e then s ||| 2 ^ e.on ||| acc.getD e.on 0 else s) 0)) #[] := by
    unfold Region.before; rw [← Array.foldl_toList]
  rw [← hB] at g2 g3
  simp only [Array.size_empty, Nat.zero_add] at g1 g3
  rw [Array.getD_eq_getD_getElem?, g3, Option.getD_some] at hb
  have fold : ∀ (l : List Edge) (s : Nat), (l.foldl (fun s e => if Region.binds .any e then s ||| 2 ^ e.on ||| acc'.getD e.on 0 else s) s).testBit i = true → s.testBit i = true ∨ ∃ e ∈ l, Region.binds .any e = true ∧ (e.on = i ∨ (acc'.getD e.on 0).testBit i = true) := by
    intro l
    induction l with
    | nil => intro s h; exact .inl h
    | cons e r ih =>
      intro s h
      simp only [List.foldl_cons] at h
      rcases ih _ h with h | ⟨e', h1, h2⟩
      · split at h
        · rename_i hbd
          simp only [Nat.testBit_or, Bool.or_eq_true] at h
          rcases h with (h | h) | h
          · exact .inl h
          · refine .inr ⟨e, by simp, hbd, .inl ?_⟩
            rw [Nat.testBit_two_pow] at h
            simpa using h
          · exact .inr ⟨e, by simp, hbd, .inr h⟩
        · exact .inl h
      · exact .inr ⟨e', by simp [h1], h2⟩
  rw [← Array.foldl_toList] at hb
  rcases fold _ _ hb with h | ⟨e, h1, h2, h3⟩
  · simp at h
  · refine ⟨e, by simpa using h1, h2, ?_⟩
    rcases h3 with h3 | h3
    · exact .inl h3
    · by_cases hlt : e.on < j
      · refine .inr ⟨hlt, ?_⟩
        rw [Array.getD_eq_getD_getElem?, g2 e.on (by omega), ← Array.getD_eq_getD_getElem?]; exact h3
      · rw [Array.getD_eq_getD_getElem?, Array.getElem?_eq_none (by omega)] at h3
        simp at h3
end Go.Ab
namespace Go.Ab
variable {P : Program} {C : Ctx}

theorem zip_mem {α : Type} {xs : Array α} {i : Nat} {x : α} (h : xs[i]? = some x) : (x, i) ∈ xs.zipIdx := by
  have := Array.getElem?_zipIdx (xs := xs) (i := 0) (j := i)
  rw [h] at this
  exact Array.mem_of_getElem? (i := i) (by simpa using this)
theorem drawOk_spec {ops : Array Oper} (h : drawOk ops = true) : (∀ (i : Nat) (o : Oper), ops[i]? = some o → ∀ e ∈ o.after, Region.binds .any e = true → e.on < i) ∧
    ∀ (i j : Nat) (oi oj : Oper), ops[i]? = some oi → ops[j]? = some oj → i < j → ((Region.before ops).getD j 0).testBit i = true ∨ apartOps ops oi oj = true := by
  simp only [drawOk, Bool.and_eq_true, Array.all_eq_true_iff_forall_mem] at h
  refine ⟨fun i o ho e he hb => ?_, fun i j oi oj hi hj hij => ?_⟩
  · have := h.1 (o, i) (zip_mem ho) e he
    simpa [hb] using this
  · have := h.2 (oj, j) (zip_mem hj) (oi, i) (zip_mem hi)
    simp only [Bool.or_eq_true, decide_eq_true_eq] at this
    rcases this with (h1 | h1) | h1
    · omega
    · exact .inl h1
    · exact .inr h1
theorem apart_spec {ops : Array Oper} {a b : Oper} (h : apartOps ops a b = true) :
    (∀ d, a.dst = some d → b.dst ≠ some d ∧ d ∉ namesOf b ++ guardTmp ops b) ∧ (∀ d, b.dst = some d → d ∉ namesOf a ++ guardTmp ops a) := by
  simp only [apartOps, Bool.and_eq_true] at h
  refine ⟨fun d hd => ?_, fun d hd => ?_⟩
  · have := h.1
    rw [hd] at this
    simp at this
    simp only [List.mem_append, not_or]
    exact ⟨this.1.1, this.1.2, this.2⟩
  · have := h.2
    rw [hd] at this
    simp at this
    simp only [List.mem_append, not_or]
    exact this

theorem count_lt {p q : Nat → Bool} : ∀ {l : List Nat}, (∀ x ∈ l, p x = true → q x = true) → (∃ x ∈ l, q x = true ∧ p x = false) → l.countP p < l.countP q
  | [], _, ⟨x, hx, _⟩ => by cases hx
  | y :: r, hpq, ⟨x, hx, h1, h2⟩ => by
    have hle : ∀ l : List Nat, (∀ x ∈ l, p x = true → q x = true) → l.countP p ≤ l.countP q := fun l h => List.countP_mono_left h
    simp only [List.countP_cons]
    rcases List.mem_cons.1 hx with rfl | hx
    · have := hle r (fun x hx => hpq x (by simp [hx]))
      simp [h1, h2]; omega
    · have ih := count_lt (p := p) (q := q) (l := r) (fun x hx => hpq x (by simp [hx])) ⟨x, hx, h1, h2⟩
      have : (if p y = true then 1 else 0) ≤ (if q y = true then 1 else 0) := by
        by_cases h : p y = true
        · simp [h, hpq y (by simp) h]
        · simp [h]
      omega

structure Good (P : Program) (G : Nat → Option (List DV)) (all : Array Oper) (base : Nat) (e0 : Env) (h0 : Heap) (tr : Nat → Stp) (i : Nat) : Prop where
  does : ∀ o, all[i]? = some o → OpDoes P G all base i o (envAt all e0 tr (fun _ => true) i) (heapAt h0 tr (fun _ => true) i) (tr i).v (tr i).wr (tr i).rd
  bound : ∀ x ∈ (tr i).ids, x < base ∨ x = base + i ∨ (x < base + i ∧ ((Region.before all).getD i 0).testBit (x - base) = true)
  pair : ∀ j, j < i → ((Region.before all).getD i 0).testBit j = true ∨ ((∀ x ∈ (tr i).ids, x ∉ (tr j).rd ∧ x ∉ (tr j).ids) ∧ ∀ x ∈ (tr j).ids, x ∉ (tr i).rd)

theorem draw_any {all : Array Oper} {base N : Nat} {e0 : Env} {h0 h00 : Heap} {F0 : Fz} {m0 : Mp} {w0 : World} {tr : Nat → Stp} {Q : Env → Heap → Prop} (hdraw : drawOk all = true) (hok : ∀ o ∈ all.toList, opOk N o = true)
    (good : ∀ i, i < all.size → Good P C.glob all base e0 h0 tr i) (hlen : h0.length = base + all.size) (hG : GlobR F0 C.glob) (hQ : Q (envAt all e0 tr (fun _ => true) all.size) (heapAt h0 tr (fun _ => true) all.size)) :
    ∀ (fuel : Nat) (listed : Array Bool) (a : Act) (w : World) (F : Fz) (m : Mp), listed.size = all.size →
      (∀ j o, listed.getD j false = true → all[j]? = some o → ∀ e ∈ o.after, Region.binds .any e = true → listed.getD e.on false = true) →
      (List.range all.size).countP (fun j => !listed.getD j false) ≤ fuel →
      St F m w (heapAt h0 tr (fun j => listed.getD j false) all.size) → EnvR F m N (envAt all e0 tr (fun j => listed.getD j false) all.size) a → Ev F0 m0 w0 h00 F m w (heapAt h0 tr (fun j => listed.getD j false) all.size) → a.defers = [] →
      (∀ j, j < all.size → listed.getD j false = false → m (base + j) = none) → wpAnyIn Fence.wide 0 P .any all (PostX F0 m0 w0 h00 N fun o e h => o = .normal ∧ Q e h) fuel listed a w := by
  obtain ⟨hedge, hapart⟩ := drawOk_spec hdraw
  have hbnd : ∀ j, j < all.size → ∀ p ∈ (tr j).wr, p.1 < h0.length := by
    intro j hj p hp
    have := (good j hj).bound p.1 (List.mem_map.2 ⟨p, hp, rfl⟩)
    omega
  intro fuel
  induction fuel with
  | zero =>
    intro listed a w F m hsz hcl hcnt hS hE hev hd hm
    have hall : ∀ j, j < all.size → listed.getD j false = true := by
      intro j hj
      have := List.countP_eq_zero.1 (Nat.le_zero.1 hcnt) j (List.mem_range.2 hj)
      simpa using this
    refine ⟨?_, ?_⟩
    · rw [List.eq_nil_iff_forall_not_mem]
      intro j hj
      obtain ⟨h1, o, ho, _⟩ := mem_ready.1 hj
      have hlt := (Array.getElem?_eq_some_iff.1 ho).1
      have := hall j hlt
      rw [Array.getD_eq_getD_getElem?] at h1 this
      have hl2 : j < listed.size := by omega
      simp [hl2] at h1 this
      rw [h1] at this; cases this
    · rw [envAt_congr (S' := fun _ => true) (tr' := tr) (fun j hj => ⟨rfl, hall j hj⟩)] at hE
      rw [heapAt_congr (S' := fun _ => true) (tr' := tr) (fun j hj => ⟨rfl, hall j hj⟩)] at hS hev
      exact ⟨.normal, rfl, hd, F, m, _, _, hS, hE, hev, rfl, hQ⟩
  | succ fuel ih =>
    intro listed a w F m hsz hcl hcnt hS hE hev hd hm
    have hgd : ∀ j, j < all.size → listed.getD j true = listed.getD j false := by
      intro j hj
      have hl2 : j < listed.size := by omega
      simp [Array.getD_eq_getD_getElem?, hl2]
    refine ⟨fun hnil => ?_, fun i hi => ?_⟩
    · have hall : ∀ j, j < all.size → listed.getD j false = true := by
        intro j
        induction j using Nat.strongRecOn with
        | _ j ihj =>
          intro hj
          cases hS' : listed.getD j false with
          | true => rfl
          | false =>
            exfalso
            have ho : all[j]? = some all[j] := Array.getElem?_eq_getElem hj
            have : j ∈ Region.ready .any all listed := mem_ready.2 ⟨by rw [hgd j hj]; exact hS', all[j], ho, fun e he hb => ihj e.on (hedge j _ ho e he hb) (by have := hedge j _ ho e he hb; omega)⟩
            rw [hnil] at this; cases this
      rw [envAt_congr (S' := fun _ => true) (tr' := tr) (fun j hj => ⟨rfl, hall j hj⟩)] at hE
      rw [heapAt_congr (S' := fun _ => true) (tr' := tr) (fun j hj => ⟨rfl, hall j hj⟩)] at hS hev
      exact ⟨.normal, rfl, hd, F, m, _, _, hS, hE, hev, rfl, hQ⟩
    · obtain ⟨hi0, o, ho, hafter⟩ := mem_ready.1 hi
      have hin : i < all.size := (Array.getElem?_eq_some_iff.1 ho).1
      have hSi : listed.getD i false = false := by rw [← hgd i hin]; exact hi0
      have hclos : ∀ j, listed.getD j false = true → ∀ x, ((Region.before all).getD j 0).testBit x = true → listed.getD x false = true := by
        intro j
        induction j using Nat.strongRecOn with
        | _ j ihj =>
          intro hj x hx
          by_cases hjs : j < all.size
          · have hoj : all[j]? = some all[j] := Array.getElem?_eq_getElem hjs
            obtain ⟨e, he, hb, h3⟩ := before_bit hoj hx
            have hin := hcl j _ hj hoj e he hb
            rcases h3 with rfl | ⟨hlt, hbit⟩
            · exact hin
            · exact ihj e.on hlt hin x hbit
          · rw [Array.getD_eq_getD_getElem?, Array.getElem?_eq_none (by omega)] at hj; cases hj
      have hbef : ∀ x, ((Region.before all).getD i 0).testBit x = true → listed.getD x false = true := by
        intro x hx
        obtain ⟨e, he, hb, h3⟩ := before_bit ho hx
        have hin := hafter e he hb
        rcases h3 with rfl | ⟨_, hbit⟩
        · exact hin
        · exact hclos e.on hin x hbit
      have hnot : ∀ j, listed.getD j false = true → ((Region.before all).getD j 0).testBit i = false := by
        intro j hj
        cases hb : ((Region.before all).getD j 0).testBit i with
        | false => rfl
        | true => have := hclos j hj i hb; rw [hSi] at this; cases this
      -- how i stands to the others that the order tells apart
      have late : ∀ j, i < j → j < all.size → listed.getD j false = true → apartOps all o all[j]! = true ∧ all[j]? = some all[j]! ∧ (∀ x ∈ (tr j).ids, x ∉ (tr i).rd ∧ x ∉ (tr i).ids) := by
        intro j hij hj hSj
        have hoj : all[j]? = some all[j]! := by simp [hj]
        refine ⟨?_, hoj, ?_⟩
        · rcases hapart i j o _ ho hoj hij with h | h
          · rw [hnot j hSj] at h; cases h
          · exact h
        · rcases (good j hj).pair i hij with h | h
          · rw [hnot j hSj] at h; cases h
          · exact h.1
      have early : ∀ j, j < i → listed.getD j false = false → apartOps all all[j]! o = true ∧ all[j]? = some all[j]! ∧ (∀ x ∈ (tr j).ids, x ∉ (tr i).rd) := by
        intro j hji hSj
        have hj : j < all.size := by omega
        have hoj : all[j]? = some all[j]! := by simp [hj]
        have hnb : ((Region.before all).getD i 0).testBit j = false := by
          cases hb : ((Region.before all).getD i 0).testBit j with
          | false => rfl
          | true => rw [hbef j hb] at hSj; cases hSj
        refine ⟨?_, hoj, ?_⟩
        · rcases hapart j i _ o hoj ho hji with h | h
          · rw [hnb] at h; cases h
          · exact h
        · rcases (good i hin).pair j hji with h | h
          · rw [hnb] at h; cases h
          · exact h.2
      have hdst : ∀ j, j < all.size → listed.getD j false ≠ decide (j < i) → (∀ t ∈ namesOf o ++ guardTmp all o, (all[j]?).bind (·.dst) ≠ some t) ∧ ∀ x ∈ (tr i).rd, x ∉ (tr j).ids := by
        intro j hj hne
        by_cases hji : j < i
        · have hSj : listed.getD j false = false := by
            cases h : listed.getD j false with
            | false => rfl
            | true => rw [h] at hne; simp [hji] at hne
          obtain ⟨h1, h2, h3⟩ := early j hji hSj
          refine ⟨fun t ht hd => ?_, fun x hx hin => h3 x hin hx⟩
          rw [h2] at hd
          exact ((apart_spec h1).1 t hd).2 ht
        · have hSj : listed.getD j false = true := by
            cases h : listed.getD j false with
            | true => rfl
            | false => rw [h] at hne; simp [hji] at hne
          have hij : i < j := by
            rcases Nat.lt_or_ge i j with h | h
            · exact h
            · have : i = j := by omega
              rw [this] at hSi; rw [hSi] at hSj; cases hSj
          obtain ⟨h1, h2, h3⟩ := late j hij hj hSj
          refine ⟨fun t ht hd => ?_, fun x hx hin => (h3 x hin).1 hx⟩
          rw [h2] at hd
          exact (apart_spec h1).2 t hd ht
      have hset : ∀ j, j < all.size → (listed.setIfInBounds i true).getD j false = (listed.getD j false || j == i) := by
        intro j hj
        by_cases h : j = i
        · subst h; rw [Array.getD_eq_getD_getElem?, Array.getElem?_setIfInBounds_self_of_lt (by omega)]; simp
        · rw [getD_set_ne _ (Ne.symm h)]; simp [h]
      have hbi := (good i hin).bound
      refine (good i hin).does o ho N F m w a _ _ _ _ (hok o (by simpa using Array.mem_of_getElem? ho)) (fun t ht => ?_) (fun x hx => ?_) ?_ hS (hG.ev hev) hE (hm i hin hSi) ?_
      · rw [← envAt_below (Nat.le_of_lt hin)]
        exact envAt_lookup (fun j hj hne => (hdst j hj hne).1 t ht)
      · rw [← heapAt_below (Nat.le_of_lt hin)]
        exact heapAt_get hbnd (fun j hj hne => (hdst j hj hne).2 x hx)
      · rw [heapAt_length hbnd]; omega
      · intro F' m' w' x s' rv' ev' gr'
        have hheap : heapAt h0 tr (fun j => (listed.setIfInBounds i true).getD j false) all.size = put (heapAt h0 tr (fun j => listed.getD j false) all.size) (tr i).wr := by
          rw [heapAt_congr (S' := fun j => listed.getD j false || j == i) (tr' := tr) (fun j hj => ⟨rfl, hset j hj⟩)]
          exact heapAt_add (S := fun j => listed.getD j false) hSi hin hbnd (fun j h1 h2 h3 x hx => ((late j h1 h2 h3).2.2 x hx).2)
        refine ih _ _ _ F' m' (by simpa using hsz) ?_ ?_ (by rw [hheap]; exact s') ?_ (by rw [hheap]; exact hev.trans ev') ?_ ?_
        · intro j oj hj hoj e he hb
          have hjn : j < all.size := (Array.getElem?_eq_some_iff.1 hoj).1
          have hon : e.on < all.size := by have := hedge j _ hoj e he hb; omega
          rw [hset _ hon]
          rw [hset _ hjn] at hj
          simp only [Bool.or_eq_true, beq_iff_eq] at hj ⊢
          rcases hj with hj | rfl
          · exact .inl (hcl j oj hj hoj e he hb)
          · rw [ho] at hoj; cases hoj
            exact .inl (hafter e he hb)
        · have : (List.range all.size).countP (fun j => !(listed.setIfInBounds i true).getD j false) < (List.range all.size).countP (fun j => !listed.getD j false) := by
            refine count_lt (fun x hx hp => ?_) ⟨i, List.mem_range.2 hin, by rw [hSi]; rfl, by rw [hset i hin]; simp⟩
            rw [hset x (List.mem_range.1 hx)] at hp
            simp only [Bool.not_or, Bool.and_eq_true] at hp
            exact hp.1
          omega
        · have hE' := (hE.mono ev'.fz ev'.mp).put (opOk_dst (hok o (by simpa using Array.mem_of_getElem? ho))) rv'
          refine ⟨hE'.size, fun t v ht => hE'.val t v ?_⟩
          rw [envAt_congr (S' := fun j => listed.getD j false || j == i) (tr' := tr) (fun j hj => ⟨rfl, hset j hj⟩)] at ht
          rw [envAt_add (S := fun j => listed.getD j false) hSi hin (fun j h1 h2 h3 d hd hd' => ?_)] at ht
          · rw [ho] at ht; exact ht
          · rw [ho] at hd
            obtain ⟨g1, g2, _⟩ := late j h1 h2 h3
            rw [g2] at hd'
            exact ((apart_spec g1).1 d hd).1 hd'
        · cases hdst : o.dst <;> simpa [Act.put] using hd
        · intro j hj hSj
          rw [hset j hj] at hSj
          simp only [Bool.or_eq_false_iff] at hSj
          rcases gr' (base + j) with h | ⟨u, hu⟩
          · rw [h]; exact hm j hj hSj.1
          · exfalso
            have hji : j ≠ i := by simpa using hSj.2
            rcases hbi (base + j) (List.mem_map.2 ⟨_, hu, rfl⟩) with h | h | ⟨_, h⟩
            · omega
            · omega
            · rw [Nat.add_sub_cancel_left] at h
              rw [hbef j h] at hSj; cases hSj.1
end Go.Ab
namespace Go.Ab
variable {P : Program} {C : Ctx}

/-- what the operations do, one after the other, and that those that the order does not tell apart do not meet -/
def Chain (P : Program) (G : Nat → Option (List DV)) (all : Array Oper) (base : Nat) : List (Nat × Oper) → List FP → Env → Heap → (Env → Heap → Prop) → Prop
  | [], _, e, h, Q => Q e h
  | (i, o) :: r, fs, e, h, Q => ∃ v wr rd, (all[i]? = some o → OpDoes P G all base i o e h v wr rd) ∧ fpOk (Region.before all) base ⟨i, rd, wr.map (·.1)⟩ fs = true ∧
      Chain P G all base r (⟨i, rd, wr.map (·.1)⟩ :: fs) (putE e o.dst v) (put h wr) Q

theorem fp_more {b : Array Nat} {base : Nat} {f : FP} {fs fs' : List FP} (hm : ∀ g ∈ fs', g ∈ fs ∨ g.rd = [] ∧ g.wr = []) (h : fpOk b base f fs = true) : fpOk b base f fs' = true := by
  simp only [fpOk, Bool.and_eq_true, List.all_eq_true] at h ⊢
  refine ⟨h.1, fun g hg => ?_⟩
  rcases hm g hg with h1 | ⟨h1, h2⟩
  · exact h.2 g h1
  · simp [h1, h2, disj]
theorem chain_more {G : Nat → Option (List DV)} {all : Array Oper} {base : Nat} {Q : Env → Heap → Prop} : ∀ {r : List (Nat × Oper)} {fs fs' : List FP} {e : Env} {h : Heap}, (∀ g ∈ fs', g ∈ fs ∨ g.rd = [] ∧ g.wr = []) → Chain P G all base r fs e h Q → Chain P G all base r fs' e h Q
  | [], _, _, _, _, _, hc => hc
  | (i, o) :: r, fs, fs', e, h, hm, ⟨v, wr, rd, h1, h2, h3⟩ => by
    refine ⟨v, wr, rd, h1, fp_more hm h2, chain_more (fun g hg => ?_) h3⟩
    rcases List.mem_cons.1 hg with rfl | hg
    · exact .inl (by simp)
    · exact (hm g hg).imp (fun h => by simp [h]) id
theorem disj_spec {a b : List Nat} (h : disj a b = true) : ∀ x ∈ a, x ∉ b := by
  intro x hx hb
  simp only [disj, List.all_eq_true] at h
  have := h x hx
  simp [hb] at this

theorem chain_tr {all : Array Oper} {base : Nat} {e0 : Env} {h0 : Heap} {Q : Env → Heap → Prop} : ∀ {r : List (Nat × Oper)} {k : Nat} {fs : List FP} {e : Env} {h : Heap} {tr0 : Nat → Stp}, (∀ j, r[j]? = (all[k + j]?).map fun o => (k + j, o)) → k ≤ all.size →
    e = envAt all e0 tr0 (fun _ => true) k → h = heapAt h0 tr0 (fun _ => true) k → (∀ j, j < k → (⟨j, (tr0 j).rd, (tr0 j).ids⟩ : FP) ∈ fs) → Chain P C.glob all base r fs e h Q →
    ∃ tr : Nat → Stp, (∀ j, j < k → tr j = tr0 j) ∧ (∀ i, k ≤ i → i < all.size → Good P C.glob all base e0 h0 tr i) ∧ Q (envAt all e0 tr (fun _ => true) all.size) (heapAt h0 tr (fun _ => true) all.size)
  | [], k, fs, e, h, tr0, hr, hk, he, hh, hf, hc => by
    have hke : k = all.size := by
      rcases Nat.lt_or_ge k all.size with h1 | h1
      · have := hr 0
        simp [h1] at this
      · omega
    subst hke
    subst he; subst hh
    exact ⟨tr0, fun _ _ => rfl, fun i h1 h2 => by omega, hc⟩
  | (i, o) :: r, k, fs, e, h, tr0, hr, hk, he, hh, hf, ⟨v, wr, rd, hd, hfp, hc⟩ => by
    have h0' := hr 0
    simp only [List.getElem?_cons_zero, Nat.add_zero] at h0'
    cases hak : all[k]? with
    | none => rw [hak] at h0'; cases h0'
    | some o' =>
      rw [hak] at h0'
      simp only [Option.map_some, Option.some.injEq, Prod.mk.injEq] at h0'
      obtain ⟨rfl, rfl⟩ := h0'
      have hlt : i < all.size := (Array.getElem?_eq_some_iff.1 hak).1
      let tr1 : Nat → Stp := fun j => if j = i then ⟨v, wr, rd⟩ else tr0 j
      have h1 : tr1 i = ⟨v, wr, rd⟩ := by simp [tr1]
      have h1' : ∀ j, j < i → tr1 j = tr0 j := fun j hj => by simp [tr1, Nat.ne_of_lt hj]
      have he1 : envAt all e0 tr0 (fun _ => true) i = envAt all e0 tr1 (fun _ => true) i := envAt_congr (fun j hj => ⟨(h1' j hj).symm, rfl⟩)
      have hh1 : heapAt h0 tr0 (fun _ => true) i = heapAt h0 tr1 (fun _ => true) i := heapAt_congr (fun j hj => ⟨(h1' j hj).symm, rfl⟩)
      obtain ⟨tr, t1, t2, t3⟩ := chain_tr (tr0 := tr1) (k := i + 1) (e0 := e0) (h0 := h0) (fun j => by
          have := hr (j + 1)
          simp only [List.getElem?_cons_succ] at this
          rw [this, show i + (j + 1) = i + 1 + j by omega]) hlt
        (by simp only [envAt, if_true, hak, Option.bind_some, h1, ← he1, he]) (by simp only [heapAt, if_true, h1, ← hh1, hh])
        (fun j hj => by
          by_cases hji : j = i
          · subst hji; rw [h1]; simp [Stp.ids]
          · rw [h1' j (by omega)]; exact List.mem_cons_of_mem _ (hf j (by omega))) hc
      have ti : tr i = ⟨v, wr, rd⟩ := by rw [t1 i (by omega), h1]
      have tj : ∀ j, j < i → tr j = tr0 j := fun j hj => by rw [t1 j (by omega), h1' j hj]
      refine ⟨tr, tj, fun x hx1 hx2 => ?_, t3⟩
      by_cases hxi : x = i
      · subst hxi
        simp only [fpOk, Bool.and_eq_true, List.all_eq_true] at hfp
        refine ⟨fun o2 ho2 => ?_, fun y hy => ?_, fun j hj => ?_⟩
        · rw [hak] at ho2; cases ho2
          rw [ti, envAt_congr (tr' := tr0) (S' := fun _ => true) (fun j hj => ⟨tj j hj, rfl⟩), heapAt_congr (tr' := tr0) (S' := fun _ => true) (fun j hj => ⟨tj j hj, rfl⟩), ← he, ← hh]
          exact hd hak
        · rw [ti] at hy
          have := hfp.1 y hy
          simp only [Bool.or_eq_true, decide_eq_true_eq, beq_iff_eq, Bool.and_eq_true] at this
          rcases this with (h | h) | h
          · exact .inl h
          · exact .inr (.inl h)
          · exact .inr (.inr h)
        · have := hfp.2 _ (hf j hj)
          simp only [Bool.or_eq_true, Bool.and_eq_true] at this
          rw [ti, tj j hj]
          rcases this with h | ⟨h1, h2⟩
          · exact .inl h
          · refine .inr ⟨fun y hy => ?_, fun y hy => disj_spec h2 y hy⟩
            have := disj_spec h1 y hy
            simpa [List.mem_append, not_or] using this
      · exact t2 x (by omega) hx2

theorem s_regionD {f : FuncId} {vs : List Nat} {i : Nat} {os : Array Oper} {e : Env} {h : Heap} {Q : Out → Env → Heap → Prop} (hmix : P.follows .mixedOrders = true) (hd : drawOk os = true)
    (hc : Chain P C.glob os h.length (os.toList.zipIdx.map fun (o, i) => (i, o)) [] (keep vs e) (h ++ List.replicate os.size none) (Q .normal)) : ExecS P C f (.region i os true) e h Q := by
  intro N F m w a rf hcode hS hE hdef hR
  have hok : ∀ o ∈ os.toList, opOk N o = true := by
    simp only [codeOk, Array.all_eq_true_iff_forall_mem] at hcode
    intro o ho; exact hcode o (by simpa using ho)
  obtain ⟨tr, _, good, hq⟩ := chain_tr (C := C) (tr0 := fun _ => ⟨undef, [], []⟩) (k := 0) (e0 := keep vs e) (h0 := h ++ List.replicate os.size none) (fun j => by
    simp only [Nat.zero_add, List.getElem?_map, List.getElem?_zipIdx]
    simp only [Option.map_map, Array.getElem?_toList]
    rfl) (Nat.zero_le _) rfl rfl (fun j hj => by omega) hc
  have hpad : ∀ (x : Nat) (o : AO), (h ++ List.replicate os.size none)[x]? = some (some o) → h[x]? = some (some o) := by
    intro x o hx
    rw [List.getElem?_append] at hx
    split at hx
    · exact hx
    · rw [List.getElem?_replicate] at hx
      split at hx <;> cases hx
  let w1 : World := { w with drawn := w.drawn + 1 }
  have hS1 : St F m w1 (h ++ List.replicate os.size none) := by
    have hS' : St F m w1 h := hS.heap rfl
    exact ⟨fun x l hx => by rw [List.length_append]; have := hS'.dom x l hx; omega, fun x o hx => hS'.obj x o (hpad x o hx), fun x y o o' l l' hx hy => hS'.sep x y o o' l l' (hpad _ _ hx) (hpad _ _ hy), hS'.frz⟩
  have hE1 : Ev F m w h F m w1 (h ++ List.replicate os.size none) :=
    ⟨fun _ _ h => h, fun _ _ h => h, Nat.le_refl _, rfl, rfl, rfl, fun b _ hno => ⟨rfl, rfl, fun ⟨x, o, l, h1, h2⟩ => hno ⟨x, o, l, hpad _ _ h1, h2⟩⟩, by simp⟩
  have key := draw_any (P := P) (C := C) (N := N) (F0 := rf.F) (m0 := rf.m) (w0 := rf.w) (h00 := rf.h) (Q := Q .normal) hd hok (fun i hi => good i (Nat.zero_le _) hi) (by simp) hR.glob hq os.size (Array.replicate os.size false) a w1 F m
    (by simp) (by
      intro j o hj
      rw [Array.getD_eq_getD_getElem?] at hj
      simp only [Array.getElem?_replicate] at hj
      split at hj <;> cases hj) (by exact Nat.le_trans List.countP_le_length (by simp))
  have hnone : ∀ j, (Array.replicate os.size false).getD j false = false := by
    intro j
    rw [Array.getD_eq_getD_getElem?, Array.getElem?_replicate]
    split <;> rfl
  rw [heapAt_stop (Nat.zero_le _) (fun j _ _ => hnone j), envAt_stop (Nat.zero_le _) (fun j _ _ => hnone j)] at key
  refine wpIn_mono (wpIn_region_any hmix (key hS1 (hE.keep vs) (hR.ev.trans hE1) hdef (fun j hj _ => ?_))) ?_
  · cases hm : m (h.length + j) with
    | none => rfl
    | some l => have := hS.dom _ _ hm; omega
  · rintro x a' w' ⟨o, rfl, d, F', m', e', h', s, r, ev, rfl, q⟩
    exact ⟨.normal, rfl, d, F', m', e', h', s, r, ev, q⟩
end Go.Ab
namespace Go.Ab
variable {P : Program} {C : Ctx}

theorem s_scope {f : FuncId} {b : Code} {e : Env} {h : Heap} {Q : Out → Env → Heap → Prop} (hb : ExecS P C f b e h Q) : ExecS P C f (.scope b) e h Q := by
  intro N F m w a rf hc hS hE hd hR b' k cs hro hbf hr
  have hcb : codeOk N b = true := hc
  obtain ⟨x, a₁, w₁, ⟨o, rfl, d, F', m', e', h', s, r, ev, q⟩, harr⟩ := in_wp (hb N F m w a rf hcb hS hE hd hR) b' (.inScope b :: k) cs hro hbf hr
  have hin : step P (lone (b'.atR a (.code (.scope b) :: k)) cs w) = .next (lone (b'.atR a (.code b :: .inScope b :: k)) cs w) := step_lone_go (by simp [stepG, stepG.exec, Frame.atR])
  have hout : step P (lone (b'.atR a₁ (.inScope b :: k)) cs w₁) = .next (lone (b'.atR a₁ k) cs w₁) := step_lone_go (by simp [stepG, stepG.exec, Frame.atR])
  cases o with
  | normal => exact ⟨_, a₁, w₁, ⟨.normal, rfl, d, F', m', e', h', s, r, ev, q⟩, .of_steps (.one (fenced_calm hbf hr rfl) hin) (StepsIn.trans harr (.one (fenced_calm hbf hr rfl) hout))⟩
  | exit j =>
    refine ⟨_, a₁, w₁, ⟨.exit j, rfl, d, F', m', e', h', s, r, ev, q⟩, .of_steps (.one (fenced_calm hbf hr rfl) hin) ?_⟩
    exact ⟨fun k' hk => harr.1 k' (by simpa [exitTo] using hk), fun hr' hk => harr.2 hr' (by simpa [exitTo] using hk)⟩
  | ret => exact ⟨_, a₁, w₁, ⟨.ret, rfl, d, F', m', e', h', s, r, ev, q⟩, .of_steps (.one (fenced_calm hbf hr rfl) hin) harr⟩

theorem lookup_zip {vals : List AV} : ∀ {vs : List Nat} {t : Nat} {v : AV}, (vs.zip vals).lookup t = some v → ∃ i : Nat, vs[i]? = some t ∧ vals[i]? = some v := by
  induction vals with
  | nil => intro vs t v h; simp at h
  | cons x r ih =>
    intro vs t v h
    cases vs with
    | nil => simp at h
    | cons u us =>
      simp only [List.zip_cons_cons, lookup_cons] at h
      split at h
      · rename_i he; cases h; exact ⟨0, by simp [he], rfl⟩
      · obtain ⟨i, h1, h2⟩ := ih h; exact ⟨i + 1, by simpa using h1, by simpa using h2⟩
/-- a loop whose body begins in a state that was gone over: what cannot be reached is dropped, the rest numbered anew -/
theorem s_loopG {f : FuncId} {b : Code} {e : Env} {h h₁ : Heap} {pol : Pol} {ks : List Nat} {vals : List AV} {R Q : Out → Env → Heap → Prop} (hg : (retCall pol (C.keepN f) (.tup (ks.map e.get))).run h = some (.tup vals, h₁)) (hb : ExecS P C f b (ks.zip vals) h₁ R)
    (hl : ∀ e' h', R .normal e' h' → ExecS P C f (.loop b) e' h' Q) (ho : ∀ o e' h', o ≠ .normal → R o e' h' → Q o e' h') : ExecS P C f (.loop b) e h Q := by
  refine s_loopI (e := e) (R := R) (fun N F m w a rf hc hS hE hd hR => ?_) hl ho
  have hv : RV F m (.tup (ks.map e.get)) (.tuple (ks.map fun t => a.tmps.getD t Go.undef).toArray) := by
    refine .tup (fun i => (ks.map fun t => a.tmps.getD t Go.undef).getD i Go.undef) (by simp) (fun i c hi => ?_) (fun i c hi => ?_)
    · have hlt := (List.getElem?_eq_some_iff.1 hi).1
      simp only [List.length_map] at hlt
      simp [hlt]
    · simp only [List.getElem?_map, Option.map_eq_some_iff] at hi
      obtain ⟨t, ht, rfl⟩ := hi
      have : (ks.map fun t => a.tmps.getD t Go.undef).getD i Go.undef = a.tmps.getD t Go.undef := by simp [ht]
      rw [this]
      exact hE.get t
  obtain ⟨F', m', s', rv', ev'⟩ := gc_ok hR.ev hR.dom hR.len hS hg hv
  refine in_wp (hb N F' m' w a rf hc s' ⟨hE.size, fun t v ht => ?_⟩ hd (hR.to ev'))
  obtain ⟨i, h1, h2⟩ := lookup_zip ht
  cases rv' with
  | tup val g1 g2 g3 =>
    have a1 := g2 i v h2
    have a2 := g3 i v h2
    have hlt := (List.getElem?_eq_some_iff.1 h1).1
    have : a.tmps.getD t Go.undef = val i := by
      simp only [List.getElem?_toArray, List.getElem?_map, h1, Option.map_some, Option.some.injEq] at a1
      exact a1
    rw [this]; exact a2
/-- what a judgement says of the machine -/
def SemJ (P : Program) (C : Ctx) : J → Prop
  | .call tgt _ args hs Q => ∃ k fn, tgt = .func k ∧ P.funcs[k]? = some fn ∧ fn.body.isSome = true ∧ fn.name ≠ "runtime.NumGoroutine" ∧ CallS P C.glob k args hs Q
  | .exec f c e h Q => ExecS P C f c e h Q
  | .ops f all todo e h Q => OpsS P C f all todo e h Q
  | .draw _ all base todo fs e h Q => Chain P C.glob all base todo fs e h Q

theorem sound (hmix : P.follows .mixedOrders = true) {j : J} (hw : W P C j) : SemJ P C j := by
  induction hw with
  | skip hq => exact s_flat (o := .normal) (fun Q' a w h => wpIn_skip h) hq
  | label hq => exact s_flat (o := .normal) (fun Q' a w h => wpIn_label h) hq
  | exit hq => exact s_flat (o := .exit _) (fun Q' a w h => wpIn_exit h) hq
  | ret hq => exact s_flat (o := .ret) (fun Q' a w h => wpIn_ret h) hq
  | seq _ _ ho ih1 ih2 => exact s_seq ih1 ih2 ho
  | cond hc _ ih => exact s_cond hc ih
  | block _ hq ih => exact s_block ih hq
  | loop _ _ ho ih1 ih2 => exact s_loop ih1 ih2 ho
  | loopG h0 _ _ ho ih1 ih2 => exact s_loopG h0 ih1 ih2 ho
  | scope _ ih => exact s_scope ih
  | region _ ih => exact s_region ih
  | regionD hd _ ih => exact s_regionD hmix hd ih
  | nil hq => exact s_nil hq
  | skipped h1 _ ih => exact s_skipped h1 ih
  | prim h1 h2 _ ih => exact s_prim h1 h2 ih
  | opcall h1 h2 h3 h4 _ _ ih1 ih2 =>
    obtain ⟨k, fn, rfl, hf, hb, hn, hc⟩ := ih1
    exact s_opcall h1 h2 h3 h4 hf hb hn hc ih2
  | dnil hq => exact hq
  | @dskipped f all base i o r fs e h Q h1 _ ih =>
    exact ⟨undef, [], [], fun hi => does_skipped hi h1, by simp [fpOk, disj], chain_more (fun g hg => by
      rcases List.mem_cons.1 hg with rfl | hg
      · exact .inr ⟨rfl, rfl⟩
      · exact .inl hg) ih⟩
  | dprim h1 h2 h3 _ ih => exact ⟨_, _, _, fun hi => does_prim hi h1 h2, h3, ih⟩
  | dcall h1 h2 h3 h4 _ h5 h6 _ ih1 ih2 =>
    obtain ⟨k, fn, rfl, hf, hb, hn, hc⟩ := ih1
    exact ⟨_, _, _, fun hi => does_call hi h1 h2 h3 h4 hf hb hn hc h5, h6, ih2⟩
  | call h1 h2 h3 h4 h5 _ h7 ih => exact ⟨_, _, rfl, h1, by rw [h2]; rfl, h3, s_call h1 h2 h4 h5 ih h7⟩
  | nilq h1 h2 h3 h4 h5 h6 _ _ ih1 ih2 => subst h5; exact s_nilq h1 h2 h3 h4 h6 ih1 ih2
end Go.Ab
namespace Go.Ab
open Go.ChangeShapes Go.WideShapes Go.ChangeAt Go.RowKit

/-- all blocks of cells, as they stand -/
def oldF (W : World) : Fz := fun b => match W.heap[b]? with | some (.cells c _ _) => some c | _ => none
theorem oldF_some {W : World} {b : Nat} {c : Array Value} (h : oldF W b = some c) : ∃ T fr, W.heap[b]? = some (.cells c T fr) := by
  unfold oldF at h
  split at h
  · rename_i c' T fr heq; cases h; exact ⟨T, fr, heq⟩
  · cases h
theorem st_old (W : World) : St (oldF W) (fun _ => none) W [] :=
  ⟨(fun i l h => by cases h), (fun i o h => by simp at h), (fun i j o o' l l' h => by simp at h), fun b c h => oldF_some h⟩
theorem below_of_ev {W W' : World} {F' m' h'} (ev : Ev (oldF W) (fun _ => none) W [] F' m' W' h') : Below W.heap.size W W' :=
  ⟨ev.os, ev.tape, ev.output, ev.size, fun k hk => (ev.keep k hk (by rintro ⟨i, o, l, h, _⟩; simp at h)).1⟩
theorem cell_old {W : World} {a : Addr} {v : Value} (h : W.cell? a = some v) : ∃ c, oldF W a.block = some c ∧ c[a.off]? = some v ∧ a.spot = none := by
  unfold World.cell? at h
  split at h
  · rename_i c T fr heq
    split at h
    · cases h
    · rename_i hs
      refine ⟨c, by unfold oldF; rw [heq], h, ?_⟩
      cases hsp : a.spot with
      | none => rfl
      | some x => simp [hsp] at hs
  · cases h
theorem rd_ints {W : World} {k : IntKind} {a : Addr} {len cap : Nat} {zs : List Int} (hl : len ≤ cap) (hz : zs.length = cap) (hc : ∀ i, i < zs.length → W.cell? (a.add i) = some (.int k (zs.getD i 0))) :
    RD (oldF W) (.fsl ((zs.take len).map fun z => [.int k z]) false false) (.slice (some a) len cap) := by
  cases len with
  | zero => exact .fslE (by simp) (by simp) (by simp)
  | succ n =>
    have h0 := hc 0 (by omega)
    obtain ⟨c, h1, h2, h3⟩ := cell_old h0
    have ha : a.add 0 = a := by simp [Addr.add]
    rw [ha] at h1 h2 h3
    obtain ⟨b, off, sp⟩ := a
    simp only at h1 h2 h3
    subst h3
    have hat : ∀ i, i < zs.length → c[off + i]? = some (.int k (zs.getD i 0)) := by
      intro i hi
      obtain ⟨c', g1, g2, g3⟩ := cell_old (hc i hi)
      by_cases hi0 : i = 0
      · subst hi0; simpa using h2
      · have e : (Addr.add ⟨b, off, none⟩ i) = ⟨b, off + i, none⟩ := by simp [Addr.add, hi0]
        rw [e] at g1 g2
        simp only at g1 g2
        rw [h1] at g1; cases g1; exact g2
    refine .fsl (k := 1) (fun i j => .int k (zs.getD (i * 1 + j) 0)) ?_ ?_ h1 hl (by simp) (by omega) ?_ ?_ ?_
    · intro he
      have := congrArg List.length he
      rw [List.length_map, List.length_take, List.length_nil] at this; omega
    · rw [List.length_map, List.length_take]; omega
    · intro e he
      simp only [List.mem_map] at he
      obtain ⟨z, _, rfl⟩ := he; rfl
    · intro i j e x hi hj
      simp only [List.getElem?_map, Option.map_eq_some_iff] at hi
      obtain ⟨z, hz1, rfl⟩ := hi
      cases j with
      | succ j => simp at hj
      | zero =>
        have hlt := (List.getElem?_eq_some_iff.1 hz1).1
        rw [List.length_take] at hlt
        have := hat (i * 1 + 0) (by omega)
        simpa using this
    · intro i j e x hi hj
      simp only [List.getElem?_map, Option.map_eq_some_iff] at hi
      obtain ⟨z, hz1, rfl⟩ := hi
      cases j with
      | succ j => simp at hj
      | zero =>
        simp only [List.getElem?_cons_zero, Option.some.injEq] at hj
        subst hj
        rw [List.getElem?_take] at hz1
        split at hz1
        · have : zs.getD (i * 1 + 0) 0 = z := by simp [List.getD, hz1]
          rw [this]; exact .int k z
        · cases hz1
/-- a call that was shown to return true -/
theorem lift_call {P : Program} {C : Ctx} {k : FuncId} {m : Pol} {args : List AV} {Q : AV → Heap → Prop} (hmix : P.follows .mixedOrders = true) (hg : C.glob = fun _ => none) (h : CallA P C (.func k) m args [] Q) (W : World) (xs : Array Value)
    (hl : args.length = xs.size) (hx : ∀ (i : Nat) v, args[i]? = some v → ∃ x, xs[i]? = some x ∧ RV (oldF W) (fun _ => none) v x) :
    Calls P k xs W fun e W' => ∃ x F' m' v hs', e = .returned x ∧ Q v hs' ∧ RV F' m' v x ∧ Below W.heap.size W W' := by
  obtain ⟨k', fn, hk, hf, hb, hn, hc⟩ := sound hmix h
  cases hk
  have hGR : GlobR (oldF W) C.glob := by intro g cs hgc; rw [hg] at hgc; cases hgc
  have := callsIn_wide.1 (hc (oldF W) (fun _ => none) W xs (st_old W) hGR hl hx)
  refine this.mono ?_
  rintro e W' ⟨x, F', m', v, hs', rfl, _, hv, ev, _, hq⟩
  exact ⟨x, F', m', v, hs', rfl, hq, hv, below_of_ev ev⟩
theorem rv_true {F m v x} (hv : v = .d (.bool true)) (h : RV F m v x) : x = .bool true := by
  subst hv
  cases h with
  | d h => cases h; rfl

variable {H : Type} {enc : TypeId × Value → H} {P : Program}
/-- the row's end: what the call was given reads as it did, and the call says true -/
theorem post_true {f : Func} {s : ChangeSpec} {W W' : World} {args : Array Value} {v : Value} {ds gs : List (DataW H)} {before pa pv : List MemPlace}
    (hW : DataW.Whole enc P f.params.toList s.vars false W args.toList ds gs before)
    (hres : ∀ (b : Nat) (sp : Nat → Bool) (hd : Bool), DataW.TrodAll enc P W' b sp hd f.resultTypes.toList (v.resultList f.resultTypes.size) (s.fn H (ds ++ gs)).results [])
    (hargs : ∀ sp : Nat → Bool, (∀ p ∈ before, sp p.block = true) → DataW.TrodAll enc P W' 0 sp true f.params.toList args.toList (s.fn H (ds ++ gs)).args pa)
    (hvars : ∀ sp : Nat → Bool, (∀ p ∈ before, sp p.block = true) → DataW.TrodVars enc P W' sp s.vars (s.fn H (ds ++ gs)).vars pv)
    (hps : before = pa ++ pv) (hB : Below W.heap.size W W')
    (hok : ∀ (j : Nat) (t : TypeId) (r : Value), f.resultTypes[j]? = some t → (v.resultList f.resultTypes.size)[j]? = some r → Value.okWide P W' .any 0 t r) :
    s.post enc P f false true false false W args v W' := by
  have hold : ∀ p ∈ before, (fun b => decide (b < W.heap.size)) p.block = true := fun p hp => by simpa using hW.lt p hp
  refine ⟨ds, gs, before, [], pa, pv, hW, hres _ _ _, hargs _ hold, hvars _ hold, World.keptBut_mono (fun p hp => ⟨hp, ?_⟩) (hB.frame (· ∈ before)), fun _ => ?_⟩
  · rw [hps, List.mem_append] at hp
    exact Or.inr hp
  · have hW0 := hW
    obtain ⟨_, _, _, _, _, hz, hn⟩ := hW
    refine ⟨hok, _, _, ([] ++ pa) ++ pv, ⟨[] ++ pa, pv, trodAll_append (hargs _ (fun _ _ => rfl)) (hres _ _ _), hvars _ (fun _ _ => rfl), rfl, ?_, ?_⟩, ?_⟩
    · intro b off hp
      have hp' : MemPlace.cell b off ∈ before := by rw [hps]; simpa using hp
      rw [hB.frozen (p := ⟨b, off, none⟩) (hW0.lt _ hp')]
      exact hz b off hp'
    · intro ha
      have := hn ha
      rw [hps] at this
      simpa using this
    · intro p hp _
      rw [hps]
      simpa using hp
end Go.Ab
