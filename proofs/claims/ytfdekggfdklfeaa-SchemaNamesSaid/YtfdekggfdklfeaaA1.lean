/-
  An abstract semantics of the program's code: values are deep trees of frozen data, or numbers of a few objects that may still be written. The rules of the abstract semantics: W j: the judgement j can be derived; what a call, a piece of code, a list of operations may end in. How a judgement of the abstract semantics is reckoned: one equation for each form of code and of operation. How a judgement is reckoned, continued: builtins, slices, calls, guards, regions that draw their order. Small equations for reckoning.
-/
import GoSem.Dispatch
import Derived.Attr
set_option linter.all false
set_option linter.unusedVariables false
set_option linter.unusedSimpArgs false
namespace Go.Ab

/-- Deep data: cells that nobody will write any more. -/
inductive DV where
  | bool (b : Bool)
  | int (k : IntKind) (n : Int)
  | str (s : ByteArray)
  | nilp | snil | mnil | fnil | inil
  /-- a pointer into frozen memory: the cells of its element, the place in it -/
  | fptr (e : List DV) (o : Nat)
  /-- a frozen slice: the cells of its elements; known not to be nil; its capacity is its length -/
  | fsl (es : List (List DV)) (nn full : Bool)
  deriving Inhabited

/-- Values. -/
inductive AV where
  | d (v : DV)
  | agg (cs : List AV)
  | tup (vs : List AV)
  | ptr (id i o : Nat)
  | sl (id off len : Nat) (full : Bool)
  | map (id : Nat)
  | fn (f : Fn) (first cap : List AV)
  | ifc (t : TypeId) (v : AV)
  | top
  deriving Inhabited

/-- Objects. -/
inductive AO where
  | cells (k : Nat) (es : List (List AV))
  | flat (k : Nat) (es : List (List DV))
  | frz (k : Nat) (es : List (List DV))
  | map (es : List (DV × AV))
  | siter (s : ByteArray) (pos : Nat)
  | loop (fn : FuncId) (env : List (Nat × AV)) (ps : List Nat) (assign body : Code) (N : Nat) (vars : List Nat) (st : Nat) (pend : Option Code)
  deriving Inhabited

abbrev Heap := List (Option AO)
abbrev Env := List (Nat × AV)

def undef : AV := .tup []

/-- A computation that may ask for objects. -/
inductive AM (α : Type) where
  | ret (a : α)
  | fail
  | get (i : Nat) (k : Option AO → AM α)

namespace AM
def bind {α β : Type} : AM α → (α → AM β) → AM β
  | .ret a, f => f a
  | .fail, _ => .fail
  | .get i k, f => .get i fun o => (k o).bind f
instance : Monad AM where
  pure := AM.ret
  bind := AM.bind
def run {α : Type} (h : Heap) : AM α → Option α
  | .ret a => some a
  | .fail => none
  | .get i k => match h[i]? with
    | some o => (k o).run h
    | none => none
/-- which objects were asked for -/
def log {α : Type} (h : Heap) : AM α → List Nat
  | .ret _ => []
  | .fail => []
  | .get i k => match h[i]? with
    | some o => i :: (k o).log h
    | none => [i]
/-- an object that is alive -/
def obj {α : Type} (i : Nat) (k : AO → AM α) : AM α := .get i fun o => match o with | some o => k o | none => .fail
def ofOpt {α : Type} : Option α → AM α
  | some a => .ret a
  | none => .fail
def guard (b : Bool) : AM Unit := if b then .ret () else .fail
end AM

/- ---------- static facts of the program ---------- -/
section static
variable (P : Program)
/-- cells of a type -/
def szOf (t : TypeId) : Nat := match P.underlying t with | some _ => P.cellsOf t | none => 0
def isAg (t : TypeId) : Bool := match P.underlying t with | some (.struct _) | some (.array ..) => true | _ => false
/-- of an array type: length, element's type, cells -/
def arElem (t : TypeId) : Option (Nat × TypeId × Nat) := match P.underlying t with | some (.array n e) => some (n, e, szOf P e) | _ => none
/-- of a struct type: a field's place, its type, cells -/
def fld (t : TypeId) (f : Nat) : Option (Nat × TypeId × Nat) := match P.underlying t with
  | some (.struct fs) => (fs[f]?).map fun f => (f.offset, f.type, szOf P f.type)
  | _ => none
def absZ : Value → Option DV
  | .bool b => some (.bool b)
  | .int k n => some (.int k n)
  | .string s => some (.str s)
  | .pointer none => some .nilp
  | .slice none 0 0 => some .snil
  | .map none => some .mnil
  | .nilFunc => some .fnil
  | .nilIface => some .inil
  | _ => none
def absZs : List Value → Option (List DV)
  | [] => some []
  | v :: vs => match absZ v, absZs vs with
    | some x, some xs => some (x :: xs)
    | _, _ => none
/-- the types of a struct's fields are known -/
def fieldsOk (t : TypeId) : Bool := match P.underlying t with | some (.struct fs) => fs.all fun f => (P.underlying f.type).isSome | some (.array _ e) => (P.underlying e).isSome | _ => true
/-- an aggregate for a type of aggregates, one cell for others -/
def formOk (t : TypeId) (z : Value) : Bool := match z with | .agg _ => isAg P t | .tuple _ => false | _ => !isAg P t
/-- the zero cells of a type -/
def zeroC (t : TypeId) : Option (List DV) := if fieldsOk P t = false then none else match (P.info? t).bind (·.zero) with
  | some z => if formOk P t z then absZs z.cells.toList else none
  | none => none
/-- the zero of a type has its size -/
def zeroOk (t : TypeId) : Bool := match zeroC P t with | some z => z.length == szOf P t | none => false
/-- of a slice type: its element's type, cells and bytes -/
def slElem (t : TypeId) : Option (TypeId × Nat × Nat) := match P.underlying t with | some (.slice e) => if zeroOk P e then some (e, szOf P e, P.bytesOf e) else none | _ => none
/-- of a map type -/
def mapKV (t : TypeId) : Option (TypeId × TypeId) := match P.underlying t with | some (.map k e) => some (k, e) | _ => none
inductive Shape where
  | str | slice | array (n : Nat) | map | other
def shapeOf (t : TypeId) : Shape := match P.underlying t with
  | some .string => .str
  | some (.slice _) => .slice
  | some (.array n _) => .array n
  | some (.map ..) => .map
  | _ => .other
end static

/- ---------- values ---------- -/
def DV.norm : DV → DV
  | .snil => .fsl [] false false
  | .fsl es _ _ => .fsl es false false
  | v => v

def AV.cellsOf : AV → List AV
  | .agg cs => cs
  | v => [v]

def absV : Value → Option AV
  | .agg cs => (absZs cs.toList).map fun l => .agg (l.map .d)
  | .func (.func f) first cap => if first.isEmpty && cap.isEmpty then some (.fn (.func f) [] []) else none
  | .tuple vs => if vs.isEmpty then some (.tup []) else none
  | v => (absZ v).map .d

def Env.get (e : Env) (t : Nat) : AV := match e.lookup t with | some v => v | none => .top

def ev (G : Nat → Option (List DV)) (e : Env) : Operand → Option AV
  | .tmp t => some (e.get t)
  | .const v => absV v
  | .global g => (G g).map fun cs => .d (.fptr cs 0)
  | .func f => some (.fn (.func f) [] [])

/-- clean cells -/
def AV.dv? : AV → Option DV
  | .d v => some v
  | _ => none
def dvs? : List AV → Option (List DV)
  | [] => some []
  | .d v :: r => match dvs? r with | some l => some (v :: l) | none => none
  | _ => none
def dvss? : List (List AV) → Option (List (List DV))
  | [] => some []
  | e :: r => match dvs? e, dvss? r with | some x, some l => some (x :: l) | _, _ => none

/-- contents of a slice: clean, or not -/
inductive Cont where
  | fl (es : List (List DV))
  | mx (es : List (List AV))
def Cont.length : Cont → Nat
  | .fl es => es.length
  | .mx es => es.length
def Cont.avs : Cont → List (List AV)
  | .fl es => es.map (·.map .d)
  | .mx es => es
def Cont.take (n : Nat) : Cont → Cont
  | .fl es => .fl (es.take n)
  | .mx es => .mx (es.take n)
def Cont.drop (n : Nat) : Cont → Cont
  | .fl es => .fl (es.drop n)
  | .mx es => .mx (es.drop n)
def Cont.app : Cont → Cont → Cont
  | .fl a, .fl b => .fl (a ++ b)
  | a, b => .mx (a.avs ++ b.avs)
def Cont.obj (k : Nat) : Cont → AO
  | .fl es => .flat k es
  | .mx es => .cells k es
/-- cells of an element, contents -/
def AO.cont? : AO → Option (Nat × Cont)
  | .cells k es => some (k, .mx es)
  | .flat k es | .frz k es => some (k, .fl es)
  | _ => none
def AO.live? : AO → Option (Nat × Cont)
  | .cells k es => some (k, .mx es)
  | .flat k es => some (k, .fl es)
  | _ => none
def Cont.ofRows (es : List (List AV)) : Cont := match dvss? es with | some l => .fl l | none => .mx es
/-- all rows have so many cells -/
def allLen {α : Type} (k : Nat) (es : List (List α)) : Bool := es.all fun e => e.length == k
def Cont.allLen (k : Nat) : Cont → Bool
  | .fl es => Ab.allLen k es
  | .mx es => Ab.allLen k es
/-- write cells into an element -/
def splice {α : Type} (cs : List α) (o : Nat) (vs : List α) : List α := cs.take o ++ vs ++ cs.drop (o + vs.length)
def Cont.setCells (c : Cont) (i o : Nat) (vs : List AV) : Option Cont := match c with
  | .fl es => match es[i]? with
    | none => none
    | some e => if o + vs.length ≤ e.length then match dvs? vs with
      | some ds => some (.fl (es.set i (splice e o ds)))
      | none => some (.mx ((es.map (·.map .d)).set i (splice (e.map .d) o vs)))
      else none
  | .mx es => match es[i]? with
    | none => none
    | some e => if o + vs.length ≤ e.length then some (.mx (es.set i (splice e o vs))) else none
def Cont.row (c : Cont) (i : Nat) : Option (List AV) := match c with
  | .fl es => (es[i]?).map (·.map .d)
  | .mx es => es[i]?

/-- what an operation does -/
structure Eff where
  v : AV
  wr : List (Nat × Option AO)
  nx : Nat            -- how many new objects (0 or 1 for an operation)

def eff (v : AV) : AM Eff := .ret ⟨v, [], 0⟩

/-- Cells of a value read at an address. -/
def pick (agg : Bool) (sz : Nat) (cs : List AV) (o : Nat) : Option AV :=
  if agg then (if o + sz ≤ cs.length then some (.agg ((cs.drop o).take sz)) else none) else if sz = 1 then cs[o]? else none

def asInt : AV → Option (IntKind × Int)
  | .d (.int k n) => some (k, n)
  | _ => none

def nat? (v : AV) : Option Nat := match v with
  | .d (.int _ n) => if 0 ≤ n then some n.toNat else none
  | _ => none

/-- the contents that a slice value of elements of so many cells shows -/
def sliceCont (k : Nat) : AV → AM Cont
  | .d .snil => .ret (.fl [])
  | .d (.fsl es _ _) => if allLen k es then .ret (.fl es) else .fail
  | .d (.str s) => if k = 1 then .ret (.fl (s.data.toList.map fun b => [DV.int .u8 b.toNat])) else .fail
  | .sl id off len _ => .obj id fun o => match o.cont? with
    | some (k', c) => if k' = k ∧ off + len ≤ c.length then .ret ((c.drop off).take len) else .fail
    | none => .fail
  | _ => .fail

def big : Nat := 2 ^ 30

def lenOf (P : Program) (t : TypeId) (x : AV) : AM Int :=
  match shapeOf P t, x with
  | .str, .d (.str s) => .ret s.size
  | .array n, _ => .ret n
  | .slice, .d .snil => .ret 0
  | .slice, .d (.fsl es _ _) => .ret es.length
  | .slice, .sl _ _ len _ => .ret len
  | .map, .d .mnil => .ret 0
  | .map, .map id => .obj id fun o => match o with | .map es => .ret es.length | _ => .fail
  | _, _ => .fail

/-- what is appended is a slice or a string -/
def okSrc (P : Program) (ts : Array TypeId) : Bool := match ts[1]? with
  | none => true
  | some t => match shapeOf P t with | .str | .slice => true | _ => false
def appendOp (P : Program) (base : Nat) (ts : Array TypeId) (dst src : AV) : AM Eff :=
  if okSrc P ts = false then .fail else
  match (ts[0]?).bind (slElem P) with
  | none => .fail
  | some (_, sz, bytes) =>
    if sz = 0 ∨ bytes > 65536 then .fail else
    (sliceCont sz src).bind fun s =>
    let fresh (old : Cont) : AM Eff :=
      if old.length + s.length ≤ big then
        if s.length = 0 then eff dst else
        .ret ⟨.sl base 0 (old.length + s.length) false, [(base, some ((old.app s).obj sz))], 1⟩
      else .fail
    match dst with
    | .d .snil => fresh (.fl [])
    | .d (.fsl es _ true) => if allLen sz es then fresh (.fl es) else .fail
    | .sl id off len full => .obj id fun o =>
      match o.cont? with
      | none => .fail
      | some (k, c) =>
        if k ≠ sz ∨ off + len > c.length then .fail else
        if full then fresh ((c.drop off).take len) else
        match o.live? with
        | none => .fail
        | some _ =>
          if len + s.length ≤ big then
            if off + len + s.length ≤ c.length then
              .ret ⟨.sl id off (len + s.length) false, [(id, some (((c.take (off + len)).app (s.app (c.drop (off + len + s.length)))).obj sz))], 0⟩
            else
              .ret ⟨.sl base 0 (len + s.length) false, [(id, none), (base, some ((((c.drop off).take len).app s).obj sz))], 1⟩
          else .fail
    | _ => .fail

def copyOp (P : Program) (ts : Array TypeId) (dst src : AV) : AM Eff :=
  match (ts[0]?).bind (slElem P) with
  | none => .fail
  | some (_, sz, _) =>
    if sz = 0 then .fail else
    (sliceCont sz src).bind fun s =>
    match dst with
    | .d .snil => eff (.d (.int .i64 0))
    | .d (.fsl [] _ _) => eff (.d (.int .i64 0))
    | .sl id off len _ => .obj id fun o =>
      match o.live? with
      | none => .fail
      | some (k, c) =>
        if k ≠ sz ∨ off + len > c.length then .fail else
        .ret ⟨.d (.int .i64 (min s.length len : Nat)), [(id, some (((c.take off).app ((s.take (min s.length len)).app (c.drop (off + min s.length len)))).obj sz))], 0⟩
    | _ => .fail

/-- cells of a slice type's elements -/
def slSz (P : Program) (t : TypeId) : Nat := match slElem P t with | some (_, sz, _) => sz | none => 0
def boundA (v : Option AV) (dflt : Nat) : Option Nat := match v with | none => some dflt | some v => nat? v
def sliceOp (P : Program) (t : TypeId) (x : AV) (lo hi mx : Option AV) : AM Eff :=
  if mx.isSome && hi.isNone then .fail else
  match shapeOf P t, x with
  | .str, .d (.str s) =>
    match mx, boundA hi s.size, boundA lo 0 with
    | none, some h, some l => if l ≤ h && h ≤ s.size then eff (.d (.str (s.extract l h))) else .fail
    | _, _, _ => .fail
  | .slice, .d .snil => if slSz P t = 0 then .fail else
    match boundA mx 0, boundA hi 0, boundA lo 0 with
    | some 0, some 0, some 0 => eff (.d .snil)
    | _, _, _ => .fail
  | .slice, .d (.fsl es nn full) => if slSz P t = 0 then .fail else
    match boundA hi es.length, boundA lo 0 with
    | some h, some l =>
      match boundA mx h with
      | some m => if l ≤ h && h ≤ m && m ≤ es.length && allLen (slSz P t) es then
          eff (.d (.fsl ((es.drop l).take (h - l)) (nn || !es.isEmpty) (if mx.isSome then m == h else full && h == es.length))) else .fail
      | none => .fail
    | _, _ => .fail
  | .slice, .sl id off len full => .obj id fun ob => if slSz P t = 0 ∨ ob.cont?.map (·.1) ≠ some (slSz P t) then .fail else
    match boundA hi len, boundA lo 0 with
    | some h, some l =>
      match boundA mx h with
      | some m => if l ≤ h && h ≤ m && m ≤ len then
          (if (if mx.isSome then m != h else full && h != len) then .fail else eff (.sl id (off + l) (h - l) (if mx.isSome then true else full && h == len))) else .fail
      | none => .fail
    | _, _ => .fail
  | _, _ => .fail

/-- kinds of cells that are compared by what they hold -/
inductive CK where
  | b | i | s
/-- equality of cells of plain kinds -/
def eqKs : List CK → List DV → List DV → Option Bool
  | [], [], [] => some true
  | .b :: ks, .bool a :: x, .bool b :: y => (eqKs ks x y).map fun r => (a == b) && r
  | .i :: ks, .int k a :: x, .int k' b :: y => if k = k' then (eqKs ks x y).map fun r => (a == b) && r else none
  | .s :: ks, .str a :: x, .str b :: y => (eqKs ks x y).map fun r => (a == b) && r
  | _, _, _ => none
/-- the kinds of the cells of a type whose values are compared cell by cell -/
def fieldsK (P : Program) (f : TypeId → Option (List CK)) : Nat → List Field → Option (List CK)
  | _, [] => some []
  | a, g :: r => if g.name = "_" ∨ g.offset ≠ a then none else match f g.type, fieldsK P f (a + P.cellsOf g.type) r with
    | some x, some y => some (x ++ y)
    | _, _ => none
def plainK (P : Program) : Nat → TypeId → Option (List CK)
  | 0, _ => none
  | n + 1, t => match (match P.underlying t with
      | some .bool => some [CK.b]
      | some (.int _) => some [CK.i]
      | some .string => some [CK.s]
      | some (.struct fs) => if P.stoodInHeld t then none else fieldsK P (plainK P n) 0 fs.toList
      | _ => none) with
    | some ks => if ks.length = P.cellsOf t then some ks else none
    | none => none
def plainT (P : Program) (t : TypeId) : Option (List CK) := plainK P 8 t
/-- how values of a type are compared -/
inductive EqShape where
  | bool | ptr | slice | map | fn | ifc | agg (ks : List CK) | other
def eqShape (P : Program) (t : TypeId) : EqShape := match P.underlying t with
  | some .bool => .bool
  | some (.pointer _) => .ptr
  | some (.slice _) => .slice
  | some (.map ..) => .map
  | some (.func ..) => .fn
  | some (.interface _) => .ifc
  | some (.struct _) => match plainT P t with | some ks => .agg ks | none => .other
  | _ => .other

/-- c: one of the two is a literal -/
def equalAV (P : Program) (t : TypeId) (c : Bool) (x y : AV) : Option Bool :=
  match eqShape P t, x, y with
  | .bool, .d (.bool a), .d (.bool b) => some (a == b)
  | .ptr, .d .nilp, .d .nilp => some true
  | .ptr, .d .nilp, .d (.fptr ..) | .ptr, .d (.fptr ..), .d .nilp | .ptr, .d .nilp, .ptr .. | .ptr, .ptr .., .d .nilp => some false
  | .slice, .d .snil, .d .snil => some true
  | .slice, .d .snil, .d (.fsl es nn _) | .slice, .d (.fsl es nn _), .d .snil => if nn || !es.isEmpty then some false else none
  | .slice, .d .snil, .sl .. | .slice, .sl .., .d .snil => some false
  | .map, .d .mnil, .d .mnil => some true
  | .map, .d .mnil, .map _ | .map, .map _, .d .mnil => some false
  | .fn, .d .fnil, .d .fnil => some true
  | .fn, .d .fnil, .fn .. | .fn, .fn .., .d .fnil => some false
  | .ifc, .d .inil, .d .inil => if c then some true else none
  | .ifc, .d .inil, .ifc .. | .ifc, .ifc .., .d .inil => some false
  | .agg ks, .agg xs, .agg ys => match dvs? xs, dvs? ys with
    | some a, some b => eqKs ks a b
    | _, _ => none
  | _, _, _ => none

def binInt (op : BinOp) (k : IntKind) (a b : Int) : Option DV :=
  match op with
  | .add => some (.int k (k.wrap (a + b)))
  | .sub => some (.int k (k.wrap (a - b)))
  | .mul => some (.int k (k.wrap (a * b)))
  | .quo => if b = 0 then none else some (.int k (k.wrap (a.tdiv b)))
  | .rem => if b = 0 then none else some (.int k (a.tmod b))
  | .and => some (.int k (k.wrap (BitVec.ofInt k.bits a &&& BitVec.ofInt k.bits b).toNat))
  | .or => some (.int k (k.wrap (BitVec.ofInt k.bits a ||| BitVec.ofInt k.bits b).toNat))
  | .xor => some (.int k (k.wrap (BitVec.ofInt k.bits a ^^^ BitVec.ofInt k.bits b).toNat))
  | .eql => some (.bool (a == b))
  | .neq => some (.bool (a != b))
  | .lss => some (.bool (a < b))
  | .leq => some (.bool (a ≤ b))
  | .gtr => some (.bool (a > b))
  | .geq => some (.bool (a ≥ b))
  | _ => none

def binStr (op : BinOp) (x y : ByteArray) : Option DV :=
  match op with
  | .add => if x.size + y.size ≤ big then some (.str (x ++ y)) else none
  | .eql => some (.bool (x.toList == y.toList))
  | .neq => some (.bool !(x.toList == y.toList))
  | .lss => some (.bool (Op.bytesLess x.toList y.toList))
  | .leq => some (.bool (Op.bytesLess x.toList y.toList || x.toList == y.toList))
  | .gtr => some (.bool !(Op.bytesLess x.toList y.toList || x.toList == y.toList))
  | .geq => some (.bool !Op.bytesLess x.toList y.toList)
  | _ => none

def binAV (P : Program) (op : BinOp) (t : TypeId) (c : Bool) (x y : AV) : Option AV :=
  match op, x, y with
  | .shl, .d (.int k a), .d (.int _ b) => if b < 0 then none else some (.d (.int k (k.wrap (a * 2 ^ (min b.toNat k.bits)))))
  | .shr, .d (.int k a), .d (.int _ b) => if b < 0 then none else some (.d (.int k (a.fdiv (2 ^ (min b.toNat k.bits)))))
  | op, .d (.int k a), .d (.int k' b) => if k = k' then (binInt op k a b).map .d else none
  | op, .d (.str a), .d (.str b) => (binStr op a b).map .d
  | .eql, x, y => (equalAV P t c x y).map fun b => .d (.bool b)
  | .neq, x, y => (equalAV P t c x y).map fun b => .d (.bool !b)
  | _, _, _ => none
/-- one of two operands is a literal -/
def litOp (x y : Operand) : Bool := (match x with | .const _ => true | _ => false) || (match y with | .const _ => true | _ => false)

def unAV (op : UnOp) (x : AV) : Option AV :=
  match op, x with
  | .neg, .d (.int k n) => some (.d (.int k (k.wrap (0 - n))))
  | .not, .d (.bool b) => some (.d (.bool !b))
  | _, _ => none

/-- conversions -/
inductive CV where
  | ii (k : IntKind) | is | ss | bs | other
def convShape (P : Program) (src dst : TypeId) : CV := match P.underlying src, P.underlying dst with
  | some (.int _), some (.int k) => .ii k
  | some (.int _), some .string => .is
  | some .string, some .string => .ss
  | some (.slice e), some .string => match P.underlying e with | some (.int .u8) => .bs | _ => .other
  | _, _ => .other
def bytesOfRows : List (List DV) → Option (List UInt8)
  | [] => some []
  | [DV.int .u8 n] :: r => (bytesOfRows r).map fun l => UInt8.ofNat n.toNat :: l
  | _ => none
def convAV (P : Program) (src dst : TypeId) (x : AV) : AM AV :=
  match convShape P src dst, x with
  | .ii k, .d (.int _ n) => .ret (.d (.int k (k.wrap n)))
  | .is, .d (.int _ n) => .ret (.d (.str (Utf8.encode n)))
  | .ss, .d (.str s) => .ret (.d (.str s))
  | .bs, .d (.str _) => .fail
  | .bs, x => (sliceCont 1 x).bind fun c => match c with
    | .fl es => (match bytesOfRows es with
      | some bs => .ret (.d (.str ⟨bs.toArray⟩))
      | none => .fail)
    | .mx _ => .fail
  | _, _ => .fail

/-- a part of an aggregate that has so many cells -/
def okPart (sz : Nat) (v : AV) : Bool := match v with
  | .agg cs => cs.length == sz
  | .tup _ | .top => false
  | _ => sz == 1
/-- fill the cells of an aggregate -/
def fillA (place : Nat → Option (Nat × Nat)) (cells : List AV) : List (Nat × AV) → Option (List AV)
  | [] => some cells
  | (i, v) :: rest => match place i with
    | none => none
    | some (off, size) => if !okPart size v || off + size > cells.length then none else fillA place (splice cells off v.cellsOf) rest

def evAll (G : Nat → Option (List DV)) (e : Env) : List (Nat × Operand) → Option (List (Nat × AV))
  | [] => some []
  | (i, o) :: r => match ev G e o, evAll G e r with
    | some v, some l => some ((i, v) :: l)
    | _, _ => none
def evs (G : Nat → Option (List DV)) (e : Env) : List Operand → Option (List AV)
  | [] => some []
  | o :: r => match ev G e o, evs G e r with
    | some v, some l => some (v :: l)
    | _, _ => none

def chunks {α : Type} (sz : Nat) : Nat → List α → List (List α)
  | 0, _ => []
  | n + 1, l => l.take sz :: chunks sz n (l.drop sz)

/-- does a value fit a variable of so many cells -/
def okCells (agg : Bool) (sz : Nat) (v : AV) : Bool := match v with
  | .agg cs => agg && cs.length == sz
  | .tup _ | .top => false
  | _ => !agg && sz == 1

/-- the kind of a map's keys -/
def keyK (P : Program) (t : TypeId) : Option CK := match P.underlying t with
  | some .bool => some CK.b
  | some (.int _) => some CK.i
  | some .string => some CK.s
  | _ => none
def mapFind (c : CK) (k : DV) : List (DV × AV) → Option (Option AV)
  | [] => some none
  | (x, v) :: r => match eqKs [c] [k] [x] with
    | none => none
    | some true => some (some v)
    | some false => mapFind c k r
def mapSet (c : CK) (k : DV) (v : AV) : List (DV × AV) → Option (List (DV × AV))
  | [] => some [(k, v)]
  | (x, w) :: r => match eqKs [c] [k] [x] with
    | none => none
    | some true => some ((x, v) :: r)
    | some false => (mapSet c k v r).map ((x, w) :: ·)

def reAgg (agg : Bool) (cs : List AV) : Option AV := if agg then some (.agg cs) else match cs with | [c] => some c | _ => none

def minMax (mx : Bool) : AV → List AV → Option AV
  | v, [] => some v
  | .d (.int k a), .d (.int k' b) :: r => if k = k' then minMax mx (.d (.int k (if mx then (if b > a then b else a) else (if b < a then b else a)))) r else none
  | _, _ => none

/-- The operations that call nothing. base: the number of the next object. -/
def prim (P : Program) (G : Nat → Option (List DV)) (e : Env) (base : Nat) (o : Oper) : AM Eff :=
  let ev := ev G
  let evAll := evAll G
  let evs := evs G
  let on1 (x : Operand) (k : AV → AM Eff) : AM Eff := match ev e x with | some v => k v | none => .fail
  let on2 (x y : Operand) (k : AV → AV → AM Eff) : AM Eff := match ev e x, ev e y with | some v, some w => k v w | _, _ => .fail
  let opt (r : Option AV) : AM Eff := match r with | some v => eff v | none => .fail
  match o.op with
  | .move x | .assign x => on1 x eff
  | .pick c a b => on1 c fun c => match c with
    | .d (.bool c) => on2 a b fun a b => eff (if c then a else b)
    | _ => .fail
  | .alloc t => match zeroC P t with
    | some z => if z.isEmpty then .fail else .ret ⟨.ptr base 0 0, [(base, some (.flat z.length [z]))], 1⟩
    | none => .fail
  | .box t x => on1 x fun v =>
    if okCells (isAg P t) (szOf P t) v && !v.cellsOf.isEmpty then .ret ⟨.ptr base 0 0, [(base, some ((Cont.ofRows [v.cellsOf]).obj v.cellsOf.length))], 1⟩ else .fail
  | .build t parts => match evAll e parts.toList, zeroC P t with
    | some ps, some z =>
      let place : Nat → Option (Nat × Nat) := match arElem P t with
        | some (_, _, sz) => fun i => some (i * sz, sz)
        | none => fun i => (fld P t i).map fun (o, _, s) => (o, s)
      if isAg P t then (match fillA place (z.map .d) ps with | some cs => eff (.agg cs) | none => .fail) else .fail
    | _, _ => .fail
  | .buildSlice t len parts => match evAll e parts.toList, slElem P t with
    | some ps, some (el, sz, _) => match zeroC P el with
      | some z =>
        if sz = 0 || len * sz > 2 ^ 24 || z.length ≠ sz then .fail else
        (match fillA (fun i => some (i * sz, sz)) ((List.replicate len z).flatten.map .d) ps with
         | some cs => .ret ⟨.sl base 0 len false, [(base, some ((Cont.ofRows (chunks sz len cs)).obj sz))], 1⟩
         | none => .fail)
      | none => .fail
    | _, _ => .fail
  | .load t a => on1 a fun a => match a with
    | .ptr id i o => .obj id fun ob => match ob.cont?.bind (·.2.row i) with
      | some cs => opt (pick (isAg P t) (szOf P t) cs o)
      | none => .fail
    | .d (.fptr cs o) => opt (pick (isAg P t) (szOf P t) (cs.map .d) o)
    | _ => .fail
  | .store t a x => on2 a x fun a v => match a with
    | .ptr id i o => if okCells (isAg P t) (szOf P t) v then .obj id fun ob => match ob.live?.bind (fun kc => (kc.2.setCells i o v.cellsOf).map (Cont.obj kc.1)) with
        | some c => .ret ⟨undef, [(id, some c)], 0⟩
        | none => .fail
        else .fail
    | _ => .fail
  | .nilCheck x => on1 x fun v => match v with
    | .ptr .. | .d (.fptr ..) => eff v
    | .fn (.func _) .. => eff v
    | _ => .fail
  | .binOp op t x y _ => on2 x y fun a b => opt (binAV P op t (litOp x y) a b)
  | .unOp op _ x => on1 x fun a => opt (unAV op a)
  | .convert s d x => on1 x fun a => do eff (← convAV P s d a)
  | .makeInterface t x => on1 x fun v => match P.underlying t with
    | some (.interface _) => .fail
    | some _ => eff (.ifc t v)
    | none => .fail
  | .makeFunc fn first cap => match evs e first.toList, evs e cap.toList with
    | some a, some b => eff (.fn fn a b)
    | _, _ => .fail
  | .makeMap _ r => if r.isSome then .fail else .ret ⟨.map base, [(base, some (.map []))], 1⟩
  | .makeSlice t l c => on2 l c fun l c => match slElem P t, nat? l, nat? c with
    | some (el, sz, bytes), some l, some c => match zeroC P el with
      | some z => if sz = 0 || bytes > 65536 || l > c || c > big || z.length ≠ sz then .fail else
          .ret ⟨.sl base 0 l false, [(base, some (.flat sz (List.replicate l z)))], 1⟩
      | none => .fail
    | _, _, _ => .fail
  | .slice t x lo hi mx => on1 x fun v =>
    let o (b : Option Operand) : Option (Option AV) := match b with | none => some none | some x => (ev e x).map some
    match o lo, o hi, o mx with
    | some lo, some hi, some mx => sliceOp P t v lo hi mx
    | _, _, _ => .fail
  | .fieldAddr s x f => on1 x fun v => match fld P s f with
    | some (off, _, sz) => if sz = 0 then .fail else match v with
      | .ptr id i o => eff (.ptr id i (o + off))
      | .d (.fptr cs o) => eff (.d (.fptr cs (o + off)))
      | _ => .fail
    | none => .fail
  | .field t x f => on1 x fun v => match fld P t f, v with
    | some (off, ft, sz), .agg cs => opt (pick (isAg P ft) sz cs off)
    | _, _ => .fail
  | .indexAddr t x ix => on2 x ix fun v i => match nat? i with
    | none => .fail
    | some i => match slElem P t, arElem P t with
      | some (_, sz, _), _ => if sz = 0 then .fail else (match v with
        | .d (.fsl es _ _) => (match es[i]? with | some el => if el.length = sz then eff (.d (.fptr el 0)) else .fail | none => .fail)
        | .sl id off len _ => .obj id fun ob => match ob.cont? with
          | some (k, c) => if k = sz ∧ i < len ∧ off + i < c.length then eff (.ptr id (off + i) 0) else .fail
          | none => .fail
        | _ => .fail)
      | none, some (n, _, sz) => if i < n && sz ≠ 0 then (match v with
        | .ptr id j o => eff (.ptr id j (o + i * sz))
        | .d (.fptr cs o) => eff (.d (.fptr cs (o + i * sz)))
        | _ => .fail) else .fail
      | none, none => .fail
  | .index t x ix => on2 x ix fun v i => match nat? i with
    | none => .fail
    | some i => match shapeOf P t, v with
      | .str, .d (.str s) => (match s.data.toList[i]? with | some b => eff (.d (.int .u8 b.toNat)) | none => .fail)
      | .array n, .agg cs => (match arElem P t with
        | some (_, el, sz) => if i < n then opt (pick (isAg P el) sz cs (i * sz)) else .fail
        | none => .fail)
      | _, _ => .fail
  | .extract x i => on1 x fun v => match v with
    | .tup vs => opt (vs[i]?)
    | _ => .fail
  | .lookup t x k ok => on2 x k fun v k => match mapKV P t with
    | some (kt, el) => match keyK P kt, zeroC P el, k with
      | some c, some z, .d kd =>
        let out (r : Option AV) : AM Eff := match (match r with | some x => some x | none => reAgg (isAg P el) (z.map .d)) with
          | some x => eff (if ok then .tup [x, .d (.bool r.isSome)] else x)
          | none => .fail
        (match v with
        | .d .mnil => out none
        | .map id => .obj id fun ob => match ob with
          | .map es => (match mapFind c kd es with | some r => out r | none => .fail)
          | _ => .fail
        | _ => .fail)
      | _, _, _ => .fail
    | none => .fail
  | .mapUpdate t m k x | .insert t m k x => on2 m k fun m k => on1 x fun x => match mapKV P t, m, k with
    | some (kt, el), .map id, .d kd => if !okCells (isAg P el) (szOf P el) x then .fail else match keyK P kt with
      | some c => .obj id fun ob => match ob with
        | .map es => (match mapSet c kd x es with
          | some es => .ret ⟨undef, [(id, some (.map es))], 0⟩
          | none => .fail)
        | _ => .fail
      | none => .fail
    | _, _, _ => .fail
  | .range t x => on1 x fun v => match shapeOf P t, v with
    | .str, .d (.str s) => .ret ⟨.ptr base 0 0, [(base, some (.siter s 0))], 1⟩
    | _, _ => .fail
  | .next it true => on1 it fun v => match v with
    | .ptr id 0 0 => .obj id fun ob => match ob with
      | .siter s pos => if pos < s.size then
          let (c, w) := Utf8.decode s pos
          .ret ⟨.tup [.d (.bool true), .d (.int .i64 pos), .d (.int .i32 c)], [(id, some (.siter s (pos + w)))], 0⟩
        else eff (.tup [.d (.bool false)])
      | _ => .fail
    | _ => .fail
  | .typeAssert x _ asserted ok => on1 x fun v => match P.underlying asserted, v with
    | some (.interface _), _ => .fail
    | some _, .ifc t v => if t = asserted then eff (if ok then .tup [v, .d (.bool true)] else v) else .fail
    | _, _ => .fail
  | .call { callee := .builtin b, args, argTypes } => match evs e args.toList with
    | none => .fail
    | some vs => match b, vs with
      | .len, [x] => (match argTypes[0]? with | some t => do eff (.d (.int .i64 (← lenOf P t x))) | none => .fail)
      | .append, [a, b] => appendOp P base argTypes a b
      | .copy, [a, b] => copyOp P argTypes a b
      | .min, x :: r => opt (minMax false x r)
      | .max, x :: r => opt (minMax true x r)
      | _, _ => .fail
  | _ => .fail

/- ---------- freezing ---------- -/
/-- a cell as deep data, and the objects that are frozen for it -/
def treeM : Nat → Bool → AV → AM (DV × List (Nat × Option AO))
  | 0, _, _ => .fail
  | _ + 1, _, .d v => .ret (v.norm, [])
  | n + 1, ptrs, .sl id off len _ => .obj id fun o =>
    let done (k : Nat) (es : List (List DV)) (w : List (Nat × Option AO)) : AM (DV × List (Nat × Option AO)) :=
      if off + len ≤ es.length then .ret (.fsl ((es.drop off).take len) false false, (id, some (.frz k es)) :: w) else .fail
    match o with
    | .flat k es => done k (es.map (·.map DV.norm)) []
    | .frz k es => done k es []
    | .cells k es => do
      let (es, w) ← rows (treeM n ptrs) es
      done k es w
    | _ => .fail
  | n + 1, true, .ptr id i o => .obj id fun ob =>
    let done (k : Nat) (es : List (List DV)) (w : List (Nat × Option AO)) : AM (DV × List (Nat × Option AO)) := match es[i]? with
      | some e => .ret (.fptr e o, (id, some (.frz k es)) :: w)
      | none => .fail
    match ob with
    | .flat k es => done k (es.map (·.map DV.norm)) []
    | .frz k es => done k es []
    | .cells k es => do
      let (es, w) ← rows (treeM n true) es
      done k es w
    | _ => .fail
  | _, _, _ => .fail
  where
  row (f : AV → AM (DV × List (Nat × Option AO))) : List AV → AM (List DV × List (Nat × Option AO))
    | [] => .ret ([], [])
    | c :: r => do
      let (x, w) ← f c
      let (l, w') ← row f r
      .ret (x :: l, w ++ w')
  rows (f : AV → AM (DV × List (Nat × Option AO))) : List (List AV) → AM (List (List DV) × List (Nat × Option AO))
    | [] => .ret ([], [])
    | c :: r => do
      let (x, w) ← row f c
      let (l, w') ← rows f r
      .ret (x :: l, w ++ w')

/-- How a function takes and gives its slices. -/
structure Pol where
  /-- arguments stay as they are -/
  own : Bool := false
  /-- results stay as they are -/
  ownRes : Bool := false
  /-- the slices of a result stay, what they hold is frozen -/
  own1 : Bool := false
  /-- whether a slice is nil is kept -/
  nils : Bool := false
  /-- pointers are frozen, too (arguments, results) -/
  ptrs : Bool := false
  deriving Inhabited

def depth : Nat := 12

/-- a value that goes over a call's border -/
def passM (nils ptrs : Bool) : AV → AM (AV × List (Nat × Option AO))
  | .d v => .ret (.d (if nils then v else v.norm), [])
  | .sl id off len full => do
    let (v, w) ← treeM depth ptrs (.sl id off len full)
    .ret (.d (match nils, v with | true, .fsl es _ _ => .fsl es true full | _, v => v), w)
  | .ptr id i o => if ptrs then do
      let (v, w) ← treeM depth true (.ptr id i o)
      .ret (.d v, w)
    else .ret (.ptr id i o, [])
  | .agg cs => do
    let (l, w) ← pass1s cs
    .ret (.agg l, w)
  | .tup cs => do
    let (l, w) ← pass2s cs
    .ret (.tup l, w)
  | .ifc t (.agg cs) => do
    let (l, w) ← pass1s cs
    .ret (.ifc t (.agg l), w)
  | v => .ret (v, [])
  where
  pass1 : AV → AM (AV × List (Nat × Option AO))
    | .d v => .ret (.d (if nils then v else v.norm), [])
    | .sl id off len full => do
      let (v, w) ← treeM depth ptrs (.sl id off len full)
      .ret (.d (match nils, v with | true, .fsl es _ _ => .fsl es true full | _, v => v), w)
    | .ptr id i o => if ptrs then do
        let (v, w) ← treeM depth true (.ptr id i o)
        .ret (.d v, w)
      else .ret (.ptr id i o, [])
    | v => .ret (v, [])
  pass1s : List AV → AM (List AV × List (Nat × Option AO))
    | [] => .ret ([], [])
    | c :: r => do
      let (x, w) ← pass1 c
      let (l, w') ← pass1s r
      .ret (x :: l, w ++ w')
  pass2 : AV → AM (AV × List (Nat × Option AO))
    | .agg cs => do
      let (l, w) ← pass1s cs
      .ret (.agg l, w)
    | v => pass1 v
  pass2s : List AV → AM (List AV × List (Nat × Option AO))
    | [] => .ret ([], [])
    | c :: r => do
      let (x, w) ← pass2 c
      let (l, w') ← pass2s r
      .ret (x :: l, w ++ w')

def passAll (nils ptrs : Bool) : List AV → AM (List AV × List (Nat × Option AO))
  | [] => .ret ([], [])
  | c :: r => do
    let (x, w) ← passM nils ptrs c
    let (l, w') ← passAll nils ptrs r
    .ret (x :: l, w ++ w')

/- ---------- numbers in values ---------- -/
mutual
def AV.ids : AV → List Nat
  | .d _ | .top => []
  | .agg cs => AV.idsL cs
  | .tup cs => AV.idsL cs
  | .ptr id _ _ => [id]
  | .sl id _ _ _ => [id]
  | .map id => [id]
  | .fn f a b => (match f with | .yield l => [l] | _ => []) ++ AV.idsL a ++ AV.idsL b
  | .ifc _ v => v.ids
def AV.idsL : List AV → List Nat
  | [] => []
  | c :: r => c.ids ++ AV.idsL r
end
mutual
def AV.ren (ρ : Nat → Nat) : AV → AV
  | .d v => .d v
  | .top => .top
  | .agg cs => .agg (AV.renL ρ cs)
  | .tup cs => .tup (AV.renL ρ cs)
  | .ptr id i o => .ptr (ρ id) i o
  | .sl id off len full => .sl (ρ id) off len full
  | .map id => .map (ρ id)
  | .fn f a b => .fn (match f with | .yield l => .yield (ρ l) | f => f) (AV.renL ρ a) (AV.renL ρ b)
  | .ifc t v => .ifc t (v.ren ρ)
def AV.renL (ρ : Nat → Nat) : List AV → List AV
  | [] => []
  | c :: r => c.ren ρ :: AV.renL ρ r
end
def AO.ids : AO → List Nat
  | .cells _ es => es.flatMap AV.idsL
  | .map es => es.flatMap fun (_, v) => v.ids
  | .loop _ env _ _ _ _ _ _ _ => env.flatMap fun (_, v) => v.ids
  | _ => []
def AO.ren (ρ : Nat → Nat) : AO → AO
  | .cells k es => .cells k (es.map (AV.renL ρ))
  | .map es => .map (es.map fun (k, v) => (k, v.ren ρ))
  | .loop fn env ps a b N vs st p => .loop fn (env.map fun (t, v) => (t, v.ren ρ)) ps a b N vs st p
  | o => o

/-- all objects that can be reached, in the order in which they are met; 'done' are those met already, each with its contents (none: dead) -/
def idsOf (stop : Nat → Bool) (i : Nat) (o : Option AO) : List Nat := if stop i then [] else match o with | some o => o.ids | none => []
def reachM (stop : Nat → Bool) : Nat → List Nat → List (Nat × Option AO) → AM (List (Nat × Option AO))
  | _, [], done => .ret done
  | 0, _, _ => .fail
  | k + 1, i :: todo, done =>
    if done.any (·.1 == i) then reachM stop k todo done
    else .get i fun o => reachM stop k (todo ++ idsOf stop i o) (done ++ [(i, o)])

def fuel : Nat := 4096

def place (L : List Nat) (i : Nat) : Nat := L.idxOf i

/-- what a call takes along -/
structure Pass where
  args : List AV
  heap : Heap
  L : List Nat
  frz : List (Nat × Option AO)
  deriving Inhabited

def look (h : List (Nat × Option AO)) (i : Nat) : Option (Option AO) := h.lookup i

/-- the arguments, and the objects that go along, renumbered from 0 on -/
def passCall (m : Pol) (args : List AV) : AM Pass := do
  let (args, frz) ← if m.own then .ret (args, []) else passAll m.nils m.ptrs args
  let objs ← reachM (fun i => (look frz i).isSome) fuel (AV.idsL args) []
  let L := objs.map (·.1)
  -- what was frozen for the call goes along frozen
  let objs := objs.map fun (i, o) => (i, (look frz i).getD o)
  .ret ⟨AV.renL (place L) args, objs.map fun (_, o) => o.map (AO.ren (place L)), L, frz⟩

/-- A slice (a pointer) stays, what it holds is frozen. -/
def thaw1 (ptrs : Bool) : AV → AM (AV × List (Nat × Option AO))
  | .sl id off len full => .obj id fun ob => if ob.live?.isNone then .ret (.sl id off len full, []) else (treeM depth ptrs (.sl id off len full)).bind fun q => match q.2 with
    | (_, some (.frz k es)) :: ws => .ret (.sl id off len full, (id, some (.flat k es)) :: ws)
    | _ => .fail
  | .ptr id i o => .obj id fun ob => if ob.live?.isNone then .ret (.ptr id i o, []) else (treeM depth ptrs (.sl id 0 0 true)).bind fun q => match q.2 with
    | (_, some (.frz k es)) :: ws => .ret (.ptr id i o, (id, some (.flat k es)) :: ws)
    | _ => .fail
  | v => .ret (v, [])
def thaws (ptrs : Bool) : List AV → AM (List AV × List (Nat × Option AO))
  | [] => .ret ([], [])
  | c :: r => do
    let (x, w) ← thaw1 ptrs c
    let (l, w') ← thaws ptrs r
    .ret (x :: l, w ++ w')
def thaw (ptrs : Bool) : AV → AM (AV × List (Nat × Option AO))
  | .agg cs => do
    let (l, w) ← thaws ptrs cs
    .ret (.agg l, w)
  | v => thaw1 ptrs v

/-- is it frozen -/
def isFrz : Option AO → Bool
  | some (.frz ..) => true
  | _ => false
/-- no object is both frozen and not -/
def thawOk (wr : List (Nat × Option AO)) : Bool := wr.all fun p => wr.all fun q => p.1 != q.1 || isFrz p.2 == isFrz q.2
def thawS (ptrs : Bool) (v : AV) : AM (AV × List (Nat × Option AO)) := (thaw ptrs v).bind fun q => if thawOk q.2 then .ret q else .fail
/-- what a function gives back: its value and its objects: the k that it was given, in their places, and those that it made and that can be reached -/
def retCall (m : Pol) (k : Nat) (v : AV) : AM (AV × Heap) := do
  let (v, frz) ← if m.ownRes then .ret (v, []) else if m.own1 then thawS m.ptrs v else passM m.nils m.ptrs v
  let objs ← reachM (fun i => (look frz i).isSome) fuel (List.range k ++ v.ids) []
  let L := objs.map (·.1)
  let objs := objs.map fun (i, o) => (i, (look frz i).getD o)
  .ret (v.ren (place L), objs.map fun (_, o) => o.map (AO.ren (place L)))

/-- a value without any slice, pointer or function -/
def DV.scalar : DV → Bool
  | .bool _ | .int .. | .str _ | .nilp | .snil | .mnil | .fnil | .inil => true
  | _ => false
def AV.scalar : AV → Bool
  | .d v => v.scalar
  | .agg cs | .tup cs => cs.all fun c => match c with | .d v => v.scalar | _ => false
  | _ => false

/-- an object that holds nothing that is frozen -/
def plainO : Option AO → Bool
  | some (.flat _ es) => es.all fun e => e.all DV.scalar
  | none => true
  | _ => false
/-- a slice came back that holds nothing that is frozen -/
def resFree : AV → Heap → Bool
  | .sl .., h => h.all plainO
  | _, _ => false
/-- the caller's view of what came back -/
def back (L : List Nat) (base : Nat) (i : Nat) : Nat := match L[i]? with | some j => j | none => base + (i - L.length)
/-- The effect of a call: p went along, (v, h) came back. -/
def finCall (p : Pass) (base : Nat) (v : AV) (h : Heap) : Eff :=
  let ρ := back p.L base
  let w := h.zipIdx.map fun (o, i) => (ρ i, o.map (AO.ren ρ))
  ⟨v.ren ρ, (if p.L.isEmpty && (v.scalar || resFree v h) then [] else p.frz) ++ w, h.length - p.L.length⟩

/-- put an effect's writes into a heap; new objects stand at the end -/
def put (h : Heap) : List (Nat × Option AO) → Heap
  | [] => h
  | (i, o) :: r => put (if i < h.length then h.set i o else h ++ [o]) r

/-- which variables are kept between two regions -/
def keep (vars : List Nat) (e : Env) : Env := vars.map fun t => (t, e.get t)

def wanted (ops : Array Oper) (e : Env) (o : Oper) : Option Bool :=
  match o.guard with
  | none => some true
  | some (j, want) => match (ops[j]?).bind (·.dst) with
    | none => none
    | some t => match e.get t with
      | .d (.bool b) => some (b == want)
      | .top => none
      | _ => some false

/-- the receiver of a method of its own is passed as it lies -/
def recvOk (P : Program) (t : TypeId) (pr : Bool) : Bool := match P.underlying t with
  | some (.pointer _) => pr
  | some _ => !pr
  | none => false
/-- What a call operation calls: the target, the arguments. -/
def callee (P : Program) (G : Nat → Option (List DV)) (e : Env) (o : Oper) : Option (Fn × List AV) :=
  match o.op with
  | .call { callee := .value f, args, .. } => match ev G e f, evs G e args.toList with
    | some (.fn fn first cap), some as => some (fn, first ++ as ++ cap)
    | _, _ => none
  | .call { callee := .invoke r name, args, .. } => match ev G e r, evs G e args.toList with
    | some (.ifc t v), some as => match (P.info? t).bind fun i => i.methods.find? (·.name == name) with
      | some m => match m.func with
        | some (f, pr) => if m.path.isEmpty && recvOk P t pr then some (.func f, v :: as) else none
        | none => none
      | none => none
    | _, _ => none
  | _ => none

end Go.Ab
namespace Go.Ab

inductive Out where
  | normal | exit (i : Nat) | ret
  deriving DecidableEq

structure Ctx where
  pol : FuncId → FuncId → Pol
  vars : FuncId → List Nat
  glob : Nat → Option (List DV)
  /-- how many objects a function is given at most -/
  keepN : FuncId → Nat

def putE (e : Env) (d : Option Nat) (v : AV) : Env := match d with | some t => (t, v) :: e | none => e

def leave (id : Nat) : Out → Out
  | .exit j => if j = id then .normal else .exit j
  | o => o

/-- the value of a function's result variables -/
def resultOne (P : Program) (e : Env) (h : Heap) : ResultVar → Option AV
  | .tmp t => some (e.get t)
  | .cell a t => match e.get a with
    | .ptr id i o => match h[id]? with
      | some (some ob) => (ob.cont?.bind (·.2.row i)).bind fun cs => pick (isAg P t) (szOf P t) cs o
      | _ => none
    | _ => none
def resultAll (P : Program) (e : Env) (h : Heap) : List ResultVar → Option (List AV)
  | [] => some []
  | r :: rs => match resultOne P e h r, resultAll P e h rs with
    | some v, some l => some (v :: l)
    | _, _ => none
def resultOf (P : Program) (fn : Func) (e : Env) (h : Heap) : Option AV :=
  (resultAll P e h fn.results.toList).map fun vs => match vs with | [v] => v | vs => .tup vs

/-- every destination lies in the frame -/
def noYield (o : Oper) : Bool := match o.op with | .makeFunc (.yield _) _ _ => false | _ => true
def opOk (N : Nat) (o : Oper) : Bool := (match o.dst with | some d => decide (d < N) | none => true) && noYield o
def codeOk (N : Nat) : Code → Bool
  | .region _ ops _ => ops.all (opOk N)
  | .seq a b => codeOk N a && codeOk N b
  | .cond _ a b => codeOk N a && codeOk N b
  | .block _ b | .loop b | .scope b => codeOk N b
  | .rangeFunc _ ps a b => ps.all (· < N) && codeOk N a && codeOk N b
  | _ => true

/-- two operations of which neither comes before the other touch different variables -/
def namesOf (o : Oper) : List Nat := o.op.operands.toList.filterMap fun | .tmp t => some t | _ => none
def guardTmp (ops : Array Oper) (o : Oper) : List Nat := match o.guard with
  | some (j, _) => (match (ops[j]?).bind (·.dst) with | some t => [t] | none => [])
  | none => []
def apartOps (ops : Array Oper) (a b : Oper) : Bool :=
  (match a.dst with | some d => b.dst != some d && !(namesOf b).contains d && !(guardTmp ops b).contains d | none => true) &&
  (match b.dst with | some d => !(namesOf a).contains d && !(guardTmp ops a).contains d | none => true)
/-- what a region that draws its order must be -/
def drawOk (ops : Array Oper) : Bool :=
  let b := Region.before ops
  (ops.zipIdx.all fun (o, i) => o.after.all fun e => !Region.binds .any e || decide (e.on < i)) &&
  (ops.zipIdx.all fun (oj, j) => ops.zipIdx.all fun (oi, i) => j ≤ i || (b.getD j 0).testBit i || apartOps ops oi oj)

/-- what an operation has read and written -/
structure FP where
  idx : Nat
  rd : List Nat
  wr : List Nat
def disj (a b : List Nat) : Bool := a.all fun x => !b.contains x
def fpOk (before : Array Nat) (base : Nat) (f : FP) (fs : List FP) : Bool :=
  (f.wr.all fun x => x < base || x == base + f.idx || (x < base + f.idx && (before.getD f.idx 0).testBit (x - base))) &&
  fs.all fun g => (before.getD f.idx 0).testBit g.idx || (disj f.wr (g.rd ++ g.wr) && disj g.wr f.rd)

inductive J where
  | call (tgt : Fn) (m : Pol) (args : List AV) (hs : Heap) (Q : AV → Heap → Prop)
  | exec (f : FuncId) (c : Code) (e : Env) (h : Heap) (Q : Out → Env → Heap → Prop)
  | ops (f : FuncId) (all : Array Oper) (todo : List Oper) (e : Env) (h : Heap) (Q : Env → Heap → Prop)
  | draw (f : FuncId) (all : Array Oper) (base : Nat) (todo : List (Nat × Oper)) (fs : List FP) (e : Env) (h : Heap) (Q : Env → Heap → Prop)

def tailOf (args : List AV) : Option (Fn × List AV) := match args with
  | .fn t [] [] :: r => some (t, r)
  | _ => none

def polOf (C : Ctx) (f : FuncId) : Fn → Pol
  | .func k => C.pol f k
  | _ => { own := true, ownRes := true }

def envOf (args : List AV) (i : Nat := 0) : Env := match args with
  | [] => []
  | a :: r => (i, a) :: envOf r (i + 1)

def outCode : Out → Option Code
  | .normal => none
  | .exit i => some (.exit i)
  | .ret => some .ret
def codeOut : Option Code → Option Out
  | none => some .normal
  | some (.exit i) => some (.exit i)
  | some .ret => some .ret
  | _ => none

inductive W (P : Program) (C : Ctx) : J → Prop where
  | skip {f e h Q} : Q .normal e h → W P C (.exec f .skip e h Q)
  | label {f l e h Q} : Q .normal e h → W P C (.exec f (.label l) e h Q)
  | exit {f i e h Q} : Q (.exit i) e h → W P C (.exec f (.exit i) e h Q)
  | ret {f e h Q} : Q .ret e h → W P C (.exec f .ret e h Q)
  | seq {f a b e h R Q} : W P C (.exec f a e h R) → (∀ e' h', R .normal e' h' → W P C (.exec f b e' h' Q)) → (∀ o e' h', o ≠ .normal → R o e' h' → Q o e' h') → W P C (.exec f (.seq a b) e h Q)
  | cond {f c a b e h t Q} : ev C.glob e c = some (.d (.bool t)) → W P C (.exec f (if t then a else b) e h Q) → W P C (.exec f (.cond c a b) e h Q)
  | block {f i b e h R Q} : W P C (.exec f b e h R) → (∀ o e' h', R o e' h' → Q (leave i o) e' h') → W P C (.exec f (.block i b) e h Q)
  | loop {f b e h R Q} : W P C (.exec f b (keep (C.vars f) e) h R) → (∀ e' h', R .normal e' h' → W P C (.exec f (.loop b) e' h' Q)) → (∀ o e' h', o ≠ .normal → R o e' h' → Q o e' h') → W P C (.exec f (.loop b) e h Q)
  | loopG {f b e h m vals h₁ R Q} {ks : List Nat} : (retCall m (C.keepN f) (.tup (ks.map e.get))).run h = some (.tup vals, h₁) → W P C (.exec f b (ks.zip vals) h₁ R) → (∀ e' h', R .normal e' h' → W P C (.exec f (.loop b) e' h' Q)) → (∀ o e' h', o ≠ .normal → R o e' h' → Q o e' h') → W P C (.exec f (.loop b) e h Q)
  | scope {f b e h Q} : W P C (.exec f b e h Q) → W P C (.exec f (.scope b) e h Q)
  | region {f i os e h Q} : W P C (.ops f os os.toList (keep (C.vars f) e) h (Q .normal)) → W P C (.exec f (.region i os false) e h Q)
  | regionD {f i os e h Q} : drawOk os = true → W P C (.draw f os h.length (os.toList.zipIdx.map fun (o, i) => (i, o)) [] (keep (C.vars f) e) (h ++ List.replicate os.size none) (Q .normal)) → W P C (.exec f (.region i os true) e h Q)
  | nil {f all e h Q} : Q e h → W P C (.ops f all [] e h Q)
  | skipped {f all o r e h Q} : wanted all e o = some false → W P C (.ops f all r (putE e o.dst undef) h Q) → W P C (.ops f all (o :: r) e h Q)
  | prim {f all o r e h x Q} : wanted all e o = some true → (prim P C.glob e h.length o).run h = some x → W P C (.ops f all r (putE e o.dst x.v) (put h x.wr) Q) → W P C (.ops f all (o :: r) e h Q)
  | opcall {f all o r e h tgt args p tgt' args' R Q} : wanted all e o = some true → callee P C.glob e o = some (tgt, args) →
      (passCall (polOf C f tgt) (.fn tgt [] [] :: args)).run h = some p → tailOf p.args = some (tgt', args') → W P C (.call tgt' (polOf C f tgt) args' p.heap R) →
      (∀ v hs, R v hs → W P C (.ops f all r (putE e o.dst (finCall p h.length v hs).v) (put h (finCall p h.length v hs).wr) Q)) → W P C (.ops f all (o :: r) e h Q)
  | dnil {f all base fs e h Q} : Q e h → W P C (.draw f all base [] fs e h Q)
  | dskipped {f all base i o r fs e h Q} : wanted all e o = some false → W P C (.draw f all base r fs (putE e o.dst undef) h Q) → W P C (.draw f all base ((i, o) :: r) fs e h Q)
  | dprim {f all base i o r fs e h x Q} : wanted all e o = some true → (prim P C.glob e (base + i) o).run h = some x →
      fpOk (Region.before all) base ⟨i, (prim P C.glob e (base + i) o).log h, x.wr.map (·.1)⟩ fs = true →
      W P C (.draw f all base r (⟨i, (prim P C.glob e (base + i) o).log h, x.wr.map (·.1)⟩ :: fs) (putE e o.dst x.v) (put h x.wr) Q) → W P C (.draw f all base ((i, o) :: r) fs e h Q)
  | dcall {f all base i o r fs e h tgt args p tgt' args' v hs Q} : wanted all e o = some true → callee P C.glob e o = some (tgt, args) →
      (passCall (polOf C f tgt) (.fn tgt [] [] :: args)).run h = some p → tailOf p.args = some (tgt', args') → W P C (.call tgt' (polOf C f tgt) args' p.heap (fun v' hs' => v' = v ∧ hs' = hs)) →
      (finCall p (base + i) v hs).nx ≤ 1 →
      fpOk (Region.before all) base ⟨i, (passCall (polOf C f tgt) (.fn tgt [] [] :: args)).log h, (finCall p (base + i) v hs).wr.map (·.1)⟩ fs = true →
      W P C (.draw f all base r (⟨i, (passCall (polOf C f tgt) (.fn tgt [] [] :: args)).log h, (finCall p (base + i) v hs).wr.map (·.1)⟩ :: fs) (putE e o.dst (finCall p (base + i) v hs).v) (put h (finCall p (base + i) v hs).wr) Q) →
      W P C (.draw f all base ((i, o) :: r) fs e h Q)
  | call {k fn c m args hs R Q} : P.funcs[k]? = some fn → fn.body = some c → fn.name ≠ "runtime.NumGoroutine" → codeOk fn.ntmps c = true → (args.length ≤ fn.ntmps ∧ hs.length ≤ C.keepN k) →
      W P C (.exec k c (envOf args) hs R) →
      (∀ o e' h', R o e' h' → (o = .normal ∨ o = .ret) ∧ ∃ v v' hs', resultOf P fn e' h' = some v ∧ (retCall m hs.length v).run h' = some (v', hs') ∧ Q v' hs') →
      W P C (.call (.func k) m args hs Q)
  | nilq {f all o r e h op t x y yt v full Q} : wanted all e o = some true → o.op = .binOp op t x y yt → ((op = .eql ∨ op = .neq) ∧ eqShape P t = .slice) → ev C.glob e x = some v → v = .d (.fsl [] false full) → ev C.glob e y = some (.d .snil) →
      W P C (.ops f all r (putE e o.dst (.d (.bool true))) h Q) → W P C (.ops f all r (putE e o.dst (.d (.bool false))) h Q) → W P C (.ops f all (o :: r) e h Q)

end Go.Ab
namespace Go.Ab
variable {P : Program} {C : Ctx}

def J.wk : J → J → Prop
  | .call t m a hs Q, .call t' m' a' hs' Q' => t = t' ∧ m = m' ∧ a = a' ∧ hs = hs' ∧ ∀ v h, Q v h → Q' v h
  | .exec f c e h Q, .exec f' c' e' h' Q' => f = f' ∧ c = c' ∧ e = e' ∧ h = h' ∧ ∀ o e h, Q o e h → Q' o e h
  | .ops f a t e h Q, .ops f' a' t' e' h' Q' => f = f' ∧ a = a' ∧ t = t' ∧ e = e' ∧ h = h' ∧ ∀ e h, Q e h → Q' e h
  | .draw f a b t fs e h Q, .draw f' a' b' t' fs' e' h' Q' => f = f' ∧ a = a' ∧ b = b' ∧ t = t' ∧ fs = fs' ∧ e = e' ∧ h = h' ∧ ∀ e h, Q e h → Q' e h
  | _, _ => False

theorem W.mono {j : J} (hw : W P C j) : ∀ j', J.wk j j' → W P C j' := by
  induction hw with
  | skip h => intro j' k; cases j' <;> simp only [J.wk] at k <;> obtain ⟨rfl, rfl, rfl, rfl, k⟩ := k; exact .skip (k _ _ _ h)
  | label h => intro j' k; cases j' <;> simp only [J.wk] at k <;> obtain ⟨rfl, rfl, rfl, rfl, k⟩ := k; exact .label (k _ _ _ h)
  | exit h => intro j' k; cases j' <;> simp only [J.wk] at k <;> obtain ⟨rfl, rfl, rfl, rfl, k⟩ := k; exact .exit (k _ _ _ h)
  | ret h => intro j' k; cases j' <;> simp only [J.wk] at k <;> obtain ⟨rfl, rfl, rfl, rfl, k⟩ := k; exact .ret (k _ _ _ h)
  | seq h1 h2 h3 _ ih2 =>
    intro j' k; cases j' <;> simp only [J.wk] at k <;> obtain ⟨rfl, rfl, rfl, rfl, k⟩ := k
    exact .seq h1 (fun e' h' r => ih2 e' h' r _ ⟨rfl, rfl, rfl, rfl, k⟩) (fun o e' h' n r => k _ _ _ (h3 o e' h' n r))
  | cond h1 _ ih =>
    intro j' k; cases j' <;> simp only [J.wk] at k <;> obtain ⟨rfl, rfl, rfl, rfl, k⟩ := k
    exact .cond h1 (ih _ ⟨rfl, rfl, rfl, rfl, k⟩)
  | block h1 h2 _ =>
    intro j' k; cases j' <;> simp only [J.wk] at k <;> obtain ⟨rfl, rfl, rfl, rfl, k⟩ := k
    exact .block h1 (fun o e' h' r => k _ _ _ (h2 o e' h' r))
  | loop h1 h2 h3 _ ih2 =>
    intro j' k; cases j' <;> simp only [J.wk] at k <;> obtain ⟨rfl, rfl, rfl, rfl, k⟩ := k
    exact .loop h1 (fun e' h' r => ih2 e' h' r _ ⟨rfl, rfl, rfl, rfl, k⟩) (fun o e' h' n r => k _ _ _ (h3 o e' h' n r))
  | loopG h0 h1 h2 h3 _ ih2 =>
    intro j' k; cases j' <;> simp only [J.wk] at k <;> obtain ⟨rfl, rfl, rfl, rfl, k⟩ := k
    exact .loopG h0 h1 (fun e' h' r => ih2 e' h' r _ ⟨rfl, rfl, rfl, rfl, k⟩) (fun o e' h' n r => k _ _ _ (h3 o e' h' n r))
  | scope _ ih =>
    intro j' k; cases j' <;> simp only [J.wk] at k <;> obtain ⟨rfl, rfl, rfl, rfl, k⟩ := k
    exact .scope (ih _ ⟨rfl, rfl, rfl, rfl, k⟩)
  | region _ ih =>
    intro j' k; cases j' <;> simp only [J.wk] at k <;> obtain ⟨rfl, rfl, rfl, rfl, k⟩ := k
    exact .region (ih _ ⟨rfl, rfl, rfl, rfl, rfl, k _⟩)
  | regionD h1 _ ih =>
    intro j' k; cases j' <;> simp only [J.wk] at k <;> obtain ⟨rfl, rfl, rfl, rfl, k⟩ := k
    exact .regionD h1 (ih _ ⟨rfl, rfl, rfl, rfl, rfl, rfl, rfl, k _⟩)
  | nil h => intro j' k; cases j' <;> simp only [J.wk] at k <;> obtain ⟨rfl, rfl, rfl, rfl, rfl, k⟩ := k; exact .nil (k _ _ h)
  | skipped h1 _ ih =>
    intro j' k; cases j' <;> simp only [J.wk] at k <;> obtain ⟨rfl, rfl, rfl, rfl, rfl, k⟩ := k
    exact .skipped h1 (ih _ ⟨rfl, rfl, rfl, rfl, rfl, k⟩)
  | prim h1 h2 _ ih =>
    intro j' k; cases j' <;> simp only [J.wk] at k <;> obtain ⟨rfl, rfl, rfl, rfl, rfl, k⟩ := k
    exact .prim h1 h2 (ih _ ⟨rfl, rfl, rfl, rfl, rfl, k⟩)
  | opcall h1 h2 h3 h4 h5 _ _ ih =>
    intro j' k; cases j' <;> simp only [J.wk] at k <;> obtain ⟨rfl, rfl, rfl, rfl, rfl, k⟩ := k
    exact .opcall h1 h2 h3 h4 h5 (fun v hs r => ih v hs r _ ⟨rfl, rfl, rfl, rfl, rfl, k⟩)
  | dnil h => intro j' k; cases j' <;> simp only [J.wk] at k <;> obtain ⟨rfl, rfl, rfl, rfl, rfl, rfl, rfl, k⟩ := k; exact .dnil (k _ _ h)
  | dskipped h1 _ ih =>
    intro j' k; cases j' <;> simp only [J.wk] at k <;> obtain ⟨rfl, rfl, rfl, rfl, rfl, rfl, rfl, k⟩ := k
    exact .dskipped h1 (ih _ ⟨rfl, rfl, rfl, rfl, rfl, rfl, rfl, k⟩)
  | dprim h1 h2 h3 _ ih =>
    intro j' k; cases j' <;> simp only [J.wk] at k <;> obtain ⟨rfl, rfl, rfl, rfl, rfl, rfl, rfl, k⟩ := k
    exact .dprim h1 h2 h3 (ih _ ⟨rfl, rfl, rfl, rfl, rfl, rfl, rfl, k⟩)
  | dcall h1 h2 h3 h4 h5 h6 h7 _ _ ih =>
    intro j' k; cases j' <;> simp only [J.wk] at k <;> obtain ⟨rfl, rfl, rfl, rfl, rfl, rfl, rfl, k⟩ := k
    exact .dcall h1 h2 h3 h4 h5 h6 h7 (ih _ ⟨rfl, rfl, rfl, rfl, rfl, rfl, rfl, k⟩)
  | call h1 h2 h3 h4 h5 h6 h7 _ =>
    intro j' k; cases j' <;> simp only [J.wk] at k <;> obtain ⟨rfl, rfl, rfl, rfl, k⟩ := k
    exact .call h1 h2 h3 h4 h5 h6 (fun o e' h' r => let ⟨a, v, v', hs', x, y, z⟩ := h7 o e' h' r; ⟨a, v, v', hs', x, y, k _ _ z⟩)
  | nilq h1 h2 h3 h4 h5 h6 _ _ ih1 ih2 =>
    intro j' k; cases j' <;> simp only [J.wk] at k <;> obtain ⟨rfl, rfl, rfl, rfl, rfl, k⟩ := k
    exact .nilq h1 h2 h3 h4 h5 h6 (ih1 _ ⟨rfl, rfl, rfl, rfl, rfl, k⟩) (ih2 _ ⟨rfl, rfl, rfl, rfl, rfl, k⟩)

/- ---------- what is proved, in short words ---------- -/
def Ex (P : Program) (C : Ctx) (f : FuncId) (c : Code) (e : Env) (h : Heap) (Q : Out → Env → Heap → Prop) : Prop := W P C (.exec f c e h Q)
def Ops (P : Program) (C : Ctx) (f : FuncId) (all : Array Oper) (t : List Oper) (e : Env) (h : Heap) (Q : Env → Heap → Prop) : Prop := W P C (.ops f all t e h Q)
def Dr (P : Program) (C : Ctx) (f : FuncId) (all : Array Oper) (base : Nat) (t : List (Nat × Oper)) (fs : List FP) (e : Env) (h : Heap) (Q : Env → Heap → Prop) : Prop := W P C (.draw f all base t fs e h Q)
def CallA (P : Program) (C : Ctx) (tgt : Fn) (m : Pol) (args : List AV) (hs : Heap) (Q : AV → Heap → Prop) : Prop := W P C (.call tgt m args hs Q)

theorem Ex.mono {f c e h Q Q'} (w : Ex P C f c e h Q) (k : ∀ o e h, Q o e h → Q' o e h) : Ex P C f c e h Q' := W.mono w _ ⟨rfl, rfl, rfl, rfl, k⟩
theorem Ops.mono {f a t e h Q Q'} (w : Ops P C f a t e h Q) (k : ∀ e h, Q e h → Q' e h) : Ops P C f a t e h Q' := W.mono w _ ⟨rfl, rfl, rfl, rfl, rfl, k⟩
theorem Dr.mono {f a b t fs e h Q Q'} (w : Dr P C f a b t fs e h Q) (k : ∀ e h, Q e h → Q' e h) : Dr P C f a b t fs e h Q' := W.mono w _ ⟨rfl, rfl, rfl, rfl, rfl, rfl, rfl, k⟩
theorem CallA.mono {t m a hs Q Q'} (w : CallA P C t m a hs Q) (k : ∀ v h, Q v h → Q' v h) : CallA P C t m a hs Q' := W.mono w _ ⟨rfl, rfl, rfl, rfl, k⟩

def seqK (P : Program) (C : Ctx) (f : FuncId) (b : Code) (Q : Out → Env → Heap → Prop) : Out → Env → Heap → Prop
  | .normal, e, h => Ex P C f b e h Q
  | o, e, h => Q o e h

section code
variable {f : FuncId} {e : Env} {h : Heap} {Q : Out → Env → Heap → Prop}
@[go_sem] theorem seqK_normal {b} : seqK P C f b Q .normal e h = Ex P C f b e h Q := rfl
@[go_sem] theorem seqK_ret {b} : seqK P C f b Q .ret e h = Q .ret e h := rfl
@[go_sem] theorem seqK_exit {b i} : seqK P C f b Q (.exit i) e h = Q (.exit i) e h := rfl
@[go_sem] theorem leave_normal {i} : leave i .normal = .normal := rfl
@[go_sem] theorem leave_ret {i} : leave i .ret = .ret := rfl
@[go_sem] theorem leave_exit {i j} : leave i (.exit j) = if j = i then .normal else .exit j := rfl
@[go_sem] theorem ex_skip : Ex P C f .skip e h Q ↔ Q .normal e h := ⟨fun w => by cases w; assumption, .skip⟩
@[go_sem] theorem ex_label {l} : Ex P C f (.label l) e h Q ↔ Q .normal e h := ⟨fun w => by cases w; assumption, .label⟩
@[go_sem] theorem ex_exit {i} : Ex P C f (.exit i) e h Q ↔ Q (.exit i) e h := ⟨fun w => by cases w; assumption, .exit⟩
@[go_sem] theorem ex_ret : Ex P C f .ret e h Q ↔ Q .ret e h := ⟨fun w => by cases w; assumption, .ret⟩
@[go_sem] theorem ex_seq {a b} : Ex P C f (.seq a b) e h Q ↔ Ex P C f a e h (seqK P C f b Q) := by
  constructor
  · intro w
    cases w with
    | seq h1 h2 h3 =>
      refine Ex.mono h1 fun o e' h' r => ?_
      cases o with
      | normal => exact h2 _ _ r
      | exit i => exact h3 _ _ _ (by simp) r
      | ret => exact h3 _ _ _ (by simp) r
  · intro w
    refine .seq w (fun e' h' r => r) (fun o e' h' n r => ?_)
    cases o with
    | normal => exact absurd rfl n
    | exit i => exact r
    | ret => exact r
theorem ex_cond {c a b t} (hc : ev C.glob e c = some (.d (.bool t))) : Ex P C f (.cond c a b) e h Q ↔ Ex P C f (if t then a else b) e h Q := by
  constructor
  · intro w
    cases w with
    | cond h1 h2 => rw [hc] at h1; cases h1; exact h2
  · exact .cond hc
def condK (P : Program) (C : Ctx) (f : FuncId) (v : Option AV) (a b : Code) (e : Env) (h : Heap) (Q : Out → Env → Heap → Prop) : Prop :=
  match v with
  | some (.d (.bool true)) => Ex P C f a e h Q
  | some (.d (.bool false)) => Ex P C f b e h Q
  | _ => False
@[go_sem] theorem ex_cond_iff {c a b} : Ex P C f (.cond c a b) e h Q ↔ condK P C f (ev C.glob e c) a b e h Q := by
  constructor
  · intro w
    cases w with
    | @cond _ _ _ _ _ _ t _ h1 h2 => rw [h1]; cases t <;> exact h2
  · intro w
    unfold condK at w
    split at w
    · rename_i hc; exact .cond hc w
    · rename_i hc; exact .cond hc w
    · exact w.elim
@[go_sem] theorem condK_true {a b} : condK P C f (some (.d (.bool true))) a b e h Q = Ex P C f a e h Q := rfl
@[go_sem] theorem condK_false {a b} : condK P C f (some (.d (.bool false))) a b e h Q = Ex P C f b e h Q := rfl
theorem condK_any {a b} (t : Bool) : condK P C f (some (.d (.bool t))) a b e h Q = if t = true then Ex P C f a e h Q else Ex P C f b e h Q := by cases t <;> rfl
theorem condK_dec {a b} (p : Prop) [Decidable p] : condK P C f (some (.d (.bool (decide p)))) a b e h Q = if p then Ex P C f a e h Q else Ex P C f b e h Q := by
  by_cases hp : p <;> simp [hp, condK]
@[go_sem] theorem ex_block {i b} : Ex P C f (.block i b) e h Q ↔ Ex P C f b e h (fun o e h => Q (leave i o) e h) := by
  constructor
  · intro w
    cases w with
    | block h1 h2 => exact Ex.mono h1 h2
  · intro w; exact .block w fun _ _ _ r => r
@[go_sem] theorem ex_scope {b} : Ex P C f (.scope b) e h Q ↔ Ex P C f b e h Q := ⟨fun w => by cases w; assumption, .scope⟩
@[go_sem] theorem ex_region {i os} : Ex P C f (.region i os false) e h Q ↔ Ops P C f os os.toList (keep (C.vars f) e) h (Q .normal) := ⟨fun w => by cases w; assumption, .region⟩
theorem ex_loop {b} (w : Ex P C f b (keep (C.vars f) e) h (seqK P C f (.loop b) Q)) : Ex P C f (.loop b) e h Q := by
  refine .loop w (fun e' h' r => r) (fun o e' h' n r => ?_)
  cases o with
  | normal => exact absurd rfl n
  | exit i => exact r
  | ret => exact r
end code

/-- A loop by an invariant with a measure. -/
theorem ex_loop_inv {f b Q} {α : Type} (I : α → Env → Heap → Prop) (μ : α → Nat)
    (step : ∀ x e h, I x e h → Ex P C f b (keep (C.vars f) e) h (fun o e' h' => match o with | .normal => ∃ y, I y e' h' ∧ μ y < μ x | o => Q o e' h')) :
    ∀ x e h, I x e h → Ex P C f (.loop b) e h Q := by
  intro x
  generalize hn : μ x = n
  induction n using Nat.strongRecOn generalizing x with
  | _ n ih =>
    intro e h hI
    refine ex_loop (Ex.mono (step x e h hI) ?_)
    intro o e' h' r
    cases o with
    | normal => obtain ⟨y, hy, hlt⟩ := r; exact ih (μ y) (hn ▸ hlt) y rfl e' h' hy
    | exit i => exact r
    | ret => exact r

/- ---------- operations ---------- -/
section ops
variable {f : FuncId} {all : Array Oper} {r : List Oper} {e : Env} {h : Heap} {Q : Env → Heap → Prop}
@[go_sem] theorem ops_nil : Ops P C f all [] e h Q ↔ Q e h := ⟨fun w => by cases w; assumption, .nil⟩

/-- what is done with an effect -/
def effK (x : Option Eff) (K : Eff → Prop) : Prop := match x with | some x => K x | none => False
@[go_sem] theorem effK_some {x : Eff} {K} : effK (some x) K = K x := rfl
@[go_sem] theorem effK_none {K} : effK none K = False := rfl
theorem prim_call {P : Program} {G e base o x} (h : callee P G e o = some x) : prim P G e base o = .fail := by
  unfold callee at h
  unfold prim
  split at h
  · rename_i heq; rw [heq]
  · rename_i heq; rw [heq]
  · cases h

/-- a plain operation: no guard, no call -/
def noBin (o : Oper) : Bool := match o.op with | .binOp .. => false | _ => true
theorem ops_prim {o : Oper} (hg : o.guard = none) (hc : callee P C.glob e o = none) (hq : noBin o = true := by rfl) :
    Ops P C f all (o :: r) e h Q ↔ effK ((prim P C.glob e h.length o).run h) (fun x => Ops P C f all r (putE e o.dst x.v) (put h x.wr) Q) := by
  constructor
  · intro w
    cases w with
    | skipped h1 _ => simp [wanted, hg] at h1
    | prim h1 h2 h3 => rw [h2]; exact h3
    | opcall h1 h2 => rw [hc] at h2; cases h2
    | nilq h1 h2 => simp [noBin, h2] at hq
  · intro w
    cases hx : (prim P C.glob e h.length o).run h with
    | none => rw [hx] at w; exact w.elim
    | some x => rw [hx] at w; exact .prim (by simp [wanted, hg]) hx w

def valK (x : Option AV) (K : AV → Prop) : Prop := match x with | some v => K v | none => False
@[go_sem] theorem valK_some {v : AV} {K} : valK (some v) K = K v := rfl
@[go_sem] theorem valK_none {K} : valK none K = False := rfl
def objK (x : Option (Option AO)) (K : AO → Prop) : Prop := match x with | some (some o) => K o | _ => False
@[go_sem] theorem objK_some {v : AO} {K} : objK (some (some v)) K = K v := rfl

/-- the rest of a list of operations behind an effect -/
def Nx (P : Program) (C : Ctx) (f : FuncId) (all : Array Oper) (r : List Oper) (d : Option Nat) (e : Env) (h : Heap) (Q : Env → Heap → Prop) (v : AV) : Prop := Ops P C f all r (putE e d v) h Q

section
variable {d : Option Nat} {ty : TypeId} {pos : String} {aft : Array Edge}
@[go_sem] theorem op_move {x} : Ops P C f all (⟨d, .move x, ty, pos, aft, none⟩ :: r) e h Q ↔ valK (ev C.glob e x) (fun v => Ops P C f all r (putE e d v) h Q) := by
  rw [ops_prim rfl rfl]; simp only [prim]
  cases ev C.glob e x <;> simp [AM.run, eff, effK, valK, put]
@[go_sem] theorem op_assign {x} : Ops P C f all (⟨d, .assign x, ty, pos, aft, none⟩ :: r) e h Q ↔ valK (ev C.glob e x) (fun v => Ops P C f all r (putE e d v) h Q) := by
  rw [ops_prim rfl rfl]; simp only [prim]
  cases ev C.glob e x <;> simp [AM.run, eff, effK, valK, put]
def pickK (c : AV) (K : Bool → Prop) : Prop := match c with | .d (.bool b) => K b | _ => False
@[go_sem] theorem pickK_bool {b K} : pickK (.d (.bool b)) K = K b := rfl
@[go_sem] theorem op_pick {c a b} : Ops P C f all (⟨d, .pick c a b, ty, pos, aft, none⟩ :: r) e h Q ↔
    valK (ev C.glob e c) (fun c => pickK c fun t => valK (ev C.glob e a) fun x => valK (ev C.glob e b) fun y => Ops P C f all r (putE e d (if t = true then x else y)) h Q) := by
  rw [ops_prim rfl rfl]; simp only [prim]
  cases ev C.glob e c with
  | none => simp [AM.run, effK, valK]
  | some c =>
    simp only [valK]
    cases c with
    | d v => cases v with
      | bool t =>
        simp only [pickK]
        cases ev C.glob e a <;> cases ev C.glob e b <;> simp [AM.run, eff, effK, put]
      | _ => simp [pickK, AM.run, effK]
    | _ => simp [pickK, AM.run, effK]
def zeroK (z : Option (List DV)) (K : List DV → Prop) : Prop := match z with | some z => K z | none => False
@[go_sem] theorem zeroK_some {z K} : zeroK (some z) K = K z := rfl
theorem put_new {h : Heap} {o} : put h [(h.length, o)] = h ++ [o] := by simp [put]
@[go_sem] theorem op_alloc {t} : Ops P C f all (⟨d, .alloc t, ty, pos, aft, none⟩ :: r) e h Q ↔
    zeroK (zeroC P t) (fun z => z ≠ [] ∧ Ops P C f all r (putE e d (.ptr h.length 0 0)) (h ++ [some (.flat z.length [z])]) Q) := by
  rw [ops_prim rfl rfl]; simp only [prim]
  cases zeroC P t with
  | none => simp [AM.run, effK, zeroK]
  | some z => cases z <;> simp [AM.run, effK, zeroK, put]
@[go_sem] theorem op_box {t x} : Ops P C f all (⟨d, .box t x, ty, pos, aft, none⟩ :: r) e h Q ↔
    valK (ev C.glob e x) (fun v => okCells (isAg P t) (szOf P t) v = true ∧ v.cellsOf.isEmpty = false ∧
      Ops P C f all r (putE e d (.ptr h.length 0 0)) (h ++ [some ((Cont.ofRows [v.cellsOf]).obj v.cellsOf.length)]) Q) := by
  rw [ops_prim rfl rfl]; simp only [prim]
  cases ev C.glob e x with
  | none => simp [AM.run, effK, valK]
  | some v =>
    simp only [valK]
    cases hk : okCells (isAg P t) (szOf P t) v <;> cases hv : v.cellsOf.isEmpty <;> simp [AM.run, effK, put]
def cellsK (x : Option (List AV)) (K : List AV → Prop) : Prop := match x with | some l => K l | none => False
@[go_sem] theorem cellsK_some {l K} : cellsK (some l) K = K l := rfl
def partsK (x : Option (List (Nat × AV))) (K : List (Nat × AV) → Prop) : Prop := match x with | some l => K l | none => False
@[go_sem] theorem partsK_some {l K} : partsK (some l) K = K l := rfl
def placeOf (P : Program) (t : TypeId) : Nat → Option (Nat × Nat) := match arElem P t with
  | some (_, _, sz) => fun i => some (i * sz, sz)
  | none => fun i => (fld P t i).map fun (o, _, s) => (o, s)
@[go_sem] theorem op_build {t ps} : Ops P C f all (⟨d, .build t ps, ty, pos, aft, none⟩ :: r) e h Q ↔
    partsK (evAll C.glob e ps.toList) (fun ps => zeroK (zeroC P t) fun z => isAg P t = true ∧ cellsK (fillA (placeOf P t) (z.map .d) ps) fun cs =>
      Ops P C f all r (putE e d (.agg cs)) h Q) := by
  rw [ops_prim rfl rfl]; simp only [prim]
  cases evAll C.glob e ps.toList with
  | none => simp [AM.run, effK, partsK]
  | some ps =>
    cases zeroC P t with
    | none => simp [AM.run, effK, partsK, zeroK]
    | some z =>
      simp only [partsK, zeroK]
      cases isAg P t with
      | false => simp [AM.run, effK]
      | true =>
        simp only [true_and, if_true]
        show effK (AM.run h (match fillA (placeOf P t) (z.map .d) ps with | some cs => eff (.agg cs) | none => .fail)) _ ↔ _
        cases fillA (placeOf P t) (z.map .d) ps <;> simp [AM.run, effK, eff, cellsK, put]
def slK (x : Option (TypeId × Nat × Nat)) (K : TypeId → Nat → Nat → Prop) : Prop := match x with | some (a, b, c) => K a b c | none => False
@[go_sem] theorem slK_some {a b c K} : slK (some (a, b, c)) K = K a b c := rfl
@[go_sem] theorem op_buildSlice {t n ps} : Ops P C f all (⟨d, .buildSlice t n ps, ty, pos, aft, none⟩ :: r) e h Q ↔
    partsK (evAll C.glob e ps.toList) (fun ps => slK (slElem P t) fun el sz _ => zeroK (zeroC P el) fun z => sz ≠ 0 ∧ n * sz ≤ 2 ^ 24 ∧ z.length = sz ∧
      cellsK (fillA (fun i => some (i * sz, sz)) ((List.replicate n z).flatten.map .d) ps) fun cs =>
      Ops P C f all r (putE e d (.sl h.length 0 n false)) (h ++ [some ((Cont.ofRows (chunks sz n cs)).obj sz)]) Q) := by
  rw [ops_prim rfl rfl]; simp only [prim]
  cases evAll C.glob e ps.toList with
  | none => simp [AM.run, effK, partsK]
  | some ps =>
    cases slElem P t with
    | none => simp [AM.run, effK, partsK, slK]
    | some x =>
      obtain ⟨el, sz, by'⟩ := x
      simp only [partsK, slK]
      cases zeroC P el with
      | none => simp [AM.run, effK, zeroK]
      | some z =>
        simp only [zeroK]
        by_cases hc : sz = 0 ∨ n * sz > 2 ^ 24 ∨ z.length ≠ sz
        · have : (decide (sz = 0) || decide (n * sz > 2 ^ 24) || decide (z.length ≠ sz)) = true := by simpa [or_assoc] using hc
          rw [this]
          simp only [if_true, AM.run, effK, false_iff]
          omega
        · have : (decide (sz = 0) || decide (n * sz > 2 ^ 24) || decide (z.length ≠ sz)) = false := by
            simp only [Bool.or_eq_false_iff, decide_eq_false_iff_not]; omega
          rw [this]
          have h3 : sz ≠ 0 ∧ n * sz ≤ 2 ^ 24 ∧ z.length = sz := by omega
          simp only [h3, true_and, ne_eq, not_false_eq_true]
          cases fillA (fun i => some (i * sz, sz)) ((List.replicate n z).flatten.map .d) ps <;> simp [AM.run, effK, cellsK, put]
/-- what stands at an address -/
def atK (h : Heap) (a : AV) (K : List AV → Nat → Prop) : Prop := match a with
  | .ptr id i o => objK h[id]? fun ob => cellsK (ob.cont?.bind (·.2.row i)) fun cs => K cs o
  | .d (.fptr cs o) => K (cs.map .d) o
  | _ => False
@[go_sem] theorem atK_ptr {id i o K} : atK h (.ptr id i o) K = objK h[id]? (fun ob => cellsK (ob.cont?.bind (·.2.row i)) fun cs => K cs o) := rfl
@[go_sem] theorem atK_fptr {cs o K} : atK h (.d (.fptr cs o)) K = K (cs.map .d) o := rfl
@[go_sem] theorem op_load {t a} : Ops P C f all (⟨d, .load t a, ty, pos, aft, none⟩ :: r) e h Q ↔
    valK (ev C.glob e a) (fun a => atK h a fun cs o => valK (pick (isAg P t) (szOf P t) cs o) fun v => Ops P C f all r (putE e d v) h Q) := by
  rw [ops_prim rfl rfl]; simp only [prim]
  cases ev C.glob e a with
  | none => simp [AM.run, effK, valK]
  | some a =>
    simp only [valK]
    cases a with
    | d v => cases v with
      | fptr cs o => simp only [atK]; cases pick (isAg P t) (szOf P t) (cs.map .d) o <;> simp [AM.run, eff, effK, put]
      | _ => simp [AM.run, effK, atK]
    | ptr id i o =>
      simp only [atK, objK, AM.obj, AM.run]
      cases h[id]? with
      | none => simp [effK]
      | some ob => cases ob with
        | none => simp [AM.run, effK]
        | some ob =>
          simp only
          cases ob.cont?.bind (·.2.row i) with
          | none => simp [AM.run, effK, cellsK]
          | some cs => simp only [cellsK]; cases pick (isAg P t) (szOf P t) cs o <;> simp [AM.run, eff, effK, put]
    | _ => simp [AM.run, effK, atK]
def newK (x : Option AO) (K : AO → Prop) : Prop := match x with | some o => K o | none => False
@[go_sem] theorem newK_some {l K} : newK (some l) K = K l := rfl
def setAt (ob : AO) (i o : Nat) (vs : List AV) : Option AO := ob.live?.bind fun kc => (kc.2.setCells i o vs).map (Cont.obj kc.1)
def storeK (h : Heap) (a : AV) (vs : List AV) (K : Heap → Prop) : Prop := match a with
  | .ptr id i o => objK h[id]? fun ob => newK (setAt ob i o vs) fun ob => K (h.set id (some ob))
  | _ => False
@[go_sem] theorem storeK_ptr {id i o vs K} : storeK h (.ptr id i o) vs K = objK h[id]? (fun ob => newK (setAt ob i o vs) fun ob => K (h.set id (some ob))) := rfl
theorem put_old {h : Heap} {i o x} (hx : h[i]? = some x) : put h [(i, o)] = h.set i o := by
  have : i < h.length := by
    rcases Nat.lt_or_ge i h.length with h1 | h1
    · exact h1
    · rw [List.getElem?_eq_none h1] at hx; cases hx
  simp [put, this]
@[go_sem] theorem op_store {t a x} : Ops P C f all (⟨d, .store t a x, ty, pos, aft, none⟩ :: r) e h Q ↔
    valK (ev C.glob e a) (fun a => valK (ev C.glob e x) fun v => okCells (isAg P t) (szOf P t) v = true ∧ storeK h a v.cellsOf fun h' => Ops P C f all r (putE e d undef) h' Q) := by
  rw [ops_prim rfl rfl]; simp only [prim]
  cases ev C.glob e a with
  | none => simp [AM.run, effK, valK]
  | some a =>
    cases ev C.glob e x with
    | none => simp [AM.run, effK, valK]
    | some v =>
      simp only [valK]
      cases a with
      | ptr id i o =>
        simp only
        cases hk : okCells (isAg P t) (szOf P t) v with
        | false => simp [AM.run, effK]
        | true =>
          simp only [if_true, storeK, objK, AM.obj, AM.run, true_and]
          cases ho : h[id]? with
          | none => simp [effK]
          | some ob => cases ob with
            | none => simp [AM.run, effK]
            | some ob =>
              simp only [setAt]
              cases ob.live?.bind (fun kc => (kc.2.setCells i o v.cellsOf).map (Cont.obj kc.1)) with
              | none => simp [AM.run, effK, newK]
              | some c => simp [AM.run, effK, newK, put_old ho]
      | _ => simp [AM.run, effK, storeK]
def ptrish : AV → Bool
  | .ptr .. | .d (.fptr ..) => true
  | .fn (.func _) _ _ => true
  | _ => false
@[go_sem] theorem op_nilCheck {x} : Ops P C f all (⟨d, .nilCheck x, ty, pos, aft, none⟩ :: r) e h Q ↔
    valK (ev C.glob e x) (fun v => ptrish v = true ∧ Ops P C f all r (putE e d v) h Q) := by
  rw [ops_prim rfl rfl]; simp only [prim]
  cases ev C.glob e x with
  | none => simp [AM.run, effK, valK]
  | some v =>
    simp only [valK]
    cases v with
    | d v => cases v <;> simp [AM.run, effK, ptrish, eff, put]
    | fn g a b => cases g <;> simp [AM.run, effK, ptrish, eff, put]
    | _ => simp [AM.run, effK, ptrish, eff, put]
/-- an operator's value; where a slice is held against nil and may be nil: both -/
theorem nilq_none {t c full} : equalAV P t c (.d (.fsl [] false full)) (.d .snil) = none := by
  unfold equalAV; cases eqShape P t <;> simp
def binK (P : Program) (op : BinOp) (t : TypeId) (c : Bool) (x y : AV) (K : AV → Prop) : Prop := match binAV P op t c x y with
  | some v => K v
  | none => ((op = .eql ∨ op = .neq) ∧ eqShape P t = .slice) ∧ (∃ full, x = .d (.fsl [] false full)) ∧ y = .d .snil ∧ K (.d (.bool true)) ∧ K (.d (.bool false))
theorem binK_some {op t c x y v K} (h : binAV P op t c x y = some v) : binK P op t c x y K = K v := by simp [binK, h]
theorem prim_bin {op t x y yt base x' y'} (hx : ev C.glob e x = some x') (hy : ev C.glob e y = some y') :
    (prim P C.glob e base ⟨d, .binOp op t x y yt, ty, pos, aft, none⟩).run h = (binAV P op t (litOp x y) x' y').map fun v => ⟨v, [], 0⟩ := by
  simp only [prim, hx, hy]
  cases binAV P op t (litOp x y) x' y' <;> simp [AM.run, eff]
@[go_sem] theorem op_binOp {op t x y yt} : Ops P C f all (⟨d, .binOp op t x y yt, ty, pos, aft, none⟩ :: r) e h Q ↔
    valK (ev C.glob e x) (fun x' => valK (ev C.glob e y) fun y' => binK P op t (litOp x y) x' y' fun v => Ops P C f all r (putE e d v) h Q) := by
  cases hx : ev C.glob e x with
  | none =>
    simp only [valK, iff_false]
    intro w
    cases w with
    | skipped h1 _ => simp [wanted] at h1
    | prim h1 h2 h3 => simp [prim, hx, AM.run] at h2
    | opcall h1 h2 => simp [callee] at h2
    | nilq h1 h2 h3 h4 => simp only [Op.binOp.injEq] at h2; obtain ⟨rfl, rfl, rfl, rfl, rfl⟩ := h2; rw [hx] at h4; cases h4
  | some x' =>
    cases hy : ev C.glob e y with
    | none =>
      simp only [valK, iff_false]
      intro w
      cases w with
      | skipped h1 _ => simp [wanted] at h1
      | prim h1 h2 h3 => simp [prim, hx, hy, AM.run] at h2
      | opcall h1 h2 => simp [callee] at h2
      | nilq h1 h2 h3 h4 h5 h6 => simp only [Op.binOp.injEq] at h2; obtain ⟨rfl, rfl, rfl, rfl, rfl⟩ := h2; rw [hy] at h6; cases h6
    | some y' =>
      simp only [valK]
      have hp := @prim_bin P C e h d ty pos aft op t x y yt h.length x' y' hx hy
      constructor
      · intro w
        cases w with
        | skipped h1 _ => simp [wanted] at h1
        | prim h1 h2 h3 =>
          rw [hp] at h2
          unfold binK
          cases hb : binAV P op t (litOp x y) x' y' with
          | none => rw [hb] at h2; cases h2
          | some v => rw [hb] at h2; cases h2; exact h3
        | opcall h1 h2 => simp [callee] at h2
        | nilq h1 h2 h3 h4 h5 h6 h7 h8 =>
          simp only [Op.binOp.injEq] at h2; obtain ⟨rfl, rfl, rfl, rfl, rfl⟩ := h2
          rw [hx] at h4; cases h4; rw [hy] at h6; cases h6; subst h5
          have hb : binAV P op t (litOp x y) (.d (.fsl [] false ‹Bool›)) (.d .snil) = none := by
            rcases h3.1 with rfl | rfl <;> simp only [binAV, nilq_none, Option.map_none]
          unfold binK
          rw [hb]
          exact ⟨h3, ⟨_, rfl⟩, rfl, h7, h8⟩
      · intro w
        unfold binK at w
        cases hb : binAV P op t (litOp x y) x' y' with
        | some v =>
          rw [hb] at w hp
          exact .prim rfl hp w
        | none =>
          rw [hb] at w
          obtain ⟨h3, ⟨full, rfl⟩, rfl, h7, h8⟩ := w
          exact .nilq rfl rfl h3 hx rfl hy h7 h8
@[go_sem] theorem op_unOp {op t x} : Ops P C f all (⟨d, .unOp op t x, ty, pos, aft, none⟩ :: r) e h Q ↔
    valK (ev C.glob e x) (fun x => valK (unAV op x) fun v => Ops P C f all r (putE e d v) h Q) := by
  rw [ops_prim rfl rfl]; simp only [prim]
  cases ev C.glob e x with
  | none => simp [AM.run, effK, valK]
  | some x => simp only [valK]; cases unAV op x <;> simp [AM.run, eff, effK, put]
def fldK (x : Option (Nat × TypeId × Nat)) (K : Nat → TypeId → Nat → Prop) : Prop := match x with | some (a, b, c) => K a b c | none => False
@[go_sem] theorem fldK_some {a b c K} : fldK (some (a, b, c)) K = K a b c := rfl
def shift (v : AV) (n : Nat) : Option AV := match v with
  | .ptr id i o => some (.ptr id i (o + n))
  | .d (.fptr cs o) => some (.d (.fptr cs (o + n)))
  | _ => none
@[go_sem] theorem shift_ptr {id i o n} : shift (.ptr id i o) n = some (.ptr id i (o + n)) := rfl
@[go_sem] theorem shift_fptr {cs o n} : shift (.d (.fptr cs o)) n = some (.d (.fptr cs (o + n))) := rfl
@[go_sem] theorem op_fieldAddr {s x i} : Ops P C f all (⟨d, .fieldAddr s x i, ty, pos, aft, none⟩ :: r) e h Q ↔
    valK (ev C.glob e x) (fun v => fldK (fld P s i) fun off _ sz => sz ≠ 0 ∧ valK (shift v off) fun v => Ops P C f all r (putE e d v) h Q) := by
  rw [ops_prim rfl rfl]; simp only [prim]
  cases ev C.glob e x with
  | none => simp [AM.run, effK, valK]
  | some v =>
    simp only [valK]
    cases fld P s i with
    | none => simp [AM.run, effK, fldK]
    | some y =>
      obtain ⟨off, ft, sz⟩ := y
      simp only [fldK]
      by_cases hz : sz = 0
      · simp [hz, AM.run, effK]
      · simp only [hz, if_false, ne_eq, not_false_eq_true, true_and]
        cases v with
        | d v => cases v <;> simp [AM.run, effK, shift, eff, put]
        | _ => simp [AM.run, effK, shift, eff, put]
def aggK (v : AV) (K : List AV → Prop) : Prop := match v with | .agg cs => K cs | _ => False
@[go_sem] theorem aggK_agg {cs K} : aggK (.agg cs) K = K cs := rfl
@[go_sem] theorem op_field {t x i} : Ops P C f all (⟨d, .field t x i, ty, pos, aft, none⟩ :: r) e h Q ↔
    valK (ev C.glob e x) (fun v => fldK (fld P t i) fun off ft sz => aggK v fun cs => valK (pick (isAg P ft) sz cs off) fun v => Ops P C f all r (putE e d v) h Q) := by
  rw [ops_prim rfl rfl]; simp only [prim]
  cases ev C.glob e x with
  | none => simp [AM.run, effK, valK]
  | some v =>
    simp only [valK]
    cases fld P t i with
    | none => simp [AM.run, effK, fldK]
    | some y =>
      obtain ⟨off, ft, sz⟩ := y
      simp only [fldK]
      cases v with
      | agg cs => simp only [aggK]; cases pick (isAg P ft) sz cs off <;> simp [AM.run, eff, effK, put]
      | _ => simp [AM.run, effK, aggK]
def natK (v : AV) (K : Nat → Prop) : Prop := match nat? v with | some n => K n | none => False
@[go_sem] theorem natK_int {k n K} : natK (.d (.int k n)) K = (0 ≤ n ∧ K n.toNat) := by
  unfold natK nat?
  by_cases h0 : 0 ≤ n <;> simp [h0]
/-- the address of an element -/
def elAddr (h : Heap) (sz : Nat) (v : AV) (i : Nat) (K : AV → Prop) : Prop := match v with
  | .d (.fsl es _ _) => match es[i]? with | some el => el.length = sz ∧ K (.d (.fptr el 0)) | none => False
  | .sl id off len _ => objK h[id]? fun ob => match ob.cont? with
    | some (k, c) => k = sz ∧ i < len ∧ off + i < c.length ∧ K (.ptr id (off + i) 0)
    | none => False
  | _ => False
def arAddr (sz n : Nat) (v : AV) (i : Nat) (K : AV → Prop) : Prop := i < n ∧ sz ≠ 0 ∧ valK (shift v (i * sz)) K
def arK (x : Option (Nat × TypeId × Nat)) (K : Nat → TypeId → Nat → Prop) : Prop := match x with | some (a, b, c) => K a b c | none => False
@[go_sem] theorem arK_some {a b c K} : arK (some (a, b, c)) K = K a b c := rfl
def ixK (sl ar : Option (Nat × Nat × Nat)) (h : Heap) (v : AV) (i : Nat) (K : AV → Prop) : Prop := match sl with
  | some (_, sz, _) => sz ≠ 0 ∧ elAddr h sz v i K
  | none => match ar with
    | some (n, _, sz) => arAddr sz n v i K
    | none => False
@[go_sem] theorem ixK_sl {a sz b ar v i K} : ixK (some (a, sz, b)) ar h v i K = (sz ≠ 0 ∧ elAddr h sz v i K) := rfl
@[go_sem] theorem ixK_ar {n a sz v i K} : ixK none (some (n, a, sz)) h v i K = arAddr sz n v i K := rfl
@[go_sem] theorem op_indexAddr {t x ix} : Ops P C f all (⟨d, .indexAddr t x ix, ty, pos, aft, none⟩ :: r) e h Q ↔
    valK (ev C.glob e x) (fun v => valK (ev C.glob e ix) fun i => natK i fun i => ixK (slElem P t) (arElem P t) h v i fun v => Ops P C f all r (putE e d v) h Q) := by
  rw [ops_prim rfl rfl]; simp only [prim]
  cases ev C.glob e x with
  | none => simp [AM.run, effK, valK]
  | some v =>
    cases ev C.glob e ix with
    | none => simp [AM.run, effK, valK]
    | some i =>
      simp only [valK, natK]
      cases nat? i with
      | none => simp [AM.run, effK]
      | some i =>
        simp only
        cases slElem P t with
        | some y =>
          obtain ⟨a, sz, b⟩ := y
          simp only [ixK]
          by_cases hz : sz = 0
          · simp [hz, AM.run, effK]
          · simp only [hz, if_false, ne_eq, not_false_eq_true, true_and]
            cases v with
            | d v => cases v with
              | fsl es nn full =>
                simp only [elAddr]
                cases es[i]? with
                | none => simp [AM.run, effK]
                | some el => by_cases hl : el.length = sz <;> simp [hl, AM.run, effK, eff, put]
              | _ => simp [AM.run, effK, elAddr]
            | sl id off len full =>
              simp only [elAddr, objK, AM.obj, AM.run]
              cases h[id]? with
              | none => simp [effK]
              | some ob => cases ob with
                | none => simp [AM.run, effK]
                | some ob =>
                  simp only
                  cases ob.cont? with
                  | none => simp [AM.run, effK]
                  | some kc =>
                    obtain ⟨k, c⟩ := kc
                    simp only
                    by_cases hl : k = sz ∧ i < len ∧ off + i < c.length
                    · simp [hl, AM.run, effK, eff, put]
                    · simp only [hl, if_false, AM.run, effK, false_iff]
                      intro h'; exact hl ⟨h'.1, h'.2.1, h'.2.2.1⟩
            | _ => simp [AM.run, effK, elAddr]
        | none =>
          cases arElem P t with
          | none => simp [AM.run, effK, ixK]
          | some y =>
            obtain ⟨n, a, sz⟩ := y
            simp only [ixK, arAddr]
            by_cases hl : i < n ∧ sz ≠ 0
            · have : (decide (i < n) && decide (sz ≠ 0)) = true := by simpa using hl
              rw [this]
              simp only [if_true, hl, ne_eq, not_false_eq_true, true_and]
              cases v with
              | d v => cases v <;> simp [AM.run, effK, shift, eff, put, valK]
              | _ => simp [AM.run, effK, shift, eff, put, valK]
            · have : (decide (i < n) && decide (sz ≠ 0)) = false := by
                rw [Bool.eq_false_iff]; simpa using hl
              rw [this]
              simp only [Bool.false_eq_true, if_false, AM.run, effK, false_iff]
              intro h'; exact hl ⟨h'.1, h'.2.1⟩
def tupK (v : AV) (K : List AV → Prop) : Prop := match v with | .tup cs => K cs | _ => False
@[go_sem] theorem tupK_tup {cs K} : tupK (.tup cs) K = K cs := rfl
@[go_sem] theorem op_extract {x i} : Ops P C f all (⟨d, .extract x i, ty, pos, aft, none⟩ :: r) e h Q ↔
    valK (ev C.glob e x) (fun v => tupK v fun vs => valK vs[i]? fun v => Ops P C f all r (putE e d v) h Q) := by
  rw [ops_prim rfl rfl]; simp only [prim]
  cases ev C.glob e x with
  | none => simp [AM.run, effK, valK]
  | some v =>
    simp only [valK]
    cases v with
    | tup vs => simp only [tupK]; cases vs[i]? <;> simp [AM.run, eff, effK, put]
    | _ => simp [AM.run, effK, tupK]
def valsK (x : Option (List AV)) (K : List AV → Prop) : Prop := match x with | some l => K l | none => False
@[go_sem] theorem valsK_some {l K} : valsK (some l) K = K l := rfl
@[go_sem] theorem op_makeFunc {fn a b} : Ops P C f all (⟨d, .makeFunc fn a b, ty, pos, aft, none⟩ :: r) e h Q ↔
    valsK (evs C.glob e a.toList) (fun a => valsK (evs C.glob e b.toList) fun b => Ops P C f all r (putE e d (.fn fn a b)) h Q) := by
  rw [ops_prim rfl rfl]; simp only [prim]
  cases evs C.glob e a.toList <;> cases evs C.glob e b.toList <;> simp [AM.run, effK, eff, valsK, put]
@[go_sem] theorem op_makeMap {t} : Ops P C f all (⟨d, .makeMap t none, ty, pos, aft, none⟩ :: r) e h Q ↔ Ops P C f all r (putE e d (.map h.length)) (h ++ [some (.map [])]) Q := by
  rw [ops_prim rfl rfl]; simp [prim, AM.run, effK, put]
/-- a computation of an effect -/
def amK (h : Heap) (x : AM Eff) (K : AV → Heap → Prop) : Prop := effK (x.run h) fun x => K x.v (put h x.wr)
@[go_sem] theorem op_slice {t x lo hi mx} : Ops P C f all (⟨d, .slice t x lo hi mx, ty, pos, aft, none⟩ :: r) e h Q ↔
    amK h (prim P C.glob e h.length ⟨d, .slice t x lo hi mx, ty, pos, aft, none⟩) (fun v h' => Ops P C f all r (putE e d v) h' Q) := ops_prim rfl rfl
theorem op_builtin {b as ts} : Ops P C f all (⟨d, .call ⟨.builtin b, as, ts⟩, ty, pos, aft, none⟩ :: r) e h Q ↔
    valsK (evs C.glob e as.toList) (fun vs => amK h (prim P C.glob e h.length ⟨d, .call ⟨.builtin b, as, ts⟩, ty, pos, aft, none⟩) (fun v h' => Ops P C f all r (putE e d v) h' Q)) := by
  rw [ops_prim rfl rfl]
  cases hv : evs C.glob e as.toList with
  | none => simp [prim, hv, AM.run, effK, valsK]
  | some vs => rfl
end
end ops

end Go.Ab
namespace Go.Ab
variable {P : Program} {C : Ctx}

/- ---------- AM ---------- -/
@[go_sem] theorem run_ret {α : Type} {h : Heap} {a : α} : (AM.ret a).run h = some a := rfl
@[go_sem] theorem run_fail {α : Type} {h : Heap} : (AM.fail : AM α).run h = none := rfl
theorem run_bind {α β : Type} {h : Heap} (x : AM α) (f : α → AM β) : (x.bind f).run h = (x.run h).bind fun a => (f a).run h := by
  induction x with
  | ret a => rfl
  | fail => rfl
  | get i k ih =>
    simp only [AM.bind, AM.run]
    cases h[i]? with
    | none => rfl
    | some o => exact ih o
@[go_sem] theorem run_bind' {α β : Type} {h : Heap} (x : AM α) (f : α → AM β) : (x >>= f).run h = (x.run h).bind fun a => (f a).run h := run_bind x f
@[go_sem] theorem run_bindd {α β : Type} {h : Heap} (x : AM α) (f : α → AM β) : (x.bind f).run h = (x.run h).bind fun a => (f a).run h := run_bind x f
theorem run_get {α : Type} {h : Heap} {i k} : (AM.get i k : AM α).run h = match h[i]? with | some o => (k o).run h | none => none := by
  simp only [AM.run] <;> (cases h[i]? <;> rfl)
theorem log_bind {α β : Type} {h : Heap} (x : AM α) (f : α → AM β) : (x.bind f).log h = x.log h ++ (match x.run h with | some a => (f a).log h | none => []) := by
  induction x with
  | ret a => rfl
  | fail => rfl
  | get i k ih =>
    simp only [AM.bind, AM.log, AM.run]
    cases h[i]? with
    | none => rfl
    | some o => simp [ih o]

/- ---------- environments, heaps ---------- -/
@[go_sem] theorem get_cons {t v} {e : Env} {t'} : Env.get ((t, v) :: e) t' = if t' = t then v else Env.get e t' := by
  unfold Env.get
  by_cases h : t' = t
  · subst h; simp [List.lookup]
  · have hb : (t' == t) = false := by simpa using h
    simp [List.lookup, h, hb]
@[go_sem] theorem get_nil {t} : Env.get [] t = .top := rfl
attribute [go_sem] putE ev evs evAll keep List.map_cons List.map_nil

theorem valK_fun {x : Option AV} {K K' : AV → Prop} (h : ∀ v, K v = K' v) : valK x K = valK x K' := by rw [funext h]

/- ---------- builtins ---------- -/
section
variable {f : FuncId} {all : Array Oper} {r : List Oper} {e : Env} {h : Heap} {Q : Env → Heap → Prop} {d : Option Nat} {ty : TypeId} {pos : String} {aft : Array Edge}
/-- what a builtin does -/
def builtinAM (P : Program) (base : Nat) (b : Builtin) (ts : Array TypeId) (vs : List AV) : AM Eff := match b, vs with
  | .len, [x] => (match ts[0]? with | some t => do eff (.d (.int .i64 (← lenOf P t x))) | none => .fail)
  | .append, [a, b] => appendOp P base ts a b
  | .copy, [a, b] => copyOp P ts a b
  | .min, x :: r => (match minMax false x r with | some v => eff v | none => .fail)
  | .max, x :: r => (match minMax true x r with | some v => eff v | none => .fail)
  | _, _ => .fail
theorem prim_builtin {b as ts vs base} (hv : evs C.glob e as.toList = some vs) :
    prim P C.glob e base ⟨d, .call ⟨.builtin b, as, ts⟩, ty, pos, aft, none⟩ = builtinAM P base b ts vs := by
  simp only [prim, hv]
  cases b <;> (rcases vs with _ | ⟨x, _ | ⟨y, _ | ⟨z, l⟩⟩⟩ <;> rfl)
theorem op_bi {b as ts} : Ops P C f all (⟨d, .call ⟨.builtin b, as, ts⟩, ty, pos, aft, none⟩ :: r) e h Q ↔
    valsK (evs C.glob e as.toList) (fun vs => amK h (builtinAM P h.length b ts vs) fun v h' => Ops P C f all r (putE e d v) h' Q) := by
  rw [op_builtin]
  cases hv : evs C.glob e as.toList with
  | none => rfl
  | some vs => simp only [valsK]; rw [prim_builtin hv]
def lenK (P : Program) (h : Heap) (t : Option TypeId) (x : AV) (K : Int → Prop) : Prop := match t with
  | some t => (match (lenOf P t x).run h with | some n => K n | none => False)
  | none => False
@[go_sem] theorem op_len {as ts} : Ops P C f all (⟨d, .call ⟨.builtin .len, as, ts⟩, ty, pos, aft, none⟩ :: r) e h Q ↔
    valsK (evs C.glob e as.toList) (fun vs => lenK P h ts[0]? (vs.headD .top) fun n => vs.length = 1 ∧ Ops P C f all r (putE e d (.d (.int .i64 n))) h Q) := by
  rw [op_bi]
  cases evs C.glob e as.toList with
  | none => rfl
  | some vs =>
    simp only [valsK, amK]
    match vs with
    | [] => simp only [builtinAM, AM.run, effK, lenK, List.headD]; cases ts[0]? <;> simp; cases (lenOf P _ _).run h <;> simp
    | [x] =>
      simp only [builtinAM, lenK, List.headD]
      cases ts[0]? with
      | none => simp [AM.run, effK]
      | some t =>
        simp only [run_bind']
        cases (lenOf P t x).run h <;> simp [eff, AM.run, effK, put]
    | x :: y :: l =>
      simp only [builtinAM, AM.run, effK, lenK, List.headD]; cases ts[0]? <;> simp; cases (lenOf P _ _).run h <;> simp
@[go_sem] theorem op_append {as ts} : Ops P C f all (⟨d, .call ⟨.builtin .append, as, ts⟩, ty, pos, aft, none⟩ :: r) e h Q ↔
    valsK (evs C.glob e as.toList) (fun vs => vs.length = 2 ∧ amK h (appendOp P h.length ts (vs.getD 0 .top) (vs.getD 1 .top)) fun v h' => Ops P C f all r (putE e d v) h' Q) := by
  rw [op_bi]
  cases evs C.glob e as.toList with
  | none => rfl
  | some vs =>
    simp only [valsK]
    match vs with
    | [] => simp [builtinAM, amK, AM.run, effK]
    | [x] => simp [builtinAM, amK, AM.run, effK]
    | [x, y] => simp [builtinAM]
    | x :: y :: z :: l => simp [builtinAM, amK, AM.run, effK]
@[go_sem] theorem op_copy {as ts} : Ops P C f all (⟨d, .call ⟨.builtin .copy, as, ts⟩, ty, pos, aft, none⟩ :: r) e h Q ↔
    valsK (evs C.glob e as.toList) (fun vs => vs.length = 2 ∧ amK h (copyOp P ts (vs.getD 0 .top) (vs.getD 1 .top)) fun v h' => Ops P C f all r (putE e d v) h' Q) := by
  rw [op_bi]
  cases evs C.glob e as.toList with
  | none => rfl
  | some vs =>
    simp only [valsK]
    match vs with
    | [] => simp [builtinAM, amK, AM.run, effK]
    | [x] => simp [builtinAM, amK, AM.run, effK]
    | [x, y] => simp [builtinAM]
    | x :: y :: z :: l => simp [builtinAM, amK, AM.run, effK]
@[go_sem] theorem op_min {as ts} : Ops P C f all (⟨d, .call ⟨.builtin .min, as, ts⟩, ty, pos, aft, none⟩ :: r) e h Q ↔
    valsK (evs C.glob e as.toList) (fun vs => vs ≠ [] ∧ valK (minMax false (vs.headD .top) vs.tail) fun v => Ops P C f all r (putE e d v) h Q) := by
  rw [op_bi]
  cases evs C.glob e as.toList with
  | none => rfl
  | some vs =>
    simp only [valsK]
    cases vs with
    | nil => simp [builtinAM, amK, AM.run, effK]
    | cons x l => simp only [builtinAM, amK, List.headD, List.tail]; cases minMax false x l <;> simp [eff, AM.run, effK, valK, put]
@[go_sem] theorem op_max {as ts} : Ops P C f all (⟨d, .call ⟨.builtin .max, as, ts⟩, ty, pos, aft, none⟩ :: r) e h Q ↔
    valsK (evs C.glob e as.toList) (fun vs => vs ≠ [] ∧ valK (minMax true (vs.headD .top) vs.tail) fun v => Ops P C f all r (putE e d v) h Q) := by
  rw [op_bi]
  cases evs C.glob e as.toList with
  | none => rfl
  | some vs =>
    simp only [valsK]
    cases vs with
    | nil => simp [builtinAM, amK, AM.run, effK]
    | cons x l => simp only [builtinAM, amK, List.headD, List.tail]; cases minMax true x l <;> simp [eff, AM.run, effK, valK, put]

/-- contents of a slice -/
def contK (h : Heap) (k : Nat) (v : AV) (K : Cont → Prop) : Prop := match (sliceCont k v).run h with | some c => K c | none => False
@[go_sem] theorem contK_snil {k K} : contK h k (.d .snil) K = K (.fl []) := rfl
@[go_sem] theorem contK_fsl {k es nn full K} : contK h k (.d (.fsl es nn full)) K = (allLen k es = true ∧ K (.fl es)) := by
  simp only [contK, sliceCont]
  by_cases ha : allLen k es = true
  · rw [if_pos ha]; simp [AM.run, ha]
  · rw [if_neg ha]; simp [AM.run, ha]
@[go_sem] theorem contK_sl {k id off len full K} : contK h k (.sl id off len full) K = objK h[id]? (fun o => match o.cont? with
    | some (k', c) => k' = k ∧ off + len ≤ c.length ∧ K ((c.drop off).take len)
    | none => False) := by
  unfold contK sliceCont objK AM.obj
  simp only [AM.run]
  cases h[id]? with
  | none => rfl
  | some o => cases o with
    | none => rfl
    | some o =>
      simp only
      cases o.cont? with
      | none => rfl
      | some kc =>
        obtain ⟨k', c⟩ := kc
        simp only
        by_cases hc : k' = k ∧ off + len ≤ c.length
        · simp [hc, AM.run]
        · simp only [hc, if_false, AM.run, eq_iff_iff, false_iff]
          intro h'; exact hc ⟨h'.1, h'.2.1⟩

/-- appending to nothing -/
def freshK (h : Heap) (sz : Nat) (dst : AV) (old s : Cont) (K : AV → Heap → Prop) : Prop :=
  old.length + s.length ≤ big ∧ (if s.length = 0 then K dst h else K (.sl h.length 0 (old.length + s.length) false) (h ++ [some ((old.app s).obj sz)]))
theorem amK_bind {x : AM Cont} {g : Cont → AM Eff} {K} : amK h (x.bind g) K = match x.run h with | some c => amK h (g c) K | none => False := by
  unfold amK; rw [run_bind]; cases x.run h <;> rfl
theorem amK_fresh {sz dst old s K} : amK h (if Cont.length old + Cont.length s ≤ big then (if Cont.length s = 0 then eff dst else
        .ret ⟨.sl h.length 0 (Cont.length old + Cont.length s) false, [(h.length, some ((old.app s).obj sz))], 1⟩) else .fail) K = freshK h sz dst old s K := by
  unfold amK freshK
  by_cases h1 : old.length + s.length ≤ big
  · rw [if_pos h1]
    by_cases h2 : s.length = 0
    · rw [if_pos h2, if_pos h2]; simp only [eff, AM.run, effK, put, h1, true_and]
    · rw [if_neg h2, if_neg h2]; simp only [AM.run, effK, h1, true_and, put_new]
  · rw [if_neg h1]; simp only [AM.run, effK, h1, false_and]
def appK (h : Heap) (sl : Option (TypeId × Nat × Nat)) (dst src : AV) (K : AV → Heap → Prop) : Prop := match sl with
  | none => False
  | some (_, sz, bytes) => sz ≠ 0 ∧ bytes ≤ 65536 ∧ contK h sz src fun s => match dst with
    | .d .snil => freshK h sz dst (.fl []) s K
    | .d (.fsl es _ true) => allLen sz es = true ∧ freshK h sz dst (.fl es) s K
    | .sl id off len full => objK h[id]? fun o => match o.cont? with
      | none => False
      | some (k, c) => k = sz ∧ off + len ≤ c.length ∧
        if full then freshK h sz dst ((c.drop off).take len) s K else
          o.live?.isSome = true ∧ len + s.length ≤ big ∧
          if off + len + s.length ≤ c.length then
            K (.sl id off (len + s.length) false) (h.set id (some (((c.take (off + len)).app (s.app (c.drop (off + len + s.length)))).obj sz)))
          else K (.sl h.length 0 (len + s.length) false) (h.set id none ++ [some ((((c.drop off).take len).app s).obj sz)])
    | _ => False
theorem put_two {h : Heap} {i o x} (hx : h[i]? = some x) : put h [(i, none), (h.length, o)] = h.set i none ++ [o] := by
  have : i < h.length := by
    rcases Nat.lt_or_ge i h.length with h1 | h1
    · exact h1
    · rw [List.getElem?_eq_none h1] at hx; cases hx
  simp [put, this]
@[go_sem] theorem amK_append {ts dst src K} : amK h (appendOp P h.length ts dst src) K = (okSrc P ts = true ∧ appK h ((ts[0]?).bind (slElem P)) dst src K) := by
  unfold appendOp appK
  by_cases hok : okSrc P ts = false
  · rw [if_pos hok]; simp [hok, amK, AM.run, effK]
  rw [if_neg hok]
  simp only [show okSrc P ts = true by simpa using hok, true_and]
  cases (ts[0]?).bind (slElem P) with
  | none => rfl
  | some y =>
    obtain ⟨a, sz, bytes⟩ := y
    simp only
    by_cases hz : sz = 0 ∨ bytes > 65536
    · rw [if_pos hz]
      simp only [amK, AM.run, effK, eq_iff_iff, false_iff]
      omega
    · have hz' : sz ≠ 0 ∧ bytes ≤ 65536 := by omega
      rw [if_neg hz]
      simp only [amK_bind, contK, hz', ne_eq, not_false_eq_true, true_and]
      cases (sliceCont sz src).run h with
      | none => rfl
      | some s =>
        simp only
        cases dst with
        | d v => cases v with
          | snil => exact amK_fresh
          | fsl es nn full =>
            cases full with
            | true =>
              simp only
              by_cases ha : allLen sz es = true
              · rw [if_pos ha]; simp only [ha, true_and]; exact amK_fresh
              · rw [if_neg ha]; simp [amK, AM.run, effK, ha]
            | false => simp [amK, AM.run, effK]
          | _ => simp [amK, AM.run, effK]
        | sl id off len full =>
          simp only [objK]
          show amK h (.obj id _) K = _
          unfold amK
          simp only [AM.obj, AM.run]
          cases ho : h[id]? with
          | none => rfl
          | some o => cases o with
            | none => rfl
            | some o =>
              simp only
              cases hc : o.cont? with
              | none => rfl
              | some kc =>
                obtain ⟨k, c⟩ := kc
                simp only
                by_cases hk : k ≠ sz ∨ off + len > c.length
                · rw [if_pos hk]
                  simp only [AM.run, effK, eq_iff_iff, false_iff]
                  intro h'; omega
                · have hk' : k = sz ∧ off + len ≤ c.length := by omega
                  rw [if_neg hk]
                  simp only [hk', true_and]
                  cases full with
                  | true =>
                    simp only [if_true]
                    have := @amK_fresh h sz (.sl id off len true) ((c.drop off).take len) s K
                    unfold amK at this
                    exact this
                  | false =>
                    simp only [Bool.false_eq_true, if_false]
                    cases o.live? with
                    | none => simp [AM.run, effK]
                    | some x =>
                      simp only [Option.isSome, true_and]
                      by_cases h1 : len + s.length ≤ big
                      · simp only [h1, if_true, true_and]
                        by_cases h2 : off + len + s.length ≤ c.length
                        · simp only [h2, if_true, AM.run, effK]; rw [put_old ho]
                        · simp only [h2, if_false, AM.run, effK]; rw [put_two ho]
                      · simp [h1, AM.run, effK]
        | _ => simp [amK, AM.run, effK]
@[go_sem] theorem appK_some {a sz bytes dst src K} : appK h (some (a, sz, bytes)) dst src K = (sz ≠ 0 ∧ bytes ≤ 65536 ∧ contK h sz src fun s => match dst with
    | .d .snil => freshK h sz dst (.fl []) s K
    | .d (.fsl es _ true) => allLen sz es = true ∧ freshK h sz dst (.fl es) s K
    | .sl id off len full => objK h[id]? fun o => match o.cont? with
      | none => False
      | some (k, c) => k = sz ∧ off + len ≤ c.length ∧
        if full then freshK h sz dst ((c.drop off).take len) s K else
          o.live?.isSome = true ∧ len + s.length ≤ big ∧
          if off + len + s.length ≤ c.length then
            K (.sl id off (len + s.length) false) (h.set id (some (((c.take (off + len)).app (s.app (c.drop (off + len + s.length)))).obj sz)))
          else K (.sl h.length 0 (len + s.length) false) (h.set id none ++ [some ((((c.drop off).take len).app s).obj sz)])
    | _ => False) := rfl

/- ---------- calls ---------- -/
def fnK (v : AV) (K : Fn → List AV → List AV → Prop) : Prop := match v with | .fn g a b => K g a b | _ => False
@[go_sem] theorem fnK_fn {g a b K} : fnK (.fn g a b) K = K g a b := rfl
def passK (x : Option Pass) (K : Pass → Fn → List AV → Prop) : Prop := match x with
  | some p => (match tailOf p.args with | some (t, as) => K p t as | none => False)
  | none => False
@[go_sem] theorem passK_some {as hp L frz t r K} (ht : tailOf as = some (t, r)) : passK (some ⟨as, hp, L, frz⟩) K = K ⟨as, hp, L, frz⟩ t r := by simp [passK, ht]
def callK (P : Program) (C : Ctx) (f : FuncId) (all : Array Oper) (r : List Oper) (d : Option Nat) (e : Env) (h : Heap) (Q : Env → Heap → Prop) (fn : Fn) (args : List AV) : Prop :=
  passK ((passCall (polOf C f fn) (.fn fn [] [] :: args)).run h) fun p tgt args => CallA P C tgt (polOf C f fn) args p.heap
    fun v hs => Ops P C f all r (putE e d (finCall p h.length v hs).v) (put h (finCall p h.length v hs).wr) Q
theorem ops_call {o : Oper} {fn args} (hg : o.guard = none) (hc : callee P C.glob e o = some (fn, args)) :
    Ops P C f all (o :: r) e h Q ↔ callK P C f all r o.dst e h Q fn args := by
  constructor
  · intro w
    cases w with
    | skipped h1 _ => simp [wanted, hg] at h1
    | prim h1 h2 h3 => rw [prim_call hc] at h2; cases h2
    | opcall h1 h2 h3 h4 h5 h6 =>
      rw [hc] at h2; cases h2
      unfold callK
      rw [h3]
      simp only [passK, h4]
      exact CallA.mono h5 h6
    | nilq h1 h2 => unfold callee at hc; rw [h2] at hc; cases hc
  · intro w
    unfold callK at w
    cases hp : (passCall (polOf C f fn) (.fn fn [] [] :: args)).run h with
    | none => rw [hp] at w; exact w.elim
    | some p =>
      rw [hp] at w
      simp only [passK] at w
      cases ht : tailOf p.args with
      | none => rw [ht] at w; exact w.elim
      | some y =>
        obtain ⟨t, as⟩ := y
        rw [ht] at w
        exact .opcall (by simp [wanted, hg]) hc hp ht w fun _ _ r => r
@[go_sem] theorem op_call {g as ts} : Ops P C f all (⟨d, .call ⟨.value g, as, ts⟩, ty, pos, aft, none⟩ :: r) e h Q ↔
    valK (ev C.glob e g) (fun g => valsK (evs C.glob e as.toList) fun as => fnK g fun fn first cap => callK P C f all r d e h Q fn (first ++ as ++ cap)) := by
  cases hv : ev C.glob e g with
  | none =>
    have hc : callee P C.glob e ⟨d, .call ⟨.value g, as, ts⟩, ty, pos, aft, none⟩ = none := by simp [callee, hv]
    rw [ops_prim rfl hc]; simp [prim, AM.run, effK, valK]
  | some v =>
    simp only [valK]
    cases ha : evs C.glob e as.toList with
    | none =>
      have hc : callee P C.glob e ⟨d, .call ⟨.value g, as, ts⟩, ty, pos, aft, none⟩ = none := by cases v <;> simp [callee, hv, ha]
      rw [ops_prim rfl hc]; simp [prim, AM.run, effK, valsK]
    | some vs =>
      simp only [valsK]
      cases v with
      | fn fn first cap => exact ops_call rfl (by simp [callee, hv, ha])
      | _ =>
        have hc : callee P C.glob e ⟨d, .call ⟨.value g, as, ts⟩, ty, pos, aft, none⟩ = none := by simp [callee, hv, ha]
        rw [ops_prim rfl hc]; simp [prim, AM.run, effK, fnK]

/- ---------- guards ---------- -/
def guardK (v : AV) (K : Bool → Prop) : Prop := match v with
  | .d (.bool b) => K b
  | _ => False
@[go_sem] theorem guardK_bool {b K} : guardK (.d (.bool b)) K = K b := rfl
theorem op_guard {op j w t} (ht : (all[j]?).bind (·.dst) = some t) (hb : ∃ b, e.get t = .d (.bool b)) :
    Ops P C f all (⟨d, op, ty, pos, aft, some (j, w)⟩ :: r) e h Q ↔
    guardK (e.get t) (fun b => if b = w then Ops P C f all (⟨d, op, ty, pos, aft, none⟩ :: r) e h Q else Ops P C f all r (putE e d undef) h Q) := by
  obtain ⟨b, hb⟩ := hb
  have hw : wanted all e ⟨d, op, ty, pos, aft, some (j, w)⟩ = some (b == w) := by simp [wanted, ht, hb]
  simp only [hb, guardK]
  by_cases hbw : b = w
  · simp only [hbw, if_true]
    have hw' : wanted all e ⟨d, op, ty, pos, aft, some (j, w)⟩ = some true := by rw [hw, hbw]; simp
    constructor
    · intro x
      cases x with
      | skipped h1 _ => rw [hw'] at h1; cases h1
      | prim h1 h2 h3 => exact .prim rfl h2 h3
      | opcall h1 h2 h3 h4 h5 h6 => exact .opcall rfl h2 h3 h4 h5 h6
      | nilq h1 h2 h3 h4 h5 h6 h7 h8 => exact .nilq rfl h2 h3 h4 h5 h6 h7 h8
    · intro x
      cases x with
      | skipped h1 _ => cases h1
      | prim h1 h2 h3 => exact .prim hw' h2 h3
      | opcall h1 h2 h3 h4 h5 h6 => exact .opcall hw' h2 h3 h4 h5 h6
      | nilq h1 h2 h3 h4 h5 h6 h7 h8 => exact .nilq hw' h2 h3 h4 h5 h6 h7 h8
  · simp only [hbw, if_false]
    have hw' : wanted all e ⟨d, op, ty, pos, aft, some (j, w)⟩ = some false := by rw [hw]; simp [hbw]
    constructor
    · intro x
      cases x with
      | skipped h1 h2 => exact h2
      | prim h1 h2 h3 => rw [hw'] at h1; cases h1
      | opcall h1 h2 h3 h4 h5 h6 => rw [hw'] at h1; cases h1
      | nilq h1 => rw [hw'] at h1; cases h1
    · intro x; exact .skipped hw' x
/-- a guarded operation: carried out, or left out -/
def gK (v : AV) (w : Bool) (K1 K2 : Prop) : Prop := match v with
  | .d (.bool b) => if b = w then K1 else K2
  | .top => False
  | _ => K2
@[go_sem] theorem gK_tt {K1 K2} : gK (.d (.bool true)) true K1 K2 = K1 := by simp [gK]
@[go_sem] theorem gK_tf {K1 K2} : gK (.d (.bool true)) false K1 K2 = K2 := by simp [gK]
@[go_sem] theorem gK_ft {K1 K2} : gK (.d (.bool false)) true K1 K2 = K2 := by simp [gK]
@[go_sem] theorem gK_ff {K1 K2} : gK (.d (.bool false)) false K1 K2 = K1 := by simp [gK]
theorem gK_dt {K1 K2} {p : Prop} [Decidable p] : gK (.d (.bool (decide p))) true K1 K2 = if p then K1 else K2 := by by_cases h : p <;> simp [gK, h]
theorem gK_df {K1 K2} {p : Prop} [Decidable p] : gK (.d (.bool (decide p))) false K1 K2 = if p then K2 else K1 := by by_cases h : p <;> simp [gK, h]
theorem gK_bt {K1 K2} {b : Bool} : gK (.d (.bool b)) true K1 K2 = if b = true then K1 else K2 := by simp [gK]
theorem gK_bf {K1 K2} {b : Bool} : gK (.d (.bool b)) false K1 K2 = if b = true then K2 else K1 := by cases b <;> simp [gK]
def gTmp (x : Option Nat) (K : Nat → Prop) : Prop := match x with | some t => K t | none => False
@[go_sem] theorem gTmp_some {t K} : gTmp (some t) K = K t := rfl
@[go_sem] theorem op_guard_iff {op j w} : Ops P C f all (⟨d, op, ty, pos, aft, some (j, w)⟩ :: r) e h Q ↔
    gTmp ((all[j]?).bind (·.dst)) (fun t => gK (e.get t) w (Ops P C f all (⟨d, op, ty, pos, aft, none⟩ :: r) e h Q) (Ops P C f all r (putE e d undef) h Q)) := by
  unfold gTmp
  cases ht : (all[j]?).bind (·.dst) with
  | none =>
    simp only [iff_false]
    have hw : wanted all e ⟨d, op, ty, pos, aft, some (j, w)⟩ = none := by simp [wanted, ht]
    intro x
    cases x with
    | skipped h1 => rw [hw] at h1; cases h1
    | prim h1 => rw [hw] at h1; cases h1
    | opcall h1 => rw [hw] at h1; cases h1
    | nilq h1 => rw [hw] at h1; cases h1
  | some t =>
    simp only
    have other : ∀ v, e.get t = v → (∀ b, v ≠ .d (.bool b)) → v ≠ .top → (Ops P C f all (⟨d, op, ty, pos, aft, some (j, w)⟩ :: r) e h Q ↔ Ops P C f all r (putE e d undef) h Q) := by
      intro v hv h1 h2
      have hw : wanted all e ⟨d, op, ty, pos, aft, some (j, w)⟩ = some false := by
        simp only [wanted, ht, hv]
      constructor
      · intro x
        cases x with
        | skipped h1 h2 => exact h2
        | prim h1 => rw [hw] at h1; cases h1
        | opcall h1 => rw [hw] at h1; cases h1
        | nilq h1 => rw [hw] at h1; cases h1
      · intro x; exact .skipped hw x
    cases hv : e.get t with
    | d v => cases v with
      | bool b =>
        have := @op_guard P C f all r e h Q d ty pos aft op j w t ht ⟨b, hv⟩
        rw [this, hv]; rfl
      | _ => exact other _ hv (by simp) (by simp)
    | top =>
      simp only [gK, iff_false]
      have hw : wanted all e ⟨d, op, ty, pos, aft, some (j, w)⟩ = none := by simp [wanted, ht, hv]
      intro x
      cases x with
      | skipped h1 => rw [hw] at h1; cases h1
      | prim h1 => rw [hw] at h1; cases h1
      | opcall h1 => rw [hw] at h1; cases h1
      | nilq h1 => rw [hw] at h1; cases h1
    | _ => exact other _ hv (by simp) (by simp)

/- ---------- entering a function ---------- -/
/-- the end of a function -/
def endK (P : Program) (fn : Func) (m : Pol) (k : Nat) (Q : AV → Heap → Prop) : Out → Env → Heap → Prop := fun o e h =>
  match o with
  | .exit _ => False
  | _ => valK (resultOf P fn e h) fun v => match (retCall m k v).run h with | some (v, hs) => Q v hs | none => False
theorem call_func {k fn c m args hs Q} (hf : P.funcs[k]? = some fn) (hb : fn.body = some c) (hn : fn.name ≠ "runtime.NumGoroutine") (ho : codeOk fn.ntmps c = true) (ha : args.length ≤ fn.ntmps ∧ hs.length ≤ C.keepN k)
    (w : Ex P C k c (envOf args) hs (endK P fn m hs.length Q)) : CallA P C (.func k) m args hs Q := by
  refine .call hf hb hn ho ha w fun o e' h' r => ?_
  unfold endK at r
  cases o with
  | exit i => exact r.elim
  | normal =>
    refine ⟨.inl rfl, ?_⟩
    simp only [valK] at r
    cases hr : resultOf P fn e' h' with
    | none => rw [hr] at r; exact r.elim
    | some v =>
      rw [hr] at r
      cases hc : (retCall m hs.length v).run h' with
      | none => simp only [hc] at r
      | some y => obtain ⟨v', hs'⟩ := y; simp only [hc] at r; exact ⟨v, v', hs', rfl, hc, r⟩
  | ret =>
    refine ⟨.inr rfl, ?_⟩
    simp only [valK] at r
    cases hr : resultOf P fn e' h' with
    | none => rw [hr] at r; exact r.elim
    | some v =>
      rw [hr] at r
      cases hc : (retCall m hs.length v).run h' with
      | none => simp only [hc] at r
      | some y => obtain ⟨v', hs'⟩ := y; simp only [hc] at r; exact ⟨v, v', hs', rfl, hc, r⟩
end
end Go.Ab
namespace Go.Ab
theorem bytes_loop (b : ByteArray) (d : Nat) : ∀ i r, b.size - i = d → ByteArray.toList.loop b i r = r.reverse ++ b.data.toList.drop i := by
  induction d with
  | zero =>
    intro i r h
    unfold ByteArray.toList.loop
    have hl : b.data.toList.length = b.size := Array.length_toList
    rw [if_neg (by omega), List.drop_of_length_le (by omega), List.append_nil]
  | succ d ih =>
    intro i r h
    have hl : b.data.toList.length = b.size := Array.length_toList
    have hi : i < b.data.toList.length := by omega
    unfold ByteArray.toList.loop
    rw [if_pos (by omega), ih (i + 1) _ (by omega), List.drop_eq_getElem_cons hi]
    have : b.get! i = b.data.toList[i] := by
      have hs : i < b.data.size := by simpa using hi
      show b.data[i]! = _
      rw [getElem!_pos b.data i hs, Array.getElem_toList]
    simp [this]
theorem bytes_eq (b : ByteArray) : b.toList = b.data.toList := by
  unfold ByteArray.toList; rw [bytes_loop b b.size 0 [] rfl]; simp
variable {P : Program} {C : Ctx}
section bin
variable {t : TypeId} {c : Bool} {k : IntKind} {a b : Int} {K : AV → Prop}
@[go_sem] theorem binK_add : binK P .add t c (.d (.int k a)) (.d (.int k b)) K = K (.d (.int k (k.wrap (a + b)))) := by simp [binK, binAV, binInt]
@[go_sem] theorem binK_sub : binK P .sub t c (.d (.int k a)) (.d (.int k b)) K = K (.d (.int k (k.wrap (a - b)))) := by simp [binK, binAV, binInt]
@[go_sem] theorem binK_mul : binK P .mul t c (.d (.int k a)) (.d (.int k b)) K = K (.d (.int k (k.wrap (a * b)))) := by simp [binK, binAV, binInt]
@[go_sem] theorem binK_eql : binK P .eql t c (.d (.int k a)) (.d (.int k b)) K = K (.d (.bool (decide (a = b)))) := by
  have : (a == b) = decide (a = b) := by by_cases h : a = b <;> simp [h]
  simp [binK, binAV, binInt, this]
@[go_sem] theorem binK_neq : binK P .neq t c (.d (.int k a)) (.d (.int k b)) K = K (.d (.bool (decide (a ≠ b)))) := by
  have : (a != b) = decide (a ≠ b) := by by_cases h : a = b <;> simp [h]
  simp [binK, binAV, binInt, this]
@[go_sem] theorem binK_lss : binK P .lss t c (.d (.int k a)) (.d (.int k b)) K = K (.d (.bool (decide (a < b)))) := by simp [binK, binAV, binInt]
@[go_sem] theorem binK_leq : binK P .leq t c (.d (.int k a)) (.d (.int k b)) K = K (.d (.bool (decide (a ≤ b)))) := by simp [binK, binAV, binInt]
@[go_sem] theorem binK_gtr : binK P .gtr t c (.d (.int k a)) (.d (.int k b)) K = K (.d (.bool (decide (b < a)))) := by simp [binK, binAV, binInt]
@[go_sem] theorem binK_geq : binK P .geq t c (.d (.int k a)) (.d (.int k b)) K = K (.d (.bool (decide (b ≤ a)))) := by simp [binK, binAV, binInt]
theorem binK_quo (h : b ≠ 0) : binK P .quo t c (.d (.int k a)) (.d (.int k b)) K = K (.d (.int k (k.wrap (a.tdiv b)))) := by simp [binK, binAV, binInt, h]
theorem binK_rem (h : b ≠ 0) : binK P .rem t c (.d (.int k a)) (.d (.int k b)) K = K (.d (.int k (a.tmod b))) := by simp [binK, binAV, binInt, h]
@[go_sem] theorem binK_seq {x y : ByteArray} : binK P .eql t c (.d (.str x)) (.d (.str y)) K = K (.d (.bool (decide (x = y)))) := by
  have : (x.toList == y.toList) = decide (x = y) := by
    rw [Bool.eq_iff_iff]; simp only [beq_iff_eq, decide_eq_true_eq]
    rw [bytes_eq, bytes_eq, Array.toList_inj]
    exact ⟨fun h => ByteArray.ext h, fun h => by rw [h]⟩
  simp [binK, binAV, binStr, this]
@[go_sem] theorem binK_sne {x y : ByteArray} : binK P .neq t c (.d (.str x)) (.d (.str y)) K = K (.d (.bool (decide (x ≠ y)))) := by
  have : (x.toList == y.toList) = decide (x = y) := by
    rw [Bool.eq_iff_iff]; simp only [beq_iff_eq, decide_eq_true_eq]
    rw [bytes_eq, bytes_eq, Array.toList_inj]
    exact ⟨fun h => ByteArray.ext h, fun h => by rw [h]⟩
  simp [binK, binAV, binStr, this]
@[go_sem] theorem binK_slss {x y : ByteArray} : binK P .lss t c (.d (.str x)) (.d (.str y)) K = K (.d (.bool (Op.bytesLess x.toList y.toList))) := by simp [binK, binAV, binStr]
@[go_sem] theorem binK_sgtr {x y : ByteArray} : binK P .gtr t c (.d (.str x)) (.d (.str y)) K = K (.d (.bool !(Op.bytesLess x.toList y.toList || x.toList == y.toList))) := by simp [binK, binAV, binStr]
@[go_sem] theorem binK_sleq {x y : ByteArray} : binK P .leq t c (.d (.str x)) (.d (.str y)) K = K (.d (.bool (Op.bytesLess x.toList y.toList || x.toList == y.toList))) := by simp [binK, binAV, binStr]
@[go_sem] theorem binK_sgeq {x y : ByteArray} : binK P .geq t c (.d (.str x)) (.d (.str y)) K = K (.d (.bool !Op.bytesLess x.toList y.toList)) := by simp [binK, binAV, binStr]
@[go_sem] theorem binK_sadd {x y : ByteArray} : binK P .add t c (.d (.str x)) (.d (.str y)) K = (x.size + y.size ≤ big ∧ K (.d (.str (x ++ y)))) := by
  by_cases h : x.size + y.size ≤ big <;> simp [binK, binAV, binStr, h]
section nils
@[go_sem] theorem litOp_r {x : Operand} {v} : litOp x (.const v) = true := by simp [litOp]
@[go_sem] theorem litOp_l {y : Operand} {v} : litOp (.const v) y = true := by simp [litOp]
@[go_sem] theorem binK_bb {x y : Bool} (h : eqShape P t = .bool) : binK P .eql t c (.d (.bool x)) (.d (.bool y)) K = K (.d (.bool (x == y))) := by simp [binK, binAV, equalAV, h]
@[go_sem] theorem binK_bn {x y : Bool} (h : eqShape P t = .bool) : binK P .neq t c (.d (.bool x)) (.d (.bool y)) K = K (.d (.bool !(x == y))) := by simp [binK, binAV, equalAV, h]
@[go_sem] theorem binK_p1 (h : eqShape P t = .ptr) : binK P .eql t c (.d .nilp) (.d .nilp) K = K (.d (.bool true)) := by simp [binK, binAV, equalAV, h]
@[go_sem] theorem binK_p2 {x o} (h : eqShape P t = .ptr) : binK P .eql t c (.d (.fptr x o)) (.d .nilp) K = K (.d (.bool false)) := by simp [binK, binAV, equalAV, h]
@[go_sem] theorem binK_p3 {x i o} (h : eqShape P t = .ptr) : binK P .eql t c (.ptr x i o) (.d .nilp) K = K (.d (.bool false)) := by simp [binK, binAV, equalAV, h]
@[go_sem] theorem binK_p4 (h : eqShape P t = .ptr) : binK P .neq t c (.d .nilp) (.d .nilp) K = K (.d (.bool false)) := by simp [binK, binAV, equalAV, h]
@[go_sem] theorem binK_p5 {x o} (h : eqShape P t = .ptr) : binK P .neq t c (.d (.fptr x o)) (.d .nilp) K = K (.d (.bool true)) := by simp [binK, binAV, equalAV, h]
@[go_sem] theorem binK_p6 {x i o} (h : eqShape P t = .ptr) : binK P .neq t c (.ptr x i o) (.d .nilp) K = K (.d (.bool true)) := by simp [binK, binAV, equalAV, h]
@[go_sem] theorem binK_s1 (h : eqShape P t = .slice) : binK P .eql t c (.d .snil) (.d .snil) K = K (.d (.bool true)) := by simp [binK, binAV, equalAV, h]
@[go_sem] theorem binK_s2 (h : eqShape P t = .slice) : binK P .neq t c (.d .snil) (.d .snil) K = K (.d (.bool false)) := by simp [binK, binAV, equalAV, h]
@[go_sem] theorem binK_s3 {i o l u} (h : eqShape P t = .slice) : binK P .eql t c (.sl i o l u) (.d .snil) K = K (.d (.bool false)) := by simp [binK, binAV, equalAV, h]
@[go_sem] theorem binK_s4 {i o l u} (h : eqShape P t = .slice) : binK P .neq t c (.sl i o l u) (.d .snil) K = K (.d (.bool true)) := by simp [binK, binAV, equalAV, h]
@[go_sem] theorem binK_s5 {x r n u} (h : eqShape P t = .slice) : binK P .eql t c (.d (.fsl (x :: r) n u)) (.d .snil) K = K (.d (.bool false)) := by simp [binK, binAV, equalAV, h]
@[go_sem] theorem binK_s6 {x r n u} (h : eqShape P t = .slice) : binK P .neq t c (.d (.fsl (x :: r) n u)) (.d .snil) K = K (.d (.bool true)) := by simp [binK, binAV, equalAV, h]
@[go_sem] theorem binK_s7 {es u} (h : eqShape P t = .slice) : binK P .eql t c (.d (.fsl es true u)) (.d .snil) K = K (.d (.bool false)) := by simp [binK, binAV, equalAV, h]
@[go_sem] theorem binK_s8 {es u} (h : eqShape P t = .slice) : binK P .neq t c (.d (.fsl es true u)) (.d .snil) K = K (.d (.bool true)) := by simp [binK, binAV, equalAV, h]
@[go_sem] theorem binK_s9 {u} (h : eqShape P t = .slice) : binK P .eql t c (.d (.fsl [] false u)) (.d .snil) K = (K (.d (.bool true)) ∧ K (.d (.bool false))) := by simp [binK, binAV, equalAV, h]
@[go_sem] theorem binK_s10 {u} (h : eqShape P t = .slice) : binK P .neq t c (.d (.fsl [] false u)) (.d .snil) K = (K (.d (.bool true)) ∧ K (.d (.bool false))) := by simp [binK, binAV, equalAV, h]
@[go_sem] theorem binK_i1 (h : eqShape P t = .ifc) : binK P .eql t true (.d .inil) (.d .inil) K = K (.d (.bool true)) := by simp [binK, binAV, equalAV, h]
@[go_sem] theorem binK_i2 (h : eqShape P t = .ifc) : binK P .neq t true (.d .inil) (.d .inil) K = K (.d (.bool false)) := by simp [binK, binAV, equalAV, h]
@[go_sem] theorem binK_i3 {u v} (h : eqShape P t = .ifc) : binK P .eql t c (.ifc u v) (.d .inil) K = K (.d (.bool false)) := by simp [binK, binAV, equalAV, h]
@[go_sem] theorem binK_i4 {u v} (h : eqShape P t = .ifc) : binK P .neq t c (.ifc u v) (.d .inil) K = K (.d (.bool true)) := by simp [binK, binAV, equalAV, h]
@[go_sem] theorem binK_f1 (h : eqShape P t = .fn) : binK P .eql t c (.d .fnil) (.d .fnil) K = K (.d (.bool true)) := by simp [binK, binAV, equalAV, h]
@[go_sem] theorem binK_f2 {u v w} (h : eqShape P t = .fn) : binK P .eql t c (.fn u v w) (.d .fnil) K = K (.d (.bool false)) := by simp [binK, binAV, equalAV, h]
@[go_sem] theorem binK_f3 {u v w} (h : eqShape P t = .fn) : binK P .neq t c (.fn u v w) (.d .fnil) K = K (.d (.bool true)) := by simp [binK, binAV, equalAV, h]
@[go_sem] theorem binK_m1 (h : eqShape P t = .map) : binK P .eql t c (.d .mnil) (.d .mnil) K = K (.d (.bool true)) := by simp [binK, binAV, equalAV, h]
@[go_sem] theorem binK_m2 {i} (h : eqShape P t = .map) : binK P .eql t c (.map i) (.d .mnil) K = K (.d (.bool false)) := by simp [binK, binAV, equalAV, h]
@[go_sem] theorem dvs_nil : dvs? [] = some [] := rfl
@[go_sem] theorem dvs_map_d {l : List DV} : dvs? (l.map .d) = some l := by
  induction l with
  | nil => rfl
  | cons x r ih => simp [dvs?, ih]
@[go_sem] theorem dvs_cons {v : DV} {r : List AV} : dvs? (.d v :: r) = (match dvs? r with | some l => some (v :: l) | none => none) := rfl
@[go_sem] theorem binK_agg {ks xs ys} (h : eqShape P t = .agg ks) : binK P .eql t c (.agg xs) (.agg ys) K = (match dvs? xs, dvs? ys with | some a, some b => (match eqKs ks a b with | some r => K (.d (.bool r)) | none => False) | _, _ => False) := by
  unfold binK
  simp only [binAV, equalAV, h]
  cases dvs? xs with
  | none => simp
  | some a => cases dvs? ys with
    | none => simp
    | some b => simp only; cases eqKs ks a b <;> simp
@[go_sem] theorem binK_agn {ks xs ys} (h : eqShape P t = .agg ks) : binK P .neq t c (.agg xs) (.agg ys) K = (match dvs? xs, dvs? ys with | some a, some b => (match eqKs ks a b with | some r => K (.d (.bool !r)) | none => False) | _, _ => False) := by
  unfold binK
  simp only [binAV, equalAV, h]
  cases dvs? xs with
  | none => simp
  | some a => cases dvs? ys with
    | none => simp
    | some b => simp only; cases eqKs ks a b <;> simp
theorem ba_beq {a b : ByteArray} : (a == b) = decide (a = b) := by
  obtain ⟨⟨x⟩⟩ := a
  obtain ⟨⟨y⟩⟩ := b
  show ((⟨x⟩ : Array UInt8) == ⟨y⟩) = _
  by_cases h : x = y <;> simp [h]
@[go_sem] theorem eqKs_nil : eqKs [] [] [] = some true := rfl
@[go_sem] theorem eqKs_b {ks a b x y} : eqKs (.b :: ks) (.bool a :: x) (.bool b :: y) = (eqKs ks x y).map fun r => decide (a = b) && r := by
  have : (a == b) = decide (a = b) := by by_cases h : a = b <;> simp [h]
  rw [← this]; rfl
@[go_sem] theorem eqKs_i {ks k a b x y} : eqKs (.i :: ks) (.int k a :: x) (.int k b :: y) = (eqKs ks x y).map fun r => decide (a = b) && r := by
  have : (a == b) = decide (a = b) := by by_cases h : a = b <;> simp [h]
  rw [← this]; simp [eqKs]
@[go_sem] theorem eqKs_s {ks a b x y} : eqKs (.s :: ks) (.str a :: x) (.str b :: y) = (eqKs ks x y).map fun r => decide (a = b) && r := by
  rw [← ba_beq]; rfl
end nils
end bin
attribute [go_sem] AV.cellsOf List.isEmpty_cons List.isEmpty_nil List.length_cons List.length_nil List.nil_append List.cons_append Option.map_some Option.map_none Option.bind_some Option.bind_none
  dvs? dvss? Cont.ofRows Cont.obj Cont.length Cont.app Cont.take Cont.drop Cont.avs Cont.row Cont.setCells AO.cont? AO.live? absV absZ splice unAV undef polOf
  List.toList_toArray List.getElem?_cons_zero List.getElem?_cons_succ List.getElem?_nil List.set_cons_zero List.set_cons_succ List.getElem?_toArray
  and_true true_and and_false false_and and_self ne_eq not_false_eq_true not_true_eq_false
@[go_sem] theorem okCells_agg {sz cs} : okCells true sz (.agg cs) = (cs.length == sz) := by simp [okCells]
@[go_sem] theorem okCells_d {v} : okCells false 1 (.d v) = true := rfl
@[go_sem] theorem okCells_sl {a b c d} : okCells false 1 (.sl a b c d) = true := rfl
@[go_sem] theorem okCells_ptr {a b c} : okCells false 1 (.ptr a b c) = true := rfl
@[go_sem] theorem okCells_map {a} : okCells false 1 (.map a) = true := rfl
@[go_sem] theorem okCells_fn {a b c} : okCells false 1 (.fn a b c) = true := rfl
@[go_sem] theorem lenK_some {h t x K} : lenK P h (some t) x K = match (lenOf P t x).run h with | some n => K n | none => False := rfl
section len
variable {h : Heap} {t : TypeId} {K : Int → Prop}
theorem lenK_fsl {es nn full} (hs : shapeOf P t = .slice) : lenK P h (some t) (.d (.fsl es nn full)) K = K es.length := by simp [lenK, lenOf, hs, AM.run]
theorem lenK_snil (hs : shapeOf P t = .slice) : lenK P h (some t) (.d .snil) K = K 0 := by simp [lenK, lenOf, hs, AM.run]
theorem lenK_sl {i o n f} (hs : shapeOf P t = .slice) : lenK P h (some t) (.sl i o n f) K = K n := by simp [lenK, lenOf, hs, AM.run]
theorem lenK_str {s} (hs : shapeOf P t = .str) : lenK P h (some t) (.d (.str s)) K = K s.size := by simp [lenK, lenOf, hs, AM.run]
end len
attribute [go_sem] lenOf List.headD_cons List.tail_cons List.getD_cons_zero List.getD_cons_succ
/- results -/
attribute [go_sem] endK resultOf resultAll resultOne
/- calls -/
def nrm (n : Bool) (v : DV) : DV := if n then v else v.norm
@[go_sem] theorem nrm_false {v} : nrm false v = v.norm := rfl
@[go_sem] theorem nrm_true {v} : nrm true v = v := rfl
attribute [go_sem] DV.norm
section pass
variable {n p : Bool} {h : Heap} {v : DV} {r : List AV} {c : AV}
@[go_sem] theorem pass1s_nil : (passM.pass1s n p []).run h = some ([], []) := rfl
@[go_sem] theorem pass1s_cons : (passM.pass1s n p (c :: r)).run h = ((passM.pass1 n p c).run h).bind fun x => ((passM.pass1s n p r).run h).map fun y => (x.1 :: y.1, x.2 ++ y.2) := by
  simp only [passM.pass1s, run_bind']
  cases (passM.pass1 n p c).run h with
  | none => rfl
  | some x => obtain ⟨x, w⟩ := x; simp only [Option.bind_some]; cases (passM.pass1s n p r).run h <;> rfl
@[go_sem] theorem pass1_d : (passM.pass1 n p (.d v)).run h = some (.d (nrm n v), []) := rfl
@[go_sem] theorem pass1_ptr {a b c} : (passM.pass1 n false (.ptr a b c)).run h = some (.ptr a b c, []) := rfl
@[go_sem] theorem pass1_map {a} : (passM.pass1 n p (.map a)).run h = some (.map a, []) := rfl
@[go_sem] theorem pass1_fn {a b c} : (passM.pass1 n p (.fn a b c)).run h = some (.fn a b c, []) := rfl
@[go_sem] theorem pass2s_nil : (passM.pass2s n p []).run h = some ([], []) := rfl
@[go_sem] theorem pass2s_cons : (passM.pass2s n p (c :: r)).run h = ((passM.pass2 n p c).run h).bind fun x => ((passM.pass2s n p r).run h).map fun y => (x.1 :: y.1, x.2 ++ y.2) := by
  simp only [passM.pass2s, run_bind']
  cases (passM.pass2 n p c).run h with
  | none => rfl
  | some x => obtain ⟨x, w⟩ := x; simp only [Option.bind_some]; cases (passM.pass2s n p r).run h <;> rfl
@[go_sem] theorem pass2_d : (passM.pass2 n p (.d v)).run h = some (.d (nrm n v), []) := rfl
@[go_sem] theorem pass2_ptr {a b c} : (passM.pass2 n false (.ptr a b c)).run h = some (.ptr a b c, []) := rfl
@[go_sem] theorem pass2_agg {cs} : (passM.pass2 n p (.agg cs)).run h = ((passM.pass1s n p cs).run h).map fun x => (.agg x.1, x.2) := by
  simp only [passM.pass2, run_bind']; cases (passM.pass1s n p cs).run h <;> rfl
@[go_sem] theorem passM_d : (passM n p (.d v)).run h = some (.d (nrm n v), []) := rfl
@[go_sem] theorem passM_ptr {a b c} : (passM n false (.ptr a b c)).run h = some (.ptr a b c, []) := rfl
@[go_sem] theorem passM_map {a} : (passM n p (.map a)).run h = some (.map a, []) := rfl
@[go_sem] theorem passM_fn {a b c} : (passM n p (.fn a b c)).run h = some (.fn a b c, []) := rfl
@[go_sem] theorem passM_agg {cs} : (passM n p (.agg cs)).run h = ((passM.pass1s n p cs).run h).map fun x => (.agg x.1, x.2) := by
  simp only [passM, run_bind']; cases (passM.pass1s n p cs).run h <;> rfl
@[go_sem] theorem passM_tup {cs} : (passM n p (.tup cs)).run h = ((passM.pass2s n p cs).run h).map fun x => (.tup x.1, x.2) := by
  simp only [passM, run_bind']; cases (passM.pass2s n p cs).run h <;> rfl
@[go_sem] theorem passAll_nil : (passAll n p []).run h = some ([], []) := rfl
@[go_sem] theorem passAll_cons : (passAll n p (c :: r)).run h = ((passM n p c).run h).bind fun x => ((passAll n p r).run h).map fun y => (x.1 :: y.1, x.2 ++ y.2) := by
  simp only [passAll, run_bind']
  cases (passM n p c).run h with
  | none => rfl
  | some x => obtain ⟨x, w⟩ := x; simp only [Option.bind_some]; cases (passAll n p r).run h <;> rfl
end pass
/-- a slice goes over a border -/
def flagged (n : Bool) (full : Bool) (v : DV) : DV := match n, v with | true, .fsl es _ _ => .fsl es true full | _, v => v
@[go_sem] theorem flagged_false {full v} : flagged false full v = v := by cases v <;> rfl
@[go_sem] theorem flagged_true {full es a b} : flagged true full (.fsl es a b) = .fsl es true full := rfl
@[go_sem] theorem passM_sl {n p h id off len full} : (passM n p (.sl id off len full)).run h = ((treeM depth p (.sl id off len full)).run h).map fun x => (.d (flagged n full x.1), x.2) := by
  simp only [passM, run_bind']; cases (treeM depth p (.sl id off len full)).run h with
  | none => rfl
  | some x => obtain ⟨v, w⟩ := x; cases n <;> cases v <;> rfl
@[go_sem] theorem pass1_sl {n p h id off len full} : (passM.pass1 n p (.sl id off len full)).run h = ((treeM depth p (.sl id off len full)).run h).map fun x => (.d (flagged n full x.1), x.2) := by
  simp only [passM.pass1, run_bind']; cases (treeM depth p (.sl id off len full)).run h with
  | none => rfl
  | some x => obtain ⟨v, w⟩ := x; cases n <;> cases v <;> rfl
/-- frozen rows, as a slice -/
def asSl (id off len : Nat) (k : Nat) (x : Option (List (List DV) × List (Nat × Option AO))) : Option (DV × List (Nat × Option AO)) := match x with
  | some (es, w) => if off + len ≤ es.length then some (.fsl ((es.drop off).take len) false false, (id, some (.frz k es)) :: w) else none
  | none => none
@[go_sem] theorem asSl_some {id off len k es w} : asSl id off len k (some (es, w)) = if off + len ≤ es.length then some (.fsl ((es.drop off).take len) false false, (id, some (.frz k es)) :: w) else none := rfl
def treeRows (p : Bool) (n : Nat) (h : Heap) : AO → Option (Nat × Option (List (List DV) × List (Nat × Option AO)))
  | .flat k es => some (k, some (es.map (·.map DV.norm), []))
  | .frz k es => some (k, some (es, []))
  | .cells k es => some (k, (treeM.rows (treeM n p) es).run h)
  | _ => none
@[go_sem] theorem treeRows_flat {p n h k es} : treeRows p n h (.flat k es) = some (k, some (es.map (·.map DV.norm), [])) := rfl
@[go_sem] theorem treeRows_frz {p n h k es} : treeRows p n h (.frz k es) = some (k, some (es, [])) := rfl
@[go_sem] theorem treeRows_cells {p n h k es} : treeRows p n h (.cells k es) = some (k, (treeM.rows (treeM n p) es).run h) := rfl
@[go_sem] theorem treeM_sl {p n h id off len full} : (treeM (n + 1) p (.sl id off len full)).run h = match h[id]? with
    | some (some o) => (treeRows p n h o).bind fun x => asSl id off len x.1 x.2
    | _ => none := by
  simp only [treeM, AM.obj, AM.run]
  cases h[id]? with
  | none => rfl
  | some o => cases o with
    | none => rfl
    | some o =>
      simp only
      cases o with
      | flat k es =>
        simp only [treeRows, Option.bind_some, asSl]
        by_cases hc : off + len ≤ (es.map (·.map DV.norm)).length
        · rw [if_pos hc, if_pos hc]; rfl
        · rw [if_neg hc, if_neg hc]; rfl
      | frz k es =>
        simp only [treeRows, Option.bind_some, asSl]
        by_cases hc : off + len ≤ es.length
        · rw [if_pos hc, if_pos hc]; rfl
        · rw [if_neg hc, if_neg hc]; rfl
      | cells k es =>
        simp only [treeRows, Option.bind_some, run_bind']
        cases (treeM.rows (treeM n p) es).run h with
        | none => rfl
        | some x =>
          obtain ⟨es', w⟩ := x
          simp only [Option.bind_some, asSl]
          by_cases hc : off + len ≤ es'.length
          · rw [if_pos hc, if_pos hc]; rfl
          · rw [if_neg hc, if_neg hc]; rfl
      | _ => rfl
@[go_sem] theorem treeM_d {p n h v} : (treeM (n + 1) p (.d v)).run h = some (v.norm, []) := rfl
attribute [go_sem] depth
@[go_sem] theorem rows_nil {f h} : (treeM.rows f []).run h = some ([], []) := rfl
@[go_sem] theorem rows_cons {f h c r} : (treeM.rows f (c :: r)).run h = ((treeM.row f c).run h).bind fun x => ((treeM.rows f r).run h).map fun y => (x.1 :: y.1, x.2 ++ y.2) := by
  simp only [treeM.rows, run_bind']
  cases (treeM.row f c).run h with
  | none => rfl
  | some x => obtain ⟨x, w⟩ := x; simp only [Option.bind_some]; cases (treeM.rows f r).run h <;> rfl
@[go_sem] theorem row_nil {f h} : (treeM.row f []).run h = some ([], []) := rfl
@[go_sem] theorem row_cons {f h c r} : (treeM.row f (c :: r)).run h = ((f c).run h).bind fun x => ((treeM.row f r).run h).map fun y => (x.1 :: y.1, x.2 ++ y.2) := by
  simp only [treeM.row, run_bind']
  cases (f c).run h with
  | none => rfl
  | some x => obtain ⟨x, w⟩ := x; simp only [Option.bind_some]; cases (treeM.row f r).run h <;> rfl
attribute [go_sem] AV.ids AV.idsL AV.ren AV.renL AO.ids AO.ren List.append_nil
@[go_sem] theorem reach_nil {stop k done h} : (reachM stop k [] done).run h = some done := by cases k <;> rfl
theorem reach_cons {stop k i todo done h} : (reachM stop (k + 1) (i :: todo) done).run h = if done.any (·.1 == i) then (reachM stop k todo done).run h else
    match h[i]? with | some o => (reachM stop k (todo ++ idsOf stop i o) (done ++ [(i, o)])).run h | none => none := by
  simp only [reachM]
  by_cases hd : (done.any (·.1 == i)) = true
  · rw [if_pos hd, if_pos hd]
  · rw [if_neg hd, if_neg hd]; simp only [AM.run] <;> (cases h[i]? <;> rfl)
attribute [go_sem] reach_cons fuel List.any_nil List.any_cons idsOf
theorem passCall_run {m args h} : (passCall m args).run h = (if m.own then some (args, []) else (passAll m.nils m.ptrs args).run h).bind fun x =>
    ((reachM (fun i => (look x.2 i).isSome) fuel (AV.idsL x.1) []).run h).map fun objs =>
      ⟨AV.renL (place (objs.map (·.1))) x.1, (objs.map fun (i, o) => (i, (look x.2 i).getD o)).map fun (_, o) => o.map (AO.ren (place (objs.map (·.1)))), objs.map (·.1), x.2⟩ := by
  simp only [passCall]
  by_cases ho : m.own
  · rw [if_pos ho, if_pos ho]; simp only [run_bind', run_ret, Option.bind_some]
    cases (reachM _ fuel (AV.idsL args) []).run h <;> rfl
  · rw [if_neg ho, if_neg ho]; simp only [run_bind', run_ret]
    cases (passAll m.nils m.ptrs args).run h with
    | none => rfl
    | some x => obtain ⟨as, w⟩ := x; simp only [Option.bind_some]; cases (reachM _ fuel (AV.idsL as) []).run h <;> rfl
theorem retCall_run {m k v h} : (retCall m k v).run h = (if m.ownRes then some (v, []) else if m.own1 then (thawS m.ptrs v).run h else (passM m.nils m.ptrs v).run h).bind fun x =>
    ((reachM (fun i => (look x.2 i).isSome) fuel (List.range k ++ x.1.ids) []).run h).map fun objs =>
      (x.1.ren (place (objs.map (·.1))), (objs.map fun (i, o) => (i, (look x.2 i).getD o)).map fun (_, o) => o.map (AO.ren (place (objs.map (·.1))))) := by
  simp only [retCall]
  by_cases ho : m.ownRes
  · rw [if_pos ho, if_pos ho]; simp only [run_bind', run_ret, Option.bind_some]
    cases (reachM _ fuel (List.range k ++ v.ids) []).run h <;> rfl
  · rw [if_neg ho, if_neg ho]
    by_cases h1 : m.own1
    · rw [if_pos h1, if_pos h1]; simp only [run_bind', run_ret]
      cases (thawS m.ptrs v).run h with
      | none => rfl
      | some x => obtain ⟨as, w⟩ := x; simp only [Option.bind_some]; cases (reachM _ fuel (List.range k ++ as.ids) []).run h <;> rfl
    · rw [if_neg h1, if_neg h1]; simp only [run_bind', run_ret]
      cases (passM m.nils m.ptrs v).run h with
      | none => rfl
      | some x => obtain ⟨as, w⟩ := x; simp only [Option.bind_some]; cases (reachM _ fuel (List.range k ++ as.ids) []).run h <;> rfl
theorem thawS_run {ptrs v h} : (thawS ptrs v).run h = ((thaw ptrs v).run h).bind fun q => if thawOk q.2 then some q else none := by
  show ((thaw ptrs v) >>= fun q => if thawOk q.2 then AM.ret q else AM.fail).run h = _
  rw [run_bind']
  congr 1; funext q; split <;> rfl
attribute [go_sem] passCall_run retCall_run thawS_run
@[go_sem] theorem look_nil {i} : look [] i = none := rfl
@[go_sem] theorem look_cons {i j o r} : look ((j, o) :: r) i = if i = j then some o else look r i := by
  unfold look
  by_cases hij : i = j
  · subst hij; simp [List.lookup]
  · have : (i == j) = false := by simpa using hij
    simp [List.lookup, this, hij]
attribute [go_sem] Option.getD_none Option.getD_some
theorem place_nil {i} : place [] i = 0 := rfl
@[go_sem] theorem place_cons {i j r} : place (j :: r) i = if j = i then 0 else place r i + 1 := by
  unfold place
  by_cases hij : j = i
  · subst hij; simp
  · have : (j == i) = false := by simpa using hij
    simp [List.idxOf_cons, this, hij]
@[go_sem] theorem tailOf_fn {t r} : tailOf (.fn t [] [] :: r) = some (t, r) := rfl
theorem passK_eq {p : Pass} {K} : passK (some p) K = match tailOf p.args with | some (t, as) => K p t as | none => False := rfl
attribute [go_sem] callK passK_eq
@[go_sem] theorem fin_v {p base v h} : (finCall p base v h).v = v.ren (back p.L base) := rfl
@[go_sem] theorem resFree_sl {a b c d h} : resFree (.sl a b c d) h = h.all plainO := rfl
@[go_sem] theorem resFree_d {v h} : resFree (.d v) h = false := rfl
@[go_sem] theorem resFree_agg {v h} : resFree (.agg v) h = false := rfl
@[go_sem] theorem resFree_tup {v h} : resFree (.tup v) h = false := rfl
@[go_sem] theorem resFree_ptr {a b c h} : resFree (.ptr a b c) h = false := rfl
@[go_sem] theorem resFree_map {a h} : resFree (.map a) h = false := rfl
@[go_sem] theorem resFree_fn {a b c h} : resFree (.fn a b c) h = false := rfl
@[go_sem] theorem resFree_ifc {a b h} : resFree (.ifc a b) h = false := rfl
@[go_sem] theorem plainO_flat {k es} : plainO (some (.flat k es)) = es.all fun e => e.all DV.scalar := rfl
@[go_sem] theorem plainO_none : plainO none = true := rfl
@[go_sem] theorem fin_wr {p base v h} : (finCall p base v h).wr = (if p.L.isEmpty && (v.scalar || resFree v h) then [] else p.frz) ++ h.zipIdx.map fun (o, i) => (back p.L base i, o.map (AO.ren (back p.L base))) := rfl
@[go_sem] theorem back_nil {base i} : back [] base i = base + i := by simp [back]
@[go_sem] theorem put_nil {h} : put h [] = h := rfl
@[go_sem] theorem put_cons {h i o r} : put h ((i, o) :: r) = put (if i < h.length then h.set i o else h ++ [o]) r := rfl
attribute [go_sem] List.zipIdx_nil List.zipIdx_cons AV.scalar DV.scalar
/- parting -/
section part
variable {K1 K2 : Prop} {p : Prop} [Decidable p] {b : Bool} {f : FuncId} {x y : Code} {e : Env} {h : Heap} {Q : Out → Env → Heap → Prop}
theorem gK_pt (h1 : p → K1) (h2 : ¬p → K2) : gK (.d (.bool (decide p))) true K1 K2 := by rw [gK_dt]; split <;> simp_all
theorem gK_pf (h1 : p → K2) (h2 : ¬p → K1) : gK (.d (.bool (decide p))) false K1 K2 := by rw [gK_df]; split <;> simp_all
theorem gK_tb (h1 : b = true → K1) (h2 : b = false → K2) : gK (.d (.bool b)) true K1 K2 := by cases b <;> simp_all [gK]
theorem gK_fb (h1 : b = true → K2) (h2 : b = false → K1) : gK (.d (.bool b)) false K1 K2 := by cases b <;> simp_all [gK]
theorem condK_p (h1 : p → Ex P C f x e h Q) (h2 : ¬p → Ex P C f y e h Q) : condK P C f (some (.d (.bool (decide p)))) x y e h Q := by rw [condK_dec]; split <;> simp_all
theorem condK_b (h1 : b = true → Ex P C f x e h Q) (h2 : b = false → Ex P C f y e h Q) : condK P C f (some (.d (.bool b))) x y e h Q := by cases b <;> simp_all [condK]
@[go_sem] theorem condK_not : condK P C f (some (.d (.bool (!b)))) x y e h Q = condK P C f (some (.d (.bool b))) y x e h Q := by cases b <;> rfl
@[go_sem] theorem gK_nt : gK (.d (.bool (!b))) true K1 K2 = gK (.d (.bool b)) false K1 K2 := by cases b <;> simp [gK]
@[go_sem] theorem gK_nf : gK (.d (.bool (!b))) false K1 K2 = gK (.d (.bool b)) true K1 K2 := by cases b <;> simp [gK]
end part
end Go.Ab
