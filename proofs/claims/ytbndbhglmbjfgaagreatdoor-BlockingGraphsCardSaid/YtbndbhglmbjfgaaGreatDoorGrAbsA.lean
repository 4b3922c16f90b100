/- An interpreter of the model's code over abstract values, and what it says of the single operations. -/
import GoSem.Dispatch
import Derived.CallsIn
import Derived.Below
import Derived.RangeFuncLeaves
import Derived.OrdersIn
import Derived.Laws.Sem
import Derived.IntWalk
set_option linter.all false
namespace Go.Abs

/-- Abstract values. -/
inductive AV where
  | any
  | sc (v : Value)
  | agg (cs : List AV)
  | tup (vs : List AV)
  | isl (cs : List AV) (len cap : Nat) (ex : Bool)
  | iptr (cs : List AV)
  | osl (b gen off k len cap : Nat) (ex : Bool)
  | optr (b gen off : Nat)
  | fn (f : Fn) (first captured : List AV)
  | mp (b : Nat)
  | it (b : Nat)
  | ifc (t : TypeId) (v : AV)
  | gp (g off : Nat)
  deriving Inhabited

/-- The variables that the run reads: their blocks, and what lies there. -/
def globs : List (Nat × List Value) := [(2, ([0, 1, 56, 2, 57, 49, 28, 3, 61, 58, 42, 50, 38, 29, 17, 4, 62, 47, 59, 36, 45, 43, 51, 22, 53, 39, 33, 30, 24, 18, 12, 5, 63, 55, 48, 27, 60, 41, 37, 16, 46, 35, 44, 21, 52, 32, 23, 11, 54, 26, 40, 15, 34, 20, 31, 10, 25, 14, 19, 9, 13, 8, 7, 6] : List Int).map fun n => .int .u8 n)]

inductive AObj where
  | dead
  | cells (cs : List AV) (gen : Nat)
  | map (es : List (Value × AV))
  | siter (s : ByteArray) (pos : Nat)
  | raw (o : Obj)
  | loop (st : LoopState) (pending : Option Code) (ts : List AV) (params : List Tmp) (assign body : Code)
  deriving Inhabited

/-- The objects that the run has made; those that are frozen. -/
structure AHeap where
  objs : List AObj
  frz : List Nat
  deriving Inhabited

def AHeap.empty : AHeap := ⟨[], []⟩

abbrev R (α : Type) := Except String α
def fail {α : Type} (s : String) : R α := .error s

def AV.cells : AV → List AV
  | .agg cs => cs
  | v => [v]

def AV.undef : AV := .tup []

def isScalar : Value → Bool
  | .bool _ | .int _ _ | .float _ _ | .string _ | .pointer none | .slice none _ _ | .map none | .nilFunc | .nilIface => true
  | _ => false

def ofCell (v : Value) : AV := if isScalar v then .sc v else .any

def ofV : Value → AV
  | .agg cs => .agg (cs.toList.map ofCell)
  | .func (.func f) first captured => if first.size = 0 ∧ captured.size = 0 then .fn (.func f) [] [] else .any
  | v => ofCell v

/-- A run of the model's monad that asks neither memory nor the tape. -/
def semPure {α : Type} (P : Program) : Sem α → Option α
  | .pure a => some a
  | .program k => semPure P (k P)
  | _ => none

def ofOpt {α : Type} (s : String) : Option α → R α
  | some a => .ok a
  | none => .error s

section
variable (P : Program)

def tinfo (t : TypeId) : R TypeInfo := ofOpt "type" (P.info? t)
def tsize (t : TypeId) : R Nat := do pure (← tinfo P t).size
def tund (t : TypeId) : R TypeDesc := ofOpt "underlying" (P.underlying t)
def tagg (t : TypeId) : R Bool := do
  match ← tund P t with
  | .struct _ | .array _ _ => pure true
  | _ => pure false
def tzero (t : TypeId) : R AV := do pure (ofV (← ofOpt "zero" (← tinfo P t).zero))

def evalOp (ts : List AV) : Operand → AV
  | .tmp t => ts.getD t AV.undef
  | .const v => ofV v
  | .global g => .gp g 0
  | .func f => .fn (.func f) [] []

/-- Objects. -/
def hcells (H : AHeap) (b gen : Nat) : R (List AV) :=
  match H.objs[b]? with
  | some (.cells cs g) => if g = gen then .ok cs else fail "stale"
  | _ => fail "no cells"

def getRange (cs : List AV) (off n : Nat) : R (List AV) :=
  if ((cs.drop off).take n).length = n then .ok ((cs.drop off).take n) else fail "range"

def putRange (cs : List AV) (off : Nat) (new : List AV) : List AV :=
  cs.take off ++ new ++ cs.drop (off + new.length)

def oneCell : AV → Bool
  | .agg _ | .tup _ | .any => false
  | _ => true

/-- What an operation reads, sets and freezes. -/
structure Eff where
  rd : List Nat := []
  set : Option (Nat × AObj) := none
  frz : List Nat := []

def Eff.none : Eff := {}

def addFrz : List Nat → List Nat → List Nat
  | F, [] => F
  | F, b :: bs => addFrz (if F.contains b then F else b :: F) bs

def setObj (l : List AObj) (b : Nat) (o : AObj) : List AObj :=
  if b < l.length then l.set b o else l ++ [o]

def AHeap.apply (H : AHeap) (e : Eff) : AHeap :=
  { objs := match e.set with
      | some (b, o) => setObj H.objs b o
      | Option.none => H.objs
    frz := addFrz H.frz e.frz }

/-- What is told of a variable. -/
def globOf (g : Nat) : List (Nat × List Value) → List Value
  | [] => []
  | (b, cs) :: r => if Nat.beq b g then cs else globOf g r

/-- Read n cells behind a pointer; and which object was read. -/
def readAt (H : AHeap) (p : AV) (n : Nat) : R (List AV × List Nat) :=
  match p with
  | .iptr cs => do pure (← getRange cs 0 n, [])
  | .optr b g off => do
    let cs ← hcells H b g
    pure (← getRange cs off n, [b])
  | .gp g off => do pure (← getRange ((globOf g globs).map ofCell) off n, [])
  | _ => fail "load: no address"

def loadA (H : AHeap) (t : TypeId) (p : AV) : R (AV × List Nat) := do
  if ← tagg P t then
    let (cs, rd) ← readAt H p (← tsize P t)
    pure (.agg cs, rd)
  else match ← readAt H p 1 with
    | ([v], rd) => pure (v, rd)
    | _ => fail "load"

def writeAt (H : AHeap) (b g off : Nat) (new : List AV) : R Eff := do
  let cs ← hcells H b g
  if H.frz.contains b then fail "write: frozen"
  else if off + new.length ≤ cs.length then pure { rd := [b], set := some (b, .cells (putRange cs off new) g) }
  else fail "write: range"

def storeA (H : AHeap) (t : TypeId) (p v : AV) : R Eff := do
  let n ← tsize P t
  if v.cells.length = n && v.cells.all oneCell then
    match p with
    | .optr b g off => writeAt H b g off v.cells
    | _ => fail "store: no address"
  else fail "store: size"

/-- A new object: at the end, or in a slot that was kept free. -/
def newA (H : AHeap) (slot : Option Nat) (o : AObj) : R (Nat × Eff) :=
  match slot with
  | Option.none => .ok (H.objs.length, { set := some (H.objs.length, o) })
  | some s => match H.objs[s]? with
    | some .dead => .ok (s, { rd := [s], set := some (s, o) })
    | _ => fail "slot"

/-- Deep conversion to an immutable value, and the objects that are read: they are to be frozen. -/
def mapS (f : AV → R (AV × List Nat)) : List AV → R (List AV × List Nat)
  | [] => .ok ([], [])
  | v :: vs => do
    let (v', b) ← f v
    let (vs', bs) ← mapS f vs
    pure (v' :: vs', b ++ bs)

def imm (H : AHeap) : Nat → AV → R (AV × List Nat)
  | 0, _ => fail "imm: fuel"
  | n + 1, v =>
    match v with
    | .any => .ok (.any, [])
    | .sc v => .ok (.sc v, [])
    | .isl cs l c ex => .ok (.isl cs l c ex, [])
    | .iptr cs => .ok (.iptr cs, [])
    | .agg cs => do
      let (cs', bs) ← mapS (imm H n) cs
      pure (.agg cs', bs)
    | .tup cs => do
      let (cs', bs) ← mapS (imm H n) cs
      pure (.tup cs', bs)
    | .fn (.func f) a c => do
      let (a', bs) ← mapS (imm H n) a
      let (c', bs') ← mapS (imm H n) c
      pure (.fn (.func f) a' c', bs ++ bs')
    | .ifc t v => do
      let (v', bs) ← imm H n v
      pure (.ifc t v', bs)
    | .optr b g off => do
      let cs ← hcells H b g
      let (cs', bs) ← mapS (imm H n) (cs.drop off)
      pure (.iptr cs', b :: bs)
    | .osl b g off k l c ex => do
      let cs ← hcells H b g
      let r ← getRange cs off (l * k)
      let (cs', bs) ← mapS (imm H n) r
      pure (.isl cs' l c ex, b :: bs)
    | _ => fail "imm: reference"

def immFuel : Nat := 12

/-- The model's value of a scalar, or of an aggregate of scalars. -/
def toScalar : AV → Option Value
  | .sc v => if isScalar v then some v else none
  | _ => none

def toV : AV → Option Value
  | .agg cs => (cs.mapM toScalar).map fun l => .agg l.toArray
  | v => toScalar v

def scalarInt : AV → R Int
  | .sc (.int _ n) => .ok n
  | _ => fail "int expected"

/-- A reference beside nil, at a type of its kind. -/
def refNil : TypeDesc → AV → AV → Bool
  | .pointer _, .iptr _, .sc (.pointer none) | .pointer _, .optr _ _ _, .sc (.pointer none) => true
  | .slice _, .isl _ n c ex, .sc (.slice none _ _) => ex || !(Nat.beq n 0 && Nat.beq c 0)
  | .slice _, .osl _ _ _ _ _ _ _, .sc (.slice none _ _) => true
  | .map _ _, .mp _, .sc (.map none) => true
  | .func _ _ _, .fn _ _ _, .sc .nilFunc => true
  | _, _, _ => false

def binOpA (op : BinOp) (t : TypeId) (xo yo : Operand) (x y : AV) : R AV :=
  match toV x, toV y with
  | some a, some b => do pure (ofV (← ofOpt "binop" (semPure P (do eqGuard op t xo yo a b; binOp op t a b))))
  | _, _ => do
    let d ← tund P t
    if refNil d x y || refNil d y x then
      match op with
      | .eql => .ok (.sc (.bool false))
      | .neq => .ok (.sc (.bool true))
      | _ => fail "binop: references"
    else fail "binop: operands"

/-- Places of parts. -/
def fillA (place : Nat → Option (Nat × Nat)) (cells : List AV) : List (Nat × AV) → R (List AV)
  | [] => .ok cells
  | (i, v) :: rest =>
    match place i with
    | none => fail "fill"
    | some (off, size) =>
      if v.cells.length ≠ size ∨ off + v.cells.length > cells.length ∨ !(v.cells.all oneCell) then fail "fill: size"
      else fillA place (putRange cells off v.cells) rest

def fieldSizes (fs : List Field) : R (List (Nat × Nat)) :=
  fs.mapM fun f => do pure (f.offset, ← tsize P f.type)

def buildA (t : TypeId) (parts : List (Nat × AV)) : R AV := do
  let zero := (← tzero P t).cells
  match ← tund P t with
  | .struct fields =>
    let places ← fieldSizes P fields.toList
    pure (.agg (← fillA (fun i => places[i]?) zero parts))
  | .array _ elem =>
    let size ← tsize P elem
    pure (.agg (← fillA (fun i => some (i * size, size)) zero parts))
  | _ => fail "build"

def replicateCells (zero : List AV) : Nat → List AV
  | 0 => []
  | n + 1 => zero ++ replicateCells zero n

def zeroCellsA (elem : TypeId) (n : Nat) : R (List AV) := do
  let size ← tsize P elem
  if size = 0 then pure [] else do
    let z := (← tzero P elem).cells
    if z.length = size then pure (replicateCells z n) else fail "zero"

def buildSliceA (H : AHeap) (slot : Option Nat) (t : TypeId) (len : Nat) (parts : List (Nat × AV)) : R (AV × Eff) := do
  match ← tund P t with
  | .slice elem =>
    let size ← tsize P elem
    if len * size > 2 ^ 24 then fail "buildSlice: size" else do
    let cells ← fillA (fun i => some (i * size, size)) (← zeroCellsA P elem len) parts
    let (b, e) ← newA H slot (.cells cells 0)
    pure (.osl b 0 0 size len len true, e)
  | _ => fail "buildSlice"

def makeSliceA (H : AHeap) (slot : Option Nat) (t : TypeId) (len cap : AV) : R (AV × Eff) := do
  match ← tund P t with
  | .slice elem =>
    let l ← scalarInt len
    let c ← scalarInt cap
    let bytes := (← tinfo P elem).bytes
    if 0 ≤ l ∧ l ≤ c ∧ c < 2 ^ 40 ∧ c.toNat * bytes ≤ 2 ^ 40 then do
      let cells ← zeroCellsA P elem c.toNat
      let (b, e) ← newA H slot (.cells cells 0)
      pure (.osl b 0 0 (← tsize P elem) l.toNat c.toNat true, e)
    else fail "makeSlice: bounds"
  | _ => fail "makeSlice"

def optNat : Option AV → R (Option Nat)
  | none => .ok none
  | some v => do
    let n ← scalarInt v
    if 0 ≤ n then pure (some n.toNat) else fail "bound"

def sliceArr (H : AHeap) (n : Nat) (elem : TypeId) (b g off l : Nat) (hi mx : Option Nat) : R (AV × List Nat) := do
  let k ← tsize P elem
  let cs ← hcells H b g
  if l ≤ hi.getD n ∧ hi.getD n ≤ mx.getD n ∧ mx.getD n ≤ n ∧ off + n * k ≤ cs.length then
    pure (.osl b g (off + l * k) k (hi.getD n - l) (mx.getD n - l) true, [b])
  else fail "slice: bounds"

def sliceA (H : AHeap) (t : TypeId) (x : AV) (lo hi mx : Option AV) : R (AV × List Nat) := do
  let lo ← optNat lo
  let hi ← optNat hi
  let mx ← optNat mx
  let l := lo.getD 0
  if mx.isSome && hi.isNone then fail "slice: max without high" else do
  match ← tund P t, x with
  | .string, .sc (.string s) =>
    if mx.isNone ∧ l ≤ hi.getD s.size ∧ hi.getD s.size ≤ s.size then pure (.sc (.string (s.extract l (hi.getD s.size))), []) else fail "slice: bounds"
  | .slice elem, .sc (.slice none 0 0) =>
    if l = 0 ∧ hi.getD 0 = 0 ∧ mx.getD 0 = 0 then do
      let _ ← tsize P elem
      pure (.sc (.slice none 0 0), [])
    else fail "slice: nil"
  | .slice elem, .isl cs len cap ex =>
    let k ← tsize P elem
    if l ≤ hi.getD len ∧ hi.getD len ≤ len ∧ (mx.isSome → hi.getD len ≤ mx.getD 0 ∧ mx.getD 0 ≤ cap ∧ (ex = true ∨ 0 < cap)) then
      pure (.isl (← getRange cs (l * k) ((hi.getD len - l) * k)) (hi.getD len - l) (mx.getD cap - l) (mx.isSome || ex), [])
    else fail "slice: bounds"
  | .slice elem, .osl b g off k len cap ex =>
    if k ≠ (← tsize P elem) then fail "slice: element size" else
    if l ≤ hi.getD len ∧ (hi.getD len ≤ len ∨ hi.getD len ≤ cap) ∧ (mx.isSome → hi.getD len ≤ mx.getD 0 ∧ mx.getD 0 ≤ cap) then
      pure (.osl b g (off + l * k) k (hi.getD len - l) (mx.getD cap - l) (mx.isSome || ex), [])
    else fail "slice: bounds"
  | .pointer arr, .optr b g off =>
    match ← tund P arr with
    | .array n elem => sliceArr P H n elem b g off l hi mx
    | _ => fail "slice: pointer"
  | .array n elem, .optr b g off => sliceArr P H n elem b g off l hi mx
  | _, _ => fail "slice"

def fieldAddrA (t : TypeId) (x : AV) (f : Nat) : R AV := do
  match ← tund P t with
  | .struct fields =>
    match fields[f]? with
    | some fd =>
      if (← tsize P fd.type) = 0 then fail "fieldAddr: no size" else
      match x with
      | .optr b g off => pure (.optr b g (off + fd.offset))
      | .iptr cs => pure (.iptr (cs.drop fd.offset))
      | .gp g off => pure (.gp g (off + fd.offset))
      | _ => fail "fieldAddr: address"
    | none => fail "fieldAddr: field"
  | _ => fail "fieldAddr: struct"

def indexAddrA (t : TypeId) (x ix : AV) : R AV := do
  let i ← scalarInt ix
  match ← tund P t, x with
  | .slice elem, .isl cs len _ _ =>
    let k ← tsize P elem
    if 0 ≤ i ∧ i < len then pure (.iptr (cs.drop (i.toNat * k))) else fail "index: bounds"
  | .slice elem, .osl b g off k len _ _ =>
    if 0 ≤ i ∧ i < len then do
      if k ≠ (← tsize P elem) then fail "index: element size" else pure (.optr b g (off + i.toNat * k))
    else fail "index: bounds"
  | .array n elem, .optr b g off =>
    let k ← tsize P elem
    if 0 ≤ i ∧ i < n then pure (.optr b g (off + i.toNat * k)) else fail "index: bounds"
  | .array n elem, .iptr cs =>
    let k ← tsize P elem
    if 0 ≤ i ∧ i < n then pure (.iptr (cs.drop (i.toNat * k))) else fail "index: bounds"
  | .array n elem, .gp g off =>
    let k ← tsize P elem
    if 0 ≤ i ∧ i < n then pure (.gp g (off + i.toNat * k)) else fail "index: bounds"
  | _, _ => fail "indexAddr"

def partA (t : TypeId) (cs : List AV) (off : Nat) : R AV := do
  if ← tagg P t then pure (.agg (← getRange cs off (← tsize P t)))
  else match ← getRange cs off 1 with
    | [v] => pure v
    | _ => fail "part"

def fieldA (t : TypeId) (x : AV) (f : Nat) : R AV := do
  match ← tund P t, x with
  | .struct fields, .agg cs =>
    match fields[f]? with
    | some fd => partA P fd.type cs fd.offset
    | none => fail "field"
  | _, _ => fail "field: struct"

def indexA (t : TypeId) (x ix : AV) : R AV := do
  let i ← scalarInt ix
  match ← tund P t, x with
  | .array n elem, .agg cs =>
    let k ← tsize P elem
    if 0 ≤ i ∧ i < n then partA P elem cs (i.toNat * k) else fail "index: bounds"
  | .string, .sc (.string s) =>
    match (if 0 ≤ i then s[i.toNat]? else none) with
    | some b => pure (.sc (.int .u8 b.toNat))
    | none => fail "index: bounds"
  | _, _ => fail "index"

/-- The cells of a slice's first n elements, of k cells each. -/
def sliceCells (H : AHeap) (k : Nat) (x : AV) (n : Nat) : R (List AV × List Nat) :=
  match x with
  | .sc (.slice none _ _) => if n = 0 then .ok ([], []) else fail "cells of nil"
  | .sc (.string s) => if k = 1 then do pure (← getRange (s.data.toList.map fun b => .sc (.int .u8 b.toNat)) 0 n, []) else fail "cells of a string"
  | .isl cs _ _ _ => do pure (← getRange cs 0 (n * k), [])
  | .osl b g off k' _ _ _ => do
    let cs ← hcells H b g
    if k' = k then pure (← getRange cs off (n * k), [b]) else fail "element size"
  | _ => fail "cells of a slice"

def lenA : AV → R Nat
  | .sc (.slice none n _) => .ok n
  | .sc (.string s) => .ok s.size
  | .isl _ n _ _ => .ok n
  | .osl _ _ _ _ n _ _ => .ok n
  | _ => fail "length"

/-- A new object with a slice's elements and some more. -/
def growA (H : AHeap) (slot : Option Nat) (k : Nat) (s : AV) (len n : Nat) (new : List AV) (rd : List Nat) : R (AV × Eff) := do
  let (old, rd') ← sliceCells H k s len
  let (b, e) ← newA H slot (.cells (old ++ new) 0)
  pure (.osl b 0 0 k (len + n) (len + n) false, { e with rd := e.rd ++ rd ++ rd' })

/-- How many elements are appended, and which cells. -/
def newsA (H : AHeap) (elem : TypeId) (k : Nat) (zeros : Bool) (x : AV) : R (Nat × List AV × List Nat) :=
  if zeros then do
    let i ← scalarInt x
    if 0 ≤ i ∧ i < 2 ^ 32 then do
      let cs ← zeroCellsA P elem i.toNat
      pure (i.toNat, cs, [])
    else fail "append: count"
  else do
    let n ← lenA x
    let (cs, rd) ← sliceCells H k x n
    pure (n, cs, rd)

def isIntT : TypeDesc → Bool
  | .int _ => true
  | _ => false

/-- What is appended, laid behind a slice. -/
def appendB (H : AHeap) (slot : Option Nat) (s : AV) (k len n : Nat) (new : List AV) (rd : List Nat) : R (AV × Eff) :=
  match s with
  | .sc (.slice none 0 0) => if n = 0 then pure (s, { rd := rd }) else growA H slot k s len n new rd
  | .isl _ _ cap ex => if n = 0 then pure (s, { rd := rd }) else if ex && cap < len + n then growA H slot k s len n new rd else fail "append: an immutable slice"
  | .osl b g off k' _ cap ex =>
    if n = 0 then pure (s, { rd := rd })
    else if k' ≠ k then fail "append: element size"
    else if len + n ≤ cap then do
      let e ← writeAt H b g (off + len * k) new
      pure (.osl b g off k (len + n) cap ex, { e with rd := e.rd ++ rd })
    else if ex then growA H slot k s len n new rd
    else do
      let cs ← hcells H b g
      if H.frz.contains b then fail "append: frozen"
      else if off + len * k = cs.length then
        pure (.osl b (g + 1) 0 k (len + n) (len + n) false, { rd := b :: rd, set := some (b, .cells (cs.drop off ++ new) (g + 1)) })
      else fail "append: not at the end"
  | _ => fail "append: slice"

def appendA (H : AHeap) (slot : Option Nat) (argTypes : List TypeId) (s x : AV) : R (AV × Eff) := do
  match argTypes with
  | [sType, xType] =>
    match ← tund P sType with
    | .slice elem =>
      let xd ← tund P xType
      let k ← tsize P elem
      let i ← tinfo P elem
      let z ← tzero P elem
      let (n, new, rd) ← newsA P H elem k (isIntT xd) x
      let len ← lenA s
      if (4 * (len + n) + 1024) * i.bytes > 2 ^ 47 ∨ k = 0 ∨ i.bytes = 0 ∨ z.cells.length ≠ k ∨ !(new.all oneCell) then fail "append: size" else
      appendB H slot s k len n new rd
    | _ => fail "append: type"
  | _ => fail "append"

/-- A key's value: a scalar, or an aggregate of scalars. -/
def keyA (k : AV) : R Value := ofOpt "key" (toV k)

def checkKeyA (empty : Bool) (kt : TypeId) (k : Value) : R Unit := ofOpt "checkKey" (semPure P (Instr.checkKey empty 10000 kt k))

def bareEntries (es : List (Value × AV)) : List MapEntry := es.map fun e => { key := e.1, val := undef, born := 0 }

/-- The entry of a key. -/
def findKeyA (kt : TypeId) (k : Value) (es : List (Value × AV)) : R (Option (Nat × AV)) := do
  match ← ofOpt "findKey" (semPure P (Instr.findKey kt k (bareEntries es))) with
  | none => pure none
  | some (i, _) => match es[i]? with
    | some e => pure (some (i, e.2))
    | none => fail "findKey"

def mapEntriesA (H : AHeap) (x : AV) : R (List (Value × AV) × List Nat) :=
  match x with
  | .sc (.map none) => .ok ([], [])
  | .mp b => match H.objs[b]? with
    | some (.map es) => .ok (es, [b])
    | _ => fail "map"
  | _ => fail "map"

def lookupA (H : AHeap) (t : TypeId) (x k : AV) (commaOk : Bool) : R (AV × Eff) := do
  match ← tund P t with
  | .map kt elem =>
    let kv ← keyA k
    let (es, rd) ← mapEntriesA H x
    checkKeyA P es.isEmpty kt kv
    match ← findKeyA P kt kv es with
    | some (_, v) => pure (if commaOk then .tup [v, .sc (.bool true)] else v, { rd := rd })
    | none => do
      let z ← tzero P elem
      pure (if commaOk then .tup [z, .sc (.bool false)] else z, { rd := rd })
  | _ => fail "lookup: type"

def mapUpdateA (H : AHeap) (t : TypeId) (m k v : AV) : R Eff := do
  match ← tund P t, m with
  | .map kt _, .mp b =>
    let kv ← keyA k
    match H.objs[b]? with
    | some (.map es) => do
      checkKeyA P false kt kv
      match ← findKeyA P kt kv es with
      | some (i, _) => match es[i]? with
        | some e => if Instr.sameBits 10000 e.1 kv then pure { rd := [b], set := some (b, .map (es.set i (kv, v))) } else fail "update: key"
        | none => fail "update"
      | none => pure { rd := [b], set := some (b, .map (es ++ [(kv, v)])) }
    | _ => fail "update: map"
  | _, _ => fail "update: map"

def lenBuiltin (H : AHeap) (argTypes : List TypeId) (x : AV) : R (AV × List Nat) := do
  match argTypes with
  | [t] =>
    match ← tund P t, x with
    | .array n _, _ => pure (.sc (goInt n), [])
    | .map _ _, x => do
      let (es, rd) ← mapEntriesA H x
      pure (.sc (goInt es.length), rd)
    | .string, .sc (.string s) => pure (.sc (goInt s.size), [])
    | .slice _, .sc (.slice none n _) => pure (.sc (goInt n), [])
    | .slice _, .isl _ n _ _ => pure (.sc (goInt n), [])
    | .slice _, .osl _ _ _ _ n _ _ => pure (.sc (goInt n), [])
    | _, _ => fail "len"
  | _ => fail "len"

def capBuiltin (argTypes : List TypeId) (x : AV) : R AV := do
  match argTypes with
  | [t] =>
    match ← tund P t, x with
    | .slice _, .sc (.slice none _ n) => pure (.sc (goInt n))
    | .slice _, .isl _ _ c ex => if ex then pure (.sc (goInt c)) else fail "cap: not known"
    | .slice _, .osl _ _ _ _ _ c ex => if ex then pure (.sc (goInt c)) else fail "cap: not known"
    | _, _ => fail "cap"
  | _ => fail "cap"

def scalars : List AV → R (List Value)
  | [] => .ok []
  | v :: vs => do
    let a ← ofOpt "scalar" (toScalar v)
    let as ← scalars vs
    pure (a :: as)

def minMaxA (isMax : Bool) (args : List AV) : R AV := do
  let vs ← scalars args
  let s : Sem Value := if isMax then Builtin.max_ #[] 0 vs.toArray else Builtin.min_ #[] 0 vs.toArray
  pure (ofV (← ofOpt "min" (semPure P s)))

def bytesOf : List AV → R (List UInt8)
  | [] => .ok []
  | .sc (.int .u8 n) :: r => do
    let bs ← bytesOf r
    pure (UInt8.ofNat n.toNat :: bs)
  | _ => fail "bytes"

/-- The string of a slice of bytes. -/
def bytesStr (H : AHeap) (e : TypeId) (x : AV) : R (AV × Eff) := do
  match ← tund P e with
  | .int .u8 => do
    let n ← lenA x
    let (cs, rd) ← sliceCells H 1 x n
    let bs ← bytesOf cs
    pure (.sc (.string ⟨bs.toArray⟩), { rd := rd })
  | _ => fail "convert"

def convertA (H : AHeap) (slot : Option Nat) (src dst : TypeId) (x : AV) : R (AV × Eff) := do
  match ← tund P src, ← tund P dst, x with
  | .string, .slice e, .sc (.string s) =>
    match ← tund P e with
    | .int .u8 => do
      let (b, e) ← newA H slot (.cells (s.data.toList.map fun c => .sc (.int .u8 c.toNat)) 0)
      pure (.osl b 0 0 1 s.size s.size false, e)
    | _ => fail "convert"
  | .slice e, .string, .isl cs len cap ex => bytesStr P H e (.isl cs len cap ex)
  | .slice e, .string, .osl b g off k len cap ex => bytesStr P H e (.osl b g off k len cap ex)
  | _, _, x => match toScalar x with
    | some v => do pure (ofV (← ofOpt "convert" (semPure P (convert src dst v))), {})
    | none => fail "convert: operand"

def nextA (H : AHeap) (iter : AV) : R (AV × Eff) :=
  match iter with
  | .it b => match H.objs[b]? with
    | some (.siter s pos) =>
      if pos < s.size then
        let (c, width) := Utf8.decode s pos
        .ok (.tup [.sc (.bool true), .sc (goInt pos), .sc (.int .i32 c)], { rd := [b], set := some (b, .siter s (pos + width)) })
      else .ok (.tup [.sc (.bool false)], { rd := [b] })
    | _ => fail "next"
  | _ => fail "next"

/-- How functions are called: the pure ones give a value of the values; the others act on the heap. -/
structure CallF where
  pure : FuncId → Option (List AV → R AV)
  shared : FuncId → List AV → AHeap → R (AV × AHeap)

abbrev ExecF := Code → List AV → AHeap → R (Exit × List AV × AHeap)

def setParams : List Tmp → List AV → List AV → List AV
  | p :: ps, a :: as, ts => setParams ps as (ts.set p a)
  | _, _, ts => ts

def jumpOf : Exit → R (Option Code)
  | .normal => .ok none
  | .ret => .ok (some .ret)
  | .exit id => .ok (some (.exit id))
  | _ => fail "yield: exit"

/-- One round of a loop over a function. -/
def yieldA (ex : ExecF) (l : Nat) (args : List AV) (H : AHeap) : R (AV × AHeap) := do
  match H.objs[l]? with
  | some (.loop .ready _ ts params assign body) =>
    if args.length ≠ params.length then fail "yield: arguments" else
    match ← ex assign (setParams params args ts) H with
    | (.normal, ts1, H1) =>
      match H1.objs[l]? with
      | some (.loop .ready pend ts0 ps as bd) => do
        let (e, _, H2) ← ex body ts1 { H1 with objs := H1.objs.set l (.loop .busy pend ts0 ps as bd) }
        let jump ← jumpOf e
        match H2.objs[l]? with
        | some (.loop .busy _ ts0 ps as bd) =>
          pure (.sc (.bool jump.isNone), { H2 with objs := H2.objs.set l (.loop (if jump.isNone then .ready else .done) jump ts0 ps as bd) })
        | _ => fail "yield: loop"
      | _ => fail "yield: not ready"
    | _ => fail "yield: assign"
  | _ => fail "yield: not ready"

def v0 (x : R AV) : R (AV × Eff) := do pure (← x, {})
def v1 (x : R (AV × List Nat)) : R (AV × Eff) := do
  let (v, rd) ← x
  pure (v, { rd := rd })
def u1 (x : R Eff) : R (AV × Eff) := do pure (AV.undef, ← x)

/-- A slice's elements become zero. -/
def clearA (H : AHeap) (argTypes : List TypeId) (x : AV) : R Eff := do
  match argTypes with
  | [t] =>
    match ← tund P t, x with
    | .slice elem, .osl b g off k len _ _ => do
      let size ← tsize P elem
      let z ← zeroCellsA P elem len
      if k = size ∧ 0 < len ∧ size ≠ 0 ∧ z.all oneCell = true then writeAt H b g off z else fail "clear"
    | _, _ => fail "clear"
  | _ => fail "clear"

def builtinB (H : AHeap) (slot : Option Nat) (b : Builtin) (argTypes : List TypeId) (args : List AV) : R (AV × Eff) :=
  match b, args with
  | .append, [s, x] => appendA P H slot argTypes s x
  | .len, [x] => v1 (lenBuiltin P H argTypes x)
  | .cap, [x] => v0 (capBuiltin P argTypes x)
  | .max, args => v0 (minMaxA P true args)
  | .min, args => v0 (minMaxA P false args)
  | _, _ => fail "builtin"

def builtinC (H : AHeap) (argTypes : List TypeId) (args : List AV) : R (AV × Eff) :=
  match args with
  | [x] => u1 (clearA P H argTypes x)
  | _ => fail "clear"

def isClear : Builtin → Bool
  | .clear => true
  | _ => false

def builtinA (H : AHeap) (slot : Option Nat) (b : Builtin) (argTypes : List TypeId) (args : List AV) : R (AV × Eff) :=
  match isClear b with
  | true => builtinC P H argTypes args
  | false => builtinB P H slot b argTypes args

def boxA (H : AHeap) (slot : Option Nat) (t : TypeId) (x : AV) : R (AV × Eff) := do
  let n ← tsize P t
  if x.cells.length = n && x.cells.all oneCell then
    let (b, e) ← newA H slot (.cells x.cells 0)
    pure (.optr b 0 0, e)
  else fail "box"

def nilCheckA : AV → R AV
  | .optr b g o => .ok (.optr b g o)
  | .iptr cs => .ok (.iptr cs)
  | .fn (.func f) a c => .ok (.fn (.func f) a c)
  | .fn (.yield l) a c => .ok (.fn (.yield l) a c)
  | _ => fail "nilCheck"

def toArrayPtr (arr : TypeId) (x : AV) : R AV := do
  match ← tund P arr, x with
  | .array n _, .isl cs len _ _ => if n ≤ len ∧ 0 < len then pure (.iptr cs) else fail "slice to array"
  | .array n _, .osl b g off _ len _ _ => if n ≤ len ∧ 0 < len then pure (.optr b g off) else fail "slice to array"
  | _, _ => fail "slice to array"

def ifaceA (t : TypeId) (x : AV) : R AV := do
  match ← tund P t with
  | .interface _ => fail "makeInterface"
  | _ => pure (.ifc t x)

def rangeA (H : AHeap) (slot : Option Nat) (t : TypeId) (x : AV) : R (AV × Eff) := do
  match ← tund P t, x with
  | .string, .sc (.string s) => do
    let (b, e) ← newA H slot (.siter s 0)
    pure (.it b, e)
  | _, _ => fail "range"

def pureCallA (H : AHeap) (g : List AV → R AV) (args : List AV) : R (AV × Eff) := do
  let (args', bs) ← mapS (imm H immFuel) args
  pure (← g args', { rd := bs, frz := bs })

/-- An operation whose effect is small: its value and its effect. -/
def opE (call : CallF) (slot : Option Nat) (ts : List AV) (H : AHeap) (o : Op) : R (AV × Eff) :=
  let ρ := evalOp ts
  match o with
  | .move x | .assign x => .ok (ρ x, {})
  | .pick c a b => match ρ c with
    | .sc (.bool c) => .ok (if c then ρ a else ρ b, {})
    | _ => fail "pick"
  | .alloc t => do boxA P H slot t (← tzero P t)
  | .box t x => boxA P H slot t (ρ x)
  | .build t parts => v0 (buildA P t (parts.toList.map fun p => (p.1, ρ p.2)))
  | .buildSlice t len parts => buildSliceA P H slot t len (parts.toList.map fun p => (p.1, ρ p.2))
  | .load t a => v1 (loadA P H t (ρ a))
  | .store t a x => u1 (storeA P H t (ρ a) (ρ x))
  | .nilCheck x => v0 (nilCheckA (ρ x))
  | .binOp op t x y _ => v0 (binOpA P op t x y (ρ x) (ρ y))
  | .unOp op _ x => match toScalar (ρ x) with
    | some a => v0 (do pure (ofV (← ofOpt "unop" (semPure P (Op.unary op a)))))
    | none => fail "unop"
  | .convert src dst x => convertA P H slot src dst (ρ x)
  | .sliceToArrayPointer arr x => v0 (toArrayPtr P arr (ρ x))
  | .makeInterface t x => v0 (ifaceA P t (ρ x))
  | .makeFunc f first captured => match f with
    | .func k => .ok (.fn (.func k) (first.toList.map ρ) (captured.toList.map ρ), {})
    | _ => fail "makeFunc"
  | .makeMap _ none => do
    let (b, e) ← newA H slot (.map [])
    pure (.mp b, e)
  | .makeSlice t l c => makeSliceA P H slot t (ρ l) (ρ c)
  | .slice t x lo hi mx => v1 (sliceA P H t (ρ x) (lo.map ρ) (hi.map ρ) (mx.map ρ))
  | .fieldAddr t x f => v0 (fieldAddrA P t (ρ x) f)
  | .indexAddr t x i => v0 (indexAddrA P t (ρ x) (ρ i))
  | .index t x i => v0 (indexA P t (ρ x) (ρ i))
  | .lookup t x i ok => lookupA P H t (ρ x) (ρ i) ok
  | .mapUpdate t m k x => u1 (mapUpdateA P H t (ρ m) (ρ k) (ρ x))
  | .range t x => rangeA P H slot t (ρ x)
  | .next it true => nextA H (ρ it)
  | .extract t i => match ρ t with
    | .tup vs => match vs[i]? with
      | some x => .ok (x, {})
      | none => fail "extract"
    | _ => fail "extract"
  | .call c => match c.callee with
    | .builtin b => builtinA P H slot b c.argTypes.toList (c.args.toList.map ρ)
    | .value f => match ρ f with
      | .fn (.func k) first captured => match call.pure k with
        | some g => pureCallA H g (first ++ c.args.toList.map ρ ++ captured)
        | none => fail "call: not pure"
      | _ => fail "call: not pure"
    | .invoke _ _ => fail "invoke"
  | _ => fail "operation"

/-- A call that acts on the heap at large. -/
def bigCall (call : CallF) (ts : List AV) : Op → Option (AV × List AV)
  | .call c => match c.callee with
    | .value f => match evalOp ts f with
      | .fn (.func k) first captured => match call.pure k with
        | some _ => none
        | none => some (.fn (.func k) [] [], first ++ c.args.toList.map (evalOp ts) ++ captured)
      | .fn (.yield l) [] [] => some (.fn (.yield l) [] [], c.args.toList.map (evalOp ts))
      | _ => none
    | _ => none
  | _ => none

def bigA (call : CallF) (ex : ExecF) (f : AV) (args : List AV) (H : AHeap) : R (AV × AHeap) :=
  match f with
  | .fn (.func k) _ _ => call.shared k args H
  | .fn (.yield l) _ _ => yieldA ex l args H
  | _ => fail "call"

def putT (ts : List AV) (dst : Option Tmp) (v : AV) : List AV :=
  match dst with
  | some d => ts.set d v
  | none => ts

def wantedA (ops : List Oper) (ts : List AV) (o : Oper) : R Bool :=
  match o.guard with
  | none => .ok true
  | some (j, want) =>
    match (ops[j]?).bind (·.dst) with
    | some d => match ts[d]? with
      | some (.sc (.bool b)) => .ok (b == want)
      | some .any => fail "guard"
      | _ => .ok false
    | none => .ok false

/-- One operation of a region: none for an effect at large. -/
def stepA (call : CallF) (ex : ExecF) (slot : Option Nat) (all : List Oper) (o : Oper) (ts : List AV) (H : AHeap) : R (List AV × AHeap × Option Eff) :=
  match wantedA all ts o with
  | .error e => .error e
  | .ok true =>
    match bigCall call ts o.op with
    | some (f, args) => do
      let (v, H1) ← bigA call ex f args H
      pure (putT ts o.dst v, H1, none)
    | none => match opE P call slot ts H o.op with
      | .ok (v, e) => .ok (putT ts o.dst v, H.apply e, some e)
      | .error e => .error (e ++ " @" ++ o.pos)
  | .ok false => .ok (putT ts o.dst AV.undef, H, some {})

/-- The operations in their order. -/
def seqA (call : CallF) (ex : ExecF) (all : List Oper) : List Oper → List AV → AHeap → R (List AV × AHeap)
  | [], ts, H => .ok (ts, H)
  | o :: rest, ts, H => do
    let (ts1, H1, _) ← stepA P call ex none all o ts H
    seqA call ex all rest ts1 H1

def Eff.trivial (e : Eff) : Bool := e.rd.isEmpty && e.set.isNone && e.frz.isEmpty

def trivialO (e : Option Eff) : Bool := match e with | some e => e.trivial | none => false

/-- Two effects that may come in either order. -/
def effOk : Option Eff → Option Eff → Bool
  | some x, some y =>
    (match x.set with | some (b, _) => !y.rd.contains b && (match y.set with | some (c, _) => b != c | none => true) | none => true) &&
    (match y.set with | some (b, _) => !x.rd.contains b | none => true) && (x.frz.isEmpty || y.frz.isEmpty)
  | _, _ => false

/-- What comes before an operation of a region, as bits. -/
def beforeBits (ops : Array Oper) : Array Nat := Region.before ops

def looksA (ops : Array Oper) (o : Oper) : List Tmp :=
  (o.op.operands.toList.filterMap fun | .tmp t => some t | _ => none) ++
  (match o.guard with
   | some (g, _) => ((ops[g]?).bind (·.dst)).toList
   | none => [])

def apartA (ops : Array Oper) (x y : Oper) : Bool :=
  (match x.dst with
   | some d => !(looksA ops y).contains d && y.dst != some d
   | none => true) &&
  (match y.dst with
   | some d => !(looksA ops x).contains d
   | none => true)

/-- What is asked of a region that draws its order: operations that are not bound are apart; what is claimed to come before is bound by edges; edges go back. -/
def okRegion (ops : Array Oper) (bf : Nat → Nat → Bool) : Bool :=
  (List.range ops.size).all fun j => match ops[j]? with
    | some oj => (oj.after.all fun e => !Region.binds .any e || e.on < j) && (List.range ops.size).all fun i =>
      if bf i j then oj.after.any fun e => Region.binds .any e && (e.on == i || bf i e.on)
      else Nat.ble j i || (match ops[i]? with | some oi => apartA ops oi oj | none => true)
    | none => true

/-- The operations of a region that draws its order, in their order; two effects that part by the order are refused. -/
def drawA (call : CallF) (ex : ExecF) (bf : Nat → Nat → Bool) (base : Nat) (all : List Oper) : List (Nat × Oper) → List AV → AHeap → R (List AV × AHeap × List (Nat × Option Eff))
  | [], ts, H => .ok (ts, H, [])
  | (i, o) :: rest, ts, H => do
    let (ts1, H1, e) ← stepA P call ex (some (base + i)) all o ts H
    let (ts2, H2, es) ← drawA call ex bf base all rest ts1 H1
    if trivialO e then pure (ts2, H2, es)
    else if es.all (fun p => effOk e p.2 || bf i p.1) then pure (ts2, H2, (i, e) :: es)
    else fail "the order of a region's effects"

def bitsOf (ops : Array Oper) (i j : Nat) : Bool := ((beforeBits ops).getD j 0).testBit i

def enum {α : Type} : Nat → List α → List (Nat × α)
  | _, [] => []
  | i, a :: l => (i, a) :: enum (i + 1) l

/-- Without the dead at its end. -/
def dropDead : List AObj → List AObj
  | [] => []
  | o :: os => match dropDead os with
    | [] => (match o with
      | .dead => []
      | o => [o])
    | r :: rs => o :: r :: rs

/-- Without the dead at its end, behind the first n. -/
def trimTo : Nat → List AObj → List AObj
  | 0, l => dropDead l
  | n + 1, o :: l => o :: trimTo n l
  | _ + 1, [] => []

def exec (call : CallF) : Nat → ExecF
  | 0, _, _, _ => fail "fuel"
  | n + 1, c, ts, H =>
    match c with
    | .skip | .label _ => .ok (.normal, ts, H)
    | .region _ ops draw =>
      if draw then
        if okRegion ops (bitsOf ops) then do
          let (ts1, H1, _) ← drawA P call (exec call n) (bitsOf ops) H.objs.length ops.toList (enum 0 ops.toList) ts
            { H with objs := H.objs ++ List.replicate ops.size .dead }
          pure (.normal, ts1, { H1 with objs := trimTo H.objs.length H1.objs })
        else fail "a region's order"
      else do
        let (ts1, H1) ← seqA P call (exec call n) ops.toList ops.toList ts H
        pure (.normal, ts1, H1)
    | .seq a b => do
      match ← exec call n a ts H with
      | (.normal, ts1, H1) => exec call n b ts1 H1
      | r => pure r
    | .cond c a b => match evalOp ts c with
      | .sc (.bool t) => exec call n (if t then a else b) ts H
      | _ => fail "cond"
    | .block id b => do
      match ← exec call n b ts H with
      | (.exit id', ts1, H1) => if id' = id then pure (.normal, ts1, H1) else pure (.exit id', ts1, H1)
      | r => pure r
    | .loop b => do
      match ← exec call n b ts H with
      | (.normal, ts1, H1) => exec call n (.loop b) ts1 H1
      | r => pure r
    | .exit id => .ok (.exit id, ts, H)
    | .ret => .ok (.ret, ts, H)
    | .rangeFunc f params assign body => do
      let l := H.objs.length
      let H1 : AHeap := { H with objs := H.objs ++ [.loop .ready none ts params.toList assign body] }
      let (_, H2) ← match evalOp ts f with
        | .fn (.func k) first captured => (match call.pure k with
          | none => call.shared k (first ++ [.fn (.yield l) [] []] ++ captured) H1
          | some _ => fail "rangeFunc: pure")
        | _ => fail "rangeFunc: function"
      match H2.objs[l]? with
      | some (.loop st pend ts0 ps as bd) =>
        if st == .busy then fail "rangeFunc: busy" else
        let H3 : AHeap := { H2 with objs := H2.objs.set l (.loop .exhausted pend ts0 ps as bd) }
        match pend with
        | none => pure (.normal, ts, H3)
        | some .ret => pure (.ret, ts, H3)
        | some (.exit id) => pure (.exit id, ts, H3)
        | some _ => fail "rangeFunc: jump"
      | _ => fail "rangeFunc: loop"
    | .scope _ => fail "scope"
    | .goto _ => fail "goto"
    | .refuse w => fail w

def resultsFrom (ts : List AV) (H : AHeap) : List ResultVar → R (List AV)
  | [] => .ok []
  | .tmp t :: r => do
    let vs ← resultsFrom ts H r
    pure (ts.getD t AV.undef :: vs)
  | .cell a t :: r => do
    let (v, _) ← loadA P H t (ts.getD a AV.undef)
    let vs ← resultsFrom ts H r
    pure (v :: vs)

def resultsA (fn : Func) (ts : List AV) (H : AHeap) : R AV := do
  match ← resultsFrom P ts H fn.results.toList with
  | [v] => pure v
  | vs => pure (.tup vs)

/-- No loop that goes on. -/
def spent : AObj → Bool
  | .loop .exhausted _ _ _ _ _ => true
  | .loop _ _ _ _ _ _ => false
  | _ => true

/-- What is new among the objects is spent. -/
def spentIn : List AObj → List AObj → Bool
  | .dead :: os, o :: ns => spent o && spentIn os ns
  | _ :: os, _ :: ns => spentIn os ns
  | [], ns => ns.all spent
  | _, [] => true

def bodyA (ex : ExecF) (k : FuncId) (args : List AV) (H : AHeap) : R (AV × AHeap) :=
  match P.funcs[k]? with
  | some fn =>
    match fn.body with
    | some c =>
      match ex c (args ++ List.replicate (fn.ntmps - args.length) AV.undef) H with
      | .ok (e, ts1, H1) => match e with
        | .normal | .ret => if spentIn H.objs H1.objs then do pure (← resultsA P fn ts1 H1, H1) else fail "a loop that goes on"
        | _ => fail ("exit in " ++ fn.name)
      | .error e => .error (e ++ " < " ++ fn.name)
    | none => fail ("no body: " ++ fn.name)
  | none => fail "no function"

inductive CKind where
  | none
  | pure
  | shared
  | hookP (h : List AV → R AV)
  | hookS (h : List AV → AHeap → R (AV × AHeap))

abbrev CMode := FuncId → CKind

def callN (M : CMode) : Nat → CallF
  | 0 => { pure := fun k => match M k with
             | .pure | .hookP _ => some fun _ => fail "fuel of calls"
             | _ => Option.none
           shared := fun _ _ _ => fail "fuel of calls" }
  | n + 1 =>
    { pure := fun k => match M k with
        | .pure => some fun args => do
          let (r, H2) ← bodyA P (exec P (callN M n) n) k args AHeap.empty
          let (r', _) ← imm H2 immFuel r
          .ok r'
        | .hookP h => some h
        | _ => Option.none
      shared := fun k args H => match M k with
        | .shared => bodyA P (exec P (callN M n) n) k args H
        | .hookS h => h args H
        | _ => fail "call: no kind" }

/-- A pure function, called with immutable values. -/
def callPure (M : CMode) (n : Nat) (k : FuncId) (args : List AV) : R AV :=
  match (callN P M n).pure k with
  | some g => g args
  | Option.none => fail "not pure"
end
end Go.Abs

namespace Go.Abs
open Go

/-- A value that reads, in the stable blocks of a world, as an immutable abstract value. -/
inductive IVR (w : World) (S : Nat → Prop) : AV → Value → Prop where
  | any {v : Value} : IVR w S .any v
  | sc {v : Value} (h : isScalar v = true) : IVR w S (.sc v) v
  | agg {cs : List AV} {vs : Array Value} (hl : cs.length = vs.size) (h : ∀ (i : Nat) (x : AV) (v : Value), cs[i]? = some x → vs[i]? = some v → IVR w S x v) : IVR w S (.agg cs) (.agg vs)
  | tup {cs : List AV} {vs : Array Value} (hl : cs.length = vs.size) (h : ∀ (i : Nat) (x : AV) (v : Value), cs[i]? = some x → vs[i]? = some v → IVR w S x v) : IVR w S (.tup cs) (.tuple vs)
  | fn {f : FuncId} {a c : List AV} {a' c' : Array Value} (ha : a.length = a'.size) (hc : c.length = c'.size)
      (h1 : ∀ (i : Nat) (x : AV) (v : Value), a[i]? = some x → a'[i]? = some v → IVR w S x v) (h2 : ∀ (i : Nat) (x : AV) (v : Value), c[i]? = some x → c'[i]? = some v → IVR w S x v) : IVR w S (.fn (.func f) a c) (.func (.func f) a' c')
  | ifc {t : TypeId} {x : AV} {v : Value} (h : IVR w S x v) : IVR w S (.ifc t x) (.iface t v)
  | isl {cs : List AV} {len cap c : Nat} {ex : Bool} {b o : Nat} (f : Nat → Value) (hS : S b) (h1 : ∀ (i : Nat) (x : AV), cs[i]? = some x → w.cell? ⟨b, o + i, none⟩ = some (f i)) (h2 : ∀ (i : Nat) (x : AV), cs[i]? = some x → IVR w S x (f i))
      (hl : len ≤ c) (hc : cap ≤ c) (he : ex = true → c = cap) : IVR w S (.isl cs len cap ex) (.slice (some ⟨b, o, none⟩) len c)
  | isn : IVR w S (.isl [] 0 0 false) (.slice none 0 0)
  | iptr {cs : List AV} {b o : Nat} (f : Nat → Value) (hS : S b) (h1 : ∀ (i : Nat) (x : AV), cs[i]? = some x → w.cell? ⟨b, o + i, none⟩ = some (f i)) (h2 : ∀ (i : Nat) (x : AV), cs[i]? = some x → IVR w S x (f i)) : IVR w S (.iptr cs) (.pointer (some ⟨b, o, none⟩))
  | gp {g off : Nat} : IVR w S (.gp g off) (.pointer (some ⟨g, off, none⟩))

theorem IVR.mono {w w' : World} {S S' : Nat → Prop} {x : AV} {v : Value} (h : IVR w S x v) (hS : ∀ b, S b → S' b)
    (hw : ∀ a : Addr, S a.block → w'.cell? a = w.cell? a) : IVR w' S' x v := by
  induction h with
  | any => exact .any
  | gp => exact .gp
  | sc h => exact .sc h
  | agg hl _ ih => exact .agg hl ih
  | tup hl _ ih => exact .tup hl ih
  | fn ha hc _ _ ih1 ih2 => exact .fn ha hc ih1 ih2
  | ifc _ ih => exact .ifc ih
  | isl f h h1 _ hl hc he ih => exact .isl f (hS _ h) (fun i x hx => (hw ⟨_, _, none⟩ h).trans (h1 i x hx)) ih hl hc he
  | isn => exact .isn
  | iptr f h h1 _ ih => exact .iptr f (hS _ h) (fun i x hx => (hw ⟨_, _, none⟩ h).trans (h1 i x hx)) ih

/-- A value that reads as an abstract value: immutable, or an object of the run's own, whose place φ tells. -/
inductive VR (w : World) (S : Nat → Prop) (H : List AObj) (φ : Nat → Nat × Nat × Nat) : AV → Value → Prop where
  | im {x : AV} {v : Value} (h : IVR w S x v) : VR w S H φ x v
  | agg {cs : List AV} {vs : Array Value} (hl : cs.length = vs.size) (h : ∀ (i : Nat) (x : AV) (v : Value), cs[i]? = some x → vs[i]? = some v → VR w S H φ x v) : VR w S H φ (.agg cs) (.agg vs)
  | tup {cs : List AV} {vs : Array Value} (hl : cs.length = vs.size) (h : ∀ (i : Nat) (x : AV) (v : Value), cs[i]? = some x → vs[i]? = some v → VR w S H φ x v) : VR w S H φ (.tup cs) (.tuple vs)
  | fn {f : FuncId} {a c : List AV} {a' c' : Array Value} (ha : a.length = a'.size) (hc : c.length = c'.size)
      (h1 : ∀ (i : Nat) (x : AV) (v : Value), a[i]? = some x → a'[i]? = some v → VR w S H φ x v) (h2 : ∀ (i : Nat) (x : AV) (v : Value), c[i]? = some x → c'[i]? = some v → VR w S H φ x v) : VR w S H φ (.fn (.func f) a c) (.func (.func f) a' c')
  | yield {l : Nat} (h : ∃ st pend ts ps as bd, H[l]? = some (.loop st pend ts ps as bd)) : VR w S H φ (.fn (.yield l) [] []) (.func (.yield (φ l).1) #[] #[])
  | ifc {t : TypeId} {x : AV} {v : Value} (h : VR w S H φ x v) : VR w S H φ (.ifc t x) (.iface t v)
  | osl {b g off k len cap c : Nat} {ex : Bool} {ad : Addr} {cs : List AV} {g' : Nat} (hb : H[b]? = some (.cells cs g')) (hg : g ≤ g') (hl : len ≤ c) (hc : cap ≤ c) (he : ex = true → c = cap)
      (hp : g = g' → ∃ o, ad = ⟨(φ b).1, o, none⟩ ∧ (o = (φ b).2.1 + off ∨ c = 0) ∧ o + c * k ≤ (φ b).2.2) : VR w S H φ (.osl b g off k len cap ex) (.slice (some ad) len c)
  | optr {b g off : Nat} {ad : Addr} {cs : List AV} {g' : Nat} (hb : H[b]? = some (.cells cs g')) (hg : g ≤ g')
      (hp : g = g' → ad = ⟨(φ b).1, (φ b).2.1 + off, none⟩) : VR w S H φ (.optr b g off) (.pointer (some ad))
  | mp {b : Nat} (h : ∃ es, H[b]? = some (.map es)) : VR w S H φ (.mp b) (.map (some (φ b).1))
  | it {b : Nat} (h : ∃ s pos, H[b]? = some (.siter s pos)) : VR w S H φ (.it b) (.pointer (some ⟨(φ b).1, 0, none⟩))
  | itr {b : Nat} (h : ∃ o, H[b]? = some (.raw o)) : VR w S H φ (.it b) (.pointer (some ⟨(φ b).1, 0, none⟩))

/-- What objects may become. -/
def OExt (o o' : AObj) (p p' : Nat × Nat × Nat) : Prop :=
  match o with
  | .dead => True
  | .cells cs g => ∃ cs' g', o' = .cells cs' g' ∧ g ≤ g' ∧ (g = g' → p' = p ∧ cs'.length = cs.length)
  | .map _ => (∃ es, o' = .map es) ∧ p' = p
  | .siter _ _ => (∃ s pos, o' = .siter s pos) ∧ p' = p
  | .raw x => o' = .raw x ∧ p' = p
  | .loop st _ _ _ _ _ => (∃ st' pend ts ps as bd, o' = .loop st' pend ts ps as bd ∧ (st = .exhausted → st' = .exhausted)) ∧ p' = p

/-- How the run goes on: stable blocks stay as they are, and stay stable; objects keep their places. -/
structure Ext (n₀ : Nat) (w : World) (S : Nat → Prop) (H : List AObj) (φ : Nat → Nat × Nat × Nat) (D : Nat → Prop)
    (w' : World) (S' : Nat → Prop) (H' : List AObj) (φ' : Nat → Nat × Nat × Nat) (D' : Nat → Prop) : Prop where
  stab : ∀ b, S b → S' b
  new : ∀ b, S' b → S b ∨ n₀ ≤ b
  cell : ∀ b, S b → w'.heap[b]? = w.heap[b]?
  obj : ∀ b o, H[b]? = some o → ∃ o', H'[b]? = some o' ∧ OExt o o' (φ b) (φ' b)
  dfr : ∀ d, D d → D' d

theorem OExt.refl (o : AObj) (p : Nat × Nat × Nat) : OExt o o p p := by
  cases o with
  | dead => trivial
  | cells cs g => exact ⟨cs, g, rfl, Nat.le_refl _, fun _ => ⟨rfl, rfl⟩⟩
  | map es => exact ⟨⟨_, rfl⟩, rfl⟩
  | siter s pos => exact ⟨⟨_, _, rfl⟩, rfl⟩
  | raw x => exact ⟨rfl, rfl⟩
  | loop => exact ⟨⟨_, _, _, _, _, _, rfl, id⟩, rfl⟩

theorem OExt.trans {o o' o'' : AObj} {p p' p'' : Nat × Nat × Nat} (h : OExt o o' p p') (k : OExt o' o'' p' p'') : OExt o o'' p p'' := by
  cases o with
  | dead => trivial
  | cells cs g =>
    obtain ⟨cs', g', rfl, hg, hp⟩ := h
    obtain ⟨cs'', g'', rfl, hg', hp'⟩ := k
    refine ⟨cs'', g'', rfl, Nat.le_trans hg hg', fun e => ?_⟩
    obtain ⟨a, b⟩ := hp (by omega)
    obtain ⟨c, d⟩ := hp' (by omega)
    exact ⟨c.trans a, d.trans b⟩
  | map es =>
    obtain ⟨⟨es', rfl⟩, rfl⟩ := h
    obtain ⟨⟨es'', rfl⟩, rfl⟩ := k
    exact ⟨⟨_, rfl⟩, rfl⟩
  | raw x =>
    obtain ⟨rfl, rfl⟩ := h
    obtain ⟨rfl, rfl⟩ := k
    exact ⟨rfl, rfl⟩
  | siter s pos =>
    obtain ⟨⟨_, _, rfl⟩, rfl⟩ := h
    obtain ⟨⟨_, _, rfl⟩, rfl⟩ := k
    exact ⟨⟨_, _, rfl⟩, rfl⟩
  | loop st pend ts ps as bd =>
    obtain ⟨⟨_, _, _, _, _, _, rfl, x⟩, rfl⟩ := h
    obtain ⟨⟨_, _, _, _, _, _, rfl, y⟩, rfl⟩ := k
    exact ⟨⟨_, _, _, _, _, _, rfl, fun e => y (x e)⟩, rfl⟩

section
variable {n₀ : Nat} {w w' w'' : World} {S S' S'' : Nat → Prop} {H H' H'' : List AObj} {φ φ' φ'' : Nat → Nat × Nat × Nat} {D D' D'' : Nat → Prop}

theorem Ext.refl : Ext n₀ w S H φ D w S H φ D :=
  ⟨fun _ h => h, fun _ h => .inl h, fun _ _ => rfl, fun b o h => ⟨o, h, OExt.refl _ _⟩, fun _ h => h⟩

theorem Ext.trans (h : Ext n₀ w S H φ D w' S' H' φ' D') (k : Ext n₀ w' S' H' φ' D' w'' S'' H'' φ'' D'') : Ext n₀ w S H φ D w'' S'' H'' φ'' D'' :=
  ⟨fun b hb => k.stab b (h.stab b hb), fun b hb => (k.new b hb).elim (h.new b) .inr, fun b hb => (k.cell b (h.stab b hb)).trans (h.cell b hb),
    fun b o ho => by
      obtain ⟨o', h1, h2⟩ := h.obj b o ho
      obtain ⟨o'', h3, h4⟩ := k.obj b o' h1
      exact ⟨o'', h3, h2.trans h4⟩,
    fun d hd => k.dfr d (h.dfr d hd)⟩

theorem cell_of_heap {b : Nat} (h : w'.heap[b]? = w.heap[b]?) (a : Addr) (ha : a.block = b) : w'.cell? a = w.cell? a := by
  subst ha
  simp only [World.cell?, h]

theorem IVR.ext {x : AV} {v : Value} (h : IVR w S x v) (e : Ext n₀ w S H φ D w' S' H' φ' D') : IVR w' S' x v :=
  h.mono e.stab (fun a ha => cell_of_heap (e.cell _ ha) a rfl)

theorem VR.ext {x : AV} {v : Value} (h : VR w S H φ x v) (e : Ext n₀ w S H φ D w' S' H' φ' D') : VR w' S' H' φ' x v := by
  induction h with
  | im h => exact .im (h.ext e)
  | agg hl _ ih => exact .agg hl ih
  | tup hl _ ih => exact .tup hl ih
  | fn ha hc _ _ ih1 ih2 => exact .fn ha hc ih1 ih2
  | ifc _ ih => exact .ifc ih
  | yield h =>
    obtain ⟨st, pend, ts, ps, as, bd, h⟩ := h
    obtain ⟨o', h1, ⟨⟨_, _, _, _, _, _, rfl, _⟩, hp⟩⟩ := e.obj _ _ h
    rw [← hp]
    exact .yield ⟨_, _, _, _, _, _, h1⟩
  | osl hb hg hl hc he hp =>
    obtain ⟨o', h1, ⟨cs', g', rfl, hg', hp'⟩⟩ := e.obj _ _ hb
    refine .osl h1 (Nat.le_trans hg hg') hl hc he (fun e1 => ?_)
    obtain ⟨c, _⟩ := hp' (by omega)
    rw [c]
    exact hp (by omega)
  | optr hb hg hp =>
    obtain ⟨o', h1, ⟨cs', g', rfl, hg', hp'⟩⟩ := e.obj _ _ hb
    refine .optr h1 (Nat.le_trans hg hg') (fun e1 => ?_)
    obtain ⟨c, _⟩ := hp' (by omega)
    rw [c]
    exact hp (by omega)
  | mp h =>
    obtain ⟨es, h⟩ := h
    obtain ⟨o', h1, ⟨⟨_, rfl⟩, hp⟩⟩ := e.obj _ _ h
    rw [← hp]
    exact .mp ⟨_, h1⟩
  | itr h =>
    obtain ⟨x, h⟩ := h
    obtain ⟨o', h1, ⟨rfl, hp⟩⟩ := e.obj _ _ h
    rw [← hp]
    exact .itr ⟨_, h1⟩
  | it h =>
    obtain ⟨s, pos, h⟩ := h
    obtain ⟨o', h1, ⟨⟨_, _, rfl⟩, hp⟩⟩ := e.obj _ _ h
    rw [← hp]
    exact .it ⟨_, _, h1⟩
end
end Go.Abs

namespace Go.Abs
open Go Go.RowKit

def AObj.live : AObj → Bool
  | .dead => false
  | _ => true

/-- The variables that the run reads lie below n₀ and hold what is told of them. -/
def GK (n₀ : Nat) (w : World) : Prop := ∀ (b : Nat) (cs : List Value), (b, cs) ∈ globs → b < n₀ ∧ ∀ (i : Nat) (v : Value), cs[i]? = some v → w.cell? ⟨b, i, none⟩ = some v

theorem GK.below {n₀ : Nat} {w w' : World} (h : GK n₀ w) (hb : Below n₀ w w') : GK n₀ w' := fun b cs hm => ⟨(h b cs hm).1, fun i v hi => (cell_of_heap (hb.block b (h b cs hm).1) ⟨b, i, none⟩ rfl).trans ((h b cs hm).2 i v hi)⟩

theorem GK.mono {n n' : Nat} {w : World} (h : GK n w) (hn : n ≤ n') : GK n' w := fun b cs hm => ⟨Nat.lt_of_lt_of_le (h b cs hm).1 hn, (h b cs hm).2⟩

/-- The entries of a map that nothing was taken out of. -/
def Born (E : Array MapEntry) (c : Nat) : Prop := c = E.size ∧ ∀ (i : Nat) (e : MapEntry), E[i]? = some e → e.born = i

/-- A block that the interpreter does not look into. -/
def rawObj : Obj → Bool
  | .cells _ _ _ | .deferred _ => false
  | _ => true

def VRL (w : World) (S : Nat → Prop) (H : List AObj) (φ : Nat → Nat × Nat × Nat) (xs : List AV) (vs : Array Value) : Prop :=
  xs.length = vs.size ∧ ∀ (i : Nat) (x : AV) (v : Value), xs[i]? = some x → vs[i]? = some v → VR w S H φ x v

def IVRL (w : World) (S : Nat → Prop) (xs : List AV) (vs : Array Value) : Prop :=
  xs.length = vs.size ∧ ∀ (i : Nat) (x : AV) (v : Value), xs[i]? = some x → vs[i]? = some v → IVR w S x v

/-- How an object lies in the world. -/
def OR (w : World) (S : Nat → Prop) (H : List AObj) (frz : List Nat) (φ : Nat → Nat × Nat × Nat) (D : Nat → Prop) (b : Nat) : AObj → Prop
  | .dead => True
  | .cells cs _ => ∃ (C : Array Value) (t : TypeId) (lo hi : Nat), w.heap[(φ b).1]? = some (.cells C t (lo, hi)) ∧ (∀ i, i < C.size → ¬(lo ≤ i ∧ i < hi)) ∧ ((φ b).2.1 + cs.length ≤ C.size ∧ C.size = (φ b).2.2) ∧
      (∀ (i : Nat) (x : AV) (v : Value), cs[i]? = some x → C[(φ b).2.1 + i]? = some v → VR w S H φ x v) ∧ (b ∈ frz ↔ S (φ b).1)
  | .map es => ∃ (E : Array MapEntry) (c : Nat), w.heap[(φ b).1]? = some (.map E c) ∧ es.length = E.size ∧
      (∀ (i : Nat) (k : Value) (v : AV) (e : MapEntry), es[i]? = some (k, v) → E[i]? = some e → e.key = k ∧ VR w S H φ v e.val) ∧ (¬ S (φ b).1 ∧ Born E c)
  | .siter s pos => w.heap[(φ b).1]? = some (.stringIter s pos) ∧ ¬ S (φ b).1
  | .raw x => w.heap[(φ b).1]? = some x ∧ rawObj x = true ∧ ¬ S (φ b).1
  | .loop st pend ts ps as bd => ∃ (fn : FuncId) (T : Array Value), w.heap[(φ b).1]? = some (.loop { state := st, pending := pend, fn := fn, tmps := T, params := ps.toArray, assign := as, body := bd, defers := (φ b).2.2 }) ∧
      VRL w S H φ ts T ∧ (st ≠ .exhausted → D (φ b).2.2) ∧ ¬ S (φ b).1

/-- How a heap of the run lies in the world. -/
structure Rel (n₀ : Nat) (w₀ w : World) (S : Nat → Prop) (H : AHeap) (φ : Nat → Nat × Nat × Nat) (D : Nat → Prop) : Prop where
  below : Below n₀ w₀ w
  size : n₀ ≤ w.heap.size
  szS : ∀ b, S b → b < w.heap.size
  obj : ∀ b o, H.objs[b]? = some o → OR w S H.objs H.frz φ D b o
  place : ∀ b o, H.objs[b]? = some o → o.live = true → n₀ ≤ (φ b).1
  inj : ∀ b b' o o', H.objs[b]? = some o → H.objs[b']? = some o' → o.live = true → o'.live = true → (φ b).1 = (φ b').1 → b = b'
  dfr : ∀ d, D d → n₀ ≤ d ∧ ¬ S d ∧ w.heap[d]? = some (.deferred (some []))
  frzc : ∀ b, b ∈ H.frz → ∃ cs g, H.objs[b]? = some (.cells cs g)
  glob : GK n₀ w

section
variable {n₀ : Nat} {w₀ w w' w'' : World} {S S' S'' : Nat → Prop} {H H' : AHeap} {φ φ' : Nat → Nat × Nat × Nat} {D D' : Nat → Prop}

theorem VRL.ext {xs : List AV} {vs : Array Value} {H H' : List AObj} (h : VRL w S H φ xs vs) (e : Ext n₀ w S H φ D w' S' H' φ' D') : VRL w' S' H' φ' xs vs :=
  ⟨h.1, fun i x v a b => (h.2 i x v a b).ext e⟩

theorem OR.ext {b : Nat} {o : AObj} {H H' : List AObj} {F F' : List Nat} (h : OR w S H F φ D b o) (e : Ext n₀ w S H φ D w' S' H' φ' D') (hh : w'.heap[(φ b).1]? = w.heap[(φ b).1]?) (hp : φ' b = φ b)
    (hF : b ∈ F' ↔ b ∈ F) (hS : S' (φ b).1 ↔ S (φ b).1) : OR w' S' H' F' φ' D' b o := by
  cases o with
  | dead => trivial
  | cells cs g =>
    obtain ⟨C, t, lo, hi, h1, h2, h3, h4, h5⟩ := h
    refine ⟨C, t, lo, hi, ?_, h2, ?_, ?_, ?_⟩
    · rw [hp, hh]; exact h1
    · rw [hp]; exact h3
    · rw [hp]; exact fun i x v a b => (h4 i x v a b).ext e
    · rw [hp, hF, hS]; exact h5
  | map es =>
    obtain ⟨E, c, h1, h2, h3, h4⟩ := h
    refine ⟨E, c, ?_, h2, fun i k v e' a b => ⟨(h3 i k v e' a b).1, (h3 i k v e' a b).2.ext e⟩, ?_⟩
    · rw [hp, hh]; exact h1
    · rw [hp, hS]; exact h4
  | raw x =>
    obtain ⟨h1, h2, h3⟩ := h
    exact ⟨by rw [hp, hh]; exact h1, h2, by rw [hp, hS]; exact h3⟩
  | siter s pos =>
    obtain ⟨h1, h2⟩ := h
    exact ⟨by rw [hp, hh]; exact h1, by rw [hp, hS]; exact h2⟩
  | loop st pend ts ps as bd =>
    obtain ⟨fn, T, h1, h2, h3, h4⟩ := h
    exact ⟨fn, T, by rw [hp, hh]; exact h1, h2.ext e, fun hs => by rw [hp]; exact e.dfr _ (h3 hs), by rw [hp, hS]; exact h4⟩

theorem Rel.lt (R : Rel n₀ w₀ w S H φ D) {b : Nat} {o : AObj} (h : H.objs[b]? = some o) (hl : o.live = true) : (φ b).1 < w.heap.size := by
  have key : ∀ x, w.heap[(φ b).1]? = some x → (φ b).1 < w.heap.size := fun x hx => (Array.getElem?_eq_some_iff.1 hx).1
  have := R.obj b o h
  cases o with
  | dead => simp [AObj.live] at hl
  | cells cs g => obtain ⟨C, t, lo, hi, h1, _⟩ := this; exact key _ h1
  | map es => obtain ⟨E, c, h1, _⟩ := this; exact key _ h1
  | siter s pos => exact key _ this.1
  | raw x => exact key _ this.1
  | loop st pend ts ps as bd => obtain ⟨fn, T, h1, _⟩ := this; exact key _ h1

theorem getElem?_setObj (l : List AObj) (b : Nat) (o : AObj) (hb : b ≤ l.length) (i : Nat) : (setObj l b o)[i]? = if i = b then some o else l[i]? := by
  unfold setObj
  split
  · rename_i h
    rw [List.getElem?_set]
    by_cases e : b = i
    · subst e; simp [h]
    · simp [e, Ne.symm e]
  · rename_i h
    have : b = l.length := by omega
    subst this
    rw [List.getElem?_append]
    by_cases e : i = l.length
    · subst e; simp
    · rw [if_neg e]
      split
      · rfl
      · rename_i h2
        rw [List.getElem?_eq_none (by simp; omega), List.getElem?_eq_none (by omega)]

def upd (φ : Nat → Nat × Nat × Nat) (b : Nat) (p : Nat × Nat × Nat) : Nat → Nat × Nat × Nat := fun x => if x = b then p else φ x

theorem upd_same (φ : Nat → Nat × Nat × Nat) (b : Nat) (p : Nat × Nat × Nat) : upd φ b p b = p := by simp [upd]
theorem upd_other (φ : Nat → Nat × Nat × Nat) {b x : Nat} (p : Nat × Nat × Nat) (h : x ≠ b) : upd φ b p x = φ x := by simp [upd, h]

/-- One object is set; the world has turned in its block alone. -/
theorem ext_set (R : Rel n₀ w₀ w S H φ D) {b blk : Nat} {o' : AObj} {p : Nat × Nat × Nat} (hb : b ≤ H.objs.length)
    (hw : ∀ k, k ≠ blk → k < w.heap.size → w'.heap[k]? = w.heap[k]?) (hS : ¬ S blk)
    (hx : ∀ o, H.objs[b]? = some o → OExt o o' (φ b) p) :
    Ext n₀ w S H.objs φ D w' S (setObj H.objs b o') (upd φ b p) D := by
  refine ⟨fun _ h => h, fun _ h => .inl h, fun k hk => hw k (fun e => hS (e ▸ hk)) (R.szS k hk), fun k o hk => ?_, fun _ h => h⟩
  rw [getElem?_setObj _ _ _ hb]
  by_cases e : k = b
  · subst e
    rw [if_pos rfl, upd_same]
    exact ⟨o', rfl, hx o hk⟩
  · rw [if_neg e, upd_other _ _ e]
    exact ⟨o, hk, OExt.refl _ _⟩

theorem rel_set (R : Rel n₀ w₀ w S H φ D) {b blk : Nat} {o' : AObj} {p : Nat × Nat × Nat} (hb : b ≤ H.objs.length)
    (hbl : Below n₀ w w') (hw : ∀ k, k ≠ blk → k < w.heap.size → w'.heap[k]? = w.heap[k]?) (hS : ¬ S blk) (hp : p.1 = blk) (hn : n₀ ≤ blk) (hD : ¬ D blk) (hz : b ∉ H.frz)
    (hu : ∀ b' o, H.objs[b']? = some o → o.live = true → (φ b').1 = blk → b' = b)
    (hx : ∀ o, H.objs[b]? = some o → OExt o o' (φ b) p)
    (hor : OR w' S (setObj H.objs b o') H.frz (upd φ b p) D b o') :
    Rel n₀ w₀ w' S { H with objs := setObj H.objs b o' } (upd φ b p) D := by
  have E := ext_set R (w' := w') hb hw hS hx
  refine ⟨R.below.trans hbl, Nat.le_trans R.size hbl.size, fun k hk => Nat.lt_of_lt_of_le (R.szS k hk) hbl.size, ?_, ?_, ?_, ?_, ?_, R.glob.below hbl⟩
  · intro k o hk
    simp only [getElem?_setObj _ _ _ hb] at hk
    by_cases e : k = b
    · subst e
      rw [if_pos rfl] at hk
      cases hk
      exact hor
    · rw [if_neg e] at hk
      cases hl : o.live with
      | false => cases o <;> simp [AObj.live] at hl; trivial
      | true =>
        exact (R.obj k o hk).ext E (hw _ (fun h => e (hu k o hk hl h)) (R.lt hk hl)) (upd_other _ _ e) Iff.rfl Iff.rfl
  · intro k o hk hl
    simp only [getElem?_setObj _ _ _ hb] at hk
    by_cases e : k = b
    · subst e; rw [upd_same, hp]; exact hn
    · rw [if_neg e] at hk; rw [upd_other _ _ e]; exact R.place k o hk hl
  · intro k k' o o1 hk hk' hl hl' hq
    simp only [getElem?_setObj _ _ _ hb] at hk hk'
    by_cases e : k = b
    · by_cases e' : k' = b
      · rw [e, e']
      · rw [if_neg e'] at hk'
        rw [e, upd_same, upd_other _ _ e', hp] at hq
        rw [e]; exact (hu k' o1 hk' hl' hq.symm).symm
    · rw [if_neg e] at hk
      by_cases e' : k' = b
      · rw [e', upd_same, upd_other _ _ e, hp] at hq
        rw [e']; exact hu k o hk hl hq
      · rw [if_neg e'] at hk'
        rw [upd_other _ _ e, upd_other _ _ e'] at hq
        exact R.inj k k' o o1 hk hk' hl hl' hq
  · intro d hd
    obtain ⟨h1, h2, h3⟩ := R.dfr d hd
    refine ⟨h1, h2, ?_⟩
    rw [hw d (fun e => hD (e ▸ hd)) (Array.getElem?_eq_some_iff.1 h3).1]
    exact h3
  · intro k hk
    have e : k ≠ b := fun e => hz (e ▸ hk)
    simp only [getElem?_setObj _ _ _ hb]
    rw [if_neg e]
    exact R.frzc k hk

/-- The world has turned, but not the heap. -/
theorem ext_heap {H : List AObj} (hh : w'.heap = w.heap) : Ext n₀ w S H φ D w' S H φ D :=
  ⟨fun _ h => h, fun _ h => .inl h, fun _ _ => by rw [hh], fun _ o h => ⟨o, h, OExt.refl _ _⟩, fun _ h => h⟩

theorem rel_heap (R : Rel n₀ w₀ w S H φ D) (hh : w'.heap = w.heap) (hb : Below n₀ w w') : Rel n₀ w₀ w' S H φ D :=
  ⟨R.below.trans hb, by rw [hh]; exact R.size, fun k hk => by rw [hh]; exact R.szS k hk,
    fun b o h => (R.obj b o h).ext (ext_heap (n₀ := n₀) hh) (by rw [hh]) rfl Iff.rfl Iff.rfl, R.place, R.inj, fun d hd => by rw [hh]; exact R.dfr d hd, R.frzc, R.glob.below hb⟩
end
end Go.Abs

namespace Go.Abs
open Go Go.RowKit

theorem ok_bind {α β : Type} (a : α) (f : α → R β) : (Except.ok a >>= f) = f a := rfl
theorem err_bind {α β : Type} (e : String) (f : α → R β) : ((Except.error e : R α) >>= f) = Except.error e := rfl

/-- A bind that comes through: its first part came through. -/
theorem bind_ok {α β : Type} {x : R α} {f : α → R β} {b : β} (h : (x >>= f) = .ok b) : ∃ a, x = .ok a ∧ f a = .ok b := by
  cases x with
  | error e => cases h
  | ok a => exact ⟨a, rfl, h⟩

theorem ofOpt_ok {α : Type} {s : String} {x : Option α} {a : α} (h : ofOpt s x = .ok a) : x = some a := by
  cases x with
  | none => cases h
  | some b => cases h; rfl

theorem pure_ok {α : Type} {a b : α} (h : (pure a : R α) = .ok b) : a = b := by cases h; rfl

theorem semPure_run {α : Type} {P : Program} {s : Sem α} {a : α} (h : semPure P s = some a) (w : World) : s.run P w = .ok a w := by
  induction s generalizing a with
  | pure b => simp only [semPure, Option.some.injEq] at h; subst h; rfl
  | program k ih => exact ih P h
  | _ => simp [semPure] at h

section
variable {w w' : World} {S S' : Nat → Prop} {H H' : List AObj} {φ φ' : Nat → Nat × Nat × Nat}

theorem VR.sc_inv {a v : Value} (h : VR w S H φ (.sc a) v) : v = a ∧ isScalar a = true := by
  cases h with
  | im h => cases h with | sc h => exact ⟨rfl, h⟩

theorem VR.agg_inv {cs : List AV} {v : Value} (h : VR w S H φ (.agg cs) v) : ∃ vs, v = .agg vs ∧ VRL w S H φ cs vs := by
  cases h with
  | im h => cases h with | agg hl h => exact ⟨_, rfl, hl, fun i x v a b => .im (h i x v a b)⟩
  | agg hl h => exact ⟨_, rfl, hl, h⟩

theorem VR.tup_inv {cs : List AV} {v : Value} (h : VR w S H φ (.tup cs) v) : ∃ vs, v = .tuple vs ∧ VRL w S H φ cs vs := by
  cases h with
  | im h => cases h with | tup hl h => exact ⟨_, rfl, hl, fun i x v a b => .im (h i x v a b)⟩
  | tup hl h => exact ⟨_, rfl, hl, h⟩

theorem VR.undef : VR w S H φ AV.undef undef := .tup rfl (fun i x v h => by simp at h)

theorem VRL.nil : VRL w S H φ [] #[] := ⟨rfl, fun i x v h => by simp at h⟩

theorem VRL.cons {x : AV} {v : Value} {xs : List AV} {vs : List Value} (h : VR w S H φ x v) (hs : VRL w S H φ xs vs.toArray) : VRL w S H φ (x :: xs) (v :: vs).toArray := by
  refine ⟨by simpa using hs.1, fun i y u a b => ?_⟩
  cases i with
  | zero => simp at a b; subst a; subst b; exact h
  | succ i => exact hs.2 i y u (by simpa using a) (by simpa using b)

theorem VRL.get {xs : List AV} {vs : Array Value} (h : VRL w S H φ xs vs) {i : Nat} {x : AV} (hx : xs[i]? = some x) : ∃ v, vs[i]? = some v ∧ VR w S H φ x v := by
  have hi : i < xs.length := (List.getElem?_eq_some_iff.1 hx).1
  have hi' : i < vs.size := h.1 ▸ hi
  exact ⟨vs[i], by simp [hi'], h.2 i x _ hx (by simp [hi'])⟩

theorem VRL.get' {xs : List AV} {vs : Array Value} (h : VRL w S H φ xs vs) {i : Nat} {v : Value} (hx : vs[i]? = some v) : ∃ x, xs[i]? = some x ∧ VR w S H φ x v := by
  have hi : i < vs.size := (Array.getElem?_eq_some_iff.1 hx).1
  have hi' : i < xs.length := h.1 ▸ hi
  exact ⟨xs[i], by simp [hi'], h.2 i _ _ (by simp [hi']) hx⟩

theorem VRL.getD {xs : List AV} {vs : Array Value} (h : VRL w S H φ xs vs) (i : Nat) : VR w S H φ (xs.getD i AV.undef) (vs.getD i undef) := by
  by_cases hi : i < xs.length
  · have hx : xs[i]? = some xs[i] := by simp [hi]
    obtain ⟨v, hv, hr⟩ := h.get hx
    simp only [List.getD, hx, Option.getD_some, Array.getD_eq_getD_getElem?, hv]
    exact hr
  · have hi' : ¬ i < vs.size := by rw [← h.1]; exact hi
    rw [show xs.getD i AV.undef = AV.undef by simp [List.getD, List.getElem?_eq_none (Nat.le_of_not_lt hi)]]
    simp only [Array.getD, hi', dite_false]
    exact VR.undef

theorem VRL.set {xs : List AV} {vs : Array Value} (h : VRL w S H φ xs vs) (i : Nat) {x : AV} {v : Value} (hv : VR w S H φ x v) : VRL w S H φ (xs.set i x) (vs.setIfInBounds i v) := by
  refine ⟨by simpa using h.1, fun j y u a b => ?_⟩
  rw [List.getElem?_set] at a
  rw [Array.getElem?_setIfInBounds] at b
  by_cases e : i = j
  · subst e
    by_cases hi : i < xs.length
    · have : i < vs.size := h.1 ▸ hi
      simp [hi] at a; simp [this] at b; subst a; subst b; exact hv
    · simp [hi] at a
  · simp [e] at a b
    exact h.2 j y u a b

theorem VRL.append {xs ys : List AV} {vs us : Array Value} (h : VRL w S H φ xs vs) (k : VRL w S H φ ys us) : VRL w S H φ (xs ++ ys) (vs ++ us) := by
  refine ⟨by simp [h.1, k.1], fun i x v a b => ?_⟩
  rw [List.getElem?_append] at a
  rw [Array.getElem?_append] at b
  rw [h.1] at a
  split at a
  · rename_i hi
    rw [if_pos hi] at b
    exact h.2 i x v a b
  · rename_i hi
    rw [if_neg hi] at b
    exact k.2 _ x v a b

theorem VRL.list {xs : List AV} {vs : Array Value} (h : VRL w S H φ xs vs) : VRL w S H φ xs vs.toList.toArray := by simpa using h

theorem ofCell_VR (v : Value) : VR w S H φ (ofCell v) v := by
  unfold ofCell
  split
  · rename_i h; exact .im (.sc h)
  · exact .im .any

theorem ofV_VR (v : Value) : VR w S H φ (ofV v) v := by
  unfold ofV
  split
  · rename_i cs
    refine .agg (by simp) (fun i x v a b => ?_)
    simp only [List.getElem?_map] at a
    have : cs.toList[i]? = some v := by simpa using b
    rw [this] at a
    simp at a
    subst a
    exact ofCell_VR v
  · rename_i f first captured
    split
    · rename_i h
      obtain ⟨h1, h2⟩ := h
      have e1 : first = #[] := Array.eq_empty_of_size_eq_zero h1
      have e2 : captured = #[] := Array.eq_empty_of_size_eq_zero h2
      subst e1; subst e2
      exact .fn rfl rfl (fun i x v h => by simp at h) (fun i x v h => by simp at h)
    · exact .im .any
  · exact ofCell_VR _

theorem evalOp_VR {ts : List AV} {a : Act} (h : VRL w S H φ ts a.tmps) (x : Operand) : VR w S H φ (evalOp ts x) (a.eval x) := by
  cases x with
  | tmp t => exact h.getD t
  | const v => exact ofV_VR v
  | global g => exact .im .gp
  | func f => exact .fn rfl rfl (fun i x v h => by simp at h) (fun i x v h => by simp at h)

theorem map_VRL {ts : List AV} {a : Act} (h : VRL w S H φ ts a.tmps) (xs : Array Operand) : VRL w S H φ (xs.toList.map (evalOp ts)) (xs.map a.eval) := by
  refine ⟨by simp, fun i x v p q => ?_⟩
  simp only [List.getElem?_map, Array.getElem?_map] at p q
  have : xs.toList[i]? = xs[i]? := by simp
  rw [this] at p
  cases hx : xs[i]? with
  | none => rw [hx] at p; simp at p
  | some y =>
    rw [hx] at p q
    simp at p q
    subst p; subst q
    exact evalOp_VR h y

theorem toScalar_VR {x : AV} {a v : Value} (h : toScalar x = some a) (hv : VR w S H φ x v) : v = a := by
  unfold toScalar at h
  split at h
  · split at h
    · cases h; exact hv.sc_inv.1
    · cases h
  · cases h

theorem mapM_scalar {cs : List AV} : ∀ {l : List Value}, cs.mapM toScalar = some l → ∀ {vs : List Value}, VRL w S H φ cs vs.toArray → vs = l := by
  induction cs with
  | nil =>
    intro l h vs hv
    simp at h; subst h
    have := hv.1
    simp at this
    exact List.length_eq_zero_iff.1 this.symm
  | cons c cs ih =>
    intro l h vs hv
    simp only [List.mapM_cons, Option.bind_eq_bind, Option.bind_eq_some_iff, Option.pure_def, Option.some.injEq] at h
    obtain ⟨a, ha, as, has, rfl⟩ := h
    cases vs with
    | nil => have := hv.1; simp at this
    | cons v vs =>
      have h0 := hv.2 0 c v (by simp) (by simp)
      rw [toScalar_VR ha h0]
      congr 1
      exact ih has ⟨by simpa using hv.1, fun i x u p q => hv.2 (i + 1) x u (by simpa using p) (by simpa using q)⟩

theorem toV_VR {x : AV} {a v : Value} (h : toV x = some a) (hv : VR w S H φ x v) : v = a := by
  unfold toV at h
  split at h
  · rename_i cs
    simp only [Option.map_eq_some_iff] at h
    obtain ⟨l, hl, rfl⟩ := h
    obtain ⟨vs, rfl, hvs⟩ := hv.agg_inv
    rw [← mapM_scalar hl hvs.list]
  · exact toScalar_VR h hv

theorem VR.one {x : AV} {v : Value} (h : VR w S H φ x v) (ho : oneCell x = true) : (∀ cs, v ≠ .agg cs) ∧ (∀ cs, v ≠ .tuple cs) ∧ v.cells = #[v] := by
  cases h with
  | im h => cases h with
    | any => simp [oneCell] at ho
    | sc h => cases v <;> simp [isScalar] at h <;> simp [Value.cells]
    | agg => simp [oneCell] at ho
    | tup => simp [oneCell] at ho
    | _ => simp [Value.cells]
  | agg => simp [oneCell] at ho
  | tup => simp [oneCell] at ho
  | _ => simp [Value.cells]
end
end Go.Abs

namespace Go.Abs
open Go Go.RowKit

theorem run_pure {α : Type} {P : Program} {w : World} (a : α) : (pure a : Sem α).run P w = .ok a w := rfl

theorem run_bind_ok {α β : Type} {P : Program} {w w' : World} {s : Sem α} {f : α → Sem β} {a : α} (h : s.run P w = .ok a w') : (s >>= f).run P w = (f a).run P w' := by
  rw [Sem.run_bind, h]
  rfl

section
variable {P : Program} {w : World}

theorem tinfo_run {t : TypeId} {i : TypeInfo} (h : tinfo P t = .ok i) : (typeInfo t).run P w = .ok i w := by
  have h := ofOpt_ok h
  unfold typeInfo
  refine (run_bind_ok (a := P) rfl).trans ?_
  simp only [h]
  rfl

theorem tund_run {t : TypeId} {d : TypeDesc} (h : tund P t = .ok d) : (underlying t).run P w = .ok d w := by
  have h := ofOpt_ok h
  unfold underlying
  refine (run_bind_ok (a := P) rfl).trans ?_
  simp only [h]
  rfl

theorem tsize_run {t : TypeId} {n : Nat} (h : tsize P t = .ok n) : (sizeOf t).run P w = .ok n w := by
  obtain ⟨i, hi, h⟩ := bind_ok h
  unfold sizeOf
  refine (run_bind_ok (tinfo_run hi)).trans ?_
  rw [pure_ok h]
  rfl

theorem tagg_run {t : TypeId} {b : Bool} (h : tagg P t = .ok b) : (isAgg t).run P w = .ok b w := by
  obtain ⟨d, hd, h⟩ := bind_ok h
  unfold isAgg
  refine (run_bind_ok (tund_run hd)).trans ?_
  cases d <;> (rw [← pure_ok h]; rfl)

theorem tzero_run {t : TypeId} {z : AV} (h : tzero P t = .ok z) : ∃ v, (zeroValue t).run P w = .ok v w ∧ z = ofV v := by
  obtain ⟨i, hi, h⟩ := bind_ok h
  obtain ⟨v, hv, h⟩ := bind_ok h
  have hv := ofOpt_ok hv
  refine ⟨v, ?_, (pure_ok h).symm⟩
  unfold zeroValue
  refine (run_bind_ok (tinfo_run hi)).trans ?_
  simp only [hv]
  rfl

theorem add_none {b o n : Nat} : Addr.add ⟨b, o, none⟩ n = ⟨b, o + n, none⟩ := by
  unfold Addr.add
  split
  · rename_i h; subst h; rfl
  · rfl

theorem run_load {a : Addr} {v : Value} (h : w.cell? a = some v) (m : Mode := .plain) : (load a m).run P w = .ok v w := by
  simp [load, Sem.run, h]

theorem run_loadCellsFrom {b o : Nat} : ∀ (n i : Nat) (acc : Array Value) (f : Nat → Value), (∀ j, j < n → w.cell? ⟨b, o + (i + j), none⟩ = some (f j)) →
    (loadCellsFrom ⟨b, o, none⟩ i n acc).run P w = .ok (acc ++ ((List.range n).map f).toArray) w := by
  intro n
  induction n with
  | zero => intro i acc f _; simp [loadCellsFrom]
  | succ n ih =>
    intro i acc f h
    unfold loadCellsFrom
    refine (run_bind_ok (run_load (v := f 0) ?_)).trans ?_
    · rw [add_none]; exact h 0 (by omega)
    · rw [ih (i + 1) (acc.push (f 0)) (fun j => f (j + 1)) (fun j hj => by have := h (j + 1) (by omega); rwa [show i + (j + 1) = i + 1 + j by omega] at this)]
      congr 1
      apply Array.toList_inj.1
      rw [List.range_succ_eq_map]
      simp [List.map_map, Function.comp_def]

theorem run_loadCells {b o n : Nat} (f : Nat → Value) (h : ∀ j, j < n → w.cell? ⟨b, o + j, none⟩ = some (f j)) :
    (loadCells ⟨b, o, none⟩ n).run P w = .ok ((List.range n).map f).toArray w := by
  unfold loadCells
  rw [run_loadCellsFrom n 0 #[] f (fun j hj => by rw [Nat.zero_add]; exact h j hj)]
  simp

theorem getRange_ok {cs r : List AV} {off n : Nat} (h : getRange cs off n = .ok r) : r.length = n ∧ off + n ≤ cs.length + (if n = 0 then off else 0) ∧ ∀ i, i < n → r[i]? = cs[off + i]? := by
  unfold getRange at h
  split at h
  · rename_i hl
    cases h
    refine ⟨hl, ?_, fun i hi => ?_⟩
    · simp at hl
      split <;> omega
    · rw [List.getElem?_take, if_pos hi, List.getElem?_drop]
  · cases h

theorem hcells_ok {H : AHeap} {b g : Nat} {cs : List AV} (h : hcells H b g = .ok cs) : H.objs[b]? = some (.cells cs g) := by
  unfold hcells at h
  split at h
  · rename_i cs' g' hb
    split at h
    · rename_i hg; cases h; rw [hb, hg]
    · cases h
  · cases h

theorem cell?_of {b o : Nat} {C : Array Value} {t : TypeId} {fz : Nat × Nat} (h : w.heap[b]? = some (.cells C t fz)) : w.cell? ⟨b, o, none⟩ = C[o]? := by
  simp [World.cell?, h]

variable {n₀ : Nat} {w₀ : World} {S : Nat → Prop} {H : AHeap} {φ : Nat → Nat × Nat × Nat} {D : Nat → Prop}

/-- Cells that lie in the world and read as abstract values. -/
def Cells (w : World) (S : Nat → Prop) (H : List AObj) (φ : Nat → Nat × Nat × Nat) (b o : Nat) (cs : List AV) : Prop :=
  ∀ (i : Nat) (x : AV), cs[i]? = some x → ∃ u, w.cell? ⟨b, o + i, none⟩ = some u ∧ VR w S H φ x u

theorem Rel.cells (R : Rel n₀ w₀ w S H φ D) {b g : Nat} {cs : List AV} (h : H.objs[b]? = some (.cells cs g)) : Cells w S H.objs φ (φ b).1 (φ b).2.1 cs := by
  obtain ⟨C, t, lo, hi, h1, h2, h3, h4, h5⟩ := R.obj b _ h
  intro i x hx
  have hi : i < cs.length := (List.getElem?_eq_some_iff.1 hx).1
  have hc : (φ b).2.1 + i < C.size := by omega
  refine ⟨C[(φ b).2.1 + i], ?_, h4 i x _ hx (by simp [hc])⟩
  rw [cell?_of h1]
  simp [hc]

theorem Cells.sub {b o : Nat} {cs r : List AV} {H : List AObj} (h : Cells w S H φ b o cs) {off n : Nat} (hr : getRange cs off n = .ok r) : Cells w S H φ b (o + off) r := by
  obtain ⟨h1, _, h3⟩ := getRange_ok hr
  intro i x hx
  have hi : i < n := h1 ▸ (List.getElem?_eq_some_iff.1 hx).1
  rw [h3 i hi] at hx
  have := h _ x hx
  rwa [← Nat.add_assoc] at this

theorem VR.iptr_inv {cs : List AV} {v : Value} {H : List AObj} (h : VR w S H φ (.iptr cs) v) : ∃ b o, v = .pointer (some ⟨b, o, none⟩) ∧ S b ∧ Cells w S H φ b o cs ∧ (∃ f : Nat → Value, ∀ (i : Nat) (x : AV), cs[i]? = some x → w.cell? ⟨b, o + i, none⟩ = some (f i) ∧ IVR w S x (f i)) := by
  cases h with
  | im h => cases h with
    | iptr f hS h1 h2 => exact ⟨_, _, rfl, hS, fun i x hx => ⟨f i, h1 i x hx, .im (h2 i x hx)⟩, f, fun i x hx => ⟨h1 i x hx, h2 i x hx⟩⟩

theorem VR.isl_inv {cs : List AV} {len cap : Nat} {ex : Bool} {v : Value} {H : List AObj} (h : VR w S H φ (.isl cs len cap ex) v) : (∃ b o c, v = .slice (some ⟨b, o, none⟩) len c ∧ S b ∧ Cells w S H φ b o cs ∧
    (∃ f : Nat → Value, ∀ (i : Nat) (x : AV), cs[i]? = some x → w.cell? ⟨b, o + i, none⟩ = some (f i) ∧ IVR w S x (f i)) ∧ len ≤ c ∧ cap ≤ c ∧ (ex = true → c = cap)) ∨ (v = .slice none 0 0 ∧ cs = [] ∧ len = 0 ∧ cap = 0 ∧ ex = false) := by
  cases h with
  | im h => cases h with
    | isl f hS h1 h2 hl hc he => exact .inl ⟨_, _, _, rfl, hS, fun i x hx => ⟨f i, h1 i x hx, .im (h2 i x hx)⟩, ⟨f, fun i x hx => ⟨h1 i x hx, h2 i x hx⟩⟩, hl, hc, he⟩
    | isn => exact .inr ⟨rfl, rfl, rfl, rfl, rfl⟩

theorem VR.optr_inv {b g off : Nat} {v : Value} {H : List AObj} {cs : List AV} (h : VR w S H φ (.optr b g off) v) (hb : H[b]? = some (.cells cs g)) : v = .pointer (some ⟨(φ b).1, (φ b).2.1 + off, none⟩) := by
  cases h with
  | im h => cases h
  | optr hb' hg hp =>
    rw [hb] at hb'
    cases hb'
    rw [hp rfl]

theorem VR.optr_form {b g off : Nat} {v : Value} {H : List AObj} (h : VR w S H φ (.optr b g off) v) : ∃ ad, v = .pointer (some ad) := by
  cases h with
  | im h => cases h
  | optr hb' hg hp => exact ⟨_, rfl⟩

theorem VR.osl_inv {b g off k len cap : Nat} {ex : Bool} {v : Value} {H : List AObj} {cs : List AV} (h : VR w S H φ (.osl b g off k len cap ex) v) (hb : H[b]? = some (.cells cs g)) :
    ∃ o c, v = .slice (some ⟨(φ b).1, o, none⟩) len c ∧ (o = (φ b).2.1 + off ∨ c = 0) ∧ len ≤ c ∧ cap ≤ c ∧ (ex = true → c = cap) ∧ o + c * k ≤ (φ b).2.2 := by
  cases h with
  | im h => cases h
  | osl hb' hg hl hc he hp =>
    rw [hb] at hb'
    cases hb'
    obtain ⟨o, rfl, h, hs⟩ := hp rfl
    exact ⟨o, _, rfl, h, hl, hc, he, hs⟩

theorem VR.osl_form {b g off k len cap : Nat} {ex : Bool} {v : Value} {H : List AObj} (h : VR w S H φ (.osl b g off k len cap ex) v) : ∃ ad c, v = .slice (some ad) len c := by
  cases h with
  | im h => cases h
  | osl hb' hg hl hc he hp => exact ⟨_, _, rfl⟩

theorem globOf_mem (g : Nat) : ∀ l : List (Nat × List Value), globOf g l = [] ∨ (g, globOf g l) ∈ l := by
  intro l
  induction l with
  | nil => exact .inl rfl
  | cons p l ih =>
    obtain ⟨b, cs⟩ := p
    unfold globOf
    split
    · rename_i h
      rw [Nat.eq_of_beq_eq_true h]
      exact .inr List.mem_cons_self
    · exact ih.imp id (List.mem_cons_of_mem _)

theorem readAt_sim (R : Rel n₀ w₀ w S H φ D) {p : AV} {v : Value} {n : Nat} {cs : List AV} {rd : List Nat} (h : readAt H p n = .ok (cs, rd)) (hv : VR w S H.objs φ p v) :
    ∃ b o, v = .pointer (some ⟨b, o, none⟩) ∧ cs.length = n ∧ Cells w S H.objs φ b o cs := by
  unfold readAt at h
  split at h
  · rename_i cs0
    obtain ⟨r, hr, h⟩ := bind_ok h
    cases pure_ok h
    obtain ⟨b, o, rfl, _, hc, _⟩ := hv.iptr_inv
    exact ⟨b, o, rfl, (getRange_ok hr).1, by simpa using hc.sub hr⟩
  · rename_i b g off
    obtain ⟨cs0, h0, h⟩ := bind_ok h
    obtain ⟨r, hr, h⟩ := bind_ok h
    cases pure_ok h
    have hb := hcells_ok h0
    have := hv.optr_inv hb
    exact ⟨_, _, this, (getRange_ok hr).1, (R.cells hb).sub hr⟩
  · rename_i g off
    obtain ⟨r, hr, h⟩ := bind_ok h
    cases pure_ok h
    have hvv : v = .pointer (some ⟨g, off, none⟩) := by
      cases hv with
      | im h => cases h; rfl
    have hc : Cells w S H.objs φ g 0 ((globOf g globs).map ofCell) := by
      intro i x hx
      simp only [List.getElem?_map, Option.map_eq_some_iff] at hx
      obtain ⟨u, hu, rfl⟩ := hx
      have hm : (g, globOf g globs) ∈ globs := by
        rcases globOf_mem g globs with hq | hq
        · rw [hq] at hu; simp at hu
        · exact hq
      refine ⟨u, ?_, ofCell_VR u⟩
      rw [Nat.zero_add]
      exact (R.glob g _ hm).2 i u hu
    have := hc.sub hr
    rw [Nat.zero_add] at this
    exact ⟨g, off, hvv, (getRange_ok hr).1, this⟩
  · cases h

theorem Cells.fn {b o : Nat} {cs : List AV} {H : List AObj} (h : Cells w S H φ b o cs) : ∃ f : Nat → Value, (∀ j, j < cs.length → w.cell? ⟨b, o + j, none⟩ = some (f j)) ∧ ∀ (i : Nat) (x : AV), cs[i]? = some x → VR w S H φ x (f i) := by
  refine ⟨fun i => (w.cell? ⟨b, o + i, none⟩).getD undef, fun j hj => ?_, fun i x hx => ?_⟩
  · obtain ⟨u, hu, _⟩ := h j cs[j] (by simp [hj])
    simp only [hu, Option.getD_some]
  · obtain ⟨u, hu, hr⟩ := h i x hx
    simp only [hu, Option.getD_some]; exact hr

theorem Cells.load {b o : Nat} {cs : List AV} {H : List AObj} (h : Cells w S H φ b o cs) : ∃ vs, (loadCells ⟨b, o, none⟩ cs.length).run P w = .ok vs w ∧ VRL w S H φ cs vs := by
  obtain ⟨f, h1, h2⟩ := h.fn
  refine ⟨_, run_loadCells f h1, by simp, fun i x v p q => ?_⟩
  have hi : i < cs.length := (List.getElem?_eq_some_iff.1 p).1
  simp [hi] at q
  subst q
  exact h2 i x p

theorem loadA_sim (R : Rel n₀ w₀ w S H φ D) {p x : AV} {v : Value} {t : TypeId} {rd : List Nat} (h : loadA P H t p = .ok (x, rd)) (hv : VR w S H.objs φ p v) :
    ∃ u, (Instr.loadAt t v).run P w = .ok u w ∧ VR w S H.objs φ x u := by
  unfold loadA at h
  obtain ⟨g, hg, h⟩ := bind_ok h
  cases g with
  | true =>
    simp only [if_true] at h
    obtain ⟨n, hn, h⟩ := bind_ok h
    obtain ⟨⟨cs, rd'⟩, hr, h⟩ := bind_ok h
    cases pure_ok h
    obtain ⟨b, o, rfl, rfl, hc⟩ := readAt_sim R hr hv
    obtain ⟨vs, h1, h2⟩ := hc.load (P := P)
    refine ⟨.agg vs, ?_, .agg h2.1 h2.2⟩
    unfold Instr.loadAt
    refine (run_bind_ok (a := ⟨b, o, none⟩) (w' := w) rfl).trans ?_
    unfold loadVar
    refine (run_bind_ok (tagg_run hg)).trans ?_
    simp only [if_true]
    refine (run_bind_ok (tsize_run hn)).trans ?_
    exact (run_bind_ok h1).trans rfl
  | false =>
    simp only [Bool.false_eq_true, if_false] at h
    obtain ⟨⟨cs, rd'⟩, hr, h⟩ := bind_ok h
    obtain ⟨b, o, rfl, hl, hc⟩ := readAt_sim R hr hv
    match cs, hl, h, hc with
    | [c], _, h, hc =>
      cases pure_ok h
      obtain ⟨u, hu, hru⟩ := hc 0 _ rfl
      refine ⟨u, ?_, hru⟩
      unfold Instr.loadAt
      refine (run_bind_ok (a := ⟨b, o, none⟩) (w' := w) rfl).trans ?_
      unfold loadVar
      refine (run_bind_ok (tagg_run hg)).trans ?_
      simp only [Bool.false_eq_true, if_false]
      exact run_load hu
end
end Go.Abs

namespace Go.Abs
open Go Go.RowKit

/-- A value that one cell can hold. -/
def plainV : Value → Bool
  | .agg _ | .tuple _ => false
  | _ => true

section
variable {P : Program} {w : World}

theorem run_store {a : Addr} {v : Value} (h : (w.cell? a).isSome = true) (hf : w.frozen? a = false) (hv : plainV v = true) (m : Go.Mode := .plain) :
    (store a v m).run P w = .ok () (w.setCell a v) := by
  cases hc : w.cell? a with
  | none => rw [hc] at h; cases h
  | some u => cases v <;> first | (simp [plainV] at hv; done) | simp [store, Sem.run, hc, hf]

/-- Cells have been written into one block. -/
structure Wrote (w w' : World) (b : Nat) (C' : Array Value) (t : TypeId) (fz : Nat × Nat) : Prop where
  here : w'.heap[b]? = some (.cells C' t fz)
  other : ∀ k, k ≠ b → w'.heap[k]? = w.heap[k]?
  size : w'.heap.size = w.heap.size
  os : w'.os = w.os
  tape : w'.tape = w.tape
  output : w'.output = w.output

theorem setCell_wrote {b j : Nat} {C : Array Value} {t : TypeId} {fz : Nat × Nat} (h : w.heap[b]? = some (.cells C t fz)) (v : Value) :
    Wrote w (w.setCell ⟨b, j, none⟩ v) b (C.setIfInBounds j v) t fz := by
  refine ⟨?_, fun k hk => ?_, ?_, rfl, rfl, rfl⟩
  · simp [World.setCell, Array.getElem?_modify, h]
  · simp only [World.setCell, Array.getElem?_modify]
    rw [if_neg (by omega)]
  · simp [World.setCell]

theorem run_storeCells {b o : Nat} : ∀ (vs : List Value) (i : Nat) (w : World) (C : Array Value) (t : TypeId) (lo hi : Nat), w.heap[b]? = some (.cells C t (lo, hi)) →
    (∀ j, j < C.size → ¬(lo ≤ j ∧ j < hi)) → o + i + vs.length ≤ C.size → (∀ v ∈ vs, plainV v = true) →
    ∃ w' C', (storeCells ⟨b, o, none⟩ vs i).run P w = .ok () w' ∧ Wrote w w' b C' t (lo, hi) ∧ C'.size = C.size ∧
      ∀ j, C'[j]? = if o + i ≤ j ∧ j < o + i + vs.length then vs[j - (o + i)]? else C[j]? := by
  intro vs
  induction vs with
  | nil =>
    intro i w C t lo hi h _ _ _
    refine ⟨w, C, rfl, ⟨h, fun _ _ => rfl, rfl, rfl, rfl, rfl⟩, rfl, fun j => ?_⟩
    rw [if_neg (by simp only [List.length_nil]; omega)]
  | cons v vs ih =>
    intro i w C t lo hi h hf hl hv
    simp only [List.length_cons] at hl
    have hw := setCell_wrote (w := w) (j := o + i) h v
    obtain ⟨w', C', h1, h2, h3, h4⟩ := ih (i + 1) (w.setCell ⟨b, o + i, none⟩ v) _ t lo hi hw.here (by simpa using hf) (by simp; omega) (fun u hu => hv u (by simp [hu]))
    refine ⟨w', C', ?_, ⟨h2.here, fun k hk => (h2.other k hk).trans (hw.other k hk), h2.size.trans hw.size, h2.os.trans hw.os, h2.tape.trans hw.tape, h2.output.trans hw.output⟩, by simpa using h3, fun j => ?_⟩
    · unfold storeCells
      rw [add_none]
      refine (run_bind_ok (run_store ?_ ?_ (hv v (by simp)))).trans h1
      · rw [cell?_of h]
        have : o + i < C.size := by omega
        simp [this]
      · have := hf (o + i) (by omega)
        simp only [World.frozen?, h]
        simp
        omega
    · rw [h4, Array.getElem?_setIfInBounds]
      by_cases e : o + i = j
      · subst e
        rw [if_neg (by omega), if_pos (by simp)]
        have : o + i < C.size := by omega
        simp [this]
      · by_cases e2 : o + (i + 1) ≤ j ∧ j < o + (i + 1) + vs.length
        · rw [if_pos e2, if_pos (by simp only [List.length_cons]; omega)]
          rw [show j - (o + i) = (j - (o + (i + 1))) + 1 by omega]
          simp
        · rw [if_neg e2, if_neg e, if_neg (by simp only [List.length_cons]; omega)]

variable {n₀ : Nat} {w₀ : World} {S : Nat → Prop} {H : AHeap} {φ : Nat → Nat × Nat × Nat} {D : Nat → Prop}

/-- What an operation has come to. -/
def Good (n₀ : Nat) (w₀ w : World) (S : Nat → Prop) (H : AHeap) (φ : Nat → Nat × Nat × Nat) (D : Nat → Prop) (x : AV) (e : Eff) (v : Value) (w' : World) : Prop :=
  ∃ S' φ', Rel n₀ w₀ w' S' (H.apply e) φ' D ∧ Ext n₀ w S H.objs φ D w' S' (H.apply e).objs φ' D ∧ VR w' S' (H.apply e).objs φ' x v

theorem apply_same (H : AHeap) {e : Eff} (h1 : e.set = none) (h2 : e.frz = []) : H.apply e = H := by
  unfold AHeap.apply
  rw [h1, h2]
  rfl

theorem Good.same (R : Rel n₀ w₀ w S H φ D) {x : AV} {e : Eff} {v : Value} (h1 : e.set = none) (h2 : e.frz = []) (hv : VR w S H.objs φ x v) : Good n₀ w₀ w S H φ D x e v w := by
  unfold Good
  rw [apply_same H h1 h2]
  exact ⟨S, φ, R, Ext.refl, hv⟩

theorem cells_VRL {x : AV} {v : Value} {H : List AObj} (hv : VR w S H φ x v) (h : x.cells.all oneCell = true) : VRL w S H φ x.cells v.cells ∧ ∀ u ∈ v.cells, plainV u = true := by
  have key : ∀ {y : AV} {u : Value}, VR w S H φ y u → oneCell y = true → plainV u = true := by
    intro y u hu ho
    obtain ⟨h1, h2, _⟩ := hu.one ho
    cases u <;> first | rfl | exact absurd rfl (h1 _) | exact absurd rfl (h2 _)
  by_cases hx : ∃ cs, x = .agg cs
  · obtain ⟨cs, rfl⟩ := hx
    obtain ⟨vs, rfl, hvs⟩ := hv.agg_inv
    refine ⟨hvs, fun u hu => ?_⟩
    have hu' : u ∈ vs := hu
    obtain ⟨i, hi, rfl⟩ := Array.mem_iff_getElem.1 hu'
    obtain ⟨y, hy, hr⟩ := hvs.get' (i := i) (v := vs[i]) (by simp [hi])
    exact key hr (List.all_eq_true.1 h y (List.mem_of_getElem? hy))
  · have hc : x.cells = [x] := by
      cases x <;> first | rfl | exact absurd ⟨_, rfl⟩ hx
    rw [hc] at h ⊢
    simp at h
    obtain ⟨h1, h2, h3⟩ := hv.one h
    rw [h3]
    exact ⟨VRL.cons (vs := []) hv VRL.nil, fun u hu => by simp at hu; subst hu; exact key hv h⟩

theorem VRL.mem_plain {cs : List AV} {vs : Array Value} {H : List AObj} (h : VRL w S H φ cs vs) (ho : cs.all oneCell = true) : ∀ u ∈ vs, plainV u = true := by
  intro u hu
  obtain ⟨i, hi, rfl⟩ := Array.mem_iff_getElem.1 hu
  obtain ⟨y, hy, hr⟩ := h.get' (i := i) (v := vs[i]) (by simp [hi])
  have := List.all_eq_true.1 ho y (List.mem_of_getElem? hy)
  obtain ⟨h1, h2, _⟩ := hr.one this
  cases hu' : vs[i] <;> first | rfl | exact absurd hu' (h1 _) | exact absurd hu' (h2 _)

theorem getElem?_putRange {cs new : List AV} {off : Nat} (h : off + new.length ≤ cs.length) (j : Nat) :
    (putRange cs off new)[j]? = if off ≤ j ∧ j < off + new.length then new[j - off]? else cs[j]? := by
  unfold putRange
  rw [List.append_assoc, List.getElem?_append, List.getElem?_append]
  have hl : (cs.take off).length = off := by simp; omega
  rw [hl]
  by_cases h1 : j < off
  · rw [if_pos h1, if_neg (by omega), List.getElem?_take, if_pos h1]
  · rw [if_neg h1]
    by_cases h2 : j - off < new.length
    · rw [if_pos h2, if_pos (by omega)]
    · rw [if_neg h2, if_neg (by omega), List.getElem?_drop]
      congr 1
      omega

theorem length_putRange {cs new : List AV} {off : Nat} (h : off + new.length ≤ cs.length) : (putRange cs off new).length = cs.length := by
  unfold putRange
  simp
  omega

theorem Wrote.below {w' : World} {b : Nat} {C' : Array Value} {t : TypeId} {fz : Nat × Nat} (h : Wrote w w' b C' t fz) (hn : n₀ ≤ b) : Below n₀ w w' :=
  ⟨h.os, h.tape, h.output, by rw [h.size]; exact Nat.le_refl _, fun k hk => h.other k (by omega)⟩

/-- Cells are written into an object that is not frozen. -/
theorem writeAt_sim (R : Rel n₀ w₀ w S H φ D) {b g off : Nat} {new : List AV} {e : Eff} (h : writeAt H b g off new = .ok e) {vs : List Value} (hv : VRL w S H.objs φ new vs.toArray)
    (hp : ∀ v ∈ vs, plainV v = true) : e.frz = [] ∧ ∃ w', (storeCells ⟨(φ b).1, (φ b).2.1 + off, none⟩ vs 0).run P w = .ok () w' ∧
      ∃ φ', Rel n₀ w₀ w' S (H.apply e) φ' D ∧ Ext n₀ w S H.objs φ D w' S (H.apply e).objs φ' D ∧ φ' b = φ b := by
  unfold writeAt at h
  obtain ⟨cs, hcs, h⟩ := bind_ok h
  have hb := hcells_ok hcs
  split at h
  · cases h
  rename_i hz
  split at h
  · rename_i hl
    cases pure_ok h
    refine ⟨rfl, ?_⟩
    obtain ⟨C, t, lo, hi, h1, h2, h3, h4, h5⟩ := R.obj b _ hb
    have hlen : new.length = vs.length := by simpa using hv.1
    obtain ⟨w', C', r1, r2, r3, r4⟩ := run_storeCells (P := P) (b := (φ b).1) (o := (φ b).2.1 + off) vs 0 w C t lo hi h1 h2 (by omega) hp
    refine ⟨w', r1, upd φ b (φ b), ?_⟩
    have hbl : b < H.objs.length := (List.getElem?_eq_some_iff.1 hb).1
    have hS : ¬ S (φ b).1 := fun hs => hz (by simpa using h5.2 hs)
    have hx : ∀ o, H.objs[b]? = some o → OExt o (.cells (putRange cs off new) g) (φ b) (φ b) := by
      intro o ho
      rw [hb] at ho; cases ho
      exact ⟨_, _, rfl, Nat.le_refl _, fun _ => ⟨rfl, length_putRange hl⟩⟩
    have hn := R.place b _ hb rfl
    have E := ext_set R (w' := w') (p := φ b) (Nat.le_of_lt hbl) (fun k hk _ => r2.other k hk) hS hx
    have hD : ¬ D (φ b).1 := fun hd => by
      have := (R.dfr _ hd).2.2
      rw [h1] at this; cases this
    refine ⟨?_, E, upd_same _ _ _⟩
    refine rel_set R (Nat.le_of_lt hbl) (r2.below hn) (fun k hk _ => r2.other k hk) hS rfl hn hD (fun hb' => hz (by simpa using hb')) (fun b' o ho hlv hq => R.inj b' b o _ ho hb hlv rfl hq) hx ?_
    refine ⟨C', t, lo, hi, ?_, by rw [r3]; exact h2, ?_, ?_, ?_⟩
    · rw [upd_same]; exact r2.here
    · rw [upd_same, length_putRange hl, r3]; exact h3
    · rw [upd_same]
      intro i x v hi' hv'
      rw [getElem?_putRange hl] at hi'
      rw [r4] at hv'
      by_cases hr : off ≤ i ∧ i < off + new.length
      · rw [if_pos hr] at hi'
        rw [if_pos (by omega)] at hv'
        refine (hv.2 (i - off) x v hi' ?_).ext E
        rw [show (φ b).2.1 + i - ((φ b).2.1 + off + 0) = i - off by omega] at hv'
        simpa using hv'
      · rw [if_neg hr] at hi'
        rw [if_neg (by omega)] at hv'
        exact (h4 i x v hi' hv').ext E
    · rw [upd_same]; exact h5
  · cases h

theorem storeA_sim (R : Rel n₀ w₀ w S H φ D) {t : TypeId} {p x : AV} {e : Eff} (h : storeA P H t p x = .ok e) {pv xv : Value} (hp : VR w S H.objs φ p pv) (hx : VR w S H.objs φ x xv) :
    ∃ w', (Instr.storeAt t pv xv).run P w = .ok () w' ∧ Good n₀ w₀ w S H φ D AV.undef e undef w' := by
  unfold storeA at h
  obtain ⟨n, hn, h⟩ := bind_ok h
  split at h
  · rename_i hc
    simp only [Bool.and_eq_true, decide_eq_true_eq] at hc
    split at h
    · rename_i b g off _
      obtain ⟨hvl, hpl⟩ := cells_VRL hx hc.2
      obtain ⟨cs, hcs, _⟩ := bind_ok h
      have hb := hcells_ok hcs
      rw [hp.optr_inv hb]
      obtain ⟨_, w', r1, φ', r2, r3, _⟩ := writeAt_sim (P := P) R h (vs := xv.cells.toList) (by simpa using hvl) (by simpa using hpl)
      refine ⟨w', ?_, S, φ', r2, r3, VR.undef⟩
      unfold Instr.storeAt
      refine (run_bind_ok (a := ⟨(φ b).1, (φ b).2.1 + off, none⟩) (w' := w) rfl).trans ?_
      unfold storeVar
      refine (run_bind_ok (tsize_run hn)).trans ?_
      have : xv.cells.size = n := by rw [← hvl.1]; exact hc.1
      simp only [this, ne_eq, not_true, if_false]
      exact r1
    · cases h
  · cases h

/-- A new block. -/
theorem newObj_run (o : Obj) : (newObj o).run P w = .ok w.heap.size { w with heap := w.heap.push o } := rfl

theorem push_below (o : Obj) (hn : n₀ ≤ w.heap.size) : Below n₀ w { w with heap := w.heap.push o } :=
  ⟨rfl, rfl, rfl, by simp, fun k hk => by simp only [Array.getElem?_push]; rw [if_neg (by omega)]⟩

theorem newA_ok {slot : Option Nat} {o : AObj} {b : Nat} {e : Eff} (h : newA H slot o = .ok (b, e)) : e.set = some (b, o) ∧ e.frz = [] ∧ b ≤ H.objs.length ∧ (∀ o', H.objs[b]? = some o' → o' = .dead) := by
  unfold newA at h
  split at h
  · cases h
    exact ⟨rfl, rfl, Nat.le_refl _, fun o' ho => by simp at ho⟩
  · rename_i s
    split at h
    · rename_i hs
      cases h
      refine ⟨rfl, rfl, Nat.le_of_lt (List.getElem?_eq_some_iff.1 hs).1, fun o' ho => ?_⟩
      rw [hs] at ho; cases ho; rfl
    · cases h

theorem newA_frz (R : Rel n₀ w₀ w S H φ D) {slot : Option Nat} {o : AObj} {b : Nat} {e : Eff} (h : newA H slot o = .ok (b, e)) : b ∉ H.frz := by
  intro hb
  obtain ⟨cs, g, hc⟩ := R.frzc b hb
  cases (newA_ok h).2.2.2 _ hc

/-- An object is laid in a new block; the world may have drawn before. -/
theorem new_sim (R : Rel n₀ w₀ w S H φ D) {slot : Option Nat} {o : AObj} {b : Nat} {e e' : Eff} (h : newA H slot o = .ok (b, e)) (he : e'.set = e.set) (hf : e'.frz = []) {ob : Obj} (sz : Nat)
    (hor : ∀ H', Ext n₀ w S H.objs φ D { w with heap := w.heap.push ob } S H' (upd φ b (w.heap.size, 0, sz)) D → OR { w with heap := w.heap.push ob } S H' H.frz (upd φ b (w.heap.size, 0, sz)) D b o) :
    ∃ φ', φ' b = (w.heap.size, 0, sz) ∧ Rel n₀ w₀ { w with heap := w.heap.push ob } S (H.apply e') φ' D ∧ Ext n₀ w S H.objs φ D { w with heap := w.heap.push ob } S (H.apply e').objs φ' D ∧
      (H.apply e').objs[b]? = some o := by
  obtain ⟨h1, h2, h3, h4⟩ := newA_ok h
  have hap : H.apply e' = { H with objs := setObj H.objs b o } := by
    unfold AHeap.apply
    rw [he, h1, hf]
    rfl
  have hx : ∀ o', H.objs[b]? = some o' → OExt o' o (φ b) (w.heap.size, 0, sz) := by
    intro o' ho
    rw [h4 o' ho]; trivial
  have hS : ¬ S w.heap.size := fun hs => Nat.lt_irrefl _ (R.szS _ hs)
  have hw : ∀ k, k ≠ w.heap.size → k < w.heap.size → ({ w with heap := w.heap.push ob } : World).heap[k]? = w.heap[k]? := by
    intro k _ hk
    simp only [Array.getElem?_push]
    rw [if_neg (by omega)]
  have E := ext_set R (w' := { w with heap := w.heap.push ob }) (p := (w.heap.size, 0, sz)) h3 hw hS hx
  refine ⟨upd φ b (w.heap.size, 0, sz), upd_same _ _ _, ?_, ?_, ?_⟩
  · rw [hap]
    refine rel_set R h3 (push_below ob R.size) hw hS rfl R.size ?_ (newA_frz R h) ?_ hx (hor _ E)
    · intro hd
      have := (R.dfr _ hd).2.2
      have := (Array.getElem?_eq_some_iff.1 this).1
      omega
    · intro b' o' ho hl hq
      have := R.lt ho hl
      omega
  · rw [hap]; exact E
  · rw [hap]
    simp [getElem?_setObj _ _ _ h3]

end
end Go.Abs

namespace Go.Abs
open Go Go.RowKit

section
variable {P : Program} {w : World}

theorem mapM_run {α β : Type} {f : α → Sem β} {g : α → R β} (hfg : ∀ a b, g a = .ok b → (f a).run P w = .ok b w) :
    ∀ (l : List α) (r : List β), l.mapM g = .ok r → (l.mapM f).run P w = .ok r w := by
  intro l
  induction l with
  | nil => intro r h; simp only [List.mapM_nil] at h ⊢; rw [← pure_ok h]; rfl
  | cons a l ih =>
    intro r h
    simp only [List.mapM_cons] at h ⊢
    obtain ⟨b, hb, h⟩ := bind_ok h
    obtain ⟨bs, hbs, h⟩ := bind_ok h
    rw [← pure_ok h]
    refine (run_bind_ok (hfg a b hb)).trans ?_
    exact (run_bind_ok (ih bs hbs)).trans rfl

theorem mapMA_run {α β : Type} {f : α → Sem β} {g : α → R β} (hfg : ∀ a b, g a = .ok b → (f a).run P w = .ok b w) (l : Array α) (r : List β) (h : l.toList.mapM g = .ok r) :
    (l.mapM f).run P w = .ok r.toArray w := by
  rw [Array.mapM_eq_mapM_toList, map_eq_pure_bind]
  exact (run_bind_ok (mapM_run hfg _ r h)).trans rfl

variable {n₀ : Nat} {w₀ : World} {S : Nat → Prop} {H : AHeap} {φ : Nat → Nat × Nat × Nat} {D : Nat → Prop}

theorem foldl_set : ∀ (l : List Value) (k off : Nat) (C : Array Value), off + k + l.length ≤ C.size →
    ((l.zipIdx k).foldl (fun cs (p : Value × Nat) => cs.setIfInBounds (off + p.2) p.1) C).size = C.size ∧
    ∀ j, ((l.zipIdx k).foldl (fun cs (p : Value × Nat) => cs.setIfInBounds (off + p.2) p.1) C)[j]? = if off + k ≤ j ∧ j < off + k + l.length then l[j - (off + k)]? else C[j]? := by
  intro l
  induction l with
  | nil => intro k off C _; exact ⟨rfl, fun j => by rw [if_neg (by simp only [List.length_nil]; omega)]; rfl⟩
  | cons v l ih =>
    intro k off C h
    simp only [List.length_cons] at h
    obtain ⟨h1, h2⟩ := ih (k + 1) off (C.setIfInBounds (off + k) v) (by simp; omega)
    simp only [List.zipIdx_cons, List.foldl_cons]
    refine ⟨h1.trans (by simp), fun j => ?_⟩
    rw [h2, Array.getElem?_setIfInBounds]
    by_cases e : off + k = j
    · subst e
      have : off + k < C.size := by omega
      rw [if_neg (by omega), if_pos rfl, if_pos this, if_pos (by simp only [List.length_cons]; omega)]
      simp
    · by_cases e2 : off + (k + 1) ≤ j ∧ j < off + (k + 1) + l.length
      · rw [if_pos e2, if_pos (by simp only [List.length_cons]; omega), show j - (off + k) = (j - (off + (k + 1))) + 1 by omega]
        simp
      · rw [if_neg e2, if_neg e, if_neg (by simp only [List.length_cons]; omega)]

/-- Parts that are related one by one. -/
def Parts (w : World) (S : Nat → Prop) (H : List AObj) (φ : Nat → Nat × Nat × Nat) : List (Nat × AV) → List (Nat × Value) → Prop
  | [], [] => True
  | (i, x) :: xs, (j, v) :: vs => i = j ∧ VR w S H φ x v ∧ Parts w S H φ xs vs
  | _, _ => False

theorem parts_map {ts : List AV} {a : Act} {H : List AObj} (h : VRL w S H φ ts a.tmps) : ∀ (ps : List (Nat × Operand)),
    Parts w S H φ (ps.map fun p => (p.1, evalOp ts p.2)) (ps.map fun p => (p.1, a.eval p.2))
  | [] => trivial
  | p :: ps => ⟨rfl, evalOp_VR h p.2, parts_map h ps⟩

theorem fill_sim {place : Nat → Option (Nat × Nat)} {H : List AObj} : ∀ (ps : List (Nat × AV)) (qs : List (Nat × Value)) (cs : List AV) (C : Array Value) (r : List AV),
    Parts w S H φ ps qs → VRL w S H φ cs C → fillA place cs ps = .ok r → ∃ R', Instr.fill place C qs = some R' ∧ VRL w S H φ r R' := by
  intro ps
  induction ps with
  | nil =>
    intro qs cs C r hp hc h
    cases qs with
    | nil => cases h; exact ⟨C, rfl, hc⟩
    | cons => cases hp
  | cons p ps ih =>
    intro qs cs C r hp hc h
    obtain ⟨i, x⟩ := p
    cases qs with
    | nil => cases hp
    | cons q qs =>
      obtain ⟨j, v⟩ := q
      obtain ⟨rfl, hx, hp⟩ := hp
      unfold fillA at h
      unfold Instr.fill
      cases hpl : place i with
      | none => rw [hpl] at h; cases h
      | some os =>
        obtain ⟨off, size⟩ := os
        rw [hpl] at h
        simp only at h ⊢
        split at h
        · cases h
        · rename_i hn
          simp only [not_or, Decidable.not_not, Nat.not_lt, Bool.not_eq_true, Bool.not_eq_false'] at hn
          obtain ⟨h1, h2, h3⟩ := hn
          have h3 : x.cells.all oneCell = true := by simpa using h3
          obtain ⟨hl, _⟩ := cells_VRL hx h3
          have e1 : v.cells.size = size := by rw [← hl.1]; exact h1
          have e2 : ¬ (off + v.cells.size > C.size) := by rw [← hl.1, ← hc.1]; omega
          rw [if_neg (by simp [e1]; rw [← e1]; omega)]
          have hsz : off + 0 + v.cells.toList.length ≤ C.size := by simp; omega
          obtain ⟨f1, f2⟩ := foldl_set v.cells.toList 0 off C hsz
          have e3 : (v.cells.zipIdx.foldl (fun cs (x : Value × Nat) => match x with | (c, j) => cs.setIfInBounds (off + j) c) C) = ((v.cells.toList.zipIdx 0).foldl (fun cs (p : Value × Nat) => cs.setIfInBounds (off + p.2) p.1) C) := by
            rw [← Array.foldl_toList]
            simp
          rw [e3]
          refine ih qs _ _ r hp ⟨?_, fun k y u hy hu => ?_⟩ h
          · rw [length_putRange (by rw [h1]; omega), f1]; exact hc.1
          · rw [getElem?_putRange (by rw [h1]; omega)] at hy
            rw [f2] at hu
            have hle : v.cells.toList.length = x.cells.length := by simp [hl.1]
            by_cases hr : off ≤ k ∧ k < off + x.cells.length
            · rw [if_pos hr] at hy
              rw [if_pos (by omega)] at hu
              refine hl.2 (k - off) y u hy ?_
              simpa using hu
            · rw [if_neg hr] at hy
              rw [if_neg (by omega)] at hu
              exact hc.2 k y u hy hu

theorem ofV_cells {H : List AObj} (v : Value) : VRL w S H φ (ofV v).cells v.cells := by
  have h := ofV_VR (w := w) (S := S) (H := H) (φ := φ) v
  by_cases hv : ∃ cs, v = .agg cs
  · obtain ⟨cs, rfl⟩ := hv
    obtain ⟨vs, e, hvs⟩ := VR.agg_inv (cs := cs.toList.map ofCell) h
    cases e
    exact hvs
  · have e1 : (ofV v).cells = [ofV v] := by
      cases v with
      | agg cs => exact absurd ⟨_, rfl⟩ hv
      | func f a b =>
        cases f with
        | func k => simp only [ofV]; split <;> rfl
        | _ => simp only [ofV, ofCell]; split <;> rfl
      | _ => simp only [ofV, ofCell]; split <;> rfl
    have e2 : v.cells = #[v] := by cases v <;> first | rfl | exact absurd ⟨_, rfl⟩ hv
    rw [e1, e2]
    exact VRL.cons (vs := []) h VRL.nil

theorem fieldSizes_run {fs : Array Field} {r : List (Nat × Nat)} (h : fieldSizes P fs.toList = .ok r) : (fs.mapM fun (f : Field) => (do pure (f.offset, ← sizeOf f.type) : Sem (Nat × Nat))).run P w = .ok r.toArray w := by
  refine mapMA_run (g := fun (f : Field) => (do pure (f.offset, ← tsize P f.type) : R (Nat × Nat))) (fun f b hb => ?_) fs r h
  obtain ⟨n, hn, hb⟩ := bind_ok hb
  rw [← pure_ok hb]
  exact (run_bind_ok (tsize_run hn)).trans rfl

theorem buildA_sim {t : TypeId} {ps : List (Nat × AV)} {qs : Array (Nat × Value)} {x : AV} {H : List AObj} (h : buildA P t ps = .ok x) (hp : Parts w S H φ ps qs.toList) :
    ∃ v, (Instr.build t qs).run P w = .ok v w ∧ VR w S H φ x v := by
  unfold buildA at h
  obtain ⟨z, hz, h⟩ := bind_ok h
  obtain ⟨zv, hzr, rfl⟩ := tzero_run (P := P) (w := w) hz
  obtain ⟨d, hd, h⟩ := bind_ok h
  unfold Instr.build
  rw [run_bind_ok hzr, run_bind_ok (tund_run hd)]
  cases d with
  | struct fields =>
    obtain ⟨places, hpl, h⟩ := bind_ok h
    obtain ⟨r, hr, h⟩ := bind_ok h
    cases pure_ok h
    obtain ⟨R', h1, h2⟩ := fill_sim ps qs.toList _ _ _ hp (ofV_cells zv) hr
    refine ⟨.agg R', ?_, .agg h2.1 h2.2⟩
    simp only
    rw [run_bind_ok (fieldSizes_run hpl)]
    have : (fun (i : Nat) => places.toArray[i]?) = fun i => places[i]? := by funext i; simp
    rw [this, h1]
    rfl
  | array n elem =>
    obtain ⟨size, hs, h⟩ := bind_ok h
    obtain ⟨r, hr, h⟩ := bind_ok h
    cases pure_ok h
    obtain ⟨R', h1, h2⟩ := fill_sim ps qs.toList _ _ _ hp (ofV_cells zv) hr
    refine ⟨.agg R', ?_, .agg h2.1 h2.2⟩
    simp only
    rw [run_bind_ok (tsize_run hs), h1]
    rfl
  | _ => cases h

/-- The zero cells of n elements, as the model makes them. -/
theorem replicateCells_get (z : List AV) : ∀ (n i : Nat), (replicateCells z n)[i]? = if i < n * z.length then z[i % z.length]? else none := by
  intro n
  induction n with
  | zero => intro i; simp [replicateCells]
  | succ n ih =>
    intro i
    unfold replicateCells
    rw [List.getElem?_append, ih]
    by_cases h0 : z.length = 0
    · have : z = [] := List.length_eq_zero_iff.1 h0
      subst this
      simp
    · by_cases h : i < z.length
      · rw [if_pos h, if_pos (by rw [Nat.succ_mul]; omega), Nat.mod_eq_of_lt h]
      · rw [if_neg h]
        have e : i % z.length = (i - z.length) % z.length := by
          rw [Nat.mod_eq_sub_mod (by omega)]
        rw [e]
        by_cases h2 : i - z.length < n * z.length
        · rw [if_pos h2, if_pos (by rw [Nat.succ_mul]; omega)]
        · rw [if_neg h2, if_neg (by rw [Nat.succ_mul]; omega)]

theorem zeroRow_get (zero : Array Value) (n i : Nat) (hi : i < n) (hz : 0 < zero.size) : (((Array.range n).map (fun j => zero[j % zero.size]!)))[i]? = zero[i % zero.size]? := by
  have : i % zero.size < zero.size := Nat.mod_lt _ hz
  simp [hi, this]

theorem length_replicateCells (z : List AV) (n : Nat) : (replicateCells z n).length = n * z.length := by
  induction n with
  | zero => simp [replicateCells]
  | succ n ih => simp [replicateCells, ih, Nat.succ_mul]; omega

/-- Zero cells in the abstract, and the model's. -/
theorem zeroCellsA_sim {elem : TypeId} {n size : Nat} {cs : List AV} {H : List AObj} (h : zeroCellsA P elem n = .ok cs) (hs : tsize P elem = .ok size) :
    cs.length = n * size ∧ (n * size ≠ 0 → ∃ zv, (zeroValue elem).run P w = .ok zv w ∧ zv.cells.size = size ∧ VRL w S H φ cs ((Array.range (n * size)).map (fun j => zv.cells[j % zv.cells.size]!))) := by
  unfold zeroCellsA at h
  obtain ⟨size', hs', h⟩ := bind_ok h
  rw [hs] at hs'; cases hs'
  split at h
  · rename_i h0
    rw [← pure_ok h]
    subst h0
    exact ⟨by simp, fun hn => absurd (Nat.mul_zero n) hn⟩
  · rename_i h0
    obtain ⟨z, hz, h⟩ := bind_ok h
    obtain ⟨zv, hzr, rfl⟩ := tzero_run (P := P) (w := w) hz
    simp only at h
    split at h
    · rename_i hl
      rw [← pure_ok h]
      have hv := ofV_cells (w := w) (S := S) (H := H) (φ := φ) zv
      have e : zv.cells.size = size := by rw [← hv.1]; exact hl
      refine ⟨by rw [length_replicateCells, hl], fun _ => ⟨zv, hzr, e, ?_, fun i x v a b => ?_⟩⟩
      · rw [length_replicateCells, hl]; simp
      · rw [replicateCells_get, hl] at a
        split at a
        · rename_i hi
          rw [zeroRow_get _ _ _ hi (by omega)] at b
          rw [e] at b
          exact hv.2 _ x v a b
        · cases a
    · cases h

theorem length_fillA {place : Nat → Option (Nat × Nat)} : ∀ {ps : List (Nat × AV)} {cs r : List AV}, fillA place cs ps = .ok r → r.length = cs.length := by
  intro ps
  induction ps with
  | nil => intro cs r h; cases h; rfl
  | cons p ps ih =>
    intro cs r h
    obtain ⟨i, x⟩ := p
    unfold fillA at h
    split at h
    · cases h
    · split at h
      · cases h
      · rename_i hn
        simp only [not_or, Decidable.not_not, Nat.not_lt] at hn
        rw [ih h, length_putRange (by omega)]

/-- A row of cells is laid. -/
theorem row_sim (R : Rel n₀ w₀ w S H φ D) {slot : Option Nat} {cs : List AV} {b : Nat} {e e' : Eff} (h : newA H slot (.cells cs 0) = .ok (b, e)) (he : e'.set = e.set) (hf : e'.frz = []) {C : Array Value} {t : TypeId}
    (hl : cs.length ≤ C.size) (hc : ∀ (i : Nat) (x : AV) (v : Value), cs[i]? = some x → C[i]? = some v → VR w S H.objs φ x v) :
    ∃ φ', φ' b = (w.heap.size, 0, C.size) ∧ Rel n₀ w₀ { w with heap := w.heap.push (.cells C t) } S (H.apply e') φ' D ∧ Ext n₀ w S H.objs φ D { w with heap := w.heap.push (.cells C t) } S (H.apply e').objs φ' D ∧
      (H.apply e').objs[b]? = some (.cells cs 0) := by
  refine new_sim R h he hf C.size (fun H' E => ?_)
  have hS : ¬ S w.heap.size := fun hs => Nat.lt_irrefl _ (R.szS _ hs)
  refine ⟨C, t, 0, 0, ?_, fun i _ hh => by omega, ?_, ?_, ?_⟩
  · rw [upd_same]; simp
  · rw [upd_same]; exact ⟨by simpa using hl, rfl⟩
  · rw [upd_same]
    exact fun i x v a b => (hc i x v a (by simpa using b)).ext E
  · rw [upd_same]
    exact ⟨fun hb => absurd hb (newA_frz R h), fun hs => absurd hs hS⟩

theorem boxA_sim (R : Rel n₀ w₀ w S H φ D) {slot : Option Nat} {t : TypeId} {x y : AV} {e : Eff} {v : Value} (h : boxA P H slot t x = .ok (y, e)) (hv : VR w S H.objs φ x v) :
    ∃ u w', (Instr.box t v).run P w = .ok u w' ∧ Good n₀ w₀ w S H φ D y e u w' := by
  unfold boxA at h
  obtain ⟨n, hn, h⟩ := bind_ok h
  split at h
  · rename_i hc
    simp only [Bool.and_eq_true, decide_eq_true_eq] at hc
    obtain ⟨⟨b, e'⟩, hb, h⟩ := bind_ok h
    cases pure_ok h
    obtain ⟨hl, _⟩ := cells_VRL hv hc.2
    obtain ⟨φ', h1, h2, h3, h4⟩ := row_sim R hb rfl (newA_ok hb).2.1 (t := t) (Nat.le_of_eq hl.1) hl.2
    refine ⟨_, _, rfl, S, φ', h2, h3, .optr h4 (Nat.le_refl _) (fun _ => ?_)⟩
    rw [h1]
  · cases h

theorem buildSliceA_sim (R : Rel n₀ w₀ w S H φ D) {slot : Option Nat} {t : TypeId} {len : Nat} {ps : List (Nat × AV)} {qs : Array (Nat × Value)} {y : AV} {e : Eff}
    (h : buildSliceA P H slot t len ps = .ok (y, e)) (hp : Parts w S H.objs φ ps qs.toList) :
    ∃ u w', (Instr.buildSlice t len qs).run P w = .ok u w' ∧ Good n₀ w₀ w S H φ D y e u w' := by
  unfold buildSliceA at h
  obtain ⟨d, hd, h⟩ := bind_ok h
  split at h
  · rename_i elem
    obtain ⟨size, hs, h⟩ := bind_ok h
    split at h
    · cases h
    rename_i hsz
    obtain ⟨z, hz, h⟩ := bind_ok h
    obtain ⟨cells, hcl, h⟩ := bind_ok h
    obtain ⟨⟨b, e'⟩, hb, h⟩ := bind_ok h
    cases pure_ok h
    obtain ⟨z1, z2⟩ := zeroCellsA_sim (w := w) (S := S) (H := H.objs) (φ := φ) hz hs
    have key : ∃ zero : Array Value, (len * size = 0 → zero = #[]) ∧ (len * size ≠ 0 → ∃ zv, (zeroValue elem).run P w = .ok zv w ∧ zero = zv.cells) ∧ VRL w S H.objs φ z ((Array.range (len * size)).map (zero[· % zero.size]!)) := by
      by_cases h0 : len * size = 0
      · refine ⟨#[], fun _ => rfl, fun h => absurd h0 h, ?_⟩
        rw [h0] at z1 ⊢
        have : z = [] := List.length_eq_zero_iff.1 z1
        subst this
        simp [VRL]
      · obtain ⟨zv, hzr, _, hzl⟩ := z2 h0
        exact ⟨zv.cells, fun h => absurd h h0, fun _ => ⟨zv, hzr, rfl⟩, hzl⟩
    obtain ⟨zero, k0, k1, k2⟩ := key
    obtain ⟨R', f1, f2⟩ := fill_sim ps qs.toList _ _ _ hp k2 hcl
    obtain ⟨φ', h1, h2, h3, h4⟩ := row_sim R hb rfl (newA_ok hb).2.1 (t := elem) (Nat.le_of_eq f2.1) f2.2
    refine ⟨.slice (some ⟨w.heap.size, 0, none⟩) len len, { w with heap := w.heap.push (.cells R' elem) }, ?_, S, φ', h2, h3, .osl h4 (Nat.le_refl _) (Nat.le_refl _) (Nat.le_refl _) (fun _ => rfl) (fun _ => ⟨0, ?_, .inl ?_, ?_⟩)⟩
    · unfold Instr.buildSlice
      rw [run_bind_ok (tund_run hd)]
      simp only
      rw [run_bind_ok (tsize_run hs)]
      simp only [hsz, if_false]
      by_cases h0 : len * size = 0
      · simp only [h0, if_true]
        rw [run_bind_ok (a := #[]) (w' := w) rfl]
        have := k0 h0
        subst this
        rw [h0] at f1
        rw [f1]
        rfl
      · obtain ⟨zv, hzr, rfl⟩ := k1 h0
        simp only [h0, if_false]
        rw [run_bind_ok hzr, run_bind_ok (a := zv.cells) (w' := w) rfl, f1]
        rfl
    · rw [h1]
    · rw [h1]
    · rw [h1, ← f2.1, length_fillA hcl, z1]
      simp
  · cases h
end
end Go.Abs

namespace Go.Abs
open Go Go.RowKit

section
variable {P : Program} {w : World}
variable {n₀ : Nat} {w₀ : World} {S : Nat → Prop} {H : AHeap} {φ : Nat → Nat × Nat × Nat} {D : Nat → Prop}

theorem scalarInt_sim {x : AV} {n : Int} {v : Value} {H : List AObj} (h : scalarInt x = .ok n) (hv : VR w S H φ x v) : ∃ k, v = .int k n := by
  unfold scalarInt at h
  split at h
  · rename_i k m
    cases h
    exact ⟨k, hv.sc_inv.1⟩
  · cases h

theorem asInt_run {k : IntKind} {n : Int} : (asInt (.int k n)).run P w = .ok n w := rfl

theorem askRoom_run {n : Nat} (h : n ≤ 2 ^ 47) : (askRoom n).run P w = .ok () w := by
  unfold askRoom roomBytes
  rw [if_neg (by omega)]
  rfl

theorem i64_small {n : Int} (h0 : 0 ≤ n) (h : n < 2 ^ 40) : IntKind.i64.wrap n = n := IntWalk.i64_in n (by omega)

theorem makeSliceA_sim (R : Rel n₀ w₀ w S H φ D) {slot : Option Nat} {t : TypeId} {xl xc y : AV} {e : Eff} {vl vc : Value} (h : makeSliceA P H slot t xl xc = .ok (y, e))
    (hvl : VR w S H.objs φ xl vl) (hvc : VR w S H.objs φ xc vc) :
    ∃ u w', (Instr.makeSlice t vl vc).run P w = .ok u w' ∧ Good n₀ w₀ w S H φ D y e u w' := by
  unfold makeSliceA at h
  obtain ⟨d, hd, h⟩ := bind_ok h
  split at h
  · rename_i elem
    obtain ⟨l, hl, h⟩ := bind_ok h
    obtain ⟨c, hc, h⟩ := bind_ok h
    obtain ⟨i, hi, h⟩ := bind_ok h
    simp only at h
    split at h
    · rename_i hb
      obtain ⟨b0, b1, b2, b3⟩ := hb
      obtain ⟨cs, hcs, h⟩ := bind_ok h
      obtain ⟨⟨b, e'⟩, hb, h⟩ := bind_ok h
      obtain ⟨size, hs, h⟩ := bind_ok h
      cases pure_ok h
      obtain ⟨kl, rfl⟩ := scalarInt_sim hl hvl
      obtain ⟨kc, rfl⟩ := scalarInt_sim hc hvc
      obtain ⟨z1, z2⟩ := zeroCellsA_sim (w := w) (S := S) (H := H.objs) (φ := φ) hcs hs
      have key : ∃ zero : Array Value, (c.toNat * size = 0 → zero = #[]) ∧ (c.toNat * size ≠ 0 → ∃ zv, (zeroValue elem).run P w = .ok zv w ∧ zero = zv.cells) ∧ VRL w S H.objs φ cs ((Array.range (c.toNat * size)).map (zero[· % zero.size]!)) := by
        by_cases h0 : c.toNat * size = 0
        · refine ⟨#[], fun _ => rfl, fun h => absurd h0 h, ?_⟩
          rw [h0] at z1 ⊢
          have : cs = [] := List.length_eq_zero_iff.1 z1
          subst this
          simp [VRL]
        · obtain ⟨zv, hzr, _, hzl⟩ := z2 h0
          exact ⟨zv.cells, fun h => absurd h h0, fun _ => ⟨zv, hzr, rfl⟩, hzl⟩
      obtain ⟨zero, k0, k1, k2⟩ := key
      obtain ⟨φ', h1, h2, h3, h4⟩ := row_sim R hb rfl (newA_ok hb).2.1 (t := elem) (Nat.le_of_eq k2.1) k2.2
      refine ⟨.slice (some ⟨w.heap.size, 0, none⟩) l.toNat c.toNat, { w with heap := w.heap.push (.cells ((Array.range (c.toNat * size)).map (zero[· % zero.size]!)) elem) }, ?_, S, φ', h2, h3,
        .osl h4 (Nat.le_refl _) (by omega) (Nat.le_refl _) (fun _ => rfl) (fun _ => ⟨0, by rw [h1], .inl (by rw [h1]), by rw [h1]; simp⟩)⟩
      have wl : IntKind.i64.wrap l = l := i64_small b0 (by omega)
      have wc : IntKind.i64.wrap c = c := i64_small (by omega) b2
      have hbc : (i.bytes : Int) * c ≤ 2 ^ 40 := by
        have : ((c.toNat * i.bytes : Nat) : Int) ≤ 2 ^ 40 := by exact_mod_cast b3
        rw [Int.natCast_mul, Int.toNat_of_nonneg (by omega), Int.mul_comm] at this
        exact this
      unfold Instr.makeSlice
      rw [run_bind_ok (tund_run hd)]
      simp only
      rw [run_bind_ok (asInt_run (n := l)), run_bind_ok (asInt_run (n := c)), run_bind_ok (tinfo_run hi)]
      simp only [wl, wc]
      have t1 : (decide (c < 0) || decide ((i.bytes : Int) * c > 2 ^ 48)) = false := by
        simp only [Bool.or_eq_false_iff, decide_eq_false_iff_not]
        constructor <;> omega
      have t2 : decide (l < 0) = false := by simp; omega
      have t3 : decide (l > c) = false := by simp; omega
      simp only [t1, t2, t3, Bool.or_false, Bool.false_eq_true, if_false]
      rw [run_bind_ok (askRoom_run (by omega)), run_bind_ok (tsize_run hs)]
      by_cases h0 : c.toNat * size = 0
      · simp only [h0, if_true]
        rw [run_bind_ok (a := #[]) (w' := w) rfl]
        have := k0 h0
        subst this
        rfl
      · obtain ⟨zv, hzr, rfl⟩ := k1 h0
        simp only [h0, if_false]
        rw [run_bind_ok hzr, run_bind_ok (a := zv.cells) (w' := w) rfl]
        rfl
    · cases h
  · cases h

theorem nilCheckA_sim {x y : AV} {v : Value} {H : List AObj} {o : Oper} {ρ : Operand → Value} {X : Operand} (h : nilCheckA x = .ok y) (hv : VR w S H φ x v) (ho : o.op = .nilCheck X) (hx : ρ X = v) :
    (execOp ρ o).run P w = .ok (.value v) w ∧ VR w S H φ y v := by
  unfold nilCheckA at h
  unfold execOp
  simp only [ho, hx]
  split at h
  · cases h
    obtain ⟨ad, rfl⟩ := hv.optr_form
    exact ⟨rfl, hv⟩
  · cases h
    obtain ⟨b, o, rfl, _⟩ := hv.iptr_inv
    exact ⟨rfl, hv⟩
  · cases h
    refine ⟨?_, hv⟩
    cases hv with
    | im h => cases h; rfl
    | fn => rfl
  · cases h
    refine ⟨?_, hv⟩
    cases hv with
    | im h => cases h
    | yield => rfl
  · cases h

theorem fieldPlace_run {ad : Addr} {f : Field} {n : Nat} (h : tsize P f.type = .ok n) (hn : n ≠ 0) : (fieldPlace ad f).run P w = .ok (ad.add f.offset) w := by
  unfold fieldPlace
  rw [run_bind_ok (tsize_run h)]
  simp only [hn, if_false]
  rfl

theorem VR.optr_off {b g off : Nat} {H : List AObj} {ad : Addr} (h : VR w S H φ (.optr b g off) (.pointer (some ad))) (n : Nat) : VR w S H φ (.optr b g (off + n)) (.pointer (some (ad.add n))) := by
  cases h with
  | im h => cases h
  | optr hb hg hp =>
    refine .optr hb hg (fun e => ?_)
    rw [hp e, add_none, Nat.add_assoc]

theorem VR.iptr_off {cs : List AV} {H : List AObj} {v : Value} (h : VR w S H φ (.iptr cs) v) (n : Nat) : ∃ ad, v = .pointer (some ad) ∧ VR w S H φ (.iptr (cs.drop n)) (.pointer (some (ad.add n))) := by
  cases h with
  | im h => cases h with
    | iptr f hS h1 h2 =>
      refine ⟨_, rfl, ?_⟩
      rw [add_none]
      refine .im (.iptr (fun i => f (n + i)) hS (fun i x hx => ?_) (fun i x hx => ?_))
      · rw [List.getElem?_drop] at hx
        rw [Nat.add_assoc]
        exact h1 _ x hx
      · rw [List.getElem?_drop] at hx
        exact h2 _ x hx

theorem VR.gp_off {g off : Nat} {H : List AObj} {v : Value} (h : VR w S H φ (.gp g off) v) (n : Nat) : ∃ ad, v = .pointer (some ad) ∧ VR w S H φ (.gp g (off + n)) (.pointer (some (ad.add n))) := by
  cases h with
  | im h => cases h with
    | gp =>
      refine ⟨_, rfl, ?_⟩
      rw [add_none]
      exact .im .gp

theorem fieldAddrA_sim {t : TypeId} {x y : AV} {f : Nat} {v : Value} {H : List AObj} (h : fieldAddrA P t x f = .ok y) (hv : VR w S H φ x v) :
    ∃ u, (Instr.fieldAt t v f).run P w = .ok u w ∧ VR w S H φ y u := by
  unfold fieldAddrA at h
  obtain ⟨d, hd, h⟩ := bind_ok h
  split at h
  · rename_i fields
    split at h
    · rename_i fd hfd
      obtain ⟨n, hn, h⟩ := bind_ok h
      split at h
      · cases h
      rename_i hn0
      have run : ∀ ad : Addr, (Instr.fieldAt t (.pointer (some ad)) f).run P w = .ok (.pointer (some (ad.add fd.offset))) w := by
        intro ad
        unfold Instr.fieldAt
        rw [run_bind_ok (tund_run hd)]
        simp only [hfd]
        rw [run_bind_ok (a := ad) (w' := w) rfl, run_bind_ok (fieldPlace_run hn hn0)]
        rfl
      split at h
      · cases pure_ok h
        obtain ⟨ad, rfl⟩ := hv.optr_form
        exact ⟨_, run ad, hv.optr_off _⟩
      · cases pure_ok h
        obtain ⟨ad, rfl, h2⟩ := hv.iptr_off fd.offset
        exact ⟨_, run ad, h2⟩
      · cases pure_ok h
        obtain ⟨ad, rfl, h2⟩ := hv.gp_off fd.offset
        exact ⟨_, run ad, h2⟩
      · cases h
    · cases h
  · cases h

theorem indexAddrA_sim (R : Rel n₀ w₀ w S H φ D) {t : TypeId} {x ix y : AV} {v vi : Value} (h : indexAddrA P t x ix = .ok y) (hv : VR w S H.objs φ x v) (hi : VR w S H.objs φ ix vi) :
    ∃ u, (Instr.indexAt t v vi).run P w = .ok u w ∧ VR w S H.objs φ y u := by
  unfold indexAddrA at h
  obtain ⟨i, hii, h⟩ := bind_ok h
  obtain ⟨k, rfl⟩ := scalarInt_sim hii hi
  obtain ⟨d, hd, h⟩ := bind_ok h
  have slice : ∀ (elem : TypeId) (ad : Addr) (len c n : Nat), d = .slice elem → 0 ≤ i ∧ i < len → tsize P elem = .ok n → (Instr.indexAt t (.slice (some ad) len c) (.int k i)).run P w = .ok (.pointer (some (ad.add (i.toNat * n)))) w := by
    intro elem ad len c n e hb hs
    subst e
    unfold Instr.indexAt
    rw [run_bind_ok (a := (k, i)) (w' := w) rfl, run_bind_ok (tund_run hd)]
    simp only
    rw [run_bind_ok (a := (some ad, len, elem)) (w' := w) rfl]
    simp only
    rw [run_bind_ok (tund_run hd)]
    simp only [hb, and_self, if_true]
    rw [run_bind_ok (tsize_run hs)]
    rfl
  have array : ∀ (elem : TypeId) (ad : Addr) (len n : Nat), d = .array len elem → 0 ≤ i ∧ i < len → tsize P elem = .ok n → (Instr.indexAt t (.pointer (some ad)) (.int k i)).run P w = .ok (.pointer (some (ad.add (i.toNat * n)))) w := by
    intro elem ad len n e hb hs
    subst e
    unfold Instr.indexAt
    rw [run_bind_ok (a := (k, i)) (w' := w) rfl, run_bind_ok (tund_run hd)]
    simp only
    rw [run_bind_ok (a := ad) (w' := w) rfl, run_bind_ok (a := (some ad, len, elem)) (w' := w) rfl]
    simp only
    rw [run_bind_ok (tund_run hd)]
    simp only [hb, and_self, if_true]
    rw [run_bind_ok (tsize_run hs)]
    rfl
  split at h
  · rename_i elem cs len cap ex _ _
    obtain ⟨n, hs, h⟩ := bind_ok h
    split at h
    · rename_i hb
      cases pure_ok h
      rcases hv.isl_inv with ⟨b, o, c, rfl, hS, _, ⟨f, hf⟩, _⟩ | ⟨_, _, rfl, _⟩
      case inr => exact absurd hb.2 (by have := hb.1; omega)
      refine ⟨_, slice elem _ len c n rfl hb hs, ?_⟩
      rw [add_none]
      refine .im (.iptr (fun j => f (i.toNat * n + j)) hS (fun j x hx => ?_) (fun j x hx => ?_))
      · rw [List.getElem?_drop] at hx
        rw [Nat.add_assoc]
        exact (hf _ x hx).1
      · rw [List.getElem?_drop] at hx
        exact (hf _ x hx).2
    · cases h
  · rename_i elem b g off k' len cap ex _ _
    split at h
    · rename_i hb
      obtain ⟨n, hs, h⟩ := bind_ok h
      split at h
      · cases h
      rename_i hk
      cases pure_ok h
      obtain ⟨ad, c, rfl⟩ := hv.osl_form
      refine ⟨_, slice elem ad len c n rfl hb hs, ?_⟩
      cases hv with
      | im h => cases h
      | osl hbb hg hlc _ _ hp =>
        refine .optr hbb hg (fun e => ?_)
        obtain ⟨o, rfl, ho, _⟩ := hp e
        rw [add_none]
        rcases ho with ho | ho
        · subst ho
          have : k' = n := Decidable.not_not.1 hk
          rw [this, Nat.add_assoc]
        · omega
    · cases h
  · rename_i len elem b g off _ _
    obtain ⟨n, hs, h⟩ := bind_ok h
    split at h
    · rename_i hb
      cases pure_ok h
      obtain ⟨ad, rfl⟩ := hv.optr_form
      exact ⟨_, array elem ad len n rfl hb hs, hv.optr_off _⟩
    · cases h
  · rename_i len elem cs _ _
    obtain ⟨n, hs, h⟩ := bind_ok h
    split at h
    · rename_i hb
      cases pure_ok h
      obtain ⟨ad, rfl, h2⟩ := hv.iptr_off (i.toNat * n)
      exact ⟨_, array elem ad len n rfl hb hs, h2⟩
    · cases h
  · rename_i len elem g off _ _
    obtain ⟨n, hs, h⟩ := bind_ok h
    split at h
    · rename_i hb
      cases pure_ok h
      obtain ⟨ad, rfl, h2⟩ := hv.gp_off (i.toNat * n)
      exact ⟨_, array elem ad len n rfl hb hs, h2⟩
    · cases h
  · cases h
end
end Go.Abs

namespace Go.Abs
open Go Go.RowKit

section
variable {P : Program} {w : World}
variable {n₀ : Nat} {w₀ : World} {S : Nat → Prop} {H : AHeap} {φ : Nat → Nat × Nat × Nat} {D : Nat → Prop}

/-- A bound of a slice expression, and its value. -/
def BoundR : Option Value → Option Nat → Prop
  | none, none => True
  | some v, some n => ∃ k, v = .int k (n : Int)
  | _, _ => False

theorem optNat_sim {x : Option AV} {r : Option Nat} {v : Option Value} {H : List AObj} (h : optNat x = .ok r) (hv : ∀ a, x = some a → ∃ b, v = some b ∧ VR w S H φ a b) (hn : x = none → v = none) : BoundR v r := by
  cases x with
  | none => cases h; rw [hn rfl]; trivial
  | some a =>
    obtain ⟨b, rfl, hb⟩ := hv a rfl
    unfold optNat at h
    simp only at h
    obtain ⟨n, hn', h⟩ := bind_ok h
    split at h
    · rename_i h0
      rw [← pure_ok h]
      obtain ⟨k, rfl⟩ := scalarInt_sim hn' hb
      exact ⟨k, by rw [Int.toNat_of_nonneg h0]⟩
    · cases h

theorem sliceBound_run {k : IntKind} {n y : Nat} {code : BoundsCode} (h : n ≤ y) : (Instr.sliceBound (.int k (n : Int)) y code).run P w = .ok n w := by
  unfold Instr.sliceBound
  rw [run_bind_ok (a := (k, (n : Int))) (w' := w) rfl]
  simp only
  rw [if_pos (by omega)]
  rfl

theorem sliceBounds_run {isSlice : Bool} {len cap : Nat} {lo hi mx : Option Value} {lo' hi' mx' : Option Nat} (h1 : BoundR lo lo') (h2 : BoundR hi hi') (h3 : BoundR mx mx')
    (hm : mx'.isSome = true → hi'.isSome = true) (c1 : mx'.getD cap ≤ cap) (c2 : hi'.isSome = true → hi'.getD len ≤ mx'.getD cap) (c3 : lo'.getD 0 ≤ hi'.getD len) :
    (Instr.sliceBounds isSlice len cap lo hi mx).run P w = .ok (lo'.getD 0, hi'.getD len, mx'.getD cap) w := by
  have form : ∀ {v : Option Value} {n : Option Nat}, BoundR v n → (v = none ∧ n = none) ∨ ∃ k m, v = some (.int k ((m : Nat) : Int)) ∧ n = some m := by
    intro v n h
    cases v with
    | none => cases n with
      | none => exact .inl ⟨rfl, rfl⟩
      | some => cases h
    | some v => cases n with
      | none => cases h
      | some m =>
        obtain ⟨k, rfl⟩ := h
        exact .inr ⟨k, m, rfl, rfl⟩
  unfold Instr.sliceBounds
  rcases form h3 with ⟨rfl, rfl⟩ | ⟨km, m, rfl, rfl⟩ <;> rcases form h2 with ⟨rfl, rfl⟩ | ⟨kh, h, rfl, rfl⟩ <;> rcases form h1 with ⟨rfl, rfl⟩ | ⟨kl, l, rfl, rfl⟩ <;>
    simp only [Option.getD_none, Option.getD_some, Option.isSome_none, Option.isSome_some, Bool.false_eq_true, if_false, if_true, forall_const, false_implies, imp_false] at *
  · rfl
  · rw [run_bind_ok (a := cap) (w' := w) rfl, run_bind_ok (a := len) (w' := w) rfl, run_bind_ok (sliceBound_run c3)]
    rfl
  · rw [run_bind_ok (a := cap) (w' := w) rfl, run_bind_ok (sliceBound_run c2)]
    rfl
  · rw [run_bind_ok (a := cap) (w' := w) rfl, run_bind_ok (sliceBound_run c2), run_bind_ok (sliceBound_run c3)]
    rfl
  · rw [run_bind_ok (sliceBound_run c1), run_bind_ok (sliceBound_run c2)]
    rfl
  · rw [run_bind_ok (sliceBound_run c1), run_bind_ok (sliceBound_run c2), run_bind_ok (sliceBound_run c3)]
    rfl

theorem VR.osl_cut {b g off k len cap c : Nat} {ex : Bool} {ad : Addr} {H : List AObj} (h : VR w S H φ (.osl b g off k len cap ex) (.slice (some ad) len c)) {l hh m cap' : Nat} {ex' : Bool}
    (hlh : l ≤ hh) (hhm : hh ≤ m) (hmc : m ≤ c) (hc : cap' ≤ m - l) (he : ex' = true → m - l = cap') :
    VR w S H φ (.osl b g (off + l * k) k (hh - l) cap' ex') (.slice (if m = l then some ad else (some ad).map (·.add (l * k))) (hh - l) (m - l)) := by
  have h1 : hh - l ≤ m - l := by omega
  cases h with
  | im h => cases h
  | osl hb hg _ _ _ hp =>
    by_cases hml : m = l
    · have h2 : m - l = 0 := by omega
      rw [if_pos hml]
      refine .osl hb hg h1 hc he (fun e => ?_)
      obtain ⟨o, rfl, _, hs⟩ := hp e
      exact ⟨o, rfl, .inr h2, by rw [h2]; omega⟩
    · have h2 : c ≠ 0 := by omega
      rw [if_neg hml]
      refine .osl hb hg h1 hc he (fun e => ?_)
      obtain ⟨o, rfl, ho, hs⟩ := hp e
      rcases ho with ho | ho
      · refine ⟨o + l * k, by simp [add_none], .inl ?_, ?_⟩
        · rw [ho, Nat.add_assoc]
        · have e1 : l * k + (m - l) * k = m * k := by rw [← Nat.add_mul, Nat.add_sub_cancel' (by omega)]
          have e2 : m * k ≤ c * k := Nat.mul_le_mul_right k hmc
          omega
      · exact absurd ho h2

theorem sliceArr_sim (R : Rel n₀ w₀ w S H φ D) {n : Nat} {elem : TypeId} {b g off l : Nat} {hi mx : Option Nat} {y : AV} {ad : Addr} {rd : List Nat} (h : sliceArr P H n elem b g off l hi mx = .ok (y, rd))
    (hv : VR w S H.objs φ (.optr b g off) (.pointer (some ad))) : ∃ k, tsize P elem = .ok k ∧ l ≤ hi.getD n ∧ hi.getD n ≤ mx.getD n ∧ mx.getD n ≤ n ∧
      VR w S H.objs φ y (.slice (some (if mx.getD n = l then ad else ad.add (l * k))) (hi.getD n - l) (mx.getD n - l)) := by
  unfold sliceArr at h
  obtain ⟨k, hk, h⟩ := bind_ok h
  obtain ⟨cs, hcs, h⟩ := bind_ok h
  have hb := hcells_ok hcs
  split at h
  · rename_i hc
    obtain ⟨c1, c2, c3, c4⟩ := hc
    cases pure_ok h
    refine ⟨k, hk, c1, c2, c3, ?_⟩
    have had := hv.optr_inv hb
    cases had
    obtain ⟨C, t, lo, hi', h1, h2, ⟨h3, h3'⟩, h4, h5⟩ := R.obj b _ hb
    have h6 : hi.getD n - l ≤ mx.getD n - l := by omega
    refine .osl hb (Nat.le_refl _) h6 (Nat.le_refl _) (fun _ => rfl) (fun e => ?_)
    have e1 : (mx.getD n - l) * k + l * k = mx.getD n * k := by rw [← Nat.add_mul, Nat.sub_add_cancel (by omega)]
    have e2 : mx.getD n * k ≤ n * k := Nat.mul_le_mul_right k c3
    by_cases hml : mx.getD n = l
    · rw [if_pos hml]
      have h7 : mx.getD n - l = 0 := by omega
      exact ⟨_, rfl, .inr h7, by rw [h7]; omega⟩
    · rw [if_neg hml, add_none]
      exact ⟨_, rfl, .inl (by omega), by omega⟩
  · cases h

theorem sliceA_sim (R : Rel n₀ w₀ w S H φ D) {t : TypeId} {x y : AV} {lo hi mx : Option AV} {v : Value} {vlo vhi vmx : Option Value} {rd : List Nat} (h : sliceA P H t x lo hi mx = .ok (y, rd)) (hv : VR w S H.objs φ x v)
    (hlo : ∀ r, optNat lo = .ok r → BoundR vlo r) (hhi : ∀ r, optNat hi = .ok r → BoundR vhi r) (hmx : ∀ r, optNat mx = .ok r → BoundR vmx r) :
    ∃ u, (Instr.sliceAt t v vlo vhi vmx).run P w = .ok u w ∧ VR w S H.objs φ y u := by
  unfold sliceA at h
  obtain ⟨lo', e1, h⟩ := bind_ok h
  obtain ⟨hi', e2, h⟩ := bind_ok h
  obtain ⟨mx', e3, h⟩ := bind_ok h
  have b1 := hlo _ e1
  have b2 := hhi _ e2
  have b3 := hmx _ e3
  simp only at h
  split at h
  · cases h
  rename_i hmh
  have hmh : mx'.isSome = true → hi'.isSome = true := by
    intro hs
    cases hi' with
    | some => rfl
    | none => exact absurd (by simp [hs]) hmh
  obtain ⟨d, hd, h⟩ := bind_ok h
  have arr : ∀ {n : Nat} {elem : TypeId} {b g off : Nat} {ad : Addr}, sliceArr P H n elem b g off (lo'.getD 0) hi' mx' = .ok (y, rd) → VR w S H.objs φ (.optr b g off) (.pointer (some ad)) →
      ∃ k u, tsize P elem = .ok k ∧ (Instr.sliceBounds false n n vlo vhi vmx).run P w = .ok (lo'.getD 0, hi'.getD n, mx'.getD n) w ∧
        u = .slice (some (if mx'.getD n = lo'.getD 0 then ad else ad.add (lo'.getD 0 * k))) (hi'.getD n - lo'.getD 0) (mx'.getD n - lo'.getD 0) ∧ VR w S H.objs φ y u := by
    intro n elem b g off ad ha hva
    obtain ⟨k, hk, c1, c2, c3, hr⟩ := sliceArr_sim R ha hva
    exact ⟨k, _, hk, sliceBounds_run b1 b2 b3 hmh c3 (fun _ => c2) c1, rfl, hr⟩
  split at h
  · rename_i s _ _ _ _
    split at h
    · rename_i hc
      obtain ⟨c1, c2, c3⟩ := hc
      cases pure_ok h
      have := hv.sc_inv.1
      subst this
      have hmn : mx' = none := by simpa using c1
      subst hmn
      have vn : vmx = none := by
        cases vmx with
        | none => rfl
        | some => cases b3
      subst vn
      refine ⟨.string (s.extract (lo'.getD 0) (hi'.getD s.size)), ?_, .im (.sc rfl)⟩
      unfold Instr.sliceAt
      rw [run_bind_ok (tund_run hd)]
      simp only
      unfold Instr.slice
      rw [run_bind_ok (tund_run hd)]
      simp only [Option.isSome_none, Bool.false_eq_true, if_false]
      rw [run_bind_ok (sliceBounds_run b1 b2 (mx := none) (mx' := none) trivial (by simp) (by simp) (fun _ => by simpa using c3) c2)]
      rfl
    · cases h
  · rename_i elem _ _ _ _
    split at h
    · rename_i hc
      obtain ⟨c1, c2, c3⟩ := hc
      obtain ⟨k, hk, h⟩ := bind_ok h
      cases pure_ok h
      have := hv.sc_inv.1
      subst this
      refine ⟨.slice none 0 0, ?_, .im (.sc rfl)⟩
      unfold Instr.sliceAt
      rw [run_bind_ok (tund_run hd)]
      simp only
      unfold Instr.slice
      rw [run_bind_ok (tund_run hd)]
      simp only
      rw [run_bind_ok (sliceBounds_run b1 b2 b3 hmh (by rw [c3]; exact Nat.le_refl _) (fun _ => by rw [c2]; omega) (by rw [c1]; omega)), run_bind_ok (tsize_run hk), c1, c2, c3]
      rfl
    · cases h
  · rename_i elem cs len cap ex _ _ _ _
    obtain ⟨k, hk, h⟩ := bind_ok h
    split at h
    · rename_i hc
      obtain ⟨c1, c2, c3⟩ := hc
      obtain ⟨r, hr, h⟩ := bind_ok h
      cases pure_ok h
      rcases hv.isl_inv with ⟨b, o, c, rfl, hS, _, ⟨f, hf⟩, hlc, hcc, hec⟩ | ⟨rfl, rfl, rfl, rfl, rfl⟩
      case inr =>
        have hmn : mx' = none := by
          cases mx' with
          | none => rfl
          | some m => have := (c3 rfl).2.2; simp at this
        subst hmn
        have e1 : hi'.getD 0 = 0 := by omega
        have e2 : lo'.getD 0 = 0 := by omega
        have er : r = [] := by
          have := (getRange_ok hr).1
          rw [e1] at this
          exact List.length_eq_zero_iff.1 (by rw [this]; simp)
        subst er
        rw [e1, e2]
        refine ⟨.slice none 0 0, ?_, .im .isn⟩
        unfold Instr.sliceAt
        rw [run_bind_ok (tund_run hd)]
        simp only
        unfold Instr.slice
        rw [run_bind_ok (tund_run hd)]
        simp only
        rw [run_bind_ok (sliceBounds_run b1 b2 b3 hmh (Nat.le_refl _) (fun _ => by simp only [Option.getD_none]; omega) (by omega)), run_bind_ok (tsize_run hk), e1, e2]
        rfl
      have m1 : mx'.getD c ≤ c := by
        cases mx' with
        | none => exact Nat.le_refl _
        | some m => have := (c3 rfl); simp only [Option.getD_some] at *; omega
      have m2 : hi'.getD len ≤ mx'.getD c := by
        cases mx' with
        | none => simp only [Option.getD_none]; omega
        | some m => have := (c3 rfl); simp only [Option.getD_some] at *; omega
      have m3 : mx'.getD cap ≤ mx'.getD c := by
        cases mx' with
        | none => exact hcc
        | some m => exact Nat.le_refl _
      refine ⟨.slice (if mx'.getD c = lo'.getD 0 then some ⟨b, o, none⟩ else (some (⟨b, o, none⟩ : Addr)).map (·.add (lo'.getD 0 * k))) (hi'.getD len - lo'.getD 0) (mx'.getD c - lo'.getD 0), ?_, ?_⟩
      · unfold Instr.sliceAt
        rw [run_bind_ok (tund_run hd)]
        simp only
        unfold Instr.slice
        rw [run_bind_ok (tund_run hd)]
        simp only
        rw [run_bind_ok (sliceBounds_run b1 b2 b3 hmh m1 (fun _ => m2) c1), run_bind_ok (tsize_run hk)]
        rfl
      · have he : (mx'.isSome || ex) = true → mx'.getD c - lo'.getD 0 = mx'.getD cap - lo'.getD 0 := by
          intro h
          cases mx' with
          | none => simp only [Option.getD_none]; simp at h; rw [hec h]
          | some m => rfl
        have hlen : r.length = (hi'.getD len - lo'.getD 0) * k := (getRange_ok hr).1
        by_cases hml : mx'.getD c = lo'.getD 0
        · rw [if_pos hml]
          have h0 : hi'.getD len - lo'.getD 0 = 0 := by omega
          have hr0 : r = [] := List.length_eq_zero_iff.1 (by rw [hlen, h0]; simp)
          subst hr0
          exact .im (.isl (fun _ => undef) hS (fun i x hx => by simp at hx) (fun i x hx => by simp at hx) (by omega) (by omega) he)
        · rw [if_neg hml]
          simp only [Option.map_some, add_none]
          have key : ∀ (i : Nat) (x : AV), r[i]? = some x → cs[lo'.getD 0 * k + i]? = some x := by
            intro i x hx
            rw [← (getRange_ok hr).2.2 i (hlen ▸ (List.getElem?_eq_some_iff.1 hx).1)]
            exact hx
          exact .im (.isl (fun i => f (lo'.getD 0 * k + i)) hS (fun i x hx => by rw [Nat.add_assoc]; exact (hf _ x (key i x hx)).1) (fun i x hx => (hf _ x (key i x hx)).2) (by omega) (by omega) he)
    · cases h
  · rename_i elem b g off k len cap ex _ _ _ _
    obtain ⟨k', hk, h⟩ := bind_ok h
    split at h
    · cases h
    rename_i hkk
    have hkk : k = k' := Decidable.not_not.1 hkk
    subst hkk
    split at h
    · rename_i hc
      obtain ⟨c1, c2, c3⟩ := hc
      cases pure_ok h
      have hv0 := hv
      cases hv with
      | im h => cases h
      | @osl _ _ _ _ _ _ c _ ad _ _ hb hg hlc hcc hec hp =>
        have m1 : mx'.getD c ≤ c := by
          cases mx' with
          | none => exact Nat.le_refl _
          | some m => have := (c3 rfl); simp only [Option.getD_some] at *; omega
        have m2 : hi'.getD len ≤ mx'.getD c := by
          cases mx' with
          | none => simp only [Option.getD_none]; omega
          | some m => have := (c3 rfl); simp only [Option.getD_some] at *; omega
        have m3 : mx'.getD cap ≤ mx'.getD c := by
          cases mx' with
          | none => exact hcc
          | some m => exact Nat.le_refl _
        have he : (mx'.isSome || ex) = true → mx'.getD c - lo'.getD 0 = mx'.getD cap - lo'.getD 0 := by
          intro h
          cases mx' with
          | none => simp only [Option.getD_none]; simp at h; rw [hec h]
          | some m => rfl
        refine ⟨_, ?_, hv0.osl_cut (l := lo'.getD 0) (hh := hi'.getD len) (m := mx'.getD c) c1 m2 m1 (by omega) he⟩
        unfold Instr.sliceAt
        rw [run_bind_ok (tund_run hd)]
        simp only
        unfold Instr.slice
        rw [run_bind_ok (tund_run hd)]
        simp only
        rw [run_bind_ok (sliceBounds_run b1 b2 b3 hmh m1 (fun _ => m2) c1), run_bind_ok (tsize_run hk)]
        rfl
    · cases h
  · rename_i arrT b g off _ _ _ _
    obtain ⟨d2, hd2, h⟩ := bind_ok h
    split at h
    · rename_i n elem
      obtain ⟨ad, rfl⟩ := hv.optr_form
      obtain ⟨k, u, hk, hr, rfl, hu⟩ := arr h hv
      refine ⟨_, ?_, hu⟩
      unfold Instr.sliceAt
      rw [run_bind_ok (tund_run hd)]
      simp only
      unfold Instr.slice
      rw [run_bind_ok (tund_run hd)]
      simp only
      rw [run_bind_ok (a := ad) (w' := w) rfl, run_bind_ok (tund_run hd2)]
      simp only
      rw [run_bind_ok hr, run_bind_ok (tsize_run hk)]
      rfl
    · cases h
  · rename_i n elem b g off _ _ _ _
    obtain ⟨ad, rfl⟩ := hv.optr_form
    obtain ⟨k, u, hk, hr, rfl, hu⟩ := arr h hv
    refine ⟨_, ?_, hu⟩
    unfold Instr.sliceAt
    rw [run_bind_ok (tund_run hd)]
    simp only
    rw [run_bind_ok (a := ad) (w' := w) rfl, run_bind_ok hr, run_bind_ok (tsize_run hk)]
    rfl
  · cases h
end
end Go.Abs

namespace Go.Abs
open Go Go.RowKit

section
variable {P : Program} {w : World}
variable {n₀ : Nat} {w₀ : World} {S : Nat → Prop} {H : AHeap} {φ : Nat → Nat × Nat × Nat} {D : Nat → Prop}

/-! ### Maps -/

theorem semPure_bind {α β : Type} {s : Sem α} {f : α → Sem β} {b : β} : semPure P (s >>= f) = some b → ∃ a, semPure P s = some a ∧ semPure P (f a) = some b := by
  show semPure P (s.bind f) = some b → _
  induction s with
  | pure a => intro h; exact ⟨a, rfl, h⟩
  | program k ih => intro h; exact ih P h
  | _ => intro h; simp [Sem.bind, semPure] at h

/-- The same keys. -/
def SameKeys (es es' : List MapEntry) : Prop := es.map (·.key) = es'.map (·.key)

theorem findNow_same (kind : TypeDesc) (k : Value) : ∀ (es es' : List MapEntry) (i : Nat), SameKeys es es' →
    Instr.findNow kind k es i = (Instr.findNow kind k es' i).map (fun r => r.bind fun p => (es[p.1 - i]?).map fun e => (p.1, e.val)) ∧
    ∀ r, Instr.findNow kind k es' i = some (some r) → i ≤ r.1 ∧ r.1 - i < es.length := by
  intro es
  induction es with
  | nil =>
    intro es' i h
    have : es' = [] := by simpa [SameKeys] using h.symm
    subst this
    exact ⟨rfl, fun r hr => by simp [Instr.findNow] at hr⟩
  | cons e es ih =>
    intro es' i h
    cases es' with
    | nil => simp [SameKeys] at h
    | cons e' es' =>
      simp only [SameKeys, List.map_cons, List.cons.injEq] at h
      obtain ⟨hk, hks⟩ := h
      unfold Instr.findNow
      rw [hk]
      obtain ⟨h1, h2⟩ := ih es' (i + 1) hks
      cases hs : Instr.sameNow kind k e'.key with
      | none => exact ⟨rfl, fun r hr => by simp at hr⟩
      | some b =>
        cases b with
        | true => exact ⟨by simp, fun r hr => by simp at hr; subst hr; simp⟩
        | false =>
          simp only
          refine ⟨?_, fun r hr => ?_⟩
          · rw [h1]
            cases hf : Instr.findNow kind k es' (i + 1) with
            | none => rfl
            | some r =>
              cases r with
              | none => rfl
              | some r =>
                have := (h2 r hf).1
                simp only [Option.map_some, Option.bind_some]
                rw [show r.1 - i = (r.1 - (i + 1)) + 1 by omega]
                simp
          · have := h2 r hr
            simp
            omega

theorem findAsking_same (kt : TypeId) (k : Value) : ∀ (es es' : List MapEntry) (i : Nat) (r : Option (Nat × Value)), SameKeys es es' → semPure P (Instr.findAsking kt k es' i) = some r →
    (Instr.findAsking kt k es i).run P w = .ok (r.bind fun p => (es[p.1 - i]?).map fun e => (p.1, e.val)) w ∧ ∀ p, r = some p → i ≤ p.1 ∧ p.1 - i < es.length := by
  intro es
  induction es with
  | nil =>
    intro es' i r h hr
    have : es' = [] := by simpa [SameKeys] using h.symm
    subst this
    simp only [Instr.findAsking] at hr
    have : r = none := by simpa [semPure, pure] using hr.symm
    subst this
    exact ⟨rfl, fun p hp => by cases hp⟩
  | cons e es ih =>
    intro es' i r h hr
    cases es' with
    | nil => simp [SameKeys] at h
    | cons e' es' =>
      simp only [SameKeys, List.map_cons, List.cons.injEq] at h
      obtain ⟨hk, hks⟩ := h
      unfold Instr.findAsking at hr ⊢
      obtain ⟨b, hb, hr⟩ := semPure_bind hr
      rw [hk, run_bind_ok (semPure_run hb w)]
      cases b with
      | true =>
        simp only [if_true] at hr ⊢
        have : r = some (i, e'.val) := by simpa [semPure, pure] using hr.symm
        subst this
        exact ⟨by simp, fun p hp => by cases hp; simp⟩
      | false =>
        simp only [Bool.false_eq_true, if_false] at hr ⊢
        obtain ⟨h1, h2⟩ := ih es' (i + 1) r hks hr
        refine ⟨?_, fun p hp => ?_⟩
        · rw [h1]
          cases r with
          | none => rfl
          | some p =>
            have := (h2 p rfl).1
            simp only [Option.bind_some]
            rw [show p.1 - i = (p.1 - (i + 1)) + 1 by omega]
            simp
        · have := h2 p hp
          simp
          omega

theorem findKeyA_sim {kt : TypeId} {k : Value} {es : List (Value × AV)} {r : Option (Nat × AV)} {E : List MapEntry} {H : List AObj} (h : findKeyA P kt k es = .ok r) (hl : es.length = E.length)
    (he : ∀ (i : Nat) (k : Value) (v : AV) (e : MapEntry), es[i]? = some (k, v) → E[i]? = some e → e.key = k ∧ VR w S H φ v e.val) :
    (r = none ∧ (Instr.findKey kt k E).run P w = .ok none w) ∨ ∃ i v e, r = some (i, v) ∧ E[i]? = some e ∧ (∃ k', es[i]? = some (k', v)) ∧ VR w S H φ v e.val ∧ (Instr.findKey kt k E).run P w = .ok (some (i, e.val)) w := by
  unfold findKeyA at h
  obtain ⟨q, hq, h⟩ := bind_ok h
  have hq := ofOpt_ok hq
  have hsame : SameKeys E (bareEntries es) := by
    unfold SameKeys bareEntries
    apply List.ext_getElem?
    intro i
    simp only [List.getElem?_map, List.map_map]
    cases hx : es[i]? with
    | none =>
      have : E[i]? = none := by rw [List.getElem?_eq_none_iff] at hx ⊢; omega
      rw [this]; rfl
    | some p =>
      have hi : i < E.length := hl ▸ (List.getElem?_eq_some_iff.1 hx).1
      have hE : E[i]? = some E[i] := by simp [hi]
      rw [hE]
      simp only [Option.map_some, Function.comp]
      rw [(he i p.1 p.2 E[i] hx hE).1]
  have key : ∃ q' : Option (Nat × Value), (q' = q.bind fun p => (E[p.1]?).map fun e => (p.1, e.val)) ∧ (Instr.findKey kt k E).run P w = .ok q' w ∧ ∀ p, q = some p → p.1 < E.length := by
    unfold Instr.findKey at hq ⊢
    obtain ⟨d, hd, hq⟩ := semPure_bind hq
    rw [run_bind_ok (semPure_run hd w)]
    obtain ⟨h1, h2⟩ := findNow_same d k E (bareEntries es) 0 hsame
    cases hf : Instr.findNow d k (bareEntries es) 0 with
    | some r' =>
      rw [hf] at hq h1
      have : q = r' := by simpa [semPure, pure] using hq.symm
      subst this
      rw [h1]
      exact ⟨_, rfl, by simp, fun p hp => by subst hp; have := h2 p hf; omega⟩
    | none =>
      rw [hf] at hq h1
      rw [h1]
      obtain ⟨h3, h4⟩ := findAsking_same kt k E (bareEntries es) 0 q hsame hq
      exact ⟨_, rfl, by simpa using h3, fun p hp => by have := h4 p hp; omega⟩
  obtain ⟨q', rfl, hr, hlt⟩ := key
  cases q with
  | none =>
    simp only at h
    rw [← pure_ok h]
    exact .inl ⟨rfl, hr⟩
  | some p =>
    simp only at h
    have hp := hlt p rfl
    have hE : E[p.1]? = some E[p.1] := by simp [hp]
    have hes : p.1 < es.length := hl ▸ hp
    have hx : es[p.1]? = some es[p.1] := by simp [hes]
    rw [hx] at h
    simp only at h
    rw [← pure_ok h]
    refine .inr ⟨p.1, es[p.1].2, E[p.1], rfl, hE, ⟨es[p.1].1, hx⟩, (he p.1 es[p.1].1 es[p.1].2 _ hx hE).2, ?_⟩
    rw [hr]
    simp [hE]

theorem run_getObj {r : Nat} {o : Obj} (h : w.heap[r]? = some o) (hc : ∀ C t fz, o ≠ .cells C t fz) : (getObj r).run P w = .ok o w := by
  unfold getObj
  simp only [Sem.run, h]

/-- A map's entries, as the model reads them. -/
theorem mapEntries_sim (R : Rel n₀ w₀ w S H φ D) {x : AV} {es : List (Value × AV)} {rd : List Nat} {v : Value} (h : mapEntriesA H x = .ok (es, rd)) (hv : VR w S H.objs φ x v) :
    (v = .map none ∧ es = []) ∨ ∃ r E c, v = .map (some r) ∧ (getObj r).run P w = .ok (.map E c) w ∧ es.length = E.size ∧
      (∀ (i : Nat) (k : Value) (v : AV) (e : MapEntry), es[i]? = some (k, v) → E.toList[i]? = some e → e.key = k ∧ VR w S H.objs φ v e.val) := by
  unfold mapEntriesA at h
  split at h
  · cases h
    exact .inl ⟨hv.sc_inv.1, rfl⟩
  · rename_i b
    split at h
    · rename_i es' hb
      cases h
      obtain ⟨E, c, h1, h2, h3, h4⟩ := R.obj b _ hb
      have : v = .map (some (φ b).1) := by
        cases hv with
        | im h => cases h
        | mp h => rfl
      exact .inr ⟨_, E, c, this, run_getObj h1 (by simp), h2, fun i k v e a b => h3 i k v e a (by simpa using b)⟩
    · cases h
  · cases h

theorem lookupA_sim (R : Rel n₀ w₀ w S H φ D) {t : TypeId} {x k y : AV} {ok : Bool} {e : Eff} {v vk : Value} (h : lookupA P H t x k ok = .ok (y, e)) (hv : VR w S H.objs φ x v) (hk : VR w S H.objs φ k vk) :
    ∃ u, (Instr.lookup t v vk ok).run P w = .ok u w ∧ VR w S H.objs φ y u ∧ e.set = none ∧ e.frz = [] := by
  unfold lookupA at h
  obtain ⟨d, hd, h⟩ := bind_ok h
  split at h
  · rename_i kt elem
    obtain ⟨kv, hkv, h⟩ := bind_ok h
    have := toV_VR (ofOpt_ok hkv) hk
    subst this
    obtain ⟨⟨es, rd⟩, hes, h⟩ := bind_ok h
    obtain ⟨u0, hck, h⟩ := bind_ok h
    obtain ⟨r, hr, h⟩ := bind_ok h
    have hck := ofOpt_ok hck
    have fin : ∀ (E : List MapEntry), es.length = E.length → (∀ (i : Nat) (k : Value) (v : AV) (e : MapEntry), es[i]? = some (k, v) → E[i]? = some e → e.key = k ∧ VR w S H.objs φ v e.val) →
        ∃ u, (do
          let (v, ok') ← match ← Instr.findKey kt vk E with
            | some (_, v) => pure (v, true)
            | none => pure (← zeroValue elem, false)
          pure (if ok then .tuple #[v, .bool ok'] else v) : Sem Value).run P w = .ok u w ∧ VR w S H.objs φ y u ∧ e.set = none ∧ e.frz = [] := by
      intro E hl he
      rcases findKeyA_sim hr hl he with ⟨rfl, hf⟩ | ⟨i, x, en, rfl, hE, _, hx, hf⟩
      · obtain ⟨z, hz, h⟩ := bind_ok h
        cases pure_ok h
        obtain ⟨zv, hzr, rfl⟩ := tzero_run (P := P) (w := w) hz
        refine ⟨if ok then .tuple #[zv, .bool false] else zv, ?_, ?_, rfl, rfl⟩
        · rw [run_bind_ok hf]
          simp only
          rw [run_bind_ok hzr]
          rfl
        · cases ok with
          | false => exact ofV_VR zv
          | true => exact .tup rfl (VRL.cons (vs := [.bool false]) (ofV_VR zv) (VRL.cons (vs := []) (.im (.sc rfl)) VRL.nil)).2
      · cases pure_ok h
        refine ⟨if ok then .tuple #[en.val, .bool true] else en.val, ?_, ?_, rfl, rfl⟩
        · rw [run_bind_ok hf]
          rfl
        · cases ok with
          | false => exact hx
          | true => exact .tup rfl (VRL.cons (vs := [.bool true]) hx (VRL.cons (vs := []) (.im (.sc rfl)) VRL.nil)).2
    unfold Instr.lookup
    rw [run_bind_ok (tund_run hd)]
    simp only
    rcases mapEntries_sim (P := P) R hes hv with ⟨rfl, rfl⟩ | ⟨rr, E, c, rfl, hg, hl, he⟩
    · simp only
      rw [run_bind_ok (a := #[]) (w' := w) rfl, run_bind_ok (semPure_run (a := u0) (by simpa using hck) w)]
      exact fin [] rfl (fun i k v e a b => by simp at b)
    · simp only
      rw [run_bind_ok hg]
      simp only
      have hie : es.isEmpty = E.isEmpty := by
        cases es with
        | nil => simp at hl; simp [Array.eq_empty_of_size_eq_zero hl.symm]
        | cons a es =>
          have h0 : (a :: es).length = E.size := hl
          simp only [List.length_cons] at h0
          have : E.size ≠ 0 := by omega
          simp [Array.isEmpty, this]
      rw [hie] at hck
      rw [run_bind_ok (a := E) (w' := w) rfl, run_bind_ok (semPure_run hck w)]
      exact fin E.toList (by simpa using hl) he
  · cases h
end
end Go.Abs

namespace Go.Abs
open Go Go.RowKit

section
variable {P : Program} {w : World}
variable {n₀ : Nat} {w₀ : World} {S : Nat → Prop} {H : AHeap} {φ : Nat → Nat × Nat × Nat} {D : Nat → Prop}

theorem run_setObj {r : Nat} {o o' : Obj} (h : w.heap[r]? = some o) (hc : ∀ C t fz, o ≠ .cells C t fz) : (Go.setObj r o').run P w = .ok () { w with heap := w.heap.setIfInBounds r o' } := by
  unfold Go.setObj
  cases o with
  | cells C t fz => exact absurd rfl (hc _ _ _)
  | _ => simp only [Sem.run, h]

theorem setObj_below {r : Nat} {o' : Obj} (hn : n₀ ≤ r) : Below n₀ w { w with heap := w.heap.setIfInBounds r o' } :=
  ⟨rfl, rfl, rfl, by simp, fun k hk => by simp only [Array.getElem?_setIfInBounds]; rw [if_neg (by omega)]⟩

/-- An object that is no row of cells is set anew. -/
theorem obj_sim (R : Rel n₀ w₀ w S H φ D) {b : Nat} {o o' : AObj} {e : Eff} {ob : Obj} (hb : H.objs[b]? = some o) (hl : o.live = true) (hS : ¬ S (φ b).1) (hz : b ∉ H.frz) (he : e.set = some (b, o')) (hf : e.frz = [])
    (hx : OExt o o' (φ b) (φ b)) (hnd : ∀ ds, w.heap[(φ b).1]? ≠ some (.deferred ds))
    (hor : ∀ H', Ext n₀ w S H.objs φ D { w with heap := w.heap.setIfInBounds (φ b).1 ob } S H' (upd φ b (φ b)) D → OR { w with heap := w.heap.setIfInBounds (φ b).1 ob } S H' H.frz (upd φ b (φ b)) D b o') :
    ∃ φ', φ' b = φ b ∧ Rel n₀ w₀ { w with heap := w.heap.setIfInBounds (φ b).1 ob } S (H.apply e) φ' D ∧ Ext n₀ w S H.objs φ D { w with heap := w.heap.setIfInBounds (φ b).1 ob } S (H.apply e).objs φ' D := by
  have hap : H.apply e = { H with objs := setObj H.objs b o' } := by
    unfold AHeap.apply
    rw [he, hf]
    rfl
  have hbl : b ≤ H.objs.length := Nat.le_of_lt (List.getElem?_eq_some_iff.1 hb).1
  have hx' : ∀ o1, H.objs[b]? = some o1 → OExt o1 o' (φ b) (φ b) := by
    intro o1 h1
    rw [hb] at h1; cases h1; exact hx
  have hw : ∀ k, k ≠ (φ b).1 → k < w.heap.size → ({ w with heap := w.heap.setIfInBounds (φ b).1 ob } : World).heap[k]? = w.heap[k]? := by
    intro k hk _
    simp only [Array.getElem?_setIfInBounds]
    rw [if_neg (Ne.symm hk)]
  have E := ext_set R (w' := { w with heap := w.heap.setIfInBounds (φ b).1 ob }) (p := φ b) hbl hw hS hx'
  rw [hap]
  refine ⟨upd φ b (φ b), upd_same _ _ _, ?_, E⟩
  refine rel_set R hbl (setObj_below (R.place b o hb hl)) hw hS rfl (R.place b o hb hl) (fun hd => hnd _ (R.dfr _ hd).2.2) hz (fun b' o1 h1 hl1 hq => R.inj b' b o1 o h1 hb hl1 hl hq) hx' (hor _ E)

theorem set_here {r : Nat} {ob : Obj} (h : r < w.heap.size) : ({ w with heap := w.heap.setIfInBounds r ob } : World).heap[r]? = some ob := by
  simp [h]

theorem mapUpdateA_sim (R : Rel n₀ w₀ w S H φ D) {t : TypeId} {m k x : AV} {e : Eff} {vm vk vx : Value} (h : mapUpdateA P H t m k x = .ok e) (hm : VR w S H.objs φ m vm) (hk : VR w S H.objs φ k vk) (hx : VR w S H.objs φ x vx) :
    ∃ w', (Instr.mapUpdate t vm vk vx).run P w = .ok () w' ∧ Good n₀ w₀ w S H φ D AV.undef e undef w' := by
  unfold mapUpdateA at h
  obtain ⟨d, hd, h⟩ := bind_ok h
  split at h
  · rename_i kt elem b _
    obtain ⟨kv, hkv, h⟩ := bind_ok h
    have := toV_VR (ofOpt_ok hkv) hk
    subst this
    split at h
    · rename_i es hb
      obtain ⟨u0, hck, h⟩ := bind_ok h
      obtain ⟨r, hr, h⟩ := bind_ok h
      have hck := ofOpt_ok hck
      obtain ⟨E, c, h1, h2, h3, h4, hbc, hbo⟩ := R.obj b _ hb
      have hvm : vm = .map (some (φ b).1) := by
        cases hm with
        | im h => cases h
        | mp h => rfl
      subst hvm
      have hlt := R.lt hb rfl
      have hz : b ∉ H.frz := by
        intro hz
        obtain ⟨cs, g, hc⟩ := R.frzc b hz
        rw [hb] at hc; cases hc
      have hnd : ∀ ds, w.heap[(φ b).1]? ≠ some (.deferred ds) := by
        intro ds hds
        rw [h1] at hds; cases hds
      have hE : ∀ (i : Nat) (k : Value) (v : AV) (e : MapEntry), es[i]? = some (k, v) → E.toList[i]? = some e → e.key = k ∧ VR w S H.objs φ v e.val := fun i k v e a b => h3 i k v e a (by simpa using b)
      unfold Instr.mapUpdate
      rw [run_bind_ok (tund_run hd)]
      simp only
      rw [run_bind_ok (run_getObj h1 (by simp))]
      simp only
      rw [run_bind_ok (semPure_run hck w)]
      rcases findKeyA_sim hr (by simpa using h2) hE with ⟨rfl, hf⟩ | ⟨i, xo, en, rfl, hEi, ⟨k', hes⟩, hxo, hf⟩
      · simp only at h
        cases pure_ok h
        rw [run_bind_ok hf]
        simp only
        obtain ⟨φ', p1, p2, p3⟩ := obj_sim R (ob := .map (E.push { key := vk, val := vx, born := c }) (c + 1)) (e := { rd := [b], set := some (b, .map (es ++ [(vk, x)])) }) hb rfl h4 hz rfl rfl ⟨⟨_, rfl⟩, rfl⟩ hnd (by
          intro H' X
          refine ⟨E.push { key := vk, val := vx, born := c }, c + 1, ?_, by simp [h2], ?_, ?_⟩
          · rw [upd_same]; exact set_here hlt
          · intro j k1 v1 e1 a1 b1
            rw [List.getElem?_append] at a1
            rw [Array.getElem?_push] at b1
            by_cases hj : j < es.length
            · rw [if_pos hj] at a1
              rw [if_neg (by omega)] at b1
              exact ⟨(h3 j k1 v1 e1 a1 b1).1, (h3 j k1 v1 e1 a1 b1).2.ext X⟩
            · rw [if_neg hj] at a1
              by_cases hj2 : j = es.length
              · subst hj2
                rw [if_pos h2] at b1
                simp at a1 b1
                obtain ⟨rfl, rfl⟩ := a1
                subst b1
                exact ⟨rfl, hx.ext X⟩
              · rw [List.getElem?_eq_none (by simp; omega)] at a1
                cases a1
          · rw [upd_same]
            refine ⟨h4, by simp [hbc], fun j e1 b1 => ?_⟩
            rw [Array.getElem?_push] at b1
            by_cases hj : j = E.size
            · rw [if_pos hj] at b1
              simp at b1
              subst b1
              simp [hbc, hj]
            · rw [if_neg hj] at b1
              exact hbo j e1 b1)
        exact ⟨_, run_setObj h1 (by simp), S, φ', p2, p3, VR.undef⟩
      · simp only [hes] at h
        split at h
        · rename_i hsb
          cases pure_ok h
          have hEi' : E[i]? = some en := by simpa using hEi
          have hik := (h3 i k' xo en hes hEi').1
          rw [run_bind_ok hf]
          simp only
          have hkeep : (Instr.keyThatStays (((E[i]?).map (·.key)).getD vk) vk).run P w = .ok vk w := by
            unfold Instr.keyThatStays
            rw [hEi']
            simp only [Option.map_some, Option.getD_some, hik, hsb, if_true]
            rfl
          rw [run_bind_ok hkeep]
          obtain ⟨φ', p1, p2, p3⟩ := obj_sim R (ob := .map (E.modify i fun e => { e with key := vk, val := vx }) c) (e := { rd := [b], set := some (b, .map (es.set i (vk, x))) }) hb rfl h4 hz rfl rfl ⟨⟨_, rfl⟩, rfl⟩ hnd (by
            intro H' X
            refine ⟨E.modify i fun e => { e with key := vk, val := vx }, c, ?_, by simp [h2], ?_, ?_⟩
            · rw [upd_same]; exact set_here hlt
            · intro j k1 v1 e1 a1 b1
              rw [List.getElem?_set] at a1
              rw [Array.getElem?_modify] at b1
              by_cases hj : i = j
              · subst hj
                have hi : i < es.length := (List.getElem?_eq_some_iff.1 hes).1
                simp [hi] at a1
                rw [if_pos rfl, hEi'] at b1
                simp at b1
                obtain ⟨rfl, rfl⟩ := a1
                subst b1
                exact ⟨rfl, hx.ext X⟩
              · rw [if_neg hj] at a1 b1
                exact ⟨(h3 j k1 v1 e1 a1 b1).1, (h3 j k1 v1 e1 a1 b1).2.ext X⟩
            · rw [upd_same]
              refine ⟨h4, by simp [hbc], fun j e1 b1 => ?_⟩
              rw [Array.getElem?_modify] at b1
              by_cases hj : i = j
              · subst hj
                rw [if_pos rfl, hEi'] at b1
                simp at b1
                subst b1
                exact hbo i en hEi'
              · rw [if_neg hj] at b1
                exact hbo j e1 b1)
          exact ⟨_, run_setObj h1 (by simp), S, φ', p2, p3, VR.undef⟩
        · cases h
    · cases h
  · cases h

theorem makeMap_sim (R : Rel n₀ w₀ w S H φ D) {slot : Option Nat} {b : Nat} {e : Eff} (h : newA H slot (.map []) = .ok (b, e)) (t : TypeId) :
    ∃ u w', (Instr.makeMap t none).run P w = .ok u w' ∧ Good n₀ w₀ w S H φ D (.mp b) e u w' := by
  obtain ⟨φ', p1, p2, p3, p4⟩ := new_sim R (e' := e) h rfl (newA_ok h).2.1 (ob := .map #[] 0) 0 (by
    intro H' X
    refine ⟨#[], 0, ?_, rfl, fun i k v e a b => by simp at a, ?_, rfl, fun i e h => by simp at h⟩
    · rw [upd_same]; simp
    · rw [upd_same]; exact fun hs => Nat.lt_irrefl _ (R.szS _ hs))
  refine ⟨.map (some w.heap.size), _, rfl, S, φ', p2, p3, ?_⟩
  have := VR.mp (w := { w with heap := w.heap.push (.map #[] 0) }) (S := S) (φ := φ') (H := (H.apply e).objs) (b := b) ⟨_, p4⟩
  rwa [p1] at this

theorem rangeA_sim (R : Rel n₀ w₀ w S H φ D) {slot : Option Nat} {t : TypeId} {x y : AV} {e : Eff} {v : Value} (h : rangeA P H slot t x = .ok (y, e)) (hv : VR w S H.objs φ x v) :
    ∃ u w', (Instr.range t v).run P w = .ok u w' ∧ Good n₀ w₀ w S H φ D y e u w' := by
  unfold rangeA at h
  obtain ⟨d, hd, h⟩ := bind_ok h
  split at h
  · rename_i s _
    obtain ⟨⟨b, e'⟩, hb, h⟩ := bind_ok h
    cases pure_ok h
    have := hv.sc_inv.1
    subst this
    obtain ⟨φ', p1, p2, p3, p4⟩ := new_sim R (e' := e) hb rfl (newA_ok hb).2.1 (ob := .stringIter s 0) 0 (by
      intro H' X
      refine ⟨?_, ?_⟩
      · rw [upd_same]; simp
      · rw [upd_same]; exact fun hs => Nat.lt_irrefl _ (R.szS _ hs))
    refine ⟨.pointer (some ⟨w.heap.size, 0, none⟩), { w with heap := w.heap.push (.stringIter s 0) }, ?_, S, φ', p2, p3, ?_⟩
    · unfold Instr.range
      rw [run_bind_ok (tund_run hd)]
      simp only
      rw [run_bind_ok (a := .stringIter s 0) (w' := w) rfl]
      rfl
    · have := VR.it (w := { w with heap := w.heap.push (.stringIter s 0) }) (S := S) (φ := φ') (H := (H.apply e).objs) (b := b) ⟨_, _, p4⟩
      rwa [p1] at this
  · cases h

theorem nextA_sim (R : Rel n₀ w₀ w S H φ D) {x y : AV} {e : Eff} {v : Value} {t : TypeId} (h : nextA H x = .ok (y, e)) (hv : VR w S H.objs φ x v) :
    ∃ u w', (Instr.next v true t).run P w = .ok u w' ∧ Good n₀ w₀ w S H φ D y e u w' := by
  unfold nextA at h
  split at h
  · rename_i b
    split at h
    · rename_i s pos hb
      have hvv : v = .pointer (some ⟨(φ b).1, 0, none⟩) := by
        cases hv with
        | im h => cases h
        | it h => rfl
        | itr h => rfl
      subst hvv
      obtain ⟨h1, h4⟩ := R.obj b _ hb
      have hlt := R.lt hb rfl
      have hz : b ∉ H.frz := by
        intro hz
        obtain ⟨cs, g, hc⟩ := R.frzc b hz
        rw [hb] at hc; cases hc
      unfold Instr.next
      simp only
      rw [run_bind_ok (run_getObj h1 (by simp))]
      simp only
      split at h
      · rename_i hp
        rw [if_pos hp]
        simp only at h ⊢
        cases h
        obtain ⟨φ', p1, p2, p3⟩ := obj_sim R (ob := .stringIter s (pos + (Utf8.decode s pos).2)) (e := { rd := [b], set := some (b, .siter s (pos + (Utf8.decode s pos).2)) }) hb rfl h4 hz rfl rfl ⟨⟨_, _, rfl⟩, rfl⟩ (by
          intro ds hds
          rw [h1] at hds; cases hds) (by
          intro H' X
          exact ⟨by rw [upd_same]; exact set_here hlt, by rw [upd_same]; exact h4⟩)
        rw [run_bind_ok (run_setObj h1 (by simp))]
        exact ⟨_, _, rfl, S, φ', p2, p3, .tup rfl (VRL.cons (vs := [_, _]) (.im (.sc rfl)) (VRL.cons (vs := [_]) (.im (.sc rfl)) (VRL.cons (vs := []) (.im (.sc rfl)) VRL.nil))).2⟩
      · rename_i hp
        rw [if_neg hp]
        cases h
        exact ⟨_, w, rfl, Good.same R rfl rfl (.tup rfl (VRL.cons (vs := []) (.im (.sc rfl)) VRL.nil).2)⟩
    · cases h
  · cases h

theorem lenBuiltin_sim (R : Rel n₀ w₀ w S H φ D) {ts : Array TypeId} {x y : AV} {rd : List Nat} {v : Value} {t : TypeId} (h : lenBuiltin P H ts.toList x = .ok (y, rd)) (hv : VR w S H.objs φ x v) :
    ∃ u, (Builtin.len_ ts t #[v]).run P w = .ok u w ∧ VR w S H.objs φ y u := by
  unfold lenBuiltin at h
  split at h
  · rename_i t0 hts
    have hts : ts[0]? = some t0 := by rw [← Array.getElem?_toList, hts]; rfl
    obtain ⟨d, hd, h⟩ := bind_ok h
    have st : ∀ {k : TypeDesc → Value → Sem Value}, True := fun {_} => trivial
    unfold Builtin.len_
    simp only [hts]
    have h0 : (#[v] : Array Value)[0]? = some v := rfl
    simp only [h0]
    rw [run_bind_ok (tund_run hd)]
    split at h
    · cases pure_ok h
      exact ⟨_, rfl, .im (.sc rfl)⟩
    · obtain ⟨⟨es, rd'⟩, hes, h⟩ := bind_ok h
      cases pure_ok h
      rcases mapEntries_sim (P := P) R hes hv with ⟨rfl, rfl⟩ | ⟨rr, E, c, rfl, hg, hl, he⟩
      · exact ⟨_, rfl, .im (.sc rfl)⟩
      · simp only
        rw [run_bind_ok hg]
        exact ⟨_, rfl, by rw [hl]; exact .im (.sc rfl)⟩
    · cases pure_ok h
      have := hv.sc_inv.1
      subst this
      exact ⟨_, rfl, .im (.sc rfl)⟩
    · cases pure_ok h
      have := hv.sc_inv.1
      subst this
      exact ⟨_, rfl, .im (.sc rfl)⟩
    · cases pure_ok h
      rcases hv.isl_inv with ⟨b, o, c, rfl, _⟩ | ⟨rfl, _, rfl, _⟩
      · exact ⟨_, rfl, .im (.sc rfl)⟩
      · exact ⟨_, rfl, .im (.sc rfl)⟩
    · cases pure_ok h
      obtain ⟨ad, c, rfl⟩ := hv.osl_form
      exact ⟨_, rfl, .im (.sc rfl)⟩
    · cases h
  · cases h

theorem capBuiltin_sim {H : List AObj} {ts : Array TypeId} {x y : AV} {v : Value} {t : TypeId} (h : capBuiltin P ts.toList x = .ok y) (hv : VR w S H φ x v) :
    ∃ u, (Builtin.cap_ ts t #[v]).run P w = .ok u w ∧ VR w S H φ y u := by
  unfold capBuiltin at h
  split at h
  · rename_i t0 hts
    have hts : ts[0]? = some t0 := by rw [← Array.getElem?_toList, hts]; rfl
    obtain ⟨d, hd, h⟩ := bind_ok h
    unfold Builtin.cap_
    simp only [hts]
    have h0 : (#[v] : Array Value)[0]? = some v := rfl
    simp only [h0]
    rw [run_bind_ok (tund_run hd)]
    split at h
    · cases pure_ok h
      have := hv.sc_inv.1
      subst this
      exact ⟨_, rfl, .im (.sc rfl)⟩
    · split at h
      · rename_i hex
        cases pure_ok h
        rcases hv.isl_inv with ⟨b, o, c, rfl, _, _, _, _, _, he⟩ | ⟨_, _, _, _, rfl⟩
        case inr => cases hex
        rw [← he hex]
        exact ⟨_, rfl, .im (.sc rfl)⟩
      · cases h
    · split at h
      · rename_i hex
        cases pure_ok h
        cases hv with
        | im h => cases h
        | osl hb hg hl hc he hp =>
          rw [← he hex]
          exact ⟨_, rfl, .im (.sc rfl)⟩
      · cases h
    · cases h
  · cases h

theorem scalars_sim {H : List AObj} : ∀ {xs : List AV} {l : List Value} {vs : List Value}, scalars xs = .ok l → VRL w S H φ xs vs.toArray → vs = l := by
  intro xs
  induction xs with
  | nil =>
    intro l vs h hv
    cases h
    have := hv.1
    simp at this
    exact List.length_eq_zero_iff.1 this.symm
  | cons x xs ih =>
    intro l vs h hv
    unfold scalars at h
    obtain ⟨a, ha, h⟩ := bind_ok h
    obtain ⟨as, has, h⟩ := bind_ok h
    rw [← pure_ok h]
    cases vs with
    | nil => have := hv.1; simp at this
    | cons v vs =>
      rw [toScalar_VR (ofOpt_ok ha) (hv.2 0 x v (by simp) (by simp))]
      congr 1
      exact ih has ⟨by simpa using hv.1, fun i y u p q => hv.2 (i + 1) y u (by simpa using p) (by simpa using q)⟩

theorem minMaxA_sim {H : List AObj} {m : Bool} {xs : List AV} {y : AV} {vs : Array Value} {ts : Array TypeId} {t : TypeId} (h : minMaxA P m xs = .ok y) (hv : VRL w S H φ xs vs) :
    ∃ u, (if m then Builtin.max_ ts t vs else Builtin.min_ ts t vs).run P w = .ok u w ∧ VR w S H φ y u := by
  unfold minMaxA at h
  obtain ⟨l, hl, h⟩ := bind_ok h
  have e := scalars_sim hl hv.list
  have e : vs = l.toArray := by rw [← e]
  subst e
  simp only at h
  obtain ⟨u, hu, h⟩ := bind_ok h
  have hu := ofOpt_ok hu
  rw [← pure_ok h]
  refine ⟨u, ?_, ofV_VR u⟩
  cases m with
  | true => exact semPure_run hu w
  | false => exact semPure_run hu w

theorem bytesOf_sim {H : List AObj} : ∀ {xs : List AV} {bs : List UInt8} {vs : List Value}, bytesOf xs = .ok bs → VRL w S H φ xs vs.toArray → ∃ ns : List Int, vs = ns.map (fun n => .int .u8 n) ∧ bs = ns.map (fun n => UInt8.ofNat n.toNat) := by
  intro xs
  induction xs with
  | nil =>
    intro bs vs h hv
    cases h
    have := hv.1
    simp at this
    exact ⟨[], by rw [List.length_eq_zero_iff.1 this.symm]; rfl, rfl⟩
  | cons x xs ih =>
    intro bs vs h hv
    cases vs with
    | nil => have := hv.1; simp at this
    | cons v vs =>
      unfold bytesOf at h
      split at h
      · cases ‹_ :: _ = []›
      · rename_i n r hx
        cases hx
        obtain ⟨bs', hbs, h⟩ := bind_ok h
        rw [← pure_ok h]
        have hv0 := (hv.2 0 _ v (by simp; rfl) (by simp)).sc_inv.1
        obtain ⟨ns, rfl, rfl⟩ := ih hbs (vs := vs) ⟨by simpa using hv.1, fun i y u p q => hv.2 (i + 1) y u (by simpa using p) (by simpa using q)⟩
        exact ⟨n :: ns, by rw [hv0]; rfl, rfl⟩
      · cases h
end
end Go.Abs

namespace Go.Abs
open Go Go.RowKit

section
variable {P : Program} {w : World}
variable {n₀ : Nat} {w₀ : World} {S : Nat → Prop} {H : AHeap} {φ : Nat → Nat × Nat × Nat} {D : Nat → Prop}

theorem lenA_sim {H : List AObj} {x : AV} {n : Nat} {v : Value} (h : lenA x = .ok n) (hv : VR w S H φ x v) : (Builtin.lenOf v).run P w = .ok n w ∧ ((∃ a c, v = .slice a n c) ∨ ∃ s, v = .string s ∧ s.size = n) := by
  unfold lenA at h
  split at h
  · cases h
    have := hv.sc_inv.1
    subst this
    exact ⟨rfl, .inl ⟨_, _, rfl⟩⟩
  · cases h
    have := hv.sc_inv.1
    subst this
    exact ⟨rfl, .inr ⟨_, rfl, rfl⟩⟩
  · cases h
    rcases hv.isl_inv with ⟨b, o, c, rfl, _⟩ | ⟨rfl, _, rfl, _⟩
    · exact ⟨rfl, .inl ⟨_, _, rfl⟩⟩
    · exact ⟨rfl, .inl ⟨_, _, rfl⟩⟩
  · cases h
    obtain ⟨ad, c, rfl⟩ := hv.osl_form
    exact ⟨rfl, .inl ⟨_, _, rfl⟩⟩
  · cases h

theorem sliceCells_sim (R : Rel n₀ w₀ w S H φ D) {k n len : Nat} {x : AV} {cs : List AV} {rd : List Nat} {v : Value} (h : sliceCells H k x n = .ok (cs, rd)) (hl : lenA x = .ok len) (hn : n ≤ len) (hv : VR w S H.objs φ x v) :
    ∃ C, (Builtin.firstCells k n v).run P w = .ok C w ∧ VRL w S H.objs φ cs C := by
  unfold sliceCells at h
  split at h
  · split at h
    · cases h
      have := hv.sc_inv.1
      subst this
      exact ⟨#[], rfl, VRL.nil⟩
    · cases h
  · rename_i s
    split at h
    case isFalse => cases h
    obtain ⟨r, hr, h⟩ := bind_ok h
    cases pure_ok h
    have := hv.sc_inv.1
    subst this
    refine ⟨_, rfl, ?_, fun i y u a b => ?_⟩
    · obtain ⟨h1, h2, _⟩ := getRange_ok hr
      cases hl
      rw [h1]
      simp
      omega
    · obtain ⟨h1, h2, h3⟩ := getRange_ok hr
      have hi : i < n := h1 ▸ (List.getElem?_eq_some_iff.1 a).1
      rw [h3 i hi, Nat.zero_add, List.getElem?_map] at a
      have e : (s.extract 0 n).data[i]? = s.data.toList[i]? := by
        simp [ByteArray.data_extract, Array.getElem?_extract]
        omega
      rw [Array.getElem?_map, e] at b
      cases hs : s.data.toList[i]? with
      | none => rw [hs] at a; cases a
      | some c =>
        rw [hs] at a b
        simp at a b
        subst a; subst b
        exact .im (.sc rfl)
  · obtain ⟨r, hr, h⟩ := bind_ok h
    cases pure_ok h
    rcases hv.isl_inv with ⟨b, o, c, rfl, hS, hc, _⟩ | ⟨rfl, rfl, rfl, _⟩
    case inr =>
      have hn0 : n = 0 := by
        simp only [lenA] at hl
        cases hl
        omega
      subst hn0
      have : cs = [] := List.length_eq_zero_iff.1 (by rw [(getRange_ok hr).1]; simp)
      subst this
      exact ⟨#[], rfl, VRL.nil⟩
    have hsub := hc.sub hr
    obtain ⟨vs, h1, h2⟩ := Cells.load (P := P) hsub
    refine ⟨vs, ?_, h2⟩
    rw [(getRange_ok hr).1] at h1
    exact h1
  · rename_i b g off k' len' cap ex
    obtain ⟨cs0, h0, h⟩ := bind_ok h
    split at h
    · rename_i hkk
      subst hkk
      obtain ⟨r, hr, h⟩ := bind_ok h
      cases pure_ok h
      have hb := hcells_ok h0
      obtain ⟨o, c, rfl, ho, hlc, _⟩ := hv.osl_inv hb
      cases hl
      rcases ho with ho | ho
      · have hsub := (R.cells hb).sub hr
        obtain ⟨vs, h1, h2⟩ := Cells.load (P := P) hsub
        refine ⟨vs, ?_, h2⟩
        rw [(getRange_ok hr).1] at h1
        rw [ho]
        exact h1
      · have hn0 : n = 0 := by omega
        subst hn0
        have hr0 : cs = [] := List.length_eq_zero_iff.1 (by rw [(getRange_ok hr).1]; simp)
        subst hr0
        exact ⟨#[], by unfold Builtin.firstCells; simp [loadCells, loadCellsFrom], VRL.nil⟩
    · cases h
  · cases h

theorem askRoom_any (n : Nat) : (askRoom n).run P w = .ok () w := by
  unfold askRoom
  split <;> rfl

theorem nextslicecap_le (need old : Nat) (h : old ≤ need) : Builtin.nextslicecap need old ≤ 4 * need + 1024 := by
  have key : ∀ (r c : Nat), c ≤ need → Builtin.growBy need r c ≤ 2 * need + 1024 := by
    intro r
    induction r with
    | zero => intro c hc; unfold Builtin.growBy; omega
    | succ r ih =>
      intro c hc
      unfold Builtin.growBy
      split
      · omega
      · rename_i hlt
        by_cases hle : c + (c + 768) / 4 ≤ need
        · exact ih _ hle
        · have : ∀ r, Builtin.growBy need r (c + (c + 768) / 4) = c + (c + 768) / 4 := by
            intro r
            cases r with
            | zero => rfl
            | succ r => unfold Builtin.growBy; rw [if_pos (by omega)]
          rw [this]
          omega
  unfold Builtin.nextslicecap
  split
  · omega
  · split
    · omega
    · have := key 4 old h
      omega

theorem run_choose {q : Question} (h : q.forced = false) : (choose q).run P w = .ok (q.cut (w.tape w.drawn q)) { w with drawn := w.drawn + 1 } := by
  simp [choose, Sem.run, h]

theorem drew_below : Below n₀ w { w with drawn := w.drawn + 1 } := ⟨rfl, rfl, rfl, Nat.le_refl _, fun _ _ => rfl⟩

theorem Rel.drew (R : Rel n₀ w₀ w S H φ D) : Rel n₀ w₀ { w with drawn := w.drawn + 1 } S H φ D := rel_heap R rfl drew_below

theorem Ext.drew {H : List AObj} : Ext n₀ w S H φ D { w with drawn := w.drawn + 1 } S H φ D := ext_heap rfl

/-- What append does with a slice and the cells to come, where it must grow. -/
def growTail (elem : TypeId) (size sLen sCap need : Nat) (bytes : Nat) (s : Value) (appended : Sem (Array Value)) : Sem Value := do
  let newCap ← choose (.appendCap need sCap elem)
  askRoom (newCap * bytes)
  let old ← Builtin.firstCells size sLen s
  let new ← appended
  let rest := Builtin.zeroCells (← zeroValue elem).cells (newCap - need)
  pure (.slice (some (← newRow elem (old ++ new ++ rest))) need newCap)

theorem zeroCells_size (z : Array Value) (n : Nat) : (Builtin.zeroCells z n).size = n * z.size := by
  simp [Builtin.zeroCells]

theorem growA_sim (R : Rel n₀ w₀ w S H φ D) {slot : Option Nat} {elem : TypeId} {k len n sCap bytes : Nat} {s y : AV} {new : List AV} {rd : List Nat} {e : Eff} {vs : Value} {ap : Sem (Array Value)} {N : Array Value}
    (h : growA H slot k s len n new rd = .ok (y, e)) (hlen : lenA s = .ok len) (hvs : VR w S H.objs φ s vs) (hns : ∀ st, vs ≠ .string st) (hk : tsize P elem = .ok k) (hz : ∃ z, tzero P elem = .ok z ∧ z.cells.length = k)
    (hnl : new.length = n * k) (hN : VRL w S H.objs φ new N) (hap : ap.run P { w with drawn := w.drawn + 1 } = .ok N { w with drawn := w.drawn + 1 }) :
    ∃ u w', (growTail elem k len sCap (len + n) bytes vs ap).run P w = .ok u w' ∧ Good n₀ w₀ w S H φ D y e u w' := by
  unfold growA at h
  obtain ⟨⟨old, rd'⟩, hold, h⟩ := bind_ok h
  obtain ⟨⟨b, e'⟩, hb, h⟩ := bind_ok h
  cases pure_ok h
  have hv' := hvs.ext (Ext.drew (n₀ := n₀) (w := w) (S := S) (φ := φ) (D := D))
  obtain ⟨O, hO, hOl⟩ := sliceCells_sim (P := P) R.drew hold hlen (Nat.le_refl _) hv'
  have hN' : VRL { w with drawn := w.drawn + 1 } S H.objs φ new N := hN.ext (Ext.drew (n₀ := n₀) (D := D))
  obtain ⟨z, hz, hzl⟩ := hz
  obtain ⟨zv, hzr, rfl⟩ := tzero_run (P := P) (w := { w with drawn := w.drawn + 1 }) hz
  have hzs : zv.cells.size = k := by rw [← (ofV_cells (w := w) (S := S) (H := H.objs) (φ := φ) zv).1]; exact hzl
  have hol : old.length = len * k := by
    unfold sliceCells at hold
    split at hold
    · split at hold
      · rename_i h0; cases hold; rw [h0]; simp
      · cases hold
    · exact absurd hvs.sc_inv.1 (hns _)
    · obtain ⟨r, hr, hold⟩ := bind_ok hold
      cases pure_ok hold
      exact (getRange_ok hr).1
    · obtain ⟨_, _, hold⟩ := bind_ok hold
      split at hold
      · obtain ⟨r, hr, hold⟩ := bind_ok hold
        cases pure_ok hold
        exact (getRange_ok hr).1
      · cases hold
    · cases hold
  have hcut : ∃ c, len + n ≤ c ∧ (Question.appendCap (len + n) sCap elem).cut (w.tape w.drawn (.appendCap (len + n) sCap elem)) = c := ⟨_, by simp only [Question.cut]; omega, rfl⟩
  obtain ⟨c, hc1, hc2⟩ := hcut
  have hon := hOl.append hN'
  have hC : (old ++ new).length ≤ (O ++ N ++ Builtin.zeroCells zv.cells (c - (len + n))).size := by
    rw [Array.size_append, hon.1]
    omega
  obtain ⟨φ', h1, h2, h3, h4⟩ := row_sim R.drew (e' := { e' with rd := e'.rd ++ rd ++ rd' }) hb rfl (newA_ok hb).2.1 (t := elem) hC (fun i x v p q => by
    refine hon.2 i x v p ?_
    have hi : i < (old ++ new).length := (List.getElem?_eq_some_iff.1 p).1
    rw [Array.getElem?_append, if_pos (by rw [← hon.1]; exact hi)] at q
    exact q)
  refine ⟨.slice (some ⟨w.heap.size, 0, none⟩) (len + n) c, _, ?_, S, φ', h2, (Ext.drew (n₀ := n₀) (w := w) (S := S) (φ := φ) (D := D)).trans h3, .osl h4 (Nat.le_refl _) hc1 hc1 (fun e => by simp at e) (fun _ => ⟨0, by rw [h1], .inl (by rw [h1]), ?_⟩)⟩
  · unfold growTail
    rw [run_bind_ok (run_choose rfl), hc2, run_bind_ok (askRoom_any _), run_bind_ok hO, run_bind_ok hap, run_bind_ok hzr]
    rfl
  · rw [h1]
    simp only [Array.size_append, zeroCells_size, hzs, ← hOl.1, ← hN'.1, hol, hnl]
    rw [← Nat.add_mul, ← Nat.add_mul, Nat.add_sub_cancel' hc1]
    omega

theorem sliceCells_length {k n : Nat} {x : AV} {cs : List AV} {rd : List Nat} (h : sliceCells H k x n = .ok (cs, rd)) : cs.length = n * k := by
  unfold sliceCells at h
  split at h
  · split at h
    · rename_i h0; cases h; rw [h0]; simp
    · cases h
  · split at h
    · rename_i hk
      obtain ⟨r, hr, h⟩ := bind_ok h
      cases pure_ok h
      rw [(getRange_ok hr).1, hk, Nat.mul_one]
    · cases h
  · obtain ⟨r, hr, h⟩ := bind_ok h
    cases pure_ok h
    exact (getRange_ok hr).1
  · obtain ⟨_, _, h⟩ := bind_ok h
    split at h
    · obtain ⟨r, hr, h⟩ := bind_ok h
      cases pure_ok h
      exact (getRange_ok hr).1
    · cases h
  · cases h

theorem i64_32 {n : Int} (h0 : 0 ≤ n) (h : n < 2 ^ 32) : IntKind.i64.wrap n = n := IntWalk.i64_in n (by omega)

theorem newsA_sim (R : Rel n₀ w₀ w S H φ D) {elem : TypeId} {k : Nat} {ty : TypeInfo} {z : Bool} {x : AV} {n : Nat} {new : List AV} {rd : List Nat} {vx : Value} (h : newsA P H elem k z x = .ok (n, new, rd)) (hk : tsize P elem = .ok k)
    (hx : VR w S H.objs φ x vx) : new.length = n * k ∧ ∃ N, VRL w S H.objs φ new N ∧
      (z = true → ∃ kk i, vx = .int kk i ∧ 0 ≤ i ∧ i < 2 ^ 32 ∧ n = i.toNat ∧ (n * k ≠ 0 → ∃ zv, (zeroValue elem).run P w = .ok zv w ∧ Builtin.zeroCells zv.cells n = N) ∧ (n * k = 0 → N = #[])) ∧
      (z = false → (Builtin.lenOf vx).run P w = .ok n w ∧ (Builtin.firstCells k n vx).run P w = .ok N w) := by
  unfold newsA at h
  cases z with
  | true =>
    simp only [if_true] at h
    obtain ⟨i, hi, h⟩ := bind_ok h
    split at h
    · rename_i hb
      obtain ⟨cs, hcs, h⟩ := bind_ok h
      cases pure_ok h
      obtain ⟨kk, rfl⟩ := scalarInt_sim hi hx
      obtain ⟨z1, z2⟩ := zeroCellsA_sim (w := w) (S := S) (H := H.objs) (φ := φ) hcs hk
      refine ⟨z1, ?_⟩
      by_cases h0 : i.toNat * k = 0
      · have : new = [] := List.length_eq_zero_iff.1 (by rw [z1, h0])
        subst this
        exact ⟨#[], VRL.nil, fun _ => ⟨kk, i, rfl, hb.1, hb.2, rfl, fun h => absurd h0 h, fun _ => rfl⟩, fun h => by cases h⟩
      · obtain ⟨zv, hzr, hzs, hzl⟩ := z2 h0
        have e : Builtin.zeroCells zv.cells i.toNat = (Array.range (i.toNat * k)).map (fun j => zv.cells[j % zv.cells.size]!) := by
          unfold Builtin.zeroCells
          rw [hzs]
        exact ⟨_, hzl, fun _ => ⟨kk, i, rfl, hb.1, hb.2, rfl, fun _ => ⟨zv, hzr, e⟩, fun h => absurd h h0⟩, fun h => by cases h⟩
    · cases h
  | false =>
    simp only [Bool.false_eq_true, if_false] at h
    obtain ⟨n', hn, h⟩ := bind_ok h
    obtain ⟨⟨cs, rd'⟩, hc, h⟩ := bind_ok h
    cases pure_ok h
    obtain ⟨N, h1, h2⟩ := sliceCells_sim (P := P) R hc hn (Nat.le_refl _) hx
    exact ⟨sliceCells_length hc, N, h2, (fun h => by cases h), fun _ => ⟨(lenA_sim hn hx).1, h1⟩⟩

theorem matches_int (d : TypeDesc) : (match d with | .int _ => true | _ => false) = isIntT d := by cases d <;> rfl

/-- The cells to come, as the model computes them. -/
def appendedM (elem : TypeId) (k n : Nat) (z : Bool) (x : Value) : Sem (Array Value) :=
  if !z then Builtin.firstCells k n x
  else if n * k = 0 then pure #[]
  else do pure (Builtin.zeroCells (← zeroValue elem).cells n)

/-- What append does, once its arguments are known. -/
def appendTail (elem : TypeId) (k n : Nat) (z : Bool) (base : Option Addr) (sLen sCap : Nat) (s x : Value) : Sem Value :=
  let appended := appendedM elem k n z x
  let need := sLen + n
  if need ≤ sCap then do
    let new ← appended
    if let some a := base then storeCells (a.add (sLen * k)) new.toList
    pure (.slice base need sCap)
  else do
    if (need : Int) > IntKind.i64.max ∧ (z ∨ (← typeInfo elem).bytes = 0) then runtimePanic (.error "growslice: len out of range")
    if Builtin.nextslicecap need sCap * (← typeInfo elem).bytes > 2 ^ 48 then (if z then runtimePanic (.error "growslice: len out of range") else do
      if !(← Builtin.mayShare k sLen n base x) then mark .noRoom
      unsupported (.resourceLimit "append: a slice or a string whose bytes no memory bears"))
    let newCap ← choose (.appendCap need sCap elem)
    askRoom (newCap * (← typeInfo elem).bytes)
    let old ← Builtin.firstCells k sLen s
    let new ← appended
    let rest := Builtin.zeroCells (← zeroValue elem).cells (newCap - need)
    pure (.slice (some (← newRow elem (old ++ new ++ rest))) need newCap)

theorem append_run {ts : Array TypeId} {t sType xType elem : TypeId} {xd : TypeDesc} {k n sLen sCap : Nat} {ty : TypeInfo} {base : Option Addr} {x : Value} (t0 : ts[0]? = some sType) (t1 : ts[1]? = some xType)
    (hs : tund P sType = .ok (.slice elem)) (hx : tund P xType = .ok xd) (hk : tsize P elem = .ok k) (hi : tinfo P elem = .ok ty)
    (hz : isIntT xd = true → ∃ kk i, x = .int kk i ∧ 0 ≤ i ∧ i < 2 ^ 32 ∧ n = i.toNat ∧ n * ty.bytes ≤ 2 ^ 48) (hn : isIntT xd = false → (Builtin.lenOf x).run P w = .ok n w) :
    (Builtin.append_ ts t #[.slice base sLen sCap, x]).run P w = (appendTail elem k n (isIntT xd) base sLen sCap (.slice base sLen sCap) x).run P w := by
  have a0 : (#[(.slice base sLen sCap : Value), x] : Array Value)[0]? = some (.slice base sLen sCap) := rfl
  have a1 : (#[(.slice base sLen sCap : Value), x] : Array Value)[1]? = some x := rfl
  unfold Builtin.append_ appendTail appendedM
  simp only [t0, t1, a0, a1]
  rw [run_bind_ok (tund_run hs)]
  simp only
  rw [run_bind_ok (tsize_run hk), run_bind_ok (tund_run hx)]
  rw [run_bind_ok (a := isIntT xd) (w' := w) (by rw [← matches_int]; cases xd <;> rfl)]
  cases hb : isIntT xd with
  | true =>
    obtain ⟨kk, i, rfl, b0, b1, rfl, b2⟩ := hz hb
    simp only [if_true]
    have wi : IntKind.i64.wrap i = i := i64_32 b0 b1
    rw [run_bind_ok (asInt_run (n := i))]
    simp only [wi]
    rw [if_neg (by omega)]
    rw [run_bind_ok (tinfo_run hi)]
    have : ¬ (i * (ty.bytes : Int) > 2 ^ 48) := by
      have : ((i.toNat * ty.bytes : Nat) : Int) ≤ 2 ^ 48 := by exact_mod_cast b2
      rw [Int.natCast_mul, Int.toNat_of_nonneg b0] at this
      omega
    rw [if_neg this]
    rw [run_bind_ok (a := i.toNat) (w' := w) rfl]
    rfl
  | false =>
    simp only [Bool.false_eq_true, if_false]
    rw [run_bind_ok (hn hb)]
    rfl

theorem appendTail_grow {elem : TypeId} {k n sLen sCap : Nat} {z : Bool} {base : Option Addr} {ty : TypeInfo} {s x : Value} (hi : tinfo P elem = .ok ty) (hgt : sCap < sLen + n) (hb : (4 * (sLen + n) + 1024) * ty.bytes ≤ 2 ^ 47) (hb0 : ty.bytes ≠ 0) :
    (appendTail elem k n z base sLen sCap s x).run P w = (growTail elem k sLen sCap (sLen + n) ty.bytes s (appendedM elem k n z x)).run P w := by
  have hcap := nextslicecap_le (sLen + n) sCap (by omega)
  have hm : Builtin.nextslicecap (sLen + n) sCap * ty.bytes ≤ 2 ^ 47 := Nat.le_trans (Nat.mul_le_mul_right _ hcap) hb
  have hsm : sLen + n ≤ 2 ^ 47 := by
    have : (4 * (sLen + n) + 1024) * 1 ≤ (4 * (sLen + n) + 1024) * ty.bytes := Nat.mul_le_mul_left _ (by omega)
    omega
  have hmx : ¬ (((sLen + n : Nat) : Int) > IntKind.i64.max) := by
    have : IntKind.i64.max = 9223372036854775807 := by rfl
    rw [this]
    omega
  unfold appendTail growTail
  simp only
  rw [if_neg (by omega)]
  rw [run_bind_ok (tinfo_run hi)]
  rw [if_neg (fun h => hmx h.1)]
  rw [run_bind_ok (tinfo_run hi)]
  rw [if_neg (by omega)]
  have hch := run_choose (P := P) (w := w) (q := .appendCap (sLen + n) sCap elem) rfl
  rw [run_bind_ok hch, run_bind_ok hch, run_bind_ok (tinfo_run hi)]

theorem appendTail_room {elem : TypeId} {k n sLen sCap : Nat} {z : Bool} {base : Option Addr} {s x : Value} {N : Array Value} (hle : sLen + n ≤ sCap) (hN : (appendedM elem k n z x).run P w = .ok N w) :
    (appendTail elem k n z base sLen sCap s x).run P w = (match base with
      | some a => do storeCells (a.add (sLen * k)) N.toList; pure (.slice base (sLen + n) sCap)
      | none => pure (.slice base (sLen + n) sCap) : Sem Value).run P w := by
  unfold appendTail
  simp only
  rw [if_pos hle, run_bind_ok hN]
  cases base <;> rfl
end
end Go.Abs

namespace Go.Abs
open Go Go.RowKit

section
variable {P : Program} {w : World}
variable {n₀ : Nat} {w₀ : World} {S : Nat → Prop} {H : AHeap} {φ : Nat → Nat × Nat × Nat} {D : Nat → Prop}

theorem appended_run (R : Rel n₀ w₀ w S H φ D) {elem : TypeId} {k : Nat} {z : Bool} {x : AV} {n : Nat} {new : List AV} {rd : List Nat} {vx : Value} (h : newsA P H elem k z x = .ok (n, new, rd)) (hk : tsize P elem = .ok k)
    (hx : VR w S H.objs φ x vx) : ∃ N, VRL w S H.objs φ new N ∧ (appendedM elem k n z vx).run P w = .ok N w := by
  obtain ⟨_, N, h1, h2, h3⟩ := newsA_sim (ty := default) R h hk hx
  refine ⟨N, h1, ?_⟩
  unfold appendedM
  cases z with
  | true =>
    obtain ⟨kk, i, rfl, _, _, _, h4, h5⟩ := h2 rfl
    simp only [Bool.not_true, Bool.false_eq_true, if_false]
    by_cases h0 : n * k = 0
    · rw [if_pos h0, h5 h0]; rfl
    · rw [if_neg h0]
      obtain ⟨zv, hz, hN⟩ := h4 h0
      rw [run_bind_ok hz, hN]
      rfl
  | false =>
    simp only [Bool.not_false, if_true]
    exact (h3 rfl).2

theorem storeCells_nil {a : Addr} {i : Nat} : (storeCells a [] i).run P w = .ok () w := rfl

theorem VR.osl_grow {b g off k len cap c n : Nat} {ex : Bool} {ad : Addr} {H : List AObj} (h : VR w S H φ (.osl b g off k len cap ex) (.slice (some ad) len c)) (hn : len + n ≤ c) :
    VR w S H φ (.osl b g off k (len + n) cap ex) (.slice (some ad) (len + n) c) := by
  cases h with
  | im h => cases h
  | osl hb hg hl hc he hp => exact .osl hb hg hn hc he hp

theorem getRange_all {cs : List AV} {off m : Nat} (h : off + m = cs.length) : getRange cs off m = .ok (cs.drop off) := by
  unfold getRange
  have : (cs.drop off).take m = cs.drop off := List.take_of_length_le (by simp; omega)
  rw [this, if_pos (by simp; omega)]

/-- An object gets new cells; its old references are void. -/
theorem reset_sim (R : Rel n₀ w₀ w S H φ D) {w' : World} {b g blk : Nat} {cs cs' : List AV} {p : Nat × Nat × Nat} {e : Eff} (hb : H.objs[b]? = some (.cells cs g)) (hz : b ∉ H.frz)
    (he : e.set = some (b, .cells cs' (g + 1))) (hf : e.frz = []) (hbl : Below n₀ w w') (hw : ∀ k, k ≠ blk → k < w.heap.size → w'.heap[k]? = w.heap[k]?) (hp : p.1 = blk)
    (hblk : blk = (φ b).1 ∨ blk = w.heap.size) {C : Array Value} {t : TypeId} {lo hi : Nat} (h1 : w'.heap[blk]? = some (.cells C t (lo, hi))) (h2 : ∀ i, i < C.size → ¬(lo ≤ i ∧ i < hi))
    (h3 : p.2.1 + cs'.length ≤ C.size) (h3' : C.size = p.2.2)
    (h4 : ∀ (i : Nat) (x : AV) (v : Value), cs'[i]? = some x → C[p.2.1 + i]? = some v → VR w S H.objs φ x v) :
    ∃ φ', φ' b = p ∧ Rel n₀ w₀ w' S (H.apply e) φ' D ∧ Ext n₀ w S H.objs φ D w' S (H.apply e).objs φ' D ∧ (H.apply e).objs[b]? = some (.cells cs' (g + 1)) := by
  have hap : H.apply e = { H with objs := setObj H.objs b (.cells cs' (g + 1)) } := by
    unfold AHeap.apply
    rw [he, hf]
    rfl
  have hbl' : b ≤ H.objs.length := Nat.le_of_lt (List.getElem?_eq_some_iff.1 hb).1
  obtain ⟨C0, t0, lo0, hi0, g1, g2, g3, g4, g5⟩ := R.obj b _ hb
  have hS0 : ¬ S (φ b).1 := fun hs => hz (g5.2 hs)
  have hS : ¬ S blk := by
    rcases hblk with e | e
    · rw [e]; exact hS0
    · rw [e]; exact fun hs => Nat.lt_irrefl _ (R.szS _ hs)
  have hx : ∀ o, H.objs[b]? = some o → OExt o (.cells cs' (g + 1)) (φ b) p := by
    intro o ho
    rw [hb] at ho; cases ho
    exact ⟨_, _, rfl, by omega, fun h => by omega⟩
  have E := ext_set R (w' := w') (p := p) hbl' hw hS hx
  refine ⟨upd φ b p, upd_same _ _ _, ?_, ?_, ?_⟩
  · rw [hap]
    refine rel_set R hbl' hbl hw hS hp ?_ ?_ hz ?_ hx ?_
    · rcases hblk with e | e
      · rw [e]; exact R.place b _ hb rfl
      · rw [e]; exact R.size
    · intro hd
      have hd' := (R.dfr _ hd).2.2
      rcases hblk with e | e
      · rw [e, g1] at hd'; cases hd'
      · have := (Array.getElem?_eq_some_iff.1 hd').1
        omega
    · intro b' o ho hl hq
      rcases hblk with e | e
      · rw [e] at hq
        exact R.inj b' b o _ ho hb hl rfl hq
      · have := R.lt ho hl
        omega
    · refine ⟨C, t, lo, hi, ?_, h2, ?_, ?_, ?_⟩
      · rw [upd_same, hp]; exact h1
      · rw [upd_same]; exact ⟨h3, h3'⟩
      · rw [upd_same]; exact fun i x v a b => (h4 i x v a b).ext E
      · rw [upd_same, hp]; exact ⟨fun hb' => absurd hb' hz, fun hs => absurd hs hS⟩
  · rw [hap]; exact E
  · rw [hap]
    simp [getElem?_setObj _ _ _ hbl']

theorem appendA_sim (R : Rel n₀ w₀ w S H φ D) {slot : Option Nat} {ts : Array TypeId} {t : TypeId} {s x y : AV} {e : Eff} {vs vx : Value} (h : appendA P H slot ts.toList s x = .ok (y, e)) (hs : VR w S H.objs φ s vs) (hx : VR w S H.objs φ x vx) :
    ∃ u w', (Builtin.append_ ts t #[vs, vx]).run P w = .ok u w' ∧ Good n₀ w₀ w S H φ D y e u w' := by
  unfold appendA at h
  split at h
  · rename_i sType xType hts
    have t0 : ts[0]? = some sType := by rw [← Array.getElem?_toList, hts]; rfl
    have t1 : ts[1]? = some xType := by rw [← Array.getElem?_toList, hts]; rfl
    replace h := bind_ok h
    obtain ⟨ds, hds, h⟩ := h
    split at h
    · rename_i elem
      replace h := bind_ok h
      obtain ⟨xd, hxd, h⟩ := h
      replace h := bind_ok h
      obtain ⟨k, hk, h⟩ := h
      replace h := bind_ok h
      obtain ⟨ty, hty, h⟩ := h
      replace h := bind_ok h
      obtain ⟨z, hz', h⟩ := h
      replace h := bind_ok h
      obtain ⟨⟨n, new, rd⟩, hnew, h⟩ := h
      replace h := bind_ok h
      obtain ⟨len, hlen, h⟩ := h
      split at h
      · cases h
      rename_i hc
      simp only [not_or, Nat.not_lt, Decidable.not_not, Bool.not_eq_true, Bool.not_eq_false', ne_eq] at hc
      obtain ⟨c1, c2, c3, c4, c5⟩ := hc
      have c5 : new.all oneCell = true := by simpa using c5
      obtain ⟨hnl, N0, hN0, hz1, hz2⟩ := newsA_sim (ty := ty) R hnew hk hx
      obtain ⟨N, hN, hNr⟩ := appended_run R hnew hk hx
      have hx' := hx.ext (Ext.drew (n₀ := n₀) (w := w) (S := S) (φ := φ) (D := D))
      obtain ⟨N', hN', hNr'⟩ := appended_run R.drew hnew hk hx'
      have hN'' : VRL w S H.objs φ new N' := hN'.ext (n₀ := n₀) (D := D) (D' := D) (ext_heap (w := { w with drawn := w.drawn + 1 }) (w' := w) rfl)
      have run : ∀ base sCap, (Builtin.append_ ts t #[.slice base len sCap, vx]).run P w = (appendTail elem k n (isIntT xd) base len sCap (.slice base len sCap) vx).run P w := by
        intro base sCap
        refine append_run t0 t1 hds hxd hk hty (fun hi => ?_) (fun hi => (hz2 hi).1)
        obtain ⟨kk, i, e1, e2, e3, e4, _⟩ := hz1 hi
        refine ⟨kk, i, e1, e2, e3, e4, ?_⟩
        have : n * ty.bytes ≤ (4 * (len + n) + 1024) * ty.bytes := Nat.mul_le_mul_right _ (by omega)
        omega
      have same : n = 0 → ∀ base sCap, len ≤ sCap → vs = .slice base len sCap → y = s → e = { rd := rd } → ∃ u w', (Builtin.append_ ts t #[vs, vx]).run P w = .ok u w' ∧ Good n₀ w₀ w S H φ D y e u w' := by
        intro h0 base sCap hle hv hy he
        subst h0; subst hy; subst he
        have hN0' : N = #[] := by
          have := hN.1
          rw [hnl, Nat.zero_mul] at this
          exact Array.eq_empty_of_size_eq_zero this.symm
        refine ⟨vs, w, ?_, Good.same R rfl rfl hs⟩
        subst hv
        rw [run, appendTail_room hle hNr, hN0']
        cases base <;> rfl
      have grow : ∀ base sCap, sCap < len + n → vs = .slice base len sCap → growA H slot k s len n new rd = .ok (y, e) → ∃ u w', (Builtin.append_ ts t #[vs, vx]).run P w = .ok u w' ∧ Good n₀ w₀ w S H φ D y e u w' := by
        intro base sCap hlt hv hg
        subst hv
        rw [run, appendTail_grow hty hlt c1 c3]
        exact growA_sim R hg hlen hs (by simp) hk ⟨z, hz', c4⟩ hnl hN'' hNr'
      unfold appendB at h
      split at h
      · have hv := hs.sc_inv.1
        cases hlen
        split at h
        · rename_i h0
          cases pure_ok h
          exact same h0 none 0 (Nat.le_refl _) hv rfl rfl
        · rename_i h0
          exact grow none 0 (by omega) hv h
      · rename_i cs len' cap ex
        rcases hs.isl_inv with ⟨b, o, c, hv, hS, _, _, hlc, hcc, hec⟩ | ⟨hv, _, hl0, _, hex⟩
        case inr =>
          cases hlen
          subst hl0
          subst hex
          split at h
          · rename_i h0
            cases pure_ok h
            exact same h0 none 0 (Nat.le_refl _) hv rfl rfl
          · cases h
        cases hlen
        split at h
        · rename_i h0
          cases pure_ok h
          exact same h0 _ c hlc hv rfl rfl
        · split at h
          · rename_i hh
            simp only [Bool.and_eq_true, decide_eq_true_eq] at hh
            exact grow _ c (by rw [hec hh.1]; exact hh.2) hv h
          · cases h
      · rename_i b g off k' len' cap ex
        have hs0 := hs
        obtain ⟨ad, c, rfl⟩ := hs.osl_form
        cases hlen
        have hlc : len ≤ c := by
          cases hs with
          | im h => cases h
          | osl hb hg hl hc he hp => exact hl
        split at h
        · rename_i h0
          cases pure_ok h
          exact same h0 _ c hlc rfl rfl rfl
        rename_i hn0
        split at h
        · cases h
        rename_i hkk
        have hkk : k' = k := Decidable.not_not.1 hkk
        subst hkk
        have hcap : cap ≤ c ∧ (ex = true → c = cap) := by
          cases hs with
          | im h => cases h
          | osl hb hg hl hc he hp => exact ⟨hc, he⟩
        split at h
        · rename_i hroom
          replace h := bind_ok h
          obtain ⟨e', he', h⟩ := h
          cases pure_ok h
          obtain ⟨cs0, hcs0, _⟩ := bind_ok he'
          have hb := hcells_ok hcs0
          obtain ⟨o, c', hv, ho, _⟩ := hs.osl_inv hb
          cases hv
          have ho : o = (φ b).2.1 + off := by omega
          subst ho
          obtain ⟨hfz, w', r1, φ', r2, r3, r4⟩ := writeAt_sim (P := P) R he' (vs := N.toList) (by simpa using hN) (by simpa using hN.mem_plain c5)
          refine ⟨.slice (some ⟨(φ b).1, (φ b).2.1 + off, none⟩) (len + n) c, w', ?_, S, φ', r2, r3, ?_⟩
          · rw [run, appendTail_room (by omega) hNr]
            simp only [add_none]
            rw [Nat.add_assoc, run_bind_ok r1]
            rfl
          · exact (hs0.ext r3).osl_grow (by omega)
        · rename_i hroom
          split at h
          · rename_i hex
            exact grow _ c (by rw [hcap.2 hex]; omega) rfl h
          · obtain ⟨cs, hcs, h⟩ := bind_ok h
            have hb := hcells_ok hcs
            split at h
            · cases h
            rename_i hz
            split at h
            · rename_i hend
              cases pure_ok h
              obtain ⟨o, c', hv, ho, _, _, _, hsz⟩ := hs.osl_inv hb
              cases hv
              have hz : b ∉ H.frz := fun hb' => hz (by simpa using hb')
              have hdl : (cs.drop off).length = len * k' := by simp; omega
              have hadd : len * k' + n * k' = (len + n) * k' := by rw [← Nat.add_mul]
              by_cases hr : len + n ≤ c
              · have ho : o = (φ b).2.1 + off := by omega
                subst ho
                obtain ⟨C, tt, lo, hi, g1, g2, ⟨g3, g3'⟩, g4, g5⟩ := R.obj b _ hb
                have hmul : (len + n) * k' ≤ c * k' := Nat.mul_le_mul_right _ hr
                have hNl : N.toList.length = n * k' := by rw [← hnl, hN.1]; simp
                obtain ⟨w', C', r1, r2, r3, r4⟩ := run_storeCells (P := P) (b := (φ b).1) (o := (φ b).2.1 + off + len * k') N.toList 0 w C tt lo hi g1 g2 (by omega) (by simpa using hN.mem_plain c5)
                obtain ⟨φ', p1, p2, p3, p4⟩ := reset_sim R (e := { rd := b :: rd, set := some (b, .cells (cs.drop off ++ new) (g + 1)) }) (p := ((φ b).1, (φ b).2.1 + off, (φ b).2.2)) hb hz rfl rfl (r2.below (R.place b _ hb rfl)) (fun k hk _ => r2.other k hk) rfl (.inl rfl) r2.here (by rw [r3]; exact g2)
                  (by simp only [List.length_append, hdl, hnl, r3]; omega) (by rw [r3]; exact g3') (by
                  intro i x v a1 b1
                  simp only at b1
                  rw [List.getElem?_append, hdl] at a1
                  rw [r4] at b1
                  by_cases hi : i < len * k'
                  · rw [if_pos hi, List.getElem?_drop] at a1
                    rw [if_neg (by omega), Nat.add_assoc] at b1
                    exact g4 _ x v a1 b1
                  · rw [if_neg hi] at a1
                    have hlt : i - len * k' < new.length := (List.getElem?_eq_some_iff.1 a1).1
                    rw [if_pos (by omega), show (φ b).2.1 + off + i - ((φ b).2.1 + off + len * k' + 0) = i - len * k' by omega] at b1
                    exact hN.2 _ x v a1 (by simpa using b1))
                refine ⟨.slice (some ⟨(φ b).1, (φ b).2.1 + off, none⟩) (len + n) c, w', ?_, S, φ', p2, p3, .osl p4 (Nat.le_refl _) hr hr (fun e => by simp at e) (fun _ => ⟨_, by rw [p1], .inl (by rw [p1]; rfl), by rw [p1]; exact hsz⟩)⟩
                rw [run, appendTail_room hr hNr]
                simp only [add_none]
                rw [run_bind_ok r1]
                rfl
              · rw [run, appendTail_grow hty (by omega) c1 c3]
                obtain ⟨O, hO, hOl⟩ := sliceCells_sim (P := P) R.drew (k := k') (n := len) (cs := cs.drop off) (rd := [b]) (x := .osl b g off k' len cap ex) (by
                  unfold sliceCells
                  simp only [hcs, ok_bind, if_true]
                  rw [getRange_all hend]
                  rfl) rfl (Nat.le_refl _) (hs0.ext (Ext.drew (n₀ := n₀) (w := w) (S := S) (φ := φ) (D := D)))
                obtain ⟨zv, hzr, rfl⟩ := tzero_run (P := P) (w := { w with drawn := w.drawn + 1 }) hz'
                have hzs : zv.cells.size = k' := by rw [← (ofV_cells (w := w) (S := S) (H := H.objs) (φ := φ) zv).1]; exact c4
                have hcut : ∃ q, len + n ≤ q ∧ (Question.appendCap (len + n) c elem).cut (w.tape w.drawn (.appendCap (len + n) c elem)) = q := ⟨_, by simp only [Question.cut]; omega, rfl⟩
                obtain ⟨q, hq1, hq2⟩ := hcut
                have hON := hOl.append hN'
                obtain ⟨φ', p1, p2, p3, p4⟩ := reset_sim R.drew (w' := { w with drawn := w.drawn + 1, heap := w.heap.push (.cells (O ++ N' ++ Builtin.zeroCells zv.cells (q - (len + n))) elem) }) (e := { rd := b :: rd, set := some (b, .cells (cs.drop off ++ new) (g + 1)) })
                  (p := (w.heap.size, 0, (O ++ N' ++ Builtin.zeroCells zv.cells (q - (len + n))).size)) (C := O ++ N' ++ Builtin.zeroCells zv.cells (q - (len + n))) (t := elem) (lo := 0) (hi := 0) hb hz rfl rfl
                  (push_below _ R.size) (fun k _ hk => by simp only [Array.getElem?_push]; rw [if_neg (by simp at hk; omega)]) rfl (.inr rfl) (by simp) (fun i _ hh => by omega)
                  (by rw [Array.size_append, ← hON.1]; simp) rfl (by
                  intro i x v a1 b1
                  refine hON.2 i x v a1 ?_
                  have hi : i < (cs.drop off ++ new).length := (List.getElem?_eq_some_iff.1 a1).1
                  simp only [Nat.zero_add] at b1
                  rw [Array.getElem?_append, if_pos (by rw [← hON.1]; exact hi)] at b1
                  exact b1)
                refine ⟨.slice (some ⟨w.heap.size, 0, none⟩) (len + n) q, _, ?_, S, φ', p2, (Ext.drew (n₀ := n₀) (w := w) (S := S) (φ := φ) (D := D)).trans p3, .osl p4 (Nat.le_refl _) hq1 hq1 (fun e => by simp at e) (fun _ => ⟨0, by rw [p1], .inl (by rw [p1]), ?_⟩)⟩
                · unfold growTail
                  rw [run_bind_ok (run_choose rfl), hq2, run_bind_ok (askRoom_any _), run_bind_ok hO, run_bind_ok hNr', run_bind_ok hzr]
                  rfl
                · rw [p1]
                  simp only [Array.size_append, zeroCells_size, hzs, ← hOl.1, ← hN'.1, hdl, hnl]
                  rw [← Nat.add_mul, ← Nat.add_mul, Nat.add_sub_cancel' hq1]
                  omega
            · cases h
      · cases h
    · cases h
  · cases h
end
end Go.Abs

namespace Go.Abs
open Go Go.RowKit

section
variable {P : Program} {w : World}
variable {n₀ : Nat} {w₀ : World} {S : Nat → Prop} {H : AHeap} {φ : Nat → Nat × Nat × Nat} {D : Nat → Prop}

theorem equalIn_ref {d : Nat} {t : TypeId} {k : TypeDesc} {a b : Value} (h : tund P t = .ok k)
    (hk : (∃ e p, k = .pointer e ∧ a = .pointer (some p) ∧ b = .pointer none) ∨ (∃ e p n c m q, k = .slice e ∧ a = .slice (some p) n c ∧ b = .slice none m q) ∨
      (∃ x y r, k = .map x y ∧ a = .map (some r) ∧ b = .map none) ∨ (∃ x y z f g i, k = .func x y z ∧ a = .func f g i ∧ b = .nilFunc)) :
    (Op.equalIn (d + 1) t a b).run P w = .ok false w ∧ (Op.equalIn (d + 1) t b a).run P w = .ok false w := by
  unfold Op.equalIn
  rw [run_bind_ok (tund_run h), run_bind_ok (tund_run h)]
  rcases hk with ⟨e, p, rfl, rfl, rfl⟩ | ⟨e, p, n, c, m, q, rfl, rfl, rfl⟩ | ⟨x, y, r, rfl, rfl, rfl⟩ | ⟨x, y, z, f, g, i, rfl, rfl, rfl⟩
  all_goals exact ⟨rfl, rfl⟩

theorem refNil_kinds {H : List AObj} {d : TypeDesc} {x y : AV} {a b : Value} (h : refNil d x y = true) (hx : VR w S H φ x a) (hy : VR w S H φ y b) :
    (∃ e p, d = .pointer e ∧ a = .pointer (some p) ∧ b = .pointer none) ∨ (∃ e p n c m q, d = .slice e ∧ a = .slice (some p) n c ∧ b = .slice none m q) ∨
      (∃ x y r, d = .map x y ∧ a = .map (some r) ∧ b = .map none) ∨ (∃ x y z f g i, d = .func x y z ∧ a = .func f g i ∧ b = .nilFunc) := by
  unfold refNil at h
  split at h
  · have := hy.sc_inv.1
    subst this
    obtain ⟨b, o, rfl, _⟩ := hx.iptr_inv
    exact .inl ⟨_, _, rfl, rfl, rfl⟩
  · have := hy.sc_inv.1
    subst this
    obtain ⟨ad, rfl⟩ := hx.optr_form
    exact .inl ⟨_, _, rfl, rfl, rfl⟩
  · have := hy.sc_inv.1
    subst this
    rcases hx.isl_inv with ⟨b, o, c, rfl, _⟩ | ⟨_, _, rfl, rfl, rfl⟩
    · exact .inr (.inl ⟨_, _, _, _, _, _, rfl, rfl, rfl⟩)
    · cases h
  · have := hy.sc_inv.1
    subst this
    obtain ⟨ad, c, rfl⟩ := hx.osl_form
    exact .inr (.inl ⟨_, _, _, _, _, _, rfl, rfl, rfl⟩)
  · have := hy.sc_inv.1
    subst this
    cases hx with
    | im h => cases h
    | mp h => exact .inr (.inr (.inl ⟨_, _, _, rfl, rfl, rfl⟩))
  · have := hy.sc_inv.1
    subst this
    cases hx with
    | im h => cases h; exact .inr (.inr (.inr ⟨_, _, _, _, _, _, rfl, rfl, rfl⟩))
    | fn => exact .inr (.inr (.inr ⟨_, _, _, _, _, _, rfl, rfl, rfl⟩))
    | yield => exact .inr (.inr (.inr ⟨_, _, _, _, _, _, rfl, rfl, rfl⟩))
  · cases h

theorem binOpA_sim {H : List AObj} {op : BinOp} {t : TypeId} {xo yo : Operand} {x y r : AV} {a b : Value} (h : binOpA P op t xo yo x y = .ok r) (hx : VR w S H φ x a) (hy : VR w S H φ y b) :
    ∃ u, (do eqGuard op t xo yo a b; binOp op t a b : Sem Value).run P w = .ok u w ∧ VR w S H φ r u := by
  unfold binOpA at h
  split at h
  · rename_i a' b' ha hb
    have := toV_VR ha hx
    subst this
    have := toV_VR hb hy
    subst this
    obtain ⟨u, hu, h⟩ := bind_ok h
    rw [← pure_ok h]
    exact ⟨u, semPure_run (ofOpt_ok hu) w, ofV_VR u⟩
  · replace h := bind_ok h
    obtain ⟨d, hd, h⟩ := h
    split at h
    · rename_i hr
      have hkinds : ∃ p q : Value, ((p = a ∧ q = b) ∨ (p = b ∧ q = a)) ∧ ((∃ e p', d = .pointer e ∧ p = .pointer (some p') ∧ q = .pointer none) ∨ (∃ e p' n c m q', d = .slice e ∧ p = .slice (some p') n c ∧ q = .slice none m q') ∨
          (∃ x y r, d = .map x y ∧ p = .map (some r) ∧ q = .map none) ∨ (∃ x y z f g i, d = .func x y z ∧ p = .func f g i ∧ q = .nilFunc)) := by
        simp only [Bool.or_eq_true] at hr
        rcases hr with hr | hr
        · exact ⟨a, b, .inl ⟨rfl, rfl⟩, refNil_kinds hr hx hy⟩
        · exact ⟨b, a, .inr ⟨rfl, rfl⟩, refNil_kinds hr hy hx⟩
      obtain ⟨p, q, hpq, hk⟩ := hkinds
      have heq : (Op.equal t a b).run P w = .ok false w := by
        obtain ⟨h1, h2⟩ := equalIn_ref (w := w) (d := 9999) hd hk
        rcases hpq with ⟨rfl, rfl⟩ | ⟨rfl, rfl⟩
        · exact h1
        · exact h2
      have hg : (op = .eql ∨ op = .neq) → (eqGuard op t xo yo a b).run P w = .ok () w := by
        intro ho
        rcases hpq with ⟨rfl, rfl⟩ | ⟨rfl, rfl⟩ <;> rcases hk with ⟨e, p', rfl, rfl, rfl⟩ | ⟨e, p', n, c, m, q', rfl, rfl, rfl⟩ | ⟨x, y, r, rfl, rfl, rfl⟩ | ⟨x, y, z, f, g, i, rfl, rfl, rfl⟩ <;> rcases ho with rfl | rfl <;> rfl
      have hb : ∀ o2, (o2 = .eql ∨ o2 = .neq) → op = o2 → (binOp o2 t a b).run P w = .ok (.bool (if o2 = .eql then false else true)) w := by
        intro o2 ho e
        have : (binOp o2 t a b) = (if o2 = .eql then (do pure (.bool (← Op.equal t a b))) else (do pure (.bool (!(← Op.equal t a b))))) := by
          rcases hpq with ⟨rfl, rfl⟩ | ⟨rfl, rfl⟩ <;> rcases hk with ⟨e, p', rfl, rfl, rfl⟩ | ⟨e, p', n, c, m, q', rfl, rfl, rfl⟩ | ⟨x, y, r, rfl, rfl, rfl⟩ | ⟨x, y, z, f, g, i, rfl, rfl, rfl⟩ <;> rcases ho with rfl | rfl <;> rfl
        rw [this]
        rcases ho with rfl | rfl
        · rw [if_pos rfl, if_pos rfl, run_bind_ok heq]; rfl
        · rw [if_neg (by decide), if_neg (by decide), run_bind_ok heq]; rfl
      split at h
      · cases h
        refine ⟨.bool false, ?_, .im (.sc rfl)⟩
        rw [run_bind_ok (hg (.inl rfl)), hb .eql (.inl rfl) rfl]
        rfl
      · cases h
        refine ⟨.bool true, ?_, .im (.sc rfl)⟩
        rw [run_bind_ok (hg (.inr rfl)), hb .neq (.inr rfl) rfl]
        rfl
      · cases h
    · cases h

theorem unOp_sim {H : List AObj} {op : UnOp} {x r : AV} {a a' : Value} (h1 : toScalar x = some a') (h : (do pure (ofV (← ofOpt "unop" (semPure P (Op.unary op a')))) : R AV) = .ok r) (hx : VR w S H φ x a) :
    ∃ u, (Op.unary op a).run P w = .ok u w ∧ VR w S H φ r u := by
  have := toScalar_VR h1 hx
  subst this
  obtain ⟨u, hu, h⟩ := bind_ok h
  rw [← pure_ok h]
  exact ⟨u, semPure_run (ofOpt_ok hu) w, ofV_VR u⟩

theorem partA_sim {H : List AObj} {t : TypeId} {cs : List AV} {off : Nat} {r : AV} {C : Array Value} (h : partA P t cs off = .ok r) (hc : VRL w S H φ cs C) : ∃ u, (part t C off).run P w = .ok u w ∧ VR w S H φ r u := by
  unfold partA at h
  obtain ⟨g, hg, h⟩ := bind_ok h
  unfold part
  rw [run_bind_ok (tagg_run hg)]
  cases g with
  | true =>
    simp only [if_true] at h ⊢
    obtain ⟨n, hn, h⟩ := bind_ok h
    obtain ⟨q, hq, h⟩ := bind_ok h
    cases pure_ok h
    rw [run_bind_ok (tsize_run hn)]
    obtain ⟨q1, q2, q3⟩ := getRange_ok hq
    refine ⟨_, rfl, .agg ?_ (fun i x v a b => ?_)⟩
    · rw [q1]
      simp only [Array.size_extract]
      have := hc.1
      by_cases h0 : n = 0
      · subst h0; simp; omega
      · rw [if_neg h0] at q2; omega
    · have hi : i < n := q1 ▸ (List.getElem?_eq_some_iff.1 a).1
      rw [q3 i hi] at a
      rw [Array.getElem?_extract] at b
      split at b
      · exact hc.2 _ x v a b
      · cases b
  | false =>
    simp only [Bool.false_eq_true, if_false] at h ⊢
    obtain ⟨q, hq, h⟩ := bind_ok h
    obtain ⟨q1, q2, q3⟩ := getRange_ok hq
    match q, q1, q3, h with
    | [c], _, q3, h =>
      cases pure_ok h
      have := q3 0 (by omega)
      simp at this
      obtain ⟨u, hu, hr⟩ := hc.get this.symm
      rw [hu]
      exact ⟨u, rfl, hr⟩

theorem indexA_sim {H : List AObj} {t : TypeId} {x ix r : AV} {v vi : Value} (h : indexA P t x ix = .ok r) (hv : VR w S H φ x v) (hi : VR w S H φ ix vi) : ∃ u, (Instr.index t v vi).run P w = .ok u w ∧ VR w S H φ r u := by
  unfold indexA at h
  replace h := bind_ok h
  obtain ⟨i, hii, h⟩ := h
  obtain ⟨k, rfl⟩ := scalarInt_sim hii hi
  replace h := bind_ok h
  obtain ⟨d, hd, h⟩ := h
  unfold Instr.index
  rw [run_bind_ok (a := (k, i)) (w' := w) rfl, run_bind_ok (tund_run hd)]
  split at h
  · rename_i n elem cs
    replace h := bind_ok h
    obtain ⟨s, hs, h⟩ := h
    obtain ⟨C, rfl, hC⟩ := hv.agg_inv
    split at h
    · rename_i hb
      simp only
      rw [if_pos hb, run_bind_ok (tsize_run hs)]
      exact partA_sim h hC
    · cases h
  · rename_i s
    have := hv.sc_inv.1
    subst this
    simp only
    split at h
    · rename_i b hb
      cases pure_ok h
      rw [hb]
      exact ⟨_, rfl, .im (.sc rfl)⟩
    · cases h
  · cases h

theorem toArrayPtr_sim (R : Rel n₀ w₀ w S H φ D) {t : TypeId} {x r : AV} {v : Value} (h : toArrayPtr P t x = .ok r) (hv : VR w S H.objs φ x v) : ∃ u, (Instr.arrayAt t v).run P w = .ok u w ∧ VR w S H.objs φ r u := by
  unfold toArrayPtr at h
  replace h := bind_ok h
  obtain ⟨d, hd, h⟩ := h
  unfold Instr.arrayAt
  rw [run_bind_ok (tund_run hd)]
  split at h
  · rename_i n elem cs len cap ex
    split at h
    · rename_i hb
      cases pure_ok h
      rcases hv.isl_inv with ⟨b, o, c, rfl, hS, _, ⟨f, hf⟩, _⟩ | ⟨_, _, rfl, _⟩
      case inr => omega
      simp only
      rw [if_neg (by omega)]
      exact ⟨_, rfl, .im (.iptr f hS (fun i x hx => (hf i x hx).1) (fun i x hx => (hf i x hx).2))⟩
    · cases h
  · rename_i n elem b g off k len cap ex
    split at h
    · rename_i hb
      cases pure_ok h
      cases hv with
      | im h => cases h
      | osl hb' hg hl hc he hp =>
        simp only
        rw [if_neg (by omega)]
        refine ⟨_, rfl, .optr hb' hg (fun e => ?_)⟩
        obtain ⟨o, rfl, ho, _⟩ := hp e
        rcases ho with ho | ho
        · rw [ho]
        · omega
    · cases h
  · cases h

theorem ifaceA_sim {H : List AObj} {t : TypeId} {x r : AV} {v : Value} (h : ifaceA P t x = .ok r) (hv : VR w S H φ x v) : ∃ u, (Instr.makeInterface t v).run P w = .ok u w ∧ VR w S H φ r u := by
  unfold ifaceA at h
  replace h := bind_ok h
  obtain ⟨d, hd, h⟩ := h
  unfold Instr.makeInterface
  rw [run_bind_ok (tund_run hd)]
  cases d <;> first | (cases pure_ok h; exact ⟨_, rfl, .ifc hv⟩) | cases h

theorem extract_sim {H : List AObj} {vs : List AV} {x : AV} {i : Nat} {v : Value} (hx : vs[i]? = some x) (hv : VR w S H φ (.tup vs) v) : ∃ u, (Instr.extract v i).run P w = .ok u w ∧ VR w S H φ x u := by
  obtain ⟨us, rfl, hus⟩ := hv.tup_inv
  obtain ⟨u, hu, hr⟩ := hus.get hx
  refine ⟨u, ?_, hr⟩
  unfold Instr.extract
  simp only [hu]
  rfl
end
end Go.Abs

