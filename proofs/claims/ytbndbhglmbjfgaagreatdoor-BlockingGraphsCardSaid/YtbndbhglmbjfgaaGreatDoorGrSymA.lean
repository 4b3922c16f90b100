/- What a piece of code asks of unknown values, as a proposition. -/
import Derived.Test.YtbndbhglmbjfgaaGreatDoorGrAbsC
set_option linter.all false
namespace Go.Abs
open Go Go.RowKit

/-! Borders: what is told of an activation's temporaries between two pieces of code. -/

def slotOf (i : Nat) : List (Nat × AV) → AV
  | [] => .any
  | (k, x) :: r => if i = k then x else slotOf i r

/-- n temporaries, of which those that are named are told. -/
def bT (n : Nat) (slots : List (Nat × AV)) : List AV := (List.range n).map fun i => slotOf i slots

def bView (keys : List Nat) (ts : List AV) : List (Option AV) × Nat := (keys.map fun k => ts[k]?, ts.length)

def bWant (n : Nat) (slots : List (Nat × AV)) : List (Option AV) × Nat := (slots.map fun p => some p.2, n)

/-- A piece's run, seen at the named temporaries. -/
def bRun (slots : List (Nat × AV)) (x : R (Exit × List AV × AHeap)) : R (Exit × (List (Option AV) × Nat) × AHeap) :=
  match x with
  | .ok (e, ts, H) => .ok (e, bView (slots.map (·.1)) ts, H)
  | .error e => .error e

theorem bRun_ok {slots : List (Nat × AV)} {x : R (Exit × List AV × AHeap)} {e : Exit} {u : List (Option AV) × Nat} {H : AHeap} (h : bRun slots x = .ok (e, u, H)) : ∃ ts, x = .ok (e, ts, H) ∧ bView (slots.map (·.1)) ts = u := by
  unfold bRun at h
  split at h
  · cases h
    exact ⟨_, rfl, rfl⟩
  · cases h

theorem slotOf_spec (i : Nat) : ∀ (slots : List (Nat × AV)), slotOf i slots = .any ∨ (i, slotOf i slots) ∈ slots := by
  intro slots
  induction slots with
  | nil => exact .inl rfl
  | cons p r ih =>
    obtain ⟨k, x⟩ := p
    unfold slotOf
    split
    · rename_i h
      subst h
      exact .inr List.mem_cons_self
    · exact ih.imp id (List.mem_cons_of_mem _)

theorem bT_get {n : Nat} {slots : List (Nat × AV)} {i : Nat} {x : AV} (h : (bT n slots)[i]? = some x) : i < n ∧ x = slotOf i slots := by
  unfold bT at h
  rw [List.getElem?_map, Option.map_eq_some_iff] at h
  obtain ⟨j, hj, rfl⟩ := h
  have hlt : i < n := by
    have := (List.getElem?_eq_some_iff.1 hj).1
    simpa using this
  rw [List.getElem?_range hlt] at hj
  cases hj
  exact ⟨hlt, rfl⟩

theorem bView_mem {slots : List (Nat × AV)} {ts : List AV} {n : Nat} (h : bView (slots.map (·.1)) ts = bWant n slots) : ts.length = n ∧ ∀ k x, (k, x) ∈ slots → ts[k]? = some x := by
  unfold bView bWant at h
  simp only [Prod.mk.injEq, List.map_map] at h
  refine ⟨h.2, fun k x hm => ?_⟩
  have := List.map_inj_left.1 h.1 (k, x) hm
  simpa using this

section
variable {P : Program} {w w' : World}
variable {n₀ : Nat} {w₀ : World} {S S' : Nat → Prop} {H : AHeap} {φ φ' : Nat → Nat × Nat × Nat} {D : Nat → Prop}

/-- From what the interpreter tells to the border's form; what is told may be told anew of another heap. -/
theorem border_conv {n : Nat} {slots : List (Nat × AV)} {ts : List AV} {T : Array Value} {H H' : List AObj} (h : VRL w S H φ ts T) (hv : bView (slots.map (·.1)) ts = bWant n slots)
    (hc : ∀ k x, (k, x) ∈ slots → ∀ v, VR w S H φ x v → VR w' S' H' φ' x v) : VRL w' S' H' φ' (bT n slots) T := by
  obtain ⟨hl, hm⟩ := bView_mem hv
  refine ⟨by rw [← h.1, hl]; simp [bT], fun i x v a b => ?_⟩
  obtain ⟨hi, rfl⟩ := bT_get a
  rcases slotOf_spec i slots with hq | hq
  · rw [hq]; exact .im .any
  · have := hm i _ hq
    exact hc i _ hq v (h.2 i _ v this b)

theorem border_sub {n : Nat} {slots : List (Nat × AV)} {ts : List AV} {T : Array Value} {H : List AObj} (h : VRL w S H φ ts T) (hv : bView (slots.map (·.1)) ts = bWant n slots) : VRL w S H φ (bT n slots) T :=
  border_conv h hv (fun _ _ _ _ h => h)

/-- A piece, from border to border. -/
theorem border_sim {ex : ExecF} (hex : ExecOK P ex) {c : Code} {n : Nat} {slots slots' : List (Nat × AV)} {H H' : AHeap} {e : Exit} (hx : bRun slots' (ex c (bT n slots) H) = .ok (e, bWant n slots', H'))
    {a : Act} {Q : Exit → Act → World → Prop} (R : Rel n₀ w₀ w S H φ D) (V : VRL w S H.objs φ (bT n slots) a.tmps)
    (hK : ContX n₀ w₀ w S H φ D (bT n slots') H' a.defers e Q) : c.wpIn (FW none) 0 P Q a w := by
  obtain ⟨ts, h1, h2⟩ := bRun_ok hx
  refine hex c _ H e ts H' h1 none n₀ w₀ w S φ D a Q (fun l hl => by cases hl) R V ?_
  intro a' w' S' φ' D' R' E' V' M'
  exact hK a' w' S' φ' D' R' E' (border_sub V' h2) M'

/-- At the start: the arguments, and nothing else. -/
theorem border_start {n : Nat} {slots : List (Nat × AV)} {args : List AV} {vs : Array Value} {H : List AObj} (hvs : VRL w S H φ args vs) (hn : vs.size ≤ n) (hs : ∀ k x, (k, x) ∈ slots → args[k]? = some x) :
    VRL w S H φ (bT n slots) (vs ++ Array.replicate (n - vs.size) undef) := by
  refine ⟨by simp [bT]; omega, fun i x v a b => ?_⟩
  obtain ⟨hi, rfl⟩ := bT_get a
  rcases slotOf_spec i slots with hq | hq
  · rw [hq]; exact .im .any
  · have h1 := hs i _ hq
    have hlt : i < vs.size := by rw [← hvs.1]; exact (List.getElem?_eq_some_iff.1 h1).1
    rw [Array.getElem?_append_left hlt] at b
    exact hvs.2 i _ v h1 b
end
end Go.Abs

namespace Go.Abs
open Go Go.RowKit

/-! What a piece of code asks, as a proposition: a run over unknown values. -/

/-- What is asked beside the run: it is not looked into. -/
structure Due (p : Prop) : Prop where
  h : p

/-- What one cell may be. -/
inductive SK where
  | any
  | bool
  | int (k : IntKind)
  | str
  | isl

def exSK : SK → (AV → Prop) → Prop
  | .any, k => ∃ v : AV, k v
  | .bool, k => ∃ b : Bool, k (.sc (.bool b))
  | .int d, k => ∃ z : Int, k (.sc (.int d z))
  | .str, k => ∃ s : ByteArray, k (.sc (.string s))
  | .isl, k => ∃ (cs : List AV) (n : Nat), k (.isl cs n 0 false)

def exCells : List SK → (List AV → Prop) → Prop
  | [], k => k []
  | s :: ss, k => exSK s fun v => exCells ss fun vs => k (v :: vs)

theorem exSK_ok {s : SK} {k : AV → Prop} (h : exSK s k) : ∃ v, k v := by
  cases s with
  | any => exact h
  | bool => obtain ⟨b, h⟩ := h; exact ⟨_, h⟩
  | int d => obtain ⟨b, h⟩ := h; exact ⟨_, h⟩
  | str => obtain ⟨b, h⟩ := h; exact ⟨_, h⟩
  | isl => obtain ⟨b, c, h⟩ := h; exact ⟨_, h⟩

theorem exCells_ok : ∀ {l : List SK} {k : List AV → Prop}, exCells l k → ∃ vs, k vs := by
  intro l
  induction l with
  | nil => intro k h; exact ⟨_, h⟩
  | cons s ss ih =>
    intro k h
    obtain ⟨v, h⟩ := exSK_ok h
    obtain ⟨vs, h⟩ := ih h
    exact ⟨_, h⟩

/-! What is forgotten of a value: its capacity, and whether it is nil. -/

def wkC : AV → AV
  | .isl cs n _ _ => .isl cs n 0 false
  | .sc (.slice none 0 0) => .isl [] 0 0 false
  | v => v

def wkA : AV → AV
  | .agg cs => .agg (cs.map wkC)
  | v => wkC v

def wkR : AV → AV
  | .tup vs => .tup (vs.map wkA)
  | v => wkA v

theorem IVR.wkC {w : World} {S : Nat → Prop} {x : AV} {v : Value} (h : IVR w S x v) : IVR w S (wkC x) v := by
  unfold Go.Abs.wkC
  split
  · cases h with
    | isl f hS h1 h2 hl hc he => exact .isl f hS h1 h2 hl (Nat.zero_le _) (fun e => by cases e)
    | isn => exact .isn
  · cases h with
    | sc h => exact .isn
  · exact h

theorem IVR.wkA {w : World} {S : Nat → Prop} {x : AV} {v : Value} (h : IVR w S x v) : IVR w S (wkA x) v := by
  unfold Go.Abs.wkA
  split
  · cases h with
    | agg hl h =>
      refine .agg (by simpa using hl) (fun i x v a b => ?_)
      rw [List.getElem?_map, Option.map_eq_some_iff] at a
      obtain ⟨y, hy, rfl⟩ := a
      exact (h i y v hy b).wkC
  · exact h.wkC

theorem IVR.wkR {w : World} {S : Nat → Prop} {x : AV} {v : Value} (h : IVR w S x v) : IVR w S (wkR x) v := by
  unfold Go.Abs.wkR
  split
  · cases h with
    | tup hl h =>
      refine .tup (by simpa using hl) (fun i x v a b => ?_)
      rw [List.getElem?_map, Option.map_eq_some_iff] at a
      obtain ⟨y, hy, rfl⟩ := a
      exact (h i y v hy b).wkA
  · exact h.wkA

theorem IVRL.wk {w : World} {S : Nat → Prop} {xs : List AV} {vs : Array Value} (h : IVRL w S xs vs) : IVRL w S (xs.map Go.Abs.wkA) vs := by
  refine ⟨by simpa using h.1, fun i x v a b => ?_⟩
  rw [List.getElem?_map, Option.map_eq_some_iff] at a
  obtain ⟨y, hy, rfl⟩ := a
  exact (h.2 i y v hy b).wkA

theorem EntryOK.wkR {P : Program} {k : FuncId} {args : List AV} {r : AV} (h : EntryOK P k args r) : EntryOK P k args (wkR r) := by
  intro w S vs hS hG hvs
  rcases h w S vs hS hG hvs with ⟨h1, h2⟩ | h
  · refine .inl ⟨h1, Calls.mono' h2 ?_⟩
    rintro e w' ⟨v, rfl, S', a, b, c, d, i⟩
    exact ⟨v, rfl, S', a, b, c, d, i.wkR⟩
  · obtain ⟨v, w', h1, S', a, b, c, d, i⟩ := h
    exact .inr ⟨v, w', h1, S', a, b, c, d, i.wkR⟩

theorem EntryOK.wkArgs {P : Program} {k : FuncId} {args : List AV} {r : AV} (h : EntryOK P k (args.map Go.Abs.wkA) r) : EntryOK P k args r :=
  fun w S vs hS hG hvs => h w S vs hS hG hvs.wk

/-! What is known of a function: over a domain, its arguments and its result. -/

structure FSpec where
  D : Type
  pre : D → Prop
  args : D → List AV
  out : D → AV

/-- The same for a function that sets one object of its caller's: the object's cells, ahead and behind; its place among the arguments is told by its block and generation. -/
structure SSpec where
  D : Type
  pre : D → Prop
  cells : D → List AV
  args : Nat → Nat → D → List AV
  out : Nat → Nat → D → AV
  cells' : D → List AV
  /-- Which argument names the object. -/
  arg : Nat

/-- A function that makes objects in its caller's heap, and sets none. -/
structure NSpec where
  D : Type
  pre : D → Prop
  args : D → List AV
  news : D → List AObj
  out : Nat → D → AV

structure Ctx where
  tbl : Tbl
  fs : FuncId → Option FSpec
  ss : FuncId → Option SSpec
  ns : FuncId → Option NSpec
  shared : FuncId → Bool

def FSpecOK (P : Program) (k : FuncId) (f : FSpec) : Prop :=
  (∀ x, f.pre x → EntryOK P k (f.args x) (f.out x)) ∧ ∀ x y, f.pre x → f.pre y → f.args x = f.args y → f.out x = f.out y

def setC (H : AHeap) (b : Nat) (cs : List AV) (g : Nat) : AHeap := { H with objs := setObj H.objs b (.cells cs g) }

def SSpecOK (P : Program) (k : FuncId) (f : SSpec) : Prop :=
  (∀ x b g H, f.pre x → H.objs[b]? = some (.cells (f.cells x) g) → b ∉ H.frz → SharedFn P k (f.args b g x) H (f.out b g x) (setC H b (f.cells' x) g)) ∧
  ∀ b g x y, f.pre x → f.pre y → f.cells x = f.cells y → f.args b g x = f.args b g y → f.out b g x = f.out b g y ∧ f.cells' x = f.cells' y

def noLoop : AObj → Bool
  | .loop .. => false
  | _ => true

def NSpecOK (P : Program) (k : FuncId) (f : NSpec) : Prop :=
  (∀ x H, f.pre x → SharedFn P k (f.args x) H (f.out H.objs.length x) { H with objs := H.objs ++ f.news x }) ∧
  ∀ x y, f.pre x → f.pre y → f.args x = f.args y → f.news x = f.news y ∧ ∀ n, f.out n x = f.out n y

structure Ctx.OK (P : Program) (C : Ctx) : Prop where
  tbl : TblOK P C.tbl
  fs : ∀ k f, C.fs k = some f → FSpecOK P k f
  ss : ∀ k f, C.ss k = some f → SSpecOK P k f
  ns : ∀ k f, C.ns k = some f → NSpecOK P k f

open Classical in
/-- The table of a context. -/
noncomputable def Ctx.T (C : Ctx) : Tbl := fun k args =>
  match C.tbl k (args.map wkA) with
  | some r => some r
  | none => match C.fs k with
    | some f => if h : ∃ x, f.pre x ∧ args.map wkA = f.args x then some (f.out h.choose) else none
    | none => none

theorem Ctx.T_ok {P : Program} {C : Ctx} (h : C.OK P) : TblOK P C.T := by
  intro k args r hr
  refine EntryOK.wkArgs ?_
  unfold Ctx.T at hr
  split at hr
  · rename_i q hq
    cases hr
    exact h.tbl _ _ _ hq
  · split at hr
    · rename_i f hf
      split at hr
      · rename_i hx
        cases hr
        have hy := (h.fs k f hf).1 _ hx.choose_spec.1
        rw [← hx.choose_spec.2] at hy
        exact hy
      · cases hr
    · cases hr

theorem Ctx.T_tbl {C : Ctx} {k : FuncId} {args : List AV} {r : AV} (h : C.tbl k (args.map wkA) = some r) : C.T k args = some r := by
  unfold Ctx.T
  rw [h]

theorem Ctx.T_fs {P : Program} {C : Ctx} (h : C.OK P) {k : FuncId} {args : List AV} {f : FSpec} (ht : C.tbl k (args.map wkA) = none) (hf : C.fs k = some f) {x : f.D} (hp : f.pre x) (ha : args.map wkA = f.args x) : C.T k args = some (f.out x) := by
  unfold Ctx.T
  rw [ht]
  simp only [hf]
  have hx : ∃ x, f.pre x ∧ args.map wkA = f.args x := ⟨x, hp, ha⟩
  rw [dif_pos hx]
  have := (h.fs k f hf).2 _ _ hx.choose_spec.1 hp (hx.choose_spec.2.symm.trans ha)
  rw [this]

def refOf : AV → Option (Nat × Nat)
  | .osl b g _ _ _ _ _ | .optr b g _ => some (b, g)
  | _ => none

open Classical in
noncomputable def Ctx.hook (C : Ctx) : Hook := fun k args H =>
  match C.ss k with
  | none => (match C.ns k with
    | none => none
    | some f => if h : ∃ x, f.pre x ∧ args = f.args x then some (f.out H.objs.length h.choose, { H with objs := H.objs ++ f.news h.choose }) else none)
  | some f => match (args[f.arg]?).bind refOf with
    | none => none
    | some (b, g) => if h : b ∉ H.frz ∧ ∃ x, f.pre x ∧ H.objs[b]? = some (.cells (f.cells x) g) ∧ args = f.args b g x then some (f.out b g h.2.choose, setC H b (f.cells' h.2.choose) g) else none

theorem Ctx.hook_ok {P : Program} {C : Ctx} (h : C.OK P) : HookOK P C.hook := by
  intro k args H r H' hr
  unfold Ctx.hook at hr
  split at hr
  · split at hr
    · cases hr
    · rename_i f hf
      split at hr
      · rename_i hx
        cases hr
        obtain ⟨h1, h2⟩ := hx.choose_spec
        have := (h.ns k f hf).1 _ H h1
        rw [← h2] at this
        exact this
      · cases hr
  · rename_i f hf
    split at hr
    · cases hr
    · rename_i b g hb
      split at hr
      · rename_i hx
        cases hr
        obtain ⟨h1, h2, h3⟩ := hx.2.choose_spec
        have := (h.ss k f hf).1 _ b g H h1 h2 hx.1
        rw [← h3] at this
        exact this
      · cases hr

theorem Ctx.hook_ss {P : Program} {C : Ctx} (h : C.OK P) {k : FuncId} {args : List AV} {H : AHeap} {f : SSpec} (hf : C.ss k = some f) {b g : Nat} (hb : (args[f.arg]?).bind refOf = some (b, g)) (hz : b ∉ H.frz) {x : f.D} (hp : f.pre x)
    (ho : H.objs[b]? = some (.cells (f.cells x) g)) (ha : args = f.args b g x) : C.hook k args H = some (f.out b g x, setC H b (f.cells' x) g) := by
  unfold Ctx.hook
  simp only [hf, hb]
  have hx : b ∉ H.frz ∧ ∃ x, f.pre x ∧ H.objs[b]? = some (.cells (f.cells x) g) ∧ args = f.args b g x := ⟨hz, x, hp, ho, ha⟩
  rw [dif_pos hx]
  obtain ⟨h1, h2, h3⟩ := hx.2.choose_spec
  have hc : f.cells hx.2.choose = f.cells x := by
    have := ho.symm.trans h2
    simp only [Option.some.injEq, AObj.cells.injEq, and_true] at this
    exact this.symm
  obtain ⟨e1, e2⟩ := (h.ss k f hf).2 b g _ _ h1 hp hc (h3.symm.trans ha)
  rw [e1, e2]

theorem Ctx.hook_ns {P : Program} {C : Ctx} (h : C.OK P) {k : FuncId} {args : List AV} {H : AHeap} {f : NSpec} (hs : C.ss k = none) (hf : C.ns k = some f) {x : f.D} (hp : f.pre x) (ha : args = f.args x) :
    C.hook k args H = some (f.out H.objs.length x, { H with objs := H.objs ++ f.news x }) := by
  unfold Ctx.hook
  simp only [hs, hf]
  have hx : ∃ x, f.pre x ∧ args = f.args x := ⟨x, hp, ha⟩
  rw [dif_pos hx]
  obtain ⟨h1, h2⟩ := hx.choose_spec
  obtain ⟨e1, e2⟩ := (h.ns k f hf).2 _ _ h1 hp (h2.symm.trans ha)
  rw [e1, e2]
end Go.Abs

namespace Go.Abs
open Go Go.RowKit

section
variable (P : Program)

def okW {α : Type} (x : R α) (k : α → Prop) : Prop :=
  match x with
  | .ok a => k a
  | .error _ => False

def indexAddrW (t : TypeId) (x ix : AV) (k : AV → Prop) : Prop :=
  okW (scalarInt ix) fun i => okW (tund P t) fun d =>
    match d, x with
    | .slice elem, .isl cs len _ _ => okW (tsize P elem) fun s => Due (0 ≤ i ∧ i < len) ∧ k (.iptr (cs.drop (i.toNat * s)))
    | .slice elem, .osl b g off k' len _ _ => okW (tsize P elem) fun s =>
      (match Nat.beq k' s with
       | true => Due (0 ≤ i ∧ i < len) ∧ k (.optr b g (off + i.toNat * k'))
       | false => False)
    | .array n elem, .optr b g off => okW (tsize P elem) fun s => Due (0 ≤ i ∧ i < n) ∧ k (.optr b g (off + i.toNat * s))
    | .array n elem, .iptr cs => okW (tsize P elem) fun s => Due (0 ≤ i ∧ i < n) ∧ k (.iptr (cs.drop (i.toNat * s)))
    | _, _ => False

/-- What the cells of a type are. -/
def kindsT : Nat → TypeId → List SK
  | 0, _ => [.any]
  | n + 1, t => match P.underlying t with
    | some (.int d) => [.int d]
    | some .bool => [.bool]
    | some .string => [.str]
    | some (.slice _) => [.isl]
    | some (.struct fs) => fs.toList.flatMap fun f => kindsT n f.type
    | some (.array m e) => (List.replicate m (kindsT n e)).flatten
    | _ => [.any]

/-- An object's cells; in a heap that is not told object by object, by what is known of it. -/
def objW (gen : Bool) (H : AHeap) (b g : Nat) (k : List AV → Prop) : Prop :=
  match gen with
  | true => ∃ cs, Due (H.objs[b]? = some (.cells cs g)) ∧ k cs
  | false => (match H.objs[b]? with
    | some (.cells cs g') => Due (g' = g) ∧ k cs
    | _ => False)

def freeW (gen : Bool) (H : AHeap) (b : Nat) (k : Prop) : Prop :=
  match gen with
  | true => Due (H.frz.contains b = false) ∧ k
  | false => (match H.frz.contains b with
    | false => k
    | true => False)

/-- The cells behind an address. -/
def cellsW (gen : Bool) (H : AHeap) (p : AV) (k : List AV → Nat → List Nat → Prop) : Prop :=
  match p with
  | .iptr cs => k cs 0 []
  | .optr b g off => objW gen H b g fun cs => k cs off [b]
  | _ => False

def loadW (gen : Bool) (H : AHeap) (t : TypeId) (p : AV) (k : AV → List Nat → Prop) : Prop :=
  cellsW gen H p fun cs off rd => okW (tagg P t) fun g => okW (tsize P t) fun n =>
    match g with
    | true => exCells (kindsT P 6 t) fun vs => (match Nat.beq vs.length n with
      | true => Due ((cs.drop off).take n = vs) ∧ k (.agg vs) rd
      | false => False)
    | false => exSK ((kindsT P 6 t).headD .any) fun v => Due ((cs.drop off).take 1 = [v]) ∧ k v rd

def storeW (gen : Bool) (H : AHeap) (t : TypeId) (p v : AV) (k : AV → Eff → Prop) : Prop :=
  okW (tsize P t) fun n => match Nat.beq v.cells.length n && v.cells.all oneCell, p with
    | true, .optr b g off => objW gen H b g fun cs => freeW gen H b (Due (off + n ≤ cs.length) ∧ k AV.undef { rd := [b], set := some (b, .cells (putRange cs off v.cells) g) })
    | _, _ => False

def optW (x : Option AV) (d : Nat) (k : Int → Nat → Prop) : Prop :=
  match x with
  | none => k d d
  | some v => okW (scalarInt v) fun n => k n n.toNat

def sliceW (t : TypeId) (x : AV) (lo hi mx : Option AV) (k : AV → Prop) : Prop :=
  match mx with
  | some _ => False
  | none => okW (tund P t) fun d => match d, x with
    | .slice elem, .isl cs len cap ex => okW (tsize P elem) fun s => optW lo 0 fun l l' => optW hi len fun h h' =>
      Due (0 ≤ l ∧ l ≤ h ∧ h ≤ len ∧ l' * s + (h' - l') * s ≤ cs.length) ∧ k (.isl ((cs.drop (l' * s)).take ((h' - l') * s)) (h' - l') (cap - l') ex)
    | .slice elem, .osl b g off k' len cap ex => okW (tsize P elem) fun s => optW lo 0 fun l l' => optW hi len fun h h' =>
      (match Nat.beq k' s with
       | true => Due (0 ≤ l ∧ l ≤ h ∧ h ≤ len) ∧ k (.osl b g (off + l' * k') k' (h' - l') (cap - l') ex)
       | false => False)
    | _, _ => False

def makeSliceW (H : AHeap) (slot : Option Nat) (t : TypeId) (len cap : AV) (k : AV → Eff → Prop) : Prop :=
  okW (tund P t) fun d => match d with
    | .slice elem => okW (scalarInt len) fun l => okW (scalarInt cap) fun c => okW (tinfo P elem) fun i => okW (tzero P elem) fun z => okW (tsize P elem) fun s =>
      (match Nat.beq s 0, Nat.beq z.cells.length s with
       | false, true => Due (0 ≤ l ∧ l ≤ c ∧ c < 2 ^ 40 ∧ c.toNat * i.bytes ≤ 2 ^ 40) ∧ okW (newA H slot (.cells (replicateCells z.cells c.toNat) 0)) fun r => k (.osl r.1 0 0 s l.toNat c.toNat true) r.2
       | _, _ => False)
    | _ => False

/-- A struct of two ints that is compared field by field. -/
def struct2 (t : TypeId) (d1 d2 : IntKind) : Bool :=
  match P.underlying t with
  | some (.struct fs) => (match fs.toList with
    | [f1, f2] => !P.stoodInHeld t && !P.eqGuardType P.depth t && f1.name != "_" && f2.name != "_" && Nat.beq f1.offset 0 && Nat.beq f2.offset 1 &&
      (match P.underlying f1.type, P.underlying f2.type with
       | some (.int k1), some (.int k2) => decide (k1 = d1) && decide (k2 = d2)
       | _, _ => false)
    | _ => false)
  | _ => false

def binW (op : BinOp) (t : TypeId) (x y : AV) (k : AV → Prop) : Prop :=
  match op, x, y with
  | .quo, .sc (.int d a), .sc (.int d' b) => (match decide (d = d') with
    | true => Due (b ≠ 0) ∧ k (.sc (.int d (d.wrap (a.tdiv b))))
    | false => False)
  | .rem, .sc (.int d a), .sc (.int d' b) => (match decide (d = d') with
    | true => Due (b ≠ 0) ∧ k (.sc (.int d (a.tmod b)))
    | false => False)
  | .shl, .sc (.int d a), .sc (.int _ b) => Due (0 ≤ b) ∧ k (.sc (.int d (d.wrap (a * 2 ^ min b.toNat d.bits))))
  | .shr, .sc (.int d a), .sc (.int _ b) => Due (0 ≤ b) ∧ k (.sc (.int d (a.fdiv (2 ^ min b.toNat d.bits))))
  | .eql, .agg [.sc (.int d1 a), .sc (.int d2 b)], .agg [.sc (.int e1 c), .sc (.int e2 e)] => (match struct2 P t d1 d2 && decide (d1 = e1) && decide (d2 = e2) with
    | true => k (.sc (.bool (a == c && b == e)))
    | false => False)
  | .neq, .agg [.sc (.int d1 a), .sc (.int d2 b)], .agg [.sc (.int e1 c), .sc (.int e2 e)] => (match struct2 P t d1 d2 && decide (d1 = e1) && decide (d2 = e2) with
    | true => k (.sc (.bool (!(a == c && b == e))))
    | false => False)
  | _, _, _ => False

/-- What is appended: elements that are told one by one, or a slice of whatever length. -/
def newsW (H : AHeap) (elem : TypeId) (s : Nat) (x : AV) (k : Nat → List AV → List Nat → Prop) : Prop :=
  match x with
  | .isl cs m _ _ => Due (m * s ≤ cs.length ∧ cs.all oneCell = true) ∧ k m (cs.take (m * s)) []
  | x => okW (newsA P H elem s false x) fun r => (match r.2.1.all oneCell with
    | true => k r.1 r.2.1 r.2.2
    | false => False)

def appendW (gen : Bool) (H : AHeap) (slot : Option Nat) (argTypes : List TypeId) (s x : AV) (k : AV → Eff → Prop) : Prop :=
  match argTypes with
  | [sType, xType] => okW (tund P sType) fun d => okW (tund P xType) fun xd => match d, isIntT xd with
    | .slice elem, false => okW (tsize P elem) fun sz => okW (tinfo P elem) fun i => okW (tzero P elem) fun z =>
      (match Nat.beq sz 0, Nat.beq i.bytes 0, Nat.beq z.cells.length sz with
       | false, false, true => newsW P H elem sz x fun n new rd => okW (lenA s) fun len =>
         Due ((4 * (len + n) + 1024) * i.bytes ≤ 2 ^ 47) ∧
         (match s with
          | .sc (.slice none 0 0) => (match Nat.beq n 0 with
            | true => k s { rd := rd }
            | false => okW (growA H slot sz s len n new rd) fun r => k r.1 r.2)
          | .osl b g off k' len' cap false => (match H.objs[b]?, H.frz.contains b, Nat.beq k' sz with
            | some (.cells cs g'), false, true => Due (n ≠ 0 ∧ g' = g ∧ cap < len' + n ∧ off + len' * sz = cs.length) ∧ k (.osl b (g + 1) 0 sz (len' + n) (len' + n) false) { rd := b :: rd, set := some (b, .cells (cs.drop off ++ new) (g + 1)) }
            | _, _, _ => False)
          | .osl b g off k' len' cap true => (match Nat.beq k' sz with
            | true => objW gen H b g fun cs => Due (n ≠ 0 ∧ cap < len' + n ∧ off + len' * sz ≤ cs.length) ∧ okW (newA H slot (.cells ((cs.drop off).take (len' * sz) ++ new) 0)) fun r => k (.osl r.1 0 0 sz (len' + n) (len' + n) false) { r.2 with rd := r.2.rd ++ rd ++ [b] }
            | false => False)
          | _ => False)
       | _, _, _ => False)
    | _, _ => False
  | _ => False

def clearW (gen : Bool) (H : AHeap) (argTypes : List TypeId) (x : AV) (k : AV → Eff → Prop) : Prop :=
  match argTypes with
  | [t] => okW (tund P t) fun d => match d, x with
    | .slice elem, .osl b g off k' len _ _ => okW (tsize P elem) fun sz => okW (tzero P elem) fun z =>
      (match Nat.beq sz 0, Nat.beq k' sz, Nat.beq z.cells.length sz && z.cells.all oneCell with
       | false, true, true => objW gen H b g fun cs => freeW gen H b (Due (0 < len ∧ off + len * sz ≤ cs.length) ∧ k AV.undef { rd := [b], set := some (b, .cells (putRange cs off (replicateCells z.cells len)) g) })
       | _, _, _ => False)
    | _, _ => False
  | _ => False

/-- An operation on what is not known one by one. -/
def symW (gen : Bool) (slot : Option Nat) (ts : List AV) (H : AHeap) (o : Op) (k : AV → Eff → Prop) : Prop :=
  let ρ := evalOp ts
  match o with
  | .indexAddr t x i => indexAddrW P t (ρ x) (ρ i) fun v => k v {}
  | .load t a => loadW P gen H t (ρ a) fun v rd => k v { rd := rd }
  | .store t a x => storeW P gen H t (ρ a) (ρ x) k
  | .slice t x lo hi mx => sliceW P t (ρ x) (lo.map ρ) (hi.map ρ) (mx.map ρ) fun v => k v {}
  | .makeSlice t l c => makeSliceW P H slot t (ρ l) (ρ c) k
  | .binOp op t x y _ => binW P op t (ρ x) (ρ y) fun v => k v {}
  | .call c => (match c.callee with
    | .builtin .append => (match c.args.toList.map ρ with
      | [s, x] => appendW P gen H slot c.argTypes.toList s x k
      | _ => False)
    | .builtin .clear => (match c.args.toList.map ρ with
      | [x] => clearW P gen H c.argTypes.toList x k
      | _ => False)
    | _ => False)
  | _ => False
end
end Go.Abs

namespace Go.Abs
open Go Go.RowKit

theorem okW_ok {α : Type} {x : R α} {k : α → Prop} (h : okW x k) : ∃ a, x = .ok a ∧ k a := by
  unfold okW at h
  split at h
  · exact ⟨_, rfl, h⟩
  · exact h.elim

section
variable {P : Program}

theorem indexAddrW_ok {t : TypeId} {x ix : AV} {k : AV → Prop} (h : indexAddrW P t x ix k) : ∃ v, indexAddrA P t x ix = .ok v ∧ k v := by
  unfold indexAddrW at h
  obtain ⟨i, hi, h⟩ := okW_ok h
  obtain ⟨d, hd, h⟩ := okW_ok h
  unfold indexAddrA
  simp only [hi, hd, bind, Except.bind]
  split at h
  · obtain ⟨s, hs, ⟨hb⟩, h⟩ := okW_ok h
    exact ⟨_, by simp only [hs, hb, and_self, if_true]; rfl, h⟩
  · obtain ⟨s, hs, h⟩ := okW_ok h
    split at h
    · rename_i hk
      obtain ⟨⟨hb⟩, h⟩ := h
      have hk := Nat.eq_of_beq_eq_true hk
      exact ⟨_, by simp only [hb, and_self, if_true, hs, hk, ne_eq, not_true, if_false]; rfl, by rw [← hk]; exact h⟩
    · exact h.elim
  · obtain ⟨s, hs, ⟨hb⟩, h⟩ := okW_ok h
    exact ⟨_, by simp only [hs, hb, and_self, if_true]; rfl, h⟩
  · obtain ⟨s, hs, ⟨hb⟩, h⟩ := okW_ok h
    exact ⟨_, by simp only [hs, hb, and_self, if_true]; rfl, h⟩
  · exact h.elim

theorem objW_ok {gen : Bool} {H : AHeap} {b g : Nat} {k : List AV → Prop} (h : objW gen H b g k) : ∃ cs, H.objs[b]? = some (.cells cs g) ∧ k cs := by
  unfold objW at h
  split at h
  · obtain ⟨cs, ⟨h1⟩, h⟩ := h
    exact ⟨cs, h1, h⟩
  · split at h
    · rename_i hb
      obtain ⟨⟨rfl⟩, h⟩ := h
      exact ⟨_, hb, h⟩
    · exact h.elim

theorem freeW_ok {gen : Bool} {H : AHeap} {b : Nat} {k : Prop} (h : freeW gen H b k) : H.frz.contains b = false ∧ k := by
  unfold freeW at h
  split at h
  · exact ⟨h.1.h, h.2⟩
  · split at h
    · rename_i hb
      exact ⟨hb, h⟩
    · exact h.elim

theorem cellsW_ok {gen : Bool} {H : AHeap} {p : AV} {k : List AV → Nat → List Nat → Prop} (h : cellsW gen H p k) : ∃ cs off rd, k cs off rd ∧ ∀ n r, (cs.drop off).take n = r → r.length = n → readAt H p n = .ok (r, rd) := by
  unfold cellsW at h
  split at h
  · refine ⟨_, _, _, h, fun n r h1 h2 => ?_⟩
    simp only [readAt, getRange, h1, h2, if_true, bind, Except.bind]
    rfl
  · obtain ⟨cs, hb, h⟩ := objW_ok h
    refine ⟨_, _, _, h, fun n r h1 h2 => ?_⟩
    simp only [readAt, hcells, hb, if_true, getRange, h1, h2, bind, Except.bind]
    rfl
  · exact h.elim

theorem loadW_ok {gen : Bool} {H : AHeap} {t : TypeId} {p : AV} {k : AV → List Nat → Prop} (h : loadW P gen H t p k) : ∃ v rd, loadA P H t p = .ok (v, rd) ∧ k v rd := by
  unfold loadW at h
  obtain ⟨cs, off, rd, h, hr⟩ := cellsW_ok h
  obtain ⟨g, hg, h⟩ := okW_ok h
  obtain ⟨n, hn, h⟩ := okW_ok h
  unfold loadA
  simp only [hg, bind, Except.bind]
  split at h
  · obtain ⟨vs, h⟩ := exCells_ok h
    split at h
    · rename_i hl
      obtain ⟨⟨h1⟩, h⟩ := h
      refine ⟨_, _, ?_, h⟩
      simp only [if_true, hn, hr n vs h1 (Nat.eq_of_beq_eq_true hl)]
      rfl
    · exact h.elim
  · obtain ⟨v, ⟨h1⟩, h⟩ := exSK_ok h
    refine ⟨_, _, ?_, h⟩
    simp only [Bool.false_eq_true, if_false, hr 1 [v] h1 rfl]
    rfl

theorem storeW_ok {gen : Bool} {H : AHeap} {t : TypeId} {p v : AV} {k : AV → Eff → Prop} (h : storeW P gen H t p v k) : ∃ e, storeA P H t p v = .ok e ∧ k AV.undef e := by
  unfold storeW at h
  obtain ⟨n, hn, h⟩ := okW_ok h
  split at h
  · rename_i b g off hc _
    obtain ⟨cs, hb, h⟩ := objW_ok h
    obtain ⟨hz, ⟨hl⟩, h⟩ := freeW_ok h
    refine ⟨_, ?_, h⟩
    unfold storeA
    simp only [Bool.and_eq_true] at hc
    have hln := Nat.eq_of_beq_eq_true hc.1
    have hc' : (decide (v.cells.length = n) && v.cells.all oneCell) = true := by simp only [hln, decide_true, hc.2, Bool.and_self]
    have hw : writeAt H b g off v.cells = .ok { rd := [b], set := some (b, .cells (putRange cs off v.cells) g) } := by
      unfold writeAt hcells
      simp only [hb, if_true, bind, Except.bind, hz, Bool.false_eq_true, if_false, hln, hl]
      rfl
    simp only [hn, bind, Except.bind, hc', if_true, hw]
  · exact h.elim

theorem optW_ok {x : Option AV} {d : Nat} {k : Int → Nat → Prop} (h : optW x d k) : (x = none ∧ k d d) ∨ ∃ v n, x = some v ∧ scalarInt v = .ok n ∧ k n n.toNat := by
  unfold optW at h
  split at h
  · exact .inl ⟨rfl, h⟩
  · obtain ⟨n, hn, h⟩ := okW_ok h
    exact .inr ⟨_, n, rfl, hn, h⟩

theorem optNat_some {v : AV} {n : Int} (h : scalarInt v = .ok n) (hn : 0 ≤ n) : optNat (some v) = .ok (some n.toNat) := by
  unfold optNat
  simp only [h, bind, Except.bind, hn, if_true]
  rfl

/-- The bounds, both ways. -/
theorem bounds_ok {lo hi : Option AV} {len : Nat} {R : Int → Nat → Int → Nat → Prop} (hk : optW lo 0 fun l l' => optW hi len fun h h' => R l l' h h') (hR : ∀ l l' h h', R l l' h h' → 0 ≤ l ∧ l ≤ h ∧ h ≤ len) :
    ∃ lo' hi', optNat lo = .ok lo' ∧ optNat hi = .ok hi' ∧ lo'.getD 0 ≤ hi'.getD len ∧ hi'.getD len ≤ len ∧ ∃ l h, R l (lo'.getD 0) h (hi'.getD len) := by
  rcases optW_ok hk with ⟨rfl, hq⟩ | ⟨v, n, rfl, hv, hq⟩
  · rcases optW_ok hq with ⟨rfl, hz⟩ | ⟨v, n, rfl, hv, hz⟩
    · exact ⟨none, none, rfl, rfl, Nat.zero_le _, Nat.le_refl _, _, _, hz⟩
    · obtain ⟨h1, h2, h3⟩ := hR _ _ _ _ hz
      refine ⟨none, some n.toNat, rfl, optNat_some hv (by omega), Nat.zero_le _, ?_, _, _, hz⟩
      simp only [Option.getD_some]
      omega
  · rcases optW_ok hq with ⟨rfl, hz⟩ | ⟨v2, n2, rfl, hv2, hz⟩
    · obtain ⟨h1, h2, h3⟩ := hR _ _ _ _ hz
      refine ⟨some n.toNat, none, optNat_some hv (by omega), rfl, ?_, Nat.le_refl _, _, _, hz⟩
      simp only [Option.getD_some, Option.getD_none]
      omega
    · obtain ⟨h1, h2, h3⟩ := hR _ _ _ _ hz
      refine ⟨some n.toNat, some n2.toNat, optNat_some hv (by omega), optNat_some hv2 (by omega), ?_, ?_, _, _, hz⟩
      · simp only [Option.getD_some]
        omega
      · simp only [Option.getD_some]
        omega

theorem sliceW_ok {H : AHeap} {t : TypeId} {x : AV} {lo hi mx : Option AV} {k : AV → Prop} (h : sliceW P t x lo hi mx k) : ∃ v, sliceA P H t x lo hi mx = .ok (v, []) ∧ k v := by
  unfold sliceW at h
  split at h
  · exact h.elim
  · obtain ⟨d, hd, h⟩ := okW_ok h
    split at h
    · rename_i elem cs len cap ex _
      obtain ⟨s, hs, h⟩ := okW_ok h
      obtain ⟨lo', hi', e1, e2, h1, h2, l, hh, ⟨⟨_, _, _, hc⟩⟩, hk⟩ := bounds_ok h (fun l l' h h' q => ⟨q.1.h.1, q.1.h.2.1, q.1.h.2.2.1⟩)
      refine ⟨_, ?_, hk⟩
      unfold sliceA
      simp only [e1, e2, bind, Except.bind, show optNat none = (.ok none : R (Option Nat)) from rfl, Option.isSome_none, Bool.false_and, Bool.false_eq_true, if_false, hd, hs, Option.getD_none, Bool.false_or]
      rw [if_pos ⟨h1, h2, fun h => by simp at h⟩]
      have : getRange cs (lo'.getD 0 * s) ((hi'.getD len - lo'.getD 0) * s) = .ok ((cs.drop (lo'.getD 0 * s)).take ((hi'.getD len - lo'.getD 0) * s)) := by
        unfold getRange
        rw [if_pos (by rw [List.length_take, List.length_drop]; omega)]
      simp only [this]
      rfl
    · rename_i elem b g off k' len cap ex _
      obtain ⟨s, hs, h⟩ := okW_ok h
      obtain ⟨lo', hi', e1, e2, h1, h2, l, hh, hk⟩ := bounds_ok h (fun l l' h h' q => by
        split at q
        · exact q.1.h
        · exact q.elim)
      split at hk
      · rename_i hkk
        have hkk := Nat.eq_of_beq_eq_true hkk
        refine ⟨_, ?_, hk.2⟩
        unfold sliceA
        simp only [e1, e2, bind, Except.bind, show optNat none = (.ok none : R (Option Nat)) from rfl, Option.isSome_none, Bool.false_and, Bool.false_eq_true, if_false, hd, hs, Option.getD_none, Bool.false_or, hkk, ne_eq, not_true]
        rw [if_pos ⟨h1, .inl h2, fun h => by simp at h⟩]
        rfl
      · exact hk.elim
    · exact h.elim

theorem makeSliceW_ok {H : AHeap} {slot : Option Nat} {t : TypeId} {len cap : AV} {k : AV → Eff → Prop} (h : makeSliceW P H slot t len cap k) : ∃ v e, makeSliceA P H slot t len cap = .ok (v, e) ∧ k v e := by
  unfold makeSliceW at h
  obtain ⟨d, hd, h⟩ := okW_ok h
  split at h
  · obtain ⟨l, hl, h⟩ := okW_ok h
    obtain ⟨c, hc, h⟩ := okW_ok h
    obtain ⟨i, hi, h⟩ := okW_ok h
    obtain ⟨z, hz, h⟩ := okW_ok h
    obtain ⟨s, hs, h⟩ := okW_ok h
    split at h
    · rename_i hs0 hzs
      obtain ⟨⟨hb⟩, h⟩ := h
      obtain ⟨⟨b, e⟩, hn, h⟩ := okW_ok h
      refine ⟨_, _, ?_, h⟩
      have hs0 := Nat.ne_of_beq_eq_false hs0
      have hzs := Nat.eq_of_beq_eq_true hzs
      unfold makeSliceA
      simp only [hd, hl, hc, hi, bind, Except.bind, hb, and_self, if_true, zeroCellsA, hs, hs0, if_false, hz, hzs, hn]
      simp only [pure, Except.pure, hn, hs]
    · exact h.elim
  · exact h.elim
end
end Go.Abs

namespace Go.Abs
open Go Go.RowKit

section
variable {P : Program}

theorem binA_int {op : BinOp} {t : TypeId} {xo yo : Operand} {d d' : IntKind} {a b c : Int} {e : IntKind} (h : semPure P (binOp op t (.int d a) (.int d' b)) = some (.int e c)) :
    binOpA P op t xo yo (.sc (.int d a)) (.sc (.int d' b)) = .ok (.sc (.int e c)) := by
  have eg : eqGuard op t xo yo (.int d a) (.int d' b) = pure () := by
    cases op <;> rfl
  unfold binOpA
  simp only [toV, toScalar, isScalar, if_true, eg]
  have : semPure P (do (pure () : Sem PUnit); binOp op t (.int d a) (.int d' b)) = some (.int e c) := h
  have e2 : (do ofOpt "binop" (semPure P (do (pure () : Sem PUnit); binOp op t (.int d a) (.int d' b))) : R Value) = .ok (.int e c) := by rw [this]; rfl
  exact congrArg (fun z : R Value => (do pure (ofV (← z)) : R AV)) e2

theorem sp_bind {α β : Type} (x : Sem α) (f : α → Sem β) : semPure P (x >>= f) = (semPure P x).bind fun a => semPure P (f a) := by
  show semPure P (Sem.bind x f) = _
  induction x with
  | pure a => rfl
  | program k ih => exact ih P
  | _ => rfl
theorem sp_pure {α : Type} (a : α) : semPure P (pure a : Sem α) = some a := rfl
theorem sp_und {t : TypeId} {d : TypeDesc} (h : P.underlying t = some d) : semPure P (underlying t) = some d := by
  unfold underlying
  rw [sp_bind]
  show semPure P (match P.underlying t with | some d => pure d | none => _) = _
  rw [h]
  rfl
theorem sp_part {t : TypeId} {k : IntKind} (h : P.underlying t = some (.int k)) {cs : Array Value} {off : Nat} {v : Value} (hv : cs[off]? = some v) : semPure P (part t cs off) = some v := by
  unfold part isAgg
  simp only [sp_bind, sp_und h, Option.bind_some, sp_pure, Bool.false_eq_true, if_false, hv]
theorem equalInt {n : Nat} {t : TypeId} {k : IntKind} (h : P.underlying t = some (.int k)) {a b : Int} : semPure P (Op.equalIn (n + 1) t (.int k a) (.int k b)) = some (a == b) := by
  unfold Op.equalIn
  simp only [sp_bind, sp_und h, Option.bind_some, if_true, sp_pure]
theorem equal2 {t : TypeId} {f1 f2 : Field} {k1 k2 : IntKind} {a b c d : Int} (hu : P.underlying t = some (.struct #[f1, f2])) (hs : P.stoodInHeld t = false)
    (n1 : f1.name ≠ "_") (o1 : f1.offset = 0) (u1 : P.underlying f1.type = some (.int k1)) (n2 : f2.name ≠ "_") (o2 : f2.offset = 1) (u2 : P.underlying f2.type = some (.int k2)) :
    semPure P (Op.equal t (.agg #[.int k1 a, .int k2 b]) (.agg #[.int k1 c, .int k2 d])) = some (a == c && b == d) := by
  unfold Op.equal Op.maxDepth
  rw [show (10000 : Nat) = 9998 + 1 + 1 from rfl]
  unfold Op.equalIn
  have p1 := sp_part (P := P) u1 (cs := #[.int k1 a, .int k2 b]) (off := f1.offset) (v := .int k1 a) (by rw [o1]; rfl)
  have p2 := sp_part (P := P) u1 (cs := #[.int k1 c, .int k2 d]) (off := f1.offset) (v := .int k1 c) (by rw [o1]; rfl)
  have p3 := sp_part (P := P) u2 (cs := #[.int k1 a, .int k2 b]) (off := f2.offset) (v := .int k2 b) (by rw [o2]; rfl)
  have p4 := sp_part (P := P) u2 (cs := #[.int k1 c, .int k2 d]) (off := f2.offset) (v := .int k2 d) (by rw [o2]; rfl)
  have pp : semPure P program = some P := rfl
  simp only [sp_bind, sp_und hu, Option.bind_some, pp, hs, Bool.false_eq_true, if_false, List.forIn_toArray]
  simp only [List.forIn_cons, List.forIn_nil, sp_bind, n1, n2, ne_eq, not_false_eq_true, if_true, p1, p2, p3, p4, Option.bind_some, equalInt u1, equalInt u2]
  cases (a == c) with
  | false => rfl
  | true =>
    simp only [Bool.not_true, Bool.false_eq_true, if_false, sp_pure, Option.bind_some, sp_bind, p3, p4, equalInt u2]
    cases (b == d) <;> rfl

theorem struct2_ok {t : TypeId} {d1 d2 : IntKind} {a b c e : Int} (h : struct2 P t d1 d2 = true) : semPure P (Op.equal t (.agg #[.int d1 a, .int d2 b]) (.agg #[.int d1 c, .int d2 e])) = some (a == c && b == e) ∧ P.eqGuardType P.depth t = false := by
  unfold struct2 at h
  split at h
  · rename_i fs hu
    split at h
    · rename_i f1 f2 hfs
      simp only [Bool.and_eq_true, Bool.not_eq_true', bne_iff_ne] at h
      obtain ⟨⟨⟨⟨⟨⟨h1, h2⟩, h3⟩, h4⟩, h5⟩, h6⟩, h7⟩ := h
      split at h7
      · rename_i k1 k2 u1 u2
        simp only [Bool.and_eq_true, decide_eq_true_eq] at h7
        obtain ⟨rfl, rfl⟩ := h7
        have hfs : fs = #[f1, f2] := by
          apply Array.toList_inj.1
          exact hfs
        rw [hfs] at hu
        exact ⟨equal2 hu h1 h3 (Nat.eq_of_beq_eq_true h5) u1 h4 (Nat.eq_of_beq_eq_true h6) u2, h2⟩
      · cases h7
    · cases h
  · cases h

theorem eqGuard_none {op : BinOp} {t : TypeId} {x y : Operand} {a b : Array Value} (h : P.eqGuardType P.depth t = false) : semPure P (eqGuard op t x y (.agg a) (.agg b)) = some () := by
  unfold eqGuard
  cases op <;> first
    | rfl
    | (simp only [Bool.not_true, Bool.false_eq_true, if_false, sp_bind, show semPure P program = some P from rfl, Option.bind_some, h, Bool.not_false, if_true]; rfl)

theorem binA_agg {op : BinOp} {t : TypeId} {xo yo : Operand} {d1 d2 : IntKind} {a b c e : Int} {r : Bool} (hg : P.eqGuardType P.depth t = false) (h : semPure P (binOp op t (.agg #[.int d1 a, .int d2 b]) (.agg #[.int d1 c, .int d2 e])) = some (.bool r)) :
    binOpA P op t xo yo (.agg [.sc (.int d1 a), .sc (.int d2 b)]) (.agg [.sc (.int d1 c), .sc (.int d2 e)]) = .ok (.sc (.bool r)) := by
  have e1 : toV (.agg [.sc (.int d1 a), .sc (.int d2 b)]) = some (.agg #[.int d1 a, .int d2 b]) := rfl
  have e2 : toV (.agg [.sc (.int d1 c), .sc (.int d2 e)]) = some (.agg #[.int d1 c, .int d2 e]) := rfl
  unfold binOpA
  simp only [e1, e2]
  have h3 : semPure P (do eqGuard op t xo yo (.agg #[.int d1 a, .int d2 b]) (.agg #[.int d1 c, .int d2 e]); binOp op t (.agg #[.int d1 a, .int d2 b]) (.agg #[.int d1 c, .int d2 e])) = some (.bool r) := by
    rw [sp_bind, eqGuard_none hg]
    exact h
  have e3 : (do ofOpt "binop" (semPure P (do eqGuard op t xo yo (.agg #[.int d1 a, .int d2 b]) (.agg #[.int d1 c, .int d2 e]); binOp op t (.agg #[.int d1 a, .int d2 b]) (.agg #[.int d1 c, .int d2 e]))) : R Value) = .ok (.bool r) := by rw [h3]; rfl
  exact congrArg (fun z : R Value => (do pure (ofV (← z)) : R AV)) e3

theorem binW_ok {op : BinOp} {t : TypeId} {xo yo : Operand} {x y : AV} {k : AV → Prop} (h : binW P op t x y k) : ∃ v, binOpA P op t xo yo x y = .ok v ∧ k v := by
  unfold binW at h
  split at h
  · split at h
    · rename_i hd
      have := of_decide_eq_true hd
      subst this
      refine ⟨_, binA_int ?_, h.2⟩
      simp only [binOp, ne_eq, not_true, if_false, Op.intDiv, h.1.h]
      rfl
    · exact h.elim
  · split at h
    · rename_i hd
      have := of_decide_eq_true hd
      subst this
      refine ⟨_, binA_int ?_, h.2⟩
      simp only [binOp, ne_eq, not_true, if_false, Op.intDiv, h.1.h]
      rfl
    · exact h.elim
  · refine ⟨_, binA_int ?_, h.2⟩
    simp only [binOp, Op.shift]
    rw [if_neg (by have := h.1.h; omega)]
    rfl
  · refine ⟨_, binA_int ?_, h.2⟩
    simp only [binOp, Op.shift]
    rw [if_neg (by have := h.1.h; omega)]
    rfl
  · split at h
    · rename_i hc
      simp only [Bool.and_eq_true, decide_eq_true_eq] at hc
      obtain ⟨⟨hs, rfl⟩, rfl⟩ := hc
      refine ⟨_, binA_agg (struct2_ok (a := 0) (b := 0) (c := 0) (e := 0) hs).2 ?_, h⟩
      show semPure P (do pure (.bool (← Op.equal t _ _)) : Sem Value) = _
      rw [sp_bind, (struct2_ok hs).1]
      rfl
    · exact h.elim
  · split at h
    · rename_i hc
      simp only [Bool.and_eq_true, decide_eq_true_eq] at hc
      obtain ⟨⟨hs, rfl⟩, rfl⟩ := hc
      refine ⟨_, binA_agg (struct2_ok (a := 0) (b := 0) (c := 0) (e := 0) hs).2 ?_, h⟩
      show semPure P (do pure (.bool (!(← Op.equal t _ _))) : Sem Value) = _
      rw [sp_bind, (struct2_ok hs).1]
      rfl
    · exact h.elim
  · exact h.elim

theorem newsW_ok {H : AHeap} {elem : TypeId} {s : Nat} {x : AV} {k : Nat → List AV → List Nat → Prop} (h : newsW P H elem s x k) : ∃ n new rd, newsA P H elem s false x = .ok (n, new, rd) ∧ new.all oneCell = true ∧ k n new rd := by
  unfold newsW at h
  split at h
  · rename_i cs m _ _
    obtain ⟨⟨h1, h2⟩, h⟩ := h
    refine ⟨m, cs.take (m * s), [], ?_, ?_, h⟩
    · unfold newsA sliceCells lenA
      simp only [Bool.false_eq_true, if_false, bind, Except.bind]
      have : getRange cs 0 (m * s) = .ok (cs.take (m * s)) := by
        unfold getRange
        rw [List.drop_zero, if_pos (by rw [List.length_take]; omega)]
      simp only [this]
      rfl
    · rw [List.all_eq_true] at h2 ⊢
      exact fun v hv => h2 v (List.mem_of_mem_take hv)
  · obtain ⟨r, hr, h⟩ := okW_ok h
    split at h
    · rename_i h2
      exact ⟨_, _, _, hr, h2, h⟩
    · exact h.elim

theorem appendW_ok {gen : Bool} {H : AHeap} {slot : Option Nat} {l : List TypeId} {s x : AV} {k : AV → Eff → Prop} (h : appendW P gen H slot l s x k) : ∃ v e, appendA P H slot l s x = .ok (v, e) ∧ k v e := by
  unfold appendW at h
  split at h
  · rename_i st xt
    obtain ⟨d, hd, h⟩ := okW_ok h
    obtain ⟨xd, hxd, h⟩ := okW_ok h
    split at h
    · rename_i elem hx _
      obtain ⟨sz, hsz, h⟩ := okW_ok h
      obtain ⟨i, hi, h⟩ := okW_ok h
      obtain ⟨z, hz, h⟩ := okW_ok h
      split at h
      · rename_i b1 b2 b3
        have b1 := Nat.ne_of_beq_eq_false b1
        have b2 := Nat.ne_of_beq_eq_false b2
        have b3 := Nat.eq_of_beq_eq_true b3
        obtain ⟨n, new, rd, hn, hc, h⟩ := newsW_ok h
        obtain ⟨len, hlen, ⟨hq⟩, h⟩ := okW_ok h
        have pre : ∀ {v e}, appendB H slot s sz len n new rd = .ok (v, e) → appendA P H slot [st, xt] s x = .ok (v, e) := by
          intro v e hb
          unfold appendA
          simp only [hd, hxd, hsz, hi, hz, hx, hn, hlen, bind, Except.bind]
          rw [if_neg (by simp [hc, b1, b2, b3]; omega)]
          exact hb
        split at h
        · split at h
          · rename_i h0
            have h0 := Nat.eq_of_beq_eq_true h0
            refine ⟨_, _, pre ?_, h⟩
            unfold appendB
            simp only [h0, if_true]
            rfl
          · rename_i h0
            have h0 := Nat.ne_of_beq_eq_false h0
            obtain ⟨r, hr, h⟩ := okW_ok h
            refine ⟨_, _, pre ?_, h⟩
            unfold appendB
            simp only [h0, if_false]
            exact hr
        · rename_i b g off k' len' cap
          split at h
          · rename_i cs g' hb hf hk
            obtain ⟨⟨⟨hn0, rfl, hcap, hoff⟩⟩, h⟩ := h
            have hk := Nat.eq_of_beq_eq_true hk
            subst hk
            refine ⟨_, _, pre ?_, h⟩
            cases hlen
            unfold appendB
            simp only [hn0, if_false, ne_eq, not_true]
            rw [if_neg (by omega)]
            simp only [Bool.false_eq_true, if_false, hcells, hb, if_true, bind, Except.bind, hf, hoff]
            rfl
          · exact h.elim
        · split at h
          · rename_i hk
            have hk := Nat.eq_of_beq_eq_true hk
            subst hk
            obtain ⟨cs, hb, ⟨⟨hn0, hcap, hoff⟩⟩, h⟩ := objW_ok h
            obtain ⟨⟨nb, ne⟩, hnew, h⟩ := okW_ok h
            refine ⟨_, _, pre ?_, h⟩
            unfold lenA at hlen
            cases hlen
            unfold appendB
            simp only [hn0, if_false, ne_eq, not_true]
            rw [if_neg (by omega)]
            simp only [if_true]
            unfold growA
            have hr : ∀ o q, o + q ≤ cs.length → getRange cs o q = .ok ((cs.drop o).take q) := by
              intro o q hle
              unfold getRange
              rw [if_pos (by rw [List.length_take, List.length_drop]; omega)]
            simp only [sliceCells, hcells, hb, if_true, bind, Except.bind, hr _ _ hoff]
            simp only [pure, Except.pure, hnew]
          · exact h.elim
        · exact h.elim
      · exact h.elim
    · exact h.elim
  · exact h.elim

theorem length_replicateCells' (z : List AV) : ∀ n, (replicateCells z n).length = n * z.length := by
  intro n
  induction n with
  | zero => simp [replicateCells]
  | succ n ih => simp [replicateCells, ih, Nat.succ_mul]; omega

theorem all_replicateCells {z : List AV} {f : AV → Bool} (h : z.all f = true) : ∀ n, (replicateCells z n).all f = true := by
  intro n
  induction n with
  | zero => rfl
  | succ n ih => simp only [replicateCells, List.all_append, h, ih, Bool.and_self]

theorem clearW_ok {gen : Bool} {H : AHeap} {l : List TypeId} {x : AV} {k : AV → Eff → Prop} (h : clearW P gen H l x k) : ∃ e, clearA P H l x = .ok e ∧ k AV.undef e := by
  unfold clearW at h
  split at h
  · obtain ⟨d, hd, h⟩ := okW_ok h
    split at h
    · rename_i elem b g off k' len cap ex _
      obtain ⟨sz, hsz, h⟩ := okW_ok h
      obtain ⟨z, hz, h⟩ := okW_ok h
      split at h
      · rename_i b1 b2 b3
        have b1 := Nat.ne_of_beq_eq_false b1
        have b2 := Nat.eq_of_beq_eq_true b2
        subst b2
        simp only [Bool.and_eq_true] at b3
        have b4 := Nat.eq_of_beq_eq_true b3.1
        obtain ⟨cs, hb, h⟩ := objW_ok h
        obtain ⟨hf, ⟨⟨h0, hl⟩⟩, h⟩ := freeW_ok h
        refine ⟨_, ?_, h⟩
        unfold clearA
        have hzz : zeroCellsA P elem len = .ok (replicateCells z.cells len) := by
          unfold zeroCellsA
          simp only [hsz, bind, Except.bind, b1, if_false, hz, b4, if_true]
          rfl
        simp only [hd, hsz, hzz, bind, Except.bind]
        rw [if_pos ⟨by trivial, h0, b1, all_replicateCells b3.2 len⟩]
        unfold writeAt hcells
        simp only [hb, if_true, bind, Except.bind, hf, Bool.false_eq_true, if_false, length_replicateCells', b4, hl]
        rfl
      · exact h.elim
    · exact h.elim
  · exact h.elim

def noCall : CallF := { pure := fun _ => none, shared := fun _ _ _ => fail "no call" }

theorem symW_ok {gen : Bool} {call : CallF} {slot : Option Nat} {ts : List AV} {H : AHeap} {o : Op} {k : AV → Eff → Prop} (h : symW P gen slot ts H o k) : ∃ v e, opE P call slot ts H o = .ok (v, e) ∧ k v e := by
  unfold symW at h
  dsimp only at h
  split at h
  · obtain ⟨v, hv, h⟩ := indexAddrW_ok h
    exact ⟨_, _, by unfold opE; simp only [v0, hv, bind, Except.bind]; rfl, h⟩
  · obtain ⟨v, rd, hv, h⟩ := loadW_ok h
    exact ⟨_, _, by unfold opE; simp only [v1, hv, bind, Except.bind]; rfl, h⟩
  · obtain ⟨e, hv, h⟩ := storeW_ok h
    exact ⟨_, _, by unfold opE; simp only [u1, hv, bind, Except.bind]; rfl, h⟩
  · obtain ⟨v, hv, h⟩ := sliceW_ok (H := H) h
    exact ⟨_, _, by unfold opE; simp only [v1, hv, bind, Except.bind]; rfl, h⟩
  · obtain ⟨v, e, hv, h⟩ := makeSliceW_ok h
    exact ⟨_, _, by unfold opE; exact hv, h⟩
  · rename_i op t xo yo _
    obtain ⟨v, hv, h⟩ := binW_ok (P := P) (t := t) (xo := xo) (yo := yo) h
    exact ⟨_, _, by unfold opE; simp only [v0, hv, bind, Except.bind]; rfl, h⟩
  · rename_i c
    split at h
    · rename_i hc
      split at h
      · rename_i s x hx
        obtain ⟨v, e, hv, h⟩ := appendW_ok h
        refine ⟨_, _, ?_, h⟩
        unfold opE
        simp only [hc, builtinA, isClear, builtinB, hx]
        exact hv
      · exact h.elim
    · rename_i hc
      split at h
      · rename_i x hx
        obtain ⟨e, hv, h⟩ := clearW_ok h
        refine ⟨_, _, ?_, h⟩
        unfold opE
        simp only [hc, builtinA, isClear, builtinC, hx, u1, hv, bind, Except.bind]
        rfl
      · exact h.elim
    · exact h.elim
  · exact h.elim
end
end Go.Abs

namespace Go.Abs
open Go Go.RowKit

/-! Arguments are handed over; operations, regions. -/

/-- What refers to no object. -/
def flatA : AV → Bool
  | .any | .sc _ | .isl _ _ _ _ | .iptr _ => true
  | _ => false

/-- Handed over as immutable: an object whose elements are not told one by one. -/
def immC (H : AHeap) (v : AV) (k : AV → List Nat → Prop) : Prop :=
  match v with
  | .osl b g off s l c ex => (match H.objs[b]? with
    | some (.cells cs g') => Due (g' = g ∧ off + l * s ≤ cs.length ∧ cs.all flatA = true) ∧ k (.isl ((cs.drop off).take (l * s)) l c ex) [b]
    | _ => False)
  | v => okW (imm H 4 v) fun r => k r.1 r.2

def immL (H : AHeap) : List AV → (List AV → List Nat → Prop) → Prop
  | [], k => k [] []
  | v :: vs, k => immC H v fun v' b => immL H vs fun vs' bs => k (v' :: vs') (b ++ bs)

def immA (H : AHeap) (v : AV) (k : AV → List Nat → Prop) : Prop :=
  match v with
  | .agg cs => immL H cs fun cs' bs => k (.agg cs') bs
  | v => immC H v k

def immAL (H : AHeap) : List AV → (List AV → List Nat → Prop) → Prop
  | [], k => k [] []
  | v :: vs, k => immA H v fun v' b => immAL H vs fun vs' bs => k (v' :: vs') (b ++ bs)

def immR (H : AHeap) (v : AV) (k : AV → List Nat → Prop) : Prop :=
  match v with
  | .tup vs => immAL H vs fun vs' bs => k (.tup vs') bs
  | v => immA H v k

theorem mapS_mono {f g : AV → R (AV × List Nat)} (hfg : ∀ v r, f v = .ok r → g v = .ok r) : ∀ {l : List AV} {r : List AV × List Nat}, mapS f l = .ok r → mapS g l = .ok r := by
  intro l
  induction l with
  | nil => intro r h; exact h
  | cons v vs ih =>
    intro r h
    unfold mapS at h ⊢
    replace h := bind_ok h
    obtain ⟨⟨v', b⟩, h1, h⟩ := h
    replace h := bind_ok h
    obtain ⟨⟨vs', bs⟩, h2, h⟩ := h
    simp only [hfg _ _ h1, ih h2, bind, Except.bind]
    exact h

theorem imm_succ (H : AHeap) : ∀ (n : Nat) (v : AV) (r : AV × List Nat), imm H n v = .ok r → imm H (n + 1) v = .ok r := by
  intro n
  induction n with
  | zero => intro v r h; cases h
  | succ n ih =>
    intro v r h
    have key : ∀ {l : List AV} {r : List AV × List Nat}, mapS (imm H n) l = .ok r → mapS (imm H (n + 1)) l = .ok r := fun h => mapS_mono ih h
    unfold imm at h ⊢
    split at h
    · exact h
    · exact h
    · exact h
    · exact h
    · replace h := bind_ok h
      obtain ⟨⟨cs', bs⟩, h1, h⟩ := h
      simp only [key h1, bind, Except.bind]
      exact h
    · replace h := bind_ok h
      obtain ⟨⟨cs', bs⟩, h1, h⟩ := h
      simp only [key h1, bind, Except.bind]
      exact h
    · replace h := bind_ok h
      obtain ⟨⟨a', bs⟩, h1, h⟩ := h
      replace h := bind_ok h
      obtain ⟨⟨c', bs'⟩, h2, h⟩ := h
      simp only [key h1, key h2, bind, Except.bind]
      exact h
    · replace h := bind_ok h
      obtain ⟨⟨v', bs⟩, h1, h⟩ := h
      simp only [ih _ _ h1, bind, Except.bind]
      exact h
    · replace h := bind_ok h
      obtain ⟨cs, h0, h⟩ := h
      replace h := bind_ok h
      obtain ⟨⟨cs', bs⟩, h1, h⟩ := h
      simp only [h0, key h1, bind, Except.bind]
      exact h
    · replace h := bind_ok h
      obtain ⟨cs, h0, h⟩ := h
      replace h := bind_ok h
      obtain ⟨r0, h1, h⟩ := h
      replace h := bind_ok h
      obtain ⟨⟨cs', bs⟩, h2, h⟩ := h
      simp only [h0, h1, key h2, bind, Except.bind]
      exact h
    · exact h

theorem imm_le {H : AHeap} {n m : Nat} (hnm : n ≤ m) {v : AV} {r : AV × List Nat} (h : imm H n v = .ok r) : imm H m v = .ok r := by
  induction hnm with
  | refl => exact h
  | step _ ih => exact imm_succ H _ _ _ ih

theorem imm_flat {H : AHeap} {n : Nat} {v : AV} (h : flatA v = true) : imm H (n + 1) v = .ok (v, []) := by
  unfold flatA at h
  split at h
  · rfl
  · rfl
  · rfl
  · rfl
  · cases h

theorem mapS_flat {H : AHeap} {n : Nat} : ∀ {l : List AV}, l.all flatA = true → mapS (imm H (n + 1)) l = .ok (l, []) := by
  intro l
  induction l with
  | nil => intro _; rfl
  | cons v vs ih =>
    intro h
    simp only [List.all_cons, Bool.and_eq_true] at h
    unfold mapS
    simp only [imm_flat h.1, ih h.2, bind, Except.bind]
    rfl

theorem all_take_drop {f : AV → Bool} {cs : List AV} (h : cs.all f = true) (a b : Nat) : ((cs.drop a).take b).all f = true := by
  rw [List.all_eq_true] at h ⊢
  exact fun v hv => h v (List.mem_of_mem_drop (List.mem_of_mem_take hv))

theorem immC_ok {H : AHeap} {v : AV} {k : AV → List Nat → Prop} (h : immC H v k) : ∃ v' bs, imm H 4 v = .ok (v', bs) ∧ k v' bs := by
  unfold immC at h
  split at h
  · split at h
    · rename_i b g off s l c ex _ cs g' hb
      obtain ⟨⟨⟨rfl, h1, h2⟩⟩, h⟩ := h
      refine ⟨_, _, ?_, h⟩
      unfold imm
      have hr : getRange cs off (l * s) = .ok ((cs.drop off).take (l * s)) := by
        unfold getRange
        rw [if_pos (by rw [List.length_take, List.length_drop]; omega)]
      simp only [hcells, hb, if_true, bind, Except.bind, hr, mapS_flat (all_take_drop h2 off (l * s))]
      rfl
    · exact h.elim
  · obtain ⟨r, hr, h⟩ := okW_ok h
    exact ⟨_, _, hr, h⟩

theorem immL_ok {H : AHeap} : ∀ {l : List AV} {k : List AV → List Nat → Prop}, immL H l k → ∃ l' bs, mapS (imm H 4) l = .ok (l', bs) ∧ k l' bs := by
  intro l
  induction l with
  | nil => intro k h; exact ⟨_, _, rfl, h⟩
  | cons v vs ih =>
    intro k h
    obtain ⟨v', b, h1, h⟩ := immC_ok h
    obtain ⟨vs', bs, h2, h⟩ := ih h
    refine ⟨_, _, ?_, h⟩
    unfold mapS
    simp only [h1, h2, bind, Except.bind]
    rfl

theorem immA_ok {H : AHeap} {v : AV} {k : AV → List Nat → Prop} (h : immA H v k) : ∃ v' bs, imm H 5 v = .ok (v', bs) ∧ k v' bs := by
  unfold immA at h
  split at h
  · obtain ⟨l', bs, h1, h⟩ := immL_ok h
    refine ⟨_, _, ?_, h⟩
    unfold imm
    simp only [h1, bind, Except.bind]
    rfl
  · obtain ⟨v', bs, h1, h⟩ := immC_ok h
    exact ⟨_, _, imm_succ _ _ _ _ h1, h⟩

theorem immAL_ok {H : AHeap} : ∀ {l : List AV} {k : List AV → List Nat → Prop}, immAL H l k → ∃ l' bs, mapS (imm H 5) l = .ok (l', bs) ∧ k l' bs := by
  intro l
  induction l with
  | nil => intro k h; exact ⟨_, _, rfl, h⟩
  | cons v vs ih =>
    intro k h
    obtain ⟨v', b, h1, h⟩ := immA_ok h
    obtain ⟨vs', bs, h2, h⟩ := ih h
    refine ⟨_, _, ?_, h⟩
    unfold mapS
    simp only [h1, h2, bind, Except.bind]
    rfl

theorem immR_ok {H : AHeap} {v : AV} {k : AV → List Nat → Prop} (h : immR H v k) : ∃ v' bs, imm H immFuel v = .ok (v', bs) ∧ k v' bs := by
  unfold immR at h
  split at h
  · obtain ⟨l', bs, h1, h⟩ := immAL_ok h
    refine ⟨_, _, imm_le (n := 6) (by decide) ?_, h⟩
    unfold imm
    simp only [h1, bind, Except.bind]
    rfl
  · obtain ⟨v', bs, h1, h⟩ := immA_ok h
    exact ⟨_, _, imm_le (by decide) h1, h⟩

theorem immAL_args {H : AHeap} {l : List AV} {k : List AV → List Nat → Prop} (h : immAL H l k) : ∃ l' bs, mapS (imm H immFuel) l = .ok (l', bs) ∧ k l' bs := by
  obtain ⟨l', bs, h1, h⟩ := immAL_ok h
  exact ⟨l', bs, mapS_mono (fun v r hv => imm_le (by decide) hv) h1, h⟩

/-- A call by what is known of the function. -/
def Ctx.callW (C : Ctx) (k : FuncId) (args : List AV) (K : AV → Prop) : Prop :=
  match C.tbl k args with
  | some r => K r
  | none => match C.fs k with
    | some f => ∃ x, Due (f.pre x) ∧ Due (args = f.args x) ∧ K (f.out x)
    | none => False

theorem Ctx.callW_ok {P : Program} {C : Ctx} (hC : C.OK P) {k : FuncId} {args : List AV} {K : AV → Prop} (h : C.callW k (args.map wkA) K) : ∃ r, C.T k args = some r ∧ K r := by
  unfold Ctx.callW at h
  split at h
  · rename_i r hr
    exact ⟨r, Ctx.T_tbl hr, h⟩
  · rename_i hr
    split at h
    · rename_i f hf
      obtain ⟨x, ⟨h1⟩, ⟨h2⟩, h⟩ := h
      exact ⟨_, Ctx.T_fs hC hr hf h1 h2, h⟩
    · exact h.elim

def Ctx.mode (C : Ctx) : FuncId → Mode := fun k => if C.shared k then .shared else .table

noncomputable def Ctx.call (P : Program) (C : Ctx) : CallF := callH P C.mode C.T C.hook 1

/-- The operation is one of those that are not taken as they stand. -/
def symF (sym : List Nat) (o : Oper) : Bool :=
  match o.dst, o.op with
  | some d, _ => sym.contains d
  | none, .store _ (.tmp a) _ => sym.contains a
  | none, .call c => (match c.args.toList with
    | .tmp a :: _ => sym.contains a
    | _ => false)
  | _, _ => false

def opW (P : Program) (C : Ctx) (gen : Bool) (sym : List Nat) (slot : Option Nat) (ts : List AV) (H : AHeap) (o : Oper) (K : AV → Eff → Prop) : Prop :=
  match o.op with
  | .call c => (match c.callee with
    | .builtin b => (match symF sym o with
      | true => symW P gen slot ts H o.op K
      | false => okW (opE P noCall slot ts H o.op) fun r => K r.1 r.2)
    | .value f => (match evalOp ts f with
      | .fn (.func kf) first captured => (match C.shared kf with
        | false => immAL H (first ++ c.args.toList.map (evalOp ts) ++ captured) fun args bs => C.callW kf (args.map wkA) fun r => K r { rd := bs, frz := bs }
        | true => False)
      | _ => False)
    | _ => False)
  | op => (match symF sym o with
    | true => symW P gen slot ts H op K
    | false => okW (opE P noCall slot ts H op) fun r => K r.1 r.2)

theorem opE_call {P : Program} {c1 c2 : CallF} {slot : Option Nat} {ts : List AV} {H : AHeap} {o : Op} (h : ∀ c f, o = .call c → c.callee ≠ .value f) : opE P c1 slot ts H o = opE P c2 slot ts H o := by
  unfold opE
  split <;> first | rfl | skip
  rename_i c
  cases hc : c.callee with
  | builtin b => simp only [hc]
  | value f => exact absurd hc (h c f rfl)
  | invoke a b => simp only [hc]

theorem opW_ok {P : Program} {C : Ctx} (hC : C.OK P) {gen : Bool} {sym : List Nat} {slot : Option Nat} {ts : List AV} {H : AHeap} {o : Oper} {K : AV → Eff → Prop} (h : opW P C gen sym slot ts H o K) :
    ∃ v e, opE P (C.call P) slot ts H o.op = .ok (v, e) ∧ K v e := by
  unfold opW at h
  split at h
  · rename_i c hc
    split at h
    · rename_i b hb
      have hne : ∀ c' f, o.op = .call c' → c'.callee ≠ .value f := by
        intro c' f h1 h2
        rw [hc] at h1
        cases h1
        rw [hb] at h2
        cases h2
      split at h
      · exact symW_ok h
      · obtain ⟨r, hr, h⟩ := okW_ok h
        exact ⟨_, _, (opE_call hne).symm.trans hr, h⟩
    · rename_i f hb
      split at h
      · rename_i kf first captured hf
        split at h
        · rename_i hs
          obtain ⟨args, bs, h1, h⟩ := immAL_args h
          obtain ⟨r, hr, h⟩ := Ctx.callW_ok hC h
          refine ⟨_, _, ?_, h⟩
          rw [hc]
          unfold opE
          have hp : (C.call P).pure kf = some (onlyT C.T kf) := by
            unfold Ctx.call callH Ctx.mode
            simp only [hs, Bool.false_eq_true, if_false]
          simp only [hb, hf, hp, pureCallA, h1, bind, Except.bind, onlyT, hr]
          rfl
        · exact h.elim
      · exact h.elim
    · exact h.elim
  · rename_i op hop
    have hne : ∀ c' f, o.op = .call c' → c'.callee ≠ .value f := fun c' f h1 _ => hop c' h1
    split at h
    · exact symW_ok h
    · obtain ⟨r, hr, h⟩ := okW_ok h
      exact ⟨_, _, (opE_call hne).symm.trans hr, h⟩
end Go.Abs

namespace Go.Abs
open Go Go.RowKit

def Ctx.sharedCall (C : Ctx) (ts : List AV) : Op → Option (FuncId × List AV)
  | .call c => (match c.callee with
    | .value f => (match evalOp ts f with
      | .fn (.func k) first captured => (match C.shared k with
        | true => some (k, first ++ c.args.toList.map (evalOp ts) ++ captured)
        | false => none)
      | _ => none)
    | _ => none)
  | _ => none

def assocB (d : Nat) : List (Nat × Bool) → Option Bool
  | [] => none
  | (k, v) :: l => match Nat.beq k d with
    | true => some v
    | false => assocB d l

/-- A bool that is not known is split, or asked to be what it is taken to be. -/
def splitW (asm : List (Nat × Bool)) (spl : List Nat) (dst : Option Tmp) (v : AV) (K : AV → Prop) : Prop :=
  match dst with
  | none => K v
  | some d => (match assocB d asm, spl.contains d with
    | none, false => K v
    | some t, _ => (match v with
      | .sc (.bool b) => Due (b = t) ∧ K (.sc (.bool t))
      | _ => False)
    | none, true => (match v with
      | .sc (.bool b) => (b = true → K (.sc (.bool true))) ∧ (b = false → K (.sc (.bool false)))
      | _ => False))

theorem splitW_ok {asm : List (Nat × Bool)} {spl : List Nat} {dst : Option Tmp} {v : AV} {K : AV → Prop} (h : splitW asm spl dst v K) : K v := by
  unfold splitW at h
  split at h
  · exact h
  · split at h
    · exact h
    · split at h
      · obtain ⟨⟨rfl⟩, h⟩ := h
        exact h
      · exact h.elim
    · split at h
      · rename_i b
        cases b with
        | true => exact h.1 rfl
        | false => exact h.2 rfl
      · exact h.elim

def stepW (P : Program) (C : Ctx) (gen : Bool) (sym : List Nat) (asm : List (Nat × Bool)) (spl : List Nat) (slot : Option Nat) (o : Oper) (ts : List AV) (H : AHeap) (K : List AV → AHeap → Option Eff → Prop) : Prop :=
  match C.sharedCall ts o.op with
  | some (kf, args) => (match C.ss kf with
    | some f => (match (args[f.arg]?).bind refOf with
      | some (b, g) => objW gen H b g fun cs => freeW gen H b (∃ x, Due (f.pre x) ∧ Due (cs = f.cells x ∧ args = f.args b g x) ∧ K (putT ts o.dst (f.out b g x)) (setC H b (f.cells' x) g) none)
      | none => False)
    | none => (match C.ns kf with
      | some f => ∃ x, Due (f.pre x) ∧ Due (args = f.args x) ∧ K (putT ts o.dst (f.out H.objs.length x)) { H with objs := H.objs ++ f.news x } none
      | none => False))
  | none => opW P C gen sym slot ts H o fun v e => splitW asm spl o.dst v fun v => K (putT ts o.dst v) (H.apply e) (some e)

section
variable {P : Program} {C : Ctx}

theorem call_pure_shared {k : FuncId} (h : C.shared k = true) : (C.call P).pure k = none := by
  unfold Ctx.call callH Ctx.mode
  simp only [h, if_true]

theorem call_pure_table {k : FuncId} (h : C.shared k = false) : (C.call P).pure k = some (onlyT C.T k) := by
  unfold Ctx.call callH Ctx.mode
  simp only [h, Bool.false_eq_true, if_false]

theorem opW_none {gen : Bool} {sym : List Nat} {slot : Option Nat} {ts : List AV} {H : AHeap} {o : Oper} {K : AV → Eff → Prop} (h : opW P C gen sym slot ts H o K) : bigCall (C.call P) ts o.op = none := by
  unfold opW at h
  unfold bigCall
  split at h
  · rename_i c hc
    rw [hc]
    split at h
    · rename_i b hb
      simp only [hb]
    · rename_i f hb
      split at h
      · rename_i kf first captured hf
        split at h
        · rename_i hs
          simp only [hb, hf, call_pure_table hs]
        · exact h.elim
      · exact h.elim
    · exact h.elim
  · rename_i op hop
    split
    · rename_i c hc
      exact absurd hc (hop c)
    · rfl

theorem stepW_ok (hC : C.OK P) {gen : Bool} {sym : List Nat} {asm : List (Nat × Bool)} {spl : List Nat} {slot : Option Nat} {o : Oper} {ts : List AV} {H : AHeap} {K : List AV → AHeap → Option Eff → Prop} (h : stepW P C gen sym asm spl slot o ts H K) {all : List Oper} {ex : ExecF} (hw : wantedA all ts o = .ok true) :
    ∃ ts1 H1 e, stepA P (C.call P) ex slot all o ts H = .ok (ts1, H1, e) ∧ K ts1 H1 e := by
  unfold stepW at h
  split at h
  · rename_i kf args hs
    have hb : bigCall (C.call P) ts o.op = some (.fn (.func kf) [] [], args) := by
      unfold Ctx.sharedCall at hs
      unfold bigCall
      split at hs
      · rename_i c hop
        split at hs
        · rename_i f hcf
          split at hs
          · rename_i k first captured hf
            split at hs
            · rename_i hsh
              cases hs
              rw [hop]
              simp only [hcf, hf, call_pure_shared hsh]
            · cases hs
          · cases hs
        · cases hs
      · cases hs
    split at h
    · rename_i f hf
      split at h
      · rename_i b g hbg
        obtain ⟨cs, ho, h⟩ := objW_ok h
        obtain ⟨hz, x, ⟨h1⟩, ⟨⟨hcs, h2⟩⟩, h'⟩ := freeW_ok h
        subst hcs
        · have hz' : b ∉ H.frz := by
            intro hm
            have : H.frz.contains b = true := List.contains_iff_mem.2 hm
            rw [this] at hz
            cases hz
          have hk := Ctx.hook_ss hC hf hbg hz' h1 ho h2
          refine ⟨_, _, _, ?_, h'⟩
          unfold stepA
          have hsh : (C.call P).shared kf args H = .ok (f.out b g x, setC H b (f.cells' x) g) := by
            show (match C.hook kf args H with
              | some r => (.ok r : R (AV × AHeap))
              | none => _) = _
            rw [hk]
          simp only [hw, hb, bigA, hsh, bind, Except.bind]
          rfl
      · exact h.elim
    · rename_i hss
      split at h
      · rename_i f hf
        obtain ⟨x, ⟨h1⟩, ⟨h2⟩, h'⟩ := h
        have hk := Ctx.hook_ns (H := H) hC hss hf h1 h2
        refine ⟨_, _, _, ?_, h'⟩
        unfold stepA
        have hsh : (C.call P).shared kf args H = .ok (f.out H.objs.length x, { H with objs := H.objs ++ f.news x }) := by
          show (match C.hook kf args H with
            | some r => (.ok r : R (AV × AHeap))
            | none => _) = _
          rw [hk]
        simp only [hw, hb, bigA, hsh, bind, Except.bind]
        rfl
      · exact h.elim
  · have hb := opW_none h
    obtain ⟨v, e, h1, h⟩ := opW_ok hC h
    refine ⟨_, _, _, ?_, splitW_ok h⟩
    unfold stepA
    simp only [hw, hb, h1]
end

theorem set_self {l : List AV} {d : Nat} {x : AV} (h : l[d]? = some x) : l.set d x = l := by
  apply List.ext_getElem?
  intro i
  rw [List.getElem?_set]
  by_cases e : d = i
  · subst e
    have := (List.getElem?_eq_some_iff.1 h).1
    simp [this, (List.getElem?_eq_some_iff.1 h).2]
  · simp [e]

/-- The guard of an operation. -/
def guardW (all : List Oper) (o : Oper) (ts : List AV) (K : Bool → Prop) : Prop := okW (wantedA all ts o) K

/-- Operations one behind the other. -/
def seqW (P : Program) (C : Ctx) (gen : Bool) (sym : List Nat) (asm : List (Nat × Bool)) (spl : List Nat) (all : List Oper) : List Oper → List AV → AHeap → (List AV → AHeap → Prop) → Prop
  | [], ts, H, K => K ts H
  | o :: rest, ts, H, K => guardW all o ts fun want => match want with
    | true => stepW P C gen sym asm spl none o ts H fun ts1 H1 _ => seqW P C gen sym asm spl all rest ts1 H1 K
    | false => seqW P C gen sym asm spl all rest (putT ts o.dst AV.undef) H K

/-- The operations of a region that draws its order. -/
def drawW (P : Program) (C : Ctx) (gen : Bool) (sym : List Nat) (asm : List (Nat × Bool)) (spl : List Nat) (bf : Nat → Nat → Bool) (base : Nat) (all : List Oper) : List (Nat × Oper) → List AV → AHeap → (List AV → AHeap → List (Nat × Option Eff) → Prop) → Prop
  | [], ts, H, K => K ts H []
  | (i, o) :: rest, ts, H, K => guardW all o ts fun want => match want with
    | true => stepW P C gen sym asm spl (some (base + i)) o ts H fun ts1 H1 e => drawW P C gen sym asm spl bf base all rest ts1 H1 fun ts2 H2 es =>
      (match trivialO e with
       | true => K ts2 H2 es
       | false => (match es.all (fun p => bf i p.1 || effOk e p.2) with
         | true => K ts2 H2 ((i, e) :: es)
         | false => False))
    | false => drawW P C gen sym asm spl bf base all rest (putT ts o.dst AV.undef) H K

def regionW (P : Program) (C : Ctx) (gen : Bool) (sym : List Nat) (asm : List (Nat × Bool)) (spl : List Nat) (ops : Array Oper) (draw : Bool) (ts : List AV) (H : AHeap) (K : List AV → AHeap → Prop) : Prop :=
  match draw with
  | true => (match okRegion ops (bitsOf ops) with
    | true => drawW P C gen sym asm spl (bitsOf ops) H.objs.length ops.toList (enum 0 ops.toList) ts { H with objs := H.objs ++ List.replicate ops.size .dead } fun ts1 H1 _ =>
      K ts1 { H1 with objs := trimTo H.objs.length H1.objs }
    | false => False)
  | false => seqW P C gen sym asm spl ops.toList ops.toList ts H K

section
variable {P : Program} {C : Ctx}

theorem seqW_ok (hC : C.OK P) {gen : Bool} {sym : List Nat} {asm : List (Nat × Bool)} {spl : List Nat} {all : List Oper} {ex : ExecF} : ∀ {l : List Oper} {ts : List AV} {H : AHeap} {K : List AV → AHeap → Prop}, seqW P C gen sym asm spl all l ts H K →
    ∃ ts1 H1, seqA P (C.call P) ex all l ts H = .ok (ts1, H1) ∧ K ts1 H1 := by
  intro l
  induction l with
  | nil => intro ts H K h; exact ⟨_, _, rfl, h⟩
  | cons o rest ih =>
    intro ts H K h
    unfold seqW at h
    obtain ⟨b, hw, h⟩ := okW_ok h
    cases b with
    | true =>
      obtain ⟨ts1, H1, e, h1, h⟩ := stepW_ok hC (ex := ex) h hw
      obtain ⟨ts2, H2, h2, h⟩ := ih h
      refine ⟨_, _, ?_, h⟩
      unfold seqA
      simp only [h1, bind, Except.bind]
      exact h2
    | false =>
      obtain ⟨ts2, H2, h2, h⟩ := ih h
      refine ⟨_, _, ?_, h⟩
      unfold seqA stepA
      simp only [hw, bind, Except.bind]
      exact h2

theorem drawW_ok (hC : C.OK P) {gen : Bool} {sym : List Nat} {asm : List (Nat × Bool)} {spl : List Nat} {bf : Nat → Nat → Bool} {base : Nat} {all : List Oper} {ex : ExecF} : ∀ {l : List (Nat × Oper)} {ts : List AV} {H : AHeap} {K : List AV → AHeap → List (Nat × Option Eff) → Prop}, drawW P C gen sym asm spl bf base all l ts H K →
    ∃ ts1 H1 es, drawA P (C.call P) ex bf base all l ts H = .ok (ts1, H1, es) ∧ K ts1 H1 es := by
  intro l
  induction l with
  | nil => intro ts H K h; exact ⟨_, _, _, rfl, h⟩
  | cons p rest ih =>
    obtain ⟨i, o⟩ := p
    intro ts H K h
    unfold drawW at h
    obtain ⟨b, hw, h⟩ := okW_ok h
    cases b with
    | true =>
      obtain ⟨ts1, H1, e, h1, h⟩ := stepW_ok hC (ex := ex) h hw
      obtain ⟨ts2, H2, es, h2, h⟩ := ih h
      unfold drawA
      simp only [h1, h2, bind, Except.bind]
      split at h
      · rename_i ht
        simp only [ht, if_true]
        exact ⟨_, _, _, rfl, h⟩
      · rename_i ht
        split at h
        · rename_i ha
          have ha' : (es.all fun p => effOk e p.2 || bf i p.1) = true := by
            rw [List.all_eq_true] at ha ⊢
            intro p hp
            have := ha p hp
            rw [Bool.or_comm]
            exact this
          simp only [ht, Bool.false_eq_true, if_false, ha', if_true]
          exact ⟨_, _, _, rfl, h⟩
        · exact h.elim
    | false =>
      obtain ⟨ts2, H2, es, h2, h⟩ := ih h
      unfold drawA stepA
      simp only [hw, h2, bind, Except.bind]
      have ht : trivialO (some {}) = true := rfl
      simp only [ht, if_true]
      exact ⟨_, _, _, rfl, h⟩

/-- A region. -/
theorem regionW_ok (hC : C.OK P) {gen : Bool} {sym spl : List Nat} {asm : List (Nat × Bool)} {id : Nat} {ops : Array Oper} {draw : Bool} {ts : List AV} {H : AHeap} {K : List AV → AHeap → Prop} (h : regionW P C gen sym asm spl ops draw ts H K) :
    ∃ ts1 H1, exec P (C.call P) 1 (.region id ops draw) ts H = .ok (.normal, ts1, H1) ∧ K ts1 H1 := by
  unfold regionW at h
  unfold exec
  split at h
  · split at h
    · rename_i hok
      obtain ⟨ts1, H1, es, h1, h⟩ := drawW_ok hC (ex := exec P (C.call P) 0) h
      refine ⟨_, _, ?_, h⟩
      simp only [if_true, hok, h1, bind, Except.bind]
      rfl
    · exact h.elim
  · obtain ⟨ts1, H1, h1, h⟩ := seqW_ok hC (ex := exec P (C.call P) 0) h
    refine ⟨_, _, ?_, h⟩
    simp only [Bool.false_eq_true, if_false, h1, bind, Except.bind]
    rfl
end
end Go.Abs

namespace Go.Abs
open Go Go.RowKit

/-! The machine: pieces of a function's code, from loop to loop. Code is named by its path in the body, the innermost step first. -/

inductive Fr where
  | s (p : List Nat)
  | b (id : Nat)
  | l (p : List Nat)

def beqP : List Nat → List Nat → Bool
  | [], [] => true
  | a :: as, b :: bs => Nat.beq a b && beqP as bs
  | _, _ => false

def beqF : Fr → Fr → Bool
  | .s p, .s q => beqP p q
  | .b i, .b j => Nat.beq i j
  | .l p, .l q => beqP p q
  | _, _ => false

def beqK : List Fr → List Fr → Bool
  | [], [] => true
  | a :: as, b :: bs => beqF a b && beqK as bs
  | _, _ => false

theorem beqP_eq : ∀ {a b : List Nat}, beqP a b = true → a = b := by
  intro a
  induction a with
  | nil => intro b h; cases b with
    | nil => rfl
    | cons => cases h
  | cons x a ih =>
    intro b h
    cases b with
    | nil => cases h
    | cons y b =>
      simp only [beqP, Bool.and_eq_true] at h
      rw [Nat.eq_of_beq_eq_true h.1, ih h.2]

theorem beqF_eq {a b : Fr} (h : beqF a b = true) : a = b := by
  cases a <;> cases b <;> simp only [beqF, Bool.false_eq_true] at h
  · rw [beqP_eq h]
  · rw [Nat.eq_of_beq_eq_true h]
  · rw [beqP_eq h]

theorem beqK_eq : ∀ {a b : List Fr}, beqK a b = true → a = b := by
  intro a
  induction a with
  | nil => intro b h; cases b with
    | nil => rfl
    | cons => cases h
  | cons x a ih =>
    intro b h
    cases b with
    | nil => cases h
    | cons y b =>
      simp only [beqK, Bool.and_eq_true] at h
      rw [beqF_eq h.1, ih h.2]

def subC (c : Code) : List Nat → Code
  | [] => c
  | i :: p => match subC c p, i with
    | .seq a _, 0 => a
    | .seq _ b, _ => b
    | .cond _ a _, 0 => a
    | .cond _ _ b, _ => b
    | .block _ b, _ => b
    | .loop b, _ => b
    | _, _ => .skip

/-- A loop at whose head the run is cut: its path, what is pending there, the temporaries that are told, and how many objects are kept. -/
structure Cut where
  p : List Nat
  K : List Fr
  keys : List Nat
  nobj : Nat

structure Cfg where
  gen : Bool
  sym : List Nat
  spl : List Nat
  asm : List (Nat × Bool)
  cuts : List Cut

inductive Ctl where
  | run (p : List Nat)
  | loop (p : List Nat)
  | pop (e : Exit)

def findCut (p : List Nat) : Nat → List Cut → Option (Nat × Cut)
  | _, [] => none
  | j, c :: cs => if beqP c.p p then some (j, c) else findCut p (j + 1) cs

/-- What refers to none but the first n objects. -/
def refsB (n : Nat) : AV → Bool
  | .any | .sc _ | .isl _ _ _ _ | .iptr _ => true
  | .agg cs => cs.all flatA
  | .osl b _ _ _ _ _ _ | .optr b _ _ | .mp b | .it b => Nat.blt b n
  | .fn (.func _) a c => a.all flatA && c.all flatA
  | _ => false

def flatO : AObj → Prop
  | .cells cs _ => cs.all flatA = true
  | .map es => (es.all fun e => flatA e.2) = true
  | .loop .. => False
  | _ => True

def flatOs : List AObj → Prop
  | [] => True
  | o :: os => flatO o ∧ flatOs os

def keepN (n : Nat) (H : AHeap) : AHeap := { objs := H.objs.take n, frz := H.frz.filter fun b => Nat.blt b n }

/-- A cut: what is told of it. -/
def cutW (gen : Bool) (n : Nat) (ci : Cut) (j : Nat) (I : Nat → List AV → AHeap → Prop) (K : List Fr) (ts : List AV) (H : AHeap) : Prop :=
  match beqK ci.K K && Nat.beq ts.length n with
  | false => False
  | true =>
    match gen with
    | true => I j (ci.keys.map fun k => ts.getD k .any) H
    | false => match Nat.ble H.objs.length ci.nobj with
      | true => I j (ci.keys.map fun k => ts.getD k .any) H
      | false =>
        (match (ci.keys.map fun k => ts.getD k .any).all (refsB ci.nobj) with
         | true => Due (flatOs (H.objs.take ci.nobj)) ∧ I j (ci.keys.map fun k => ts.getD k .any) (keepN ci.nobj H)
         | false => False)

/-- The end of a call on its caller's objects: what is handed back, and the heap. -/
def finS (P : Program) (fn : Func) (r0 : AV) (H0 : AHeap) (ts : List AV) (H : AHeap) : Prop :=
  okW (resultsA P fn ts H) fun r => Due (r = r0 ∧ H = H0)

/-- The end of a pure call: what is handed back. -/
def finW (P : Program) (fn : Func) (r0 : AV) (ts : List AV) (H : AHeap) : Prop :=
  match H.objs.all spent with
  | true => okW (resultsA P fn ts H) fun r => immR H r fun r' _ => Due (wkR r' = r0)
  | false => False

def wpM (P : Program) (C : Ctx) (g : Cfg) (n : Nat) (c0 : Code) (I : Nat → List AV → AHeap → Prop) (fin : List AV → AHeap → Prop) : Nat → Ctl → List Fr → List AV → AHeap → Prop
  | 0, _, _, _, _ => False
  | m + 1, .run p, K, ts, H =>
    (match subC c0 p with
     | .skip | .label _ => wpM P C g n c0 I fin m (.pop .normal) K ts H
     | .region _ ops draw => regionW P C g.gen g.sym g.asm g.spl ops draw ts H fun ts1 H1 => wpM P C g n c0 I fin m (.pop .normal) K ts1 H1
     | .seq _ _ => wpM P C g n c0 I fin m (.run (0 :: p)) (.s (1 :: p) :: K) ts H
     | .cond c _ _ => (match evalOp ts c with
       | .sc (.bool t) => (match t with
         | true => wpM P C g n c0 I fin m (.run (0 :: p)) K ts H
         | false => wpM P C g n c0 I fin m (.run (1 :: p)) K ts H)
       | _ => False)
     | .block id _ => wpM P C g n c0 I fin m (.run (0 :: p)) (.b id :: K) ts H
     | .loop _ => wpM P C g n c0 I fin m (.loop p) K ts H
     | .exit id => wpM P C g n c0 I fin m (.pop (.exit id)) K ts H
     | .ret => wpM P C g n c0 I fin m (.pop .ret) K ts H
     | _ => False)
  | m + 1, .loop p, K, ts, H =>
    (match findCut p 0 g.cuts with
     | some (j, ci) => cutW g.gen n ci j I K ts H
     | none => wpM P C g n c0 I fin m (.run (0 :: p)) (.l p :: K) ts H)
  | m + 1, .pop e, [], ts, H =>
    (match e with
     | .normal | .ret => fin ts H
     | _ => False)
  | m + 1, .pop e, f :: K, ts, H =>
    (match e, f with
     | .normal, .s p => wpM P C g n c0 I fin m (.run p) K ts H
     | .normal, .l p => wpM P C g n c0 I fin m (.loop p) K ts H
     | .exit id', .b id => (match Nat.beq id' id with
       | true => wpM P C g n c0 I fin m (.pop .normal) K ts H
       | false => wpM P C g n c0 I fin m (.pop (.exit id')) K ts H)
     | .panic _, _ | .goto _, _ | .outgrown, _ => False
     | e, _ => wpM P C g n c0 I fin m (.pop e) K ts H)

/-! What it means. -/

/-- A loop, behind its head. -/
def LoopW (P : Program) (c : Code) (Q : Exit → Act → World → Prop) (a : Act) (w : World) : Prop :=
  ∀ (b : Frame) (k : List Item) (cs : List Frame), b.roundOf = (FW none).round → (FW none).fn b.fn → (FW none).room (cs.length + 1 + 0) →
    ∃ e a' w', Q e a' w' ∧ ArrivesIn (Machine.fenced P (FW none)) P (Go.lone (b.atR a (.code c :: .inLoop c :: k)) cs w) b k cs e a' w'

theorem loopW_step {P : Program} {c : Code} {Q : Exit → Act → World → Prop} {a : Act} {w : World} (h : c.wpIn (FW none) 0 P (Exit.then (LoopW P c Q) Q) a w) : LoopW P c Q a w := by
  intro b k cs hro hb hr
  obtain ⟨e, a₁, w₁, hq, harr⟩ := h b (.inLoop c :: k) cs hro hb hr
  cases e with
  | normal =>
    obtain ⟨e₂, a₂, w₂, hq₂, harr₂⟩ := hq b k cs hro hb hr
    exact ⟨e₂, a₂, w₂, hq₂, .of_steps (StepsIn.trans harr (.one (fenced_calm hb hr rfl) stepR_inLoop)) harr₂⟩
  | exit id => exact ⟨_, a₁, w₁, hq, .pass (x := .inLoop c) rfl (fun _ _ => .inl (by simp)) harr⟩
  | goto l => exact ⟨_, a₁, w₁, hq, .pass (x := .inLoop c) rfl (fun _ _ => .inl (by simp)) harr⟩
  | ret => exact ⟨_, a₁, w₁, hq, .pass (x := .inLoop c) rfl (fun _ _ => .inl (by simp)) harr⟩
  | panic ch => exact ⟨_, a₁, w₁, hq, .pass (x := .inLoop c) rfl (fun _ _ => .inl (by simp)) harr⟩
  | outgrown => exact ⟨_, a₁, w₁, hq, .pass (x := .inLoop c) rfl (fun _ _ => .inl (by simp)) harr⟩

theorem loopW_wp {P : Program} {c : Code} {Q : Exit → Act → World → Prop} {a : Act} {w : World} (h : LoopW P c Q a w) : (Code.loop c).wpIn (FW none) 0 P Q a w := by
  intro b k cs hro hb hr
  obtain ⟨e, a', w', hq, harr⟩ := h b k cs hro hb hr
  exact ⟨e, a', w', hq, .of_steps (.one (fenced_calm hb hr rfl) stepR_loop) harr⟩

def KP (P : Program) (c0 : Code) (Q : Exit → Act → World → Prop) : List Fr → Exit → Act → World → Prop
  | [] => Q
  | .s p :: K => Exit.then ((subC c0 p).wpIn (FW none) 0 P (KP P c0 Q K)) (KP P c0 Q K)
  | .b id :: K => Exit.inBlock id (KP P c0 Q K)
  | .l p :: K => Exit.then (LoopW P (subC c0 (0 :: p)) (KP P c0 Q K)) (KP P c0 Q K)

/-- Where a call has begun. -/
structure Base where
  w : World
  S : Nat → Prop
  H : List AObj
  φ : Nat → Nat × Nat × Nat
  D : Nat → Prop

/-- Between two pieces of a call. -/
def AtT (n₀ : Nat) (w₀ : World) (B : Base) (ts : List AV) (H : AHeap) (a : Act) (w : World) : Prop :=
  ∃ (S : Nat → Prop) (φ : Nat → Nat × Nat × Nat) (D : Nat → Prop), Rel n₀ w₀ w S H φ D ∧ VRL w S H.objs φ ts a.tmps ∧ Ext n₀ B.w B.S B.H B.φ B.D w S H.objs φ D ∧ Marks [] a.defers B.D D

section
variable {P : Program} {w w' : World}
variable {n₀ : Nat} {w₀ : World} {S S' : Nat → Prop} {H : AHeap} {φ φ' : Nat → Nat × Nat × Nat} {D : Nat → Prop} {Sw : Nat → Prop}

theorem VR.flat {H H' : List AObj} {x : AV} {v : Value} (h : VR w S H φ x v) (hf : flatA x = true) : VR w S H' φ x v := by
  unfold flatA at hf
  split at hf
  · exact .im .any
  · cases h with
    | im h => exact .im h
  · cases h with
    | im h => exact .im h
  · cases h with
    | im h => exact .im h
  · cases hf

theorem VR.keep {H : List AObj} {x : AV} {v : Value} {n : Nat} (h : VR w S H φ x v) (hf : refsB n x = true) : VR w S (H.take n) φ x v := by
  have get : ∀ {b : Nat} {o : AObj}, Nat.blt b n = true → H[b]? = some o → (H.take n)[b]? = some o := by
    intro b o hb ho
    have : b < n := Nat.le_of_ble_eq_true hb
    rw [List.getElem?_take]
    simp [this, ho]
  cases h with
  | im h => exact .im h
  | agg hl h => exact .agg hl (fun i x v a b => (h i x v a b).flat (List.all_eq_true.1 hf x (List.mem_of_getElem? a)))
  | tup hl h => cases hf
  | fn ha hc h1 h2 =>
    simp only [refsB, Bool.and_eq_true] at hf
    exact .fn ha hc (fun i x v a b => (h1 i x v a b).flat (List.all_eq_true.1 hf.1 x (List.mem_of_getElem? a))) (fun i x v a b => (h2 i x v a b).flat (List.all_eq_true.1 hf.2 x (List.mem_of_getElem? a)))
  | yield h => cases hf
  | ifc h => cases hf
  | osl hb hg hl hc he hp => exact .osl (get hf hb) hg hl hc he hp
  | optr hb hg hp => exact .optr (get hf hb) hg hp
  | mp h => obtain ⟨es, h⟩ := h; exact .mp ⟨es, get hf h⟩
  | it h => obtain ⟨s, pos, h⟩ := h; exact .it ⟨s, pos, get hf h⟩
  | itr h => obtain ⟨o, h⟩ := h; exact .itr ⟨o, get hf h⟩

theorem flatOs_get : ∀ {l : List AObj} {b : Nat} {o : AObj}, flatOs l → l[b]? = some o → flatO o := by
  intro l
  induction l with
  | nil => intro b o _ h; simp at h
  | cons x l ih =>
    intro b o hf h
    cases b with
    | zero => simp at h; subst h; exact hf.1
    | succ b => exact ih hf.2 (by simpa using h)

theorem Rel.keep (R : Rel n₀ w₀ w S H φ D) {n : Nat} (hf : flatOs (H.objs.take n)) : Rel n₀ w₀ w S (keepN n H) φ D := by
  have old : ∀ {b : Nat} {o : AObj}, (H.objs.take n)[b]? = some o → b < n ∧ H.objs[b]? = some o := by
    intro b o h
    rw [List.getElem?_take] at h
    split at h
    · exact ⟨by assumption, h⟩
    · cases h
  refine ⟨R.below, R.size, R.szS, fun b o h => ?_, fun b o h => R.place b o (old h).2, fun b b' o o' h h' => R.inj b b' o o' (old h).2 (old h').2, R.dfr, fun b h => ?_, R.glob⟩
  · have hq := R.obj b o (old h).2
    have hfo := flatOs_get hf h
    cases o with
    | dead => trivial
    | cells cs g =>
      obtain ⟨C, t, lo, hi, h1, h2, h3, h4, h5⟩ := hq
      refine ⟨C, t, lo, hi, h1, h2, h3, fun i x v a b => (h4 i x v a b).flat (List.all_eq_true.1 hfo x (List.mem_of_getElem? a)), ?_⟩
      rw [← h5]
      simp only [keepN, List.mem_filter, Nat.blt_eq]
      exact ⟨fun h => h.1, fun h' => ⟨h', (old h).1⟩⟩
    | map es =>
      obtain ⟨E, c, h1, h2, h3, h4⟩ := hq
      exact ⟨E, c, h1, h2, fun i k v e a b => ⟨(h3 i k v e a b).1, (h3 i k v e a b).2.flat (List.all_eq_true.1 hfo (k, v) (List.mem_of_getElem? a))⟩, h4⟩
    | siter s pos => exact hq
    | raw x => exact hq
    | loop => exact hfo.elim
  · simp only [keepN, List.mem_filter, Nat.blt_eq] at h
    obtain ⟨cs, g, hb⟩ := R.frzc b h.1
    refine ⟨cs, g, ?_⟩
    simp only [keepN, List.getElem?_take]
    simp [h.2, hb]
end
end Go.Abs

namespace Go.Abs
open Go Go.RowKit

section
variable {P : Program} {C : Ctx} {g : Cfg} {n : Nat} {c0 : Code} {n₀ : Nat} {w₀ : World} {B : Base}

theorem AtT.region (hm : P.follows .mixedOrders = true) (hng : NoNG P) (hC : C.OK P) {id : Nat} {ops : Array Oper} {draw : Bool} {ts : List AV} {H : AHeap} {gen : Bool} {sym spl : List Nat} {asm : List (Nat × Bool)} {K : List AV → AHeap → Prop} {a : Act} {w : World} {Q : Exit → Act → World → Prop}
    (h : regionW P C gen sym asm spl ops draw ts H K) (hA : AtT n₀ w₀ B ts H a w) (hK : ∀ ts' H' a' w', K ts' H' → AtT n₀ w₀ B ts' H' a' w' → Q .normal a' w') : (Code.region id ops draw).wpIn (FW none) 0 P Q a w := by
  obtain ⟨ts1, H1, h1, h⟩ := regionW_ok hC (id := id) h
  have hcall : PureOK P (C.call P) ∧ SharedOK P (C.call P) := callH_ok hm hng (C.T_ok hC) (C.hook_ok hC) 1
  have hex := (exec_sim hm hcall.1 hcall.2 1).1
  obtain ⟨S, φ, D, R, V, k1, hM⟩ := hA
  refine hex _ ts H .normal ts1 H1 h1 none n₀ w₀ w S φ D a Q (fun l hl => by cases hl) R V ?_
  intro a1 w1 S1 φ1 D1 R1 E1 V1 M1
  exact hK ts1 H1 a1 w1 h ⟨S1, φ1, D1, R1, V1, k1.trans E1, hM.trans M1 k1.dfr E1.dfr⟩

theorem cut_slots {keys : List Nat} {ts : List AV} {k : Nat} {x : AV} (h : (k, x) ∈ keys.zip (keys.map fun k => ts.getD k .any)) : x = ts.getD k .any := by
  induction keys with
  | nil => cases h
  | cons a keys ih =>
    simp only [List.map_cons, List.zip_cons_cons, List.mem_cons, Prod.mk.injEq] at h
    rcases h with ⟨rfl, rfl⟩ | h
    · rfl
    · exact ih h

theorem AtT.cut {gen : Bool} (hB : gen = false → B.H = []) {ci : Cut} {j : Nat} {I : Nat → List AV → AHeap → Prop} {K : List Fr} {ts : List AV} {H : AHeap} (h : cutW gen n ci j I K ts H) {a : Act} {w : World} (hA : AtT n₀ w₀ B ts H a w) :
    ∃ vals H', ci.K = K ∧ I j vals H' ∧ AtT n₀ w₀ B (bT n (ci.keys.zip vals)) H' a w := by
  unfold cutW at h
  have weak : ∀ {H' : AHeap} {S : Nat → Prop} {φ : Nat → Nat × Nat × Nat}, ts.length = n → VRL w S H.objs φ ts a.tmps → (∀ x v, x ∈ (ci.keys.map fun k => ts.getD k .any) → VR w S H.objs φ x v → VR w S H'.objs φ x v) →
      VRL w S H'.objs φ (bT n (ci.keys.zip (ci.keys.map fun k => ts.getD k .any))) a.tmps := by
    intro H' S φ hl V hv
    refine ⟨by rw [← V.1, hl]; simp [bT], fun i x v h1 h2 => ?_⟩
    obtain ⟨hi, rfl⟩ := bT_get h1
    rcases slotOf_spec i (ci.keys.zip (ci.keys.map fun k => ts.getD k .any)) with hq | hq
    · rw [hq]; exact .im .any
    · have e := cut_slots hq
      have hm := (List.of_mem_zip hq).2
      refine hv _ v hm ?_
      rw [e]
      have hi' : i < ts.length := by omega
      have : ts[i]? = some (ts.getD i .any) := by simp [List.getElem?_eq_getElem hi', List.getD]
      exact V.2 i _ v this h2
  split at h
  · exact h.elim
  · rename_i hk
    simp only [Bool.and_eq_true] at hk
    have hK := beqK_eq hk.1
    have hl := Nat.eq_of_beq_eq_true hk.2
    obtain ⟨S, φ, D, R, V, k1, hM⟩ := hA
    split at h
    · exact ⟨_, H, hK, h, S, φ, D, R, weak hl V (fun _ _ _ h => h), k1, hM⟩
    · split at h
      · exact ⟨_, H, hK, h, S, φ, D, R, weak hl V (fun _ _ _ h => h), k1, hM⟩
      · split at h
        · rename_i hr
          obtain ⟨⟨hf⟩, h⟩ := h
          refine ⟨_, _, hK, h, S, φ, D, R.keep hf, weak hl V (fun x v hx h => h.keep (List.all_eq_true.1 hr x hx)), ⟨k1.stab, k1.new, k1.cell, fun b o ho => ?_, k1.dfr⟩, hM⟩
          rw [hB rfl] at ho
          simp at ho
        · exact h.elim

def Ctl.code (c0 : Code) : List Nat → Code := subC c0

theorem findCut_get {p : List Nat} : ∀ {l : List Cut} {i j : Nat} {ci : Cut}, findCut p i l = some (j, ci) → i ≤ j ∧ l[j - i]? = some ci ∧ ci.p = p := by
  intro l
  induction l with
  | nil => intro i j ci h; cases h
  | cons c cs ih =>
    intro i j ci h
    unfold findCut at h
    split at h
    · rename_i hb
      cases h
      exact ⟨Nat.le_refl _, by simp, beqP_eq hb⟩
    · obtain ⟨h1, h2, h3⟩ := ih h
      refine ⟨by omega, ?_, h3⟩
      rw [show j - i = (j - (i + 1)) + 1 by omega]
      simpa using h2

theorem wpM_ok (hB : g.gen = false → B.H = []) (hm : P.follows .mixedOrders = true) (hng : NoNG P) (hC : C.OK P) {I : Nat → List AV → AHeap → Prop} {fin : List AV → AHeap → Prop} {Q : Exit → Act → World → Prop}
    (hI : ∀ j ci vals H a w, g.cuts[j]? = some ci → I j vals H → AtT n₀ w₀ B (bT n (ci.keys.zip vals)) H a w → LoopW P (subC c0 (0 :: ci.p)) (KP P c0 Q ci.K) a w)
    (hfin : ∀ ts H a w e, fin ts H → (e = .normal ∨ e = .ret) → AtT n₀ w₀ B ts H a w → Q e a w) : ∀ (m : Nat) (ctl : Ctl) (K : List Fr) (ts : List AV) (H : AHeap) (a : Act) (w : World), wpM P C g n c0 I fin m ctl K ts H → AtT n₀ w₀ B ts H a w →
      match ctl with
      | .run p => (subC c0 p).wpIn (FW none) 0 P (KP P c0 Q K) a w
      | .loop p => LoopW P (subC c0 (0 :: p)) (KP P c0 Q K) a w
      | .pop e => KP P c0 Q K e a w := by
  intro m
  induction m with
  | zero => intro ctl K ts H a w h; exact h.elim
  | succ m ih =>
    intro ctl K ts H a w h hA
    cases ctl with
    | run p =>
      unfold wpM at h
      dsimp only at h ⊢
      split at h
      · rename_i hc; rw [hc]; exact wpIn_skip (ih (.pop .normal) K ts H a w h hA)
      · rename_i hc; rw [hc]; exact wpIn_label (ih (.pop .normal) K ts H a w h hA)
      · rename_i hc; rw [hc]
        exact AtT.region hm hng hC h hA (fun ts' H' a' w' h' hA' => ih (.pop .normal) K ts' H' a' w' h' hA')
      · rename_i x y hc
        have := ih (.run (0 :: p)) (.s (1 :: p) :: K) ts H a w h hA
        have e0 : subC c0 (0 :: p) = x := by unfold subC; rw [hc]; rfl
        have e1 : subC c0 (1 :: p) = y := by unfold subC; rw [hc]; rfl
        rw [hc]
        dsimp only [KP] at this
        rw [e0, e1] at this
        exact wpIn_seq this
      · rename_i c x y hc
        have e0 : subC c0 (0 :: p) = x := by unfold subC; rw [hc]; rfl
        have e1 : subC c0 (1 :: p) = y := by unfold subC; rw [hc]; rfl
        rw [hc]
        split at h
        · rename_i t ht
          have hev : a.eval c = .bool t := by
            obtain ⟨S, φ, D, R, V, _⟩ := hA
            have := evalOp_VR V c
            rw [ht] at this
            exact this.sc_inv.1
          refine wpIn_cond hev ?_
          cases t with
          | true =>
            have := ih (.run (0 :: p)) K ts H a w h hA
            dsimp only at this
            rw [e0] at this
            exact this
          | false =>
            have := ih (.run (1 :: p)) K ts H a w h hA
            dsimp only at this
            rw [e1] at this
            exact this
        · exact h.elim
      · rename_i id x hc
        have e0 : subC c0 (0 :: p) = x := by unfold subC; rw [hc]
        have := ih (.run (0 :: p)) (.b id :: K) ts H a w h hA
        dsimp only [KP] at this
        rw [e0] at this
        rw [hc]
        exact wpIn_block this
      · rename_i x hc
        have e0 : subC c0 (0 :: p) = x := by unfold subC; rw [hc]
        have := ih (.loop p) K ts H a w h hA
        dsimp only at this
        rw [e0] at this
        rw [hc]
        exact loopW_wp this
      · rename_i hc; rw [hc]; exact wpIn_exit (ih (.pop (.exit _)) K ts H a w h hA)
      · rename_i hc; rw [hc]; exact wpIn_ret (ih (.pop .ret) K ts H a w h hA)
      · exact h.elim
    | loop p =>
      unfold wpM at h
      dsimp only at h ⊢
      split at h
      · rename_i j ci hc
        obtain ⟨_, h2, rfl⟩ := findCut_get hc
        obtain ⟨vals, H', rfl, h3, hA'⟩ := AtT.cut hB h hA
        exact hI j ci vals H' a w (by simpa using h2) h3 hA'
      · have := ih (.run (0 :: p)) (.l p :: K) ts H a w h hA
        exact loopW_step this
    | pop e =>
      dsimp only
      cases K with
      | nil =>
        unfold wpM at h

        split at h
        · exact hfin ts H a w _ h (.inl rfl) hA
        · exact hfin ts H a w _ h (.inr rfl) hA
        · exact h.elim
      | cons f K =>
        unfold wpM at h

        split at h
        · exact ih (.run _) K ts H a w h hA
        · exact ih (.loop _) K ts H a w h hA
        · rename_i id' id
          have hk : KP P c0 Q (.b id :: K) (.exit id') a w = (if id' = id then KP P c0 Q K .normal a w else KP P c0 Q K (.exit id') a w) := rfl
          rw [hk]
          split at h
          · rename_i hb
            rw [if_pos (Nat.eq_of_beq_eq_true hb)]
            exact ih (.pop .normal) K ts H a w h hA
          · rename_i hb
            rw [if_neg (Nat.ne_of_beq_eq_false hb)]
            exact ih (.pop (.exit id')) K ts H a w h hA
        · exact h.elim
        · exact h.elim
        · exact h.elim
        · rename_i _ _ _ h1 h2 h3
          have := ih (.pop e) K ts H a w h hA
          dsimp only at this
          cases f with
          | s p =>
            cases e with
            | normal => exact (h1 p rfl rfl).elim
            | _ => exact this
          | l p =>
            cases e with
            | normal => exact (h2 p rfl rfl).elim
            | _ => exact this
          | b id =>
            cases e with
            | exit id' => exact (h3 id' id rfl rfl).elim
            | _ => exact this
theorem leave_wk {Sw : Nat → Prop} {w : World} {S : Nat → Prop} {H : AHeap} {φ : Nat → Nat × Nat × Nat} {D : Nat → Prop} {fn : Func} {ts : List AV} {a : Act} {r r' : AV} {bs : List Nat} (R : Rel n₀ w₀ w S H φ D) (hts : VRL w S H.objs φ ts a.tmps) (hM : Marks [] a.defers (fun _ => False) D) (hsp : H.objs.all spent = true)
    (h1 : ∀ b, Sw b → S b) (h2 : ∀ b, S b → Sw b ∨ n₀ ≤ b) (hres : resultsA P fn ts H = .ok r) (hi : imm H immFuel r = .ok (r', bs)) :
    LeavesInM (FW none) 0 P fn a.tmps (EndOK n₀ w₀ Sw (wkR r')) a.defers .returning w := by
  obtain ⟨ms, hms, hnd, hin⟩ := hM
  rw [List.append_nil] at hms
  have R2 : Rel n₀ w₀ w S H φ (fun _ => False) := R.drop (fun _ h => h.elim) (fun b st pend ts ps as bd hb hst => by
    have := List.all_eq_true.1 hsp _ (List.mem_of_getElem? hb)
    cases st <;> first | exact absurd rfl hst | cases this)
  rw [hms]
  refine leaves_marks ms R2 hnd (fun q hq => ?_) (fun w2 Rf Ef => ?_)
  · obtain ⟨d1, d2⟩ := hin q hq
    obtain ⟨k1, k2, k3⟩ := R.dfr q d1
    exact ⟨k1, k2, k3, fun h => h.elim⟩
  · obtain ⟨v, k1, k2⟩ := results_sim (P := P) Rf (hts.ext Ef) hres
    obtain ⟨hb, hT⟩ := imm_sim Rf immFuel r r' bs v hi k2
    obtain ⟨Rg, Eg⟩ := freeze_sim Rf (e := { rd := bs, frz := bs }) rfl hb
    exact ⟨v, k1, v, rfl, frzS S φ bs, Rf.below, fun b h => .inl (h1 b h), fun b h => (Eg.new b h).elim (h2 b) .inr, Rg.szS, (hT _ (fun b h => .inl h) (fun c hc => .inr ⟨c, hc, rfl⟩)).wkR⟩

/-- A pure call, by its pieces: each loop's head has a predicate with a measure. -/
theorem entryW (hm : P.follows .mixedOrders = true) (hng : NoNG P) (hC : C.OK P) {k : FuncId} {fn : Func} (hf : P.funcs[k]? = some fn) (hb : fn.body = some c0) (hn : fn.ntmps = n) {args : List AV} {r0 : AV} (hgen : g.gen = false) (hl : args.length ≤ n) (I : Nat → Nat → List AV → AHeap → Prop) (N : Nat)
    (hstart : wpM P C g n c0 (fun j vals H => ∃ m, I m j vals H) (finW P fn r0) N (.run []) [] (bT n ((List.range args.length).zip args)) AHeap.empty)
    (hloop : ∀ m j ci vals H, g.cuts[j]? = some ci → I m j vals H → wpM P C g n c0 (fun j vals H => ∃ m', m' < m ∧ I m' j vals H) (finW P fn r0) N (.run (0 :: ci.p)) (.l ci.p :: ci.K) (bT n (ci.keys.zip vals)) H) : EntryOK P k args r0 := by
  intro w S vs hS hG hvs
  refine .inl ⟨callFunc_enter hf (hng k _ hf) hb, ?_⟩
  have hfin : ∀ ts H a w' e, finW P fn r0 ts H → (e = .normal ∨ e = .ret) → AtT w.heap.size w ⟨w, S, [], fun _ => (0, 0, 0), fun _ => False⟩ ts H a w' → bodyPostM (FW none) 0 P fn (EndOK w.heap.size w S r0) e a w' := by
    intro ts H a w' e h he hA
    unfold finW at h
    split at h
    · rename_i hsp
      obtain ⟨r, hr, h⟩ := okW_ok h
      obtain ⟨r', bs, hi, h⟩ := immR_ok h
      obtain ⟨S1, φ, D, R, V, k, hM⟩ := hA
      have k1 := k.stab
      have k2 := k.new
      have hq' := leave_wk (Sw := S) (fn := fn) R V hM hsp k1 k2 hr hi
      rw [h.h] at hq'
      rcases he with rfl | rfl
      · exact hq'
      · exact hq'
    · exact h.elim
  have hloops : ∀ m j ci vals H a w', g.cuts[j]? = some ci → I m j vals H → AtT w.heap.size w ⟨w, S, [], fun _ => (0, 0, 0), fun _ => False⟩ (bT n (ci.keys.zip vals)) H a w' →
      LoopW P (subC c0 (0 :: ci.p)) (KP P c0 (bodyPostM (FW none) 0 P fn (EndOK w.heap.size w S r0)) ci.K) a w' := by
    intro m
    induction m using Nat.strongRecOn with
    | ind m ih =>
      intro j ci vals H a w' hj hi hA
      have := wpM_ok (fun _ => rfl) hm hng hC (n₀ := w.heap.size) (w₀ := w) (B := ⟨w, S, [], fun _ => (0, 0, 0), fun _ => False⟩) (I := fun j vals H => ∃ m', m' < m ∧ I m' j vals H) (Q := bodyPostM (FW none) 0 P fn (EndOK w.heap.size w S r0))
        (fun j ci vals H a w' hj hi hA => by
          obtain ⟨m', hlt, hi⟩ := hi
          exact ih m' hlt j ci vals H a w' hj hi hA) hfin N (.run (0 :: ci.p)) (.l ci.p :: ci.K) _ H a w' (hloop m j ci vals H hj hi) hA
      exact loopW_step this
  have main : Calls P k vs w (EndOK w.heap.size w S r0) := by
    refine (callsIn_wide (n := 0)).1 (callsIn_of_wp_marks hf hb trivial ?_)
    have hsz : vs.size ≤ n := by rw [← hvs.1]; exact hl
    have V0 : VRL w S AHeap.empty.objs (fun _ => (0, 0, 0)) (bT n ((List.range args.length).zip args)) (vs ++ Array.replicate (fn.ntmps - vs.size) undef) := by
      rw [hn]
      refine border_start (IVRL.vrl hvs) hsz (fun k x hk => ?_)
      obtain ⟨i, hi⟩ := List.getElem?_of_mem hk
      rw [List.getElem?_zip_eq_some] at hi
      obtain ⟨h1, h2⟩ := hi
      have hlt : i < args.length := (List.getElem?_eq_some_iff.1 h2).1
      rw [List.getElem?_range hlt] at h1
      cases h1
      exact h2
    exact wpM_ok (fun _ => rfl) hm hng hC (n₀ := w.heap.size) (w₀ := w) (B := ⟨w, S, [], fun _ => (0, 0, 0), fun _ => False⟩) (I := fun j vals H => ∃ m, I m j vals H) (Q := bodyPostM (FW none) 0 P fn (EndOK w.heap.size w S r0))
      (fun j ci vals H a w' hj hi hA => by
        obtain ⟨m', hi⟩ := hi
        exact hloops m' j ci vals H a w' hj hi hA) hfin N (.run []) [] _ _ { tmps := vs ++ Array.replicate (fn.ntmps - vs.size) undef, defers := [] } w hstart
      ⟨S, fun _ => (0, 0, 0), fun _ => False, rel_empty hS hG _, V0, Ext.refl, .refl _ _⟩
  exact main
end
end Go.Abs

namespace Go.Abs
open Go Go.RowKit

section
variable {P : Program} {C : Ctx} {g : Cfg} {n : Nat} {c0 : Code}

theorem setC_get {H : AHeap} {b i : Nat} {cs : List AV} {gn : Nat} {o : AObj} (hb : b < H.objs.length) : (setC H b cs gn).objs[i]? = if i = b then some (.cells cs gn) else H.objs[i]? :=
  getElem?_setObj _ _ _ (Nat.le_of_lt hb) i

/-- A call on its caller's objects, by its pieces. -/
theorem entryH (hm : P.follows .mixedOrders = true) (hng : NoNG P) (hC : C.OK P) {k : FuncId} {fn : Func} (hf : P.funcs[k]? = some fn) (hb : fn.body = some c0) (hn : fn.ntmps = n) {args : List AV} {r0 : AV} {H H0 : AHeap} (hgen : g.gen = true) (hl : args.length ≤ n)
    (hH0 : ∀ (i : Nat) (st : LoopState) (pend : Option Code) (ts : List AV) (ps : List Tmp) (as bd : Code), H0.objs[i]? = some (.loop st pend ts ps as bd) → H.objs[i]? = some (.loop st pend ts ps as bd)) (I : Nat → Nat → List AV → AHeap → Prop) (N : Nat)
    (hstart : wpM P C g n c0 (fun j vals H => ∃ m, I m j vals H) (finS P fn r0 H0) N (.run []) [] (bT n ((List.range args.length).zip args)) H)
    (hloop : ∀ m j ci vals H1, g.cuts[j]? = some ci → I m j vals H1 → wpM P C g n c0 (fun j vals H => ∃ m', m' < m ∧ I m' j vals H) (finS P fn r0 H0) N (.run (0 :: ci.p)) (.l ci.p :: ci.K) (bT n (ci.keys.zip vals)) H1) :
    SharedFn P k args H r0 H0 := by
  intro n₀ w₀ w S φ D vs R0 hvs
  refine ⟨callFunc_enter hf (hng k _ hf) hb, ?_⟩
  let post : Ending → World → Prop := fun e w' => ∃ v S' φ' D', e = .returned v ∧ Rel n₀ w₀ w' S' H0 φ' D' ∧ Ext n₀ w S H.objs φ D w' S' H0.objs φ' D' ∧ VR w' S' H0.objs φ' r0 v
  have hfin : ∀ ts H1 a w' e, finS P fn r0 H0 ts H1 → (e = .normal ∨ e = .ret) → AtT n₀ w₀ ⟨w, S, H.objs, φ, D⟩ ts H1 a w' → bodyPostM (FW none) 0 P fn post e a w' := by
    intro ts H1 a w' e h he hA
    unfold finS at h
    obtain ⟨r, hr, ⟨rfl, rfl⟩⟩ := okW_ok h
    obtain ⟨S1, φ1, D1, R1, V1, E1, ms, hms, hnd, hin⟩ := hA
    have hms : a.defers = ms.map mark1 := by simpa using hms
    have E1' : Ext n₀ w S H.objs φ D w' S1 H1.objs φ1 D := ⟨E1.stab, E1.new, E1.cell, E1.obj, fun _ h => h⟩
    have R2 : Rel n₀ w₀ w' S1 H1 φ1 D := R1.drop E1.dfr (fun i st pend ts ps as bd hi hst => by
      replace hi := hH0 i st pend ts ps as bd hi
      obtain ⟨o', k1, k2⟩ := E1.obj i _ hi
      obtain ⟨_, hp⟩ := k2
      obtain ⟨fn0, T0, _, _, hd, _⟩ := R0.obj i _ hi
      rw [hp]
      exact hd hst)
    have goal : LeavesInM (FW none) 0 P fn a.tmps post a.defers .returning w' := by
      rw [hms]
      refine leaves_marks ms R2 hnd (fun q hq => ?_) (fun w2 Rf Ef => ?_)
      · obtain ⟨d1, d2⟩ := hin q hq
        obtain ⟨k1, k2, k3⟩ := R1.dfr q d1
        exact ⟨k1, k2, k3, d2⟩
      · obtain ⟨v, k1, k2⟩ := results_sim (P := P) Rf (V1.ext Ef) hr
        exact ⟨v, k1, v, S1, φ1, D, rfl, Rf, E1'.trans Ef, k2⟩
    rcases he with rfl | rfl
    · exact goal
    · exact goal
  have hloops : ∀ m j ci vals H1 a w', g.cuts[j]? = some ci → I m j vals H1 → AtT n₀ w₀ ⟨w, S, H.objs, φ, D⟩ (bT n (ci.keys.zip vals)) H1 a w' →
      LoopW P (subC c0 (0 :: ci.p)) (KP P c0 (bodyPostM (FW none) 0 P fn post) ci.K) a w' := by
    intro m
    induction m using Nat.strongRecOn with
    | ind m ih =>
      intro j ci vals H1 a w' hj hi hA
      have := wpM_ok (fun h => by rw [hgen] at h; cases h) hm hng hC (n₀ := n₀) (w₀ := w₀) (B := ⟨w, S, H.objs, φ, D⟩) (I := fun j vals H => ∃ m', m' < m ∧ I m' j vals H) (Q := bodyPostM (FW none) 0 P fn post)
        (fun j ci vals H a w' hj hi hA => by
          obtain ⟨m', hlt, hi⟩ := hi
          exact ih m' hlt j ci vals H a w' hj hi hA) hfin N (.run (0 :: ci.p)) (.l ci.p :: ci.K) _ H1 a w' (hloop m j ci vals H1 hj hi) hA
      exact loopW_step this
  refine (callsIn_wide (n := 0)).1 (callsIn_of_wp_marks hf hb trivial ?_)
  have hsz : vs.size ≤ n := by rw [← hvs.1]; exact hl
  have V0 : VRL w S H.objs φ (bT n ((List.range args.length).zip args)) (vs ++ Array.replicate (fn.ntmps - vs.size) undef) := by
    rw [hn]
    refine border_start hvs hsz (fun k x hk => ?_)
    obtain ⟨i, hi⟩ := List.getElem?_of_mem hk
    rw [List.getElem?_zip_eq_some] at hi
    obtain ⟨h1, h2⟩ := hi
    have hlt : i < args.length := (List.getElem?_eq_some_iff.1 h2).1
    rw [List.getElem?_range hlt] at h1
    cases h1
    exact h2
  exact wpM_ok (fun h => by rw [hgen] at h; cases h) hm hng hC (n₀ := n₀) (w₀ := w₀) (B := ⟨w, S, H.objs, φ, D⟩) (I := fun j vals H => ∃ m, I m j vals H) (Q := bodyPostM (FW none) 0 P fn post)
    (fun j ci vals H a w' hj hi hA => by
      obtain ⟨m', hi⟩ := hi
      exact hloops m' j ci vals H a w' hj hi hA) hfin N (.run []) [] _ _ { tmps := vs ++ Array.replicate (fn.ntmps - vs.size) undef, defers := [] } w hstart
    ⟨S, φ, D, R0, V0, Ext.refl, .refl _ _⟩
theorem setC_loops {H : AHeap} {b gn : Nat} {cs cs' : List AV} (ho : H.objs[b]? = some (.cells cs gn)) (i : Nat) (st : LoopState) (pend : Option Code) (ts : List AV) (ps : List Tmp) (as bd : Code) (h : (setC H b cs' gn).objs[i]? = some (.loop st pend ts ps as bd)) :
    H.objs[i]? = some (.loop st pend ts ps as bd) := by
  rw [setC_get (o := .dead) (List.getElem?_eq_some_iff.1 ho).1] at h
  split at h
  · cases h
  · exact h

theorem news_loops {H : AHeap} {os : List AObj} (ho : os.all noLoop = true) (i : Nat) (st : LoopState) (pend : Option Code) (ts : List AV) (ps : List Tmp) (as bd : Code) (h : (H.objs ++ os)[i]? = some (.loop st pend ts ps as bd)) :
    H.objs[i]? = some (.loop st pend ts ps as bd) := by
  rw [List.getElem?_append] at h
  split at h
  · exact h
  · have := List.all_eq_true.1 ho _ (List.mem_of_getElem? h)
    cases this
end
end Go.Abs

