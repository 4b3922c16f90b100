/- Functions run over unknown values, from loop head to loop head. -/
import Derived.Test.YtbndbhglmbjfgaaGreatDoorGrSymA
import Derived.Test.YtbndbhglmbjfgaaGreatDoorProg
import Derived.KernelRfl
set_option linter.all false
set_option maxRecDepth 100000
namespace Go.Abs.Sym
open Go Go.Abs Go.Proofs

theorem mixed : Tryz.prog.follows .mixedOrders = true := by kernel_rfl
theorem nong' : (Tryz.prog.funcs.toList.all fun fn => !(fn.name == "runtime.NumGoroutine")) = true := by kernel_rfl
theorem nong : NoNG Tryz.prog := by
  intro k fn h
  have := List.all_eq_true.1 nong' fn (List.mem_of_getElem? (by rw [Array.getElem?_toList]; exact h))
  simpa using this

def fnOf (P : Program) (k : FuncId) : Func := (P.funcs[k]?).getD default
def bodyOf (P : Program) (k : FuncId) : Code := ((fnOf P k).body).getD .skip

/-- A function with a body, and how many temporaries it has. -/
structure FnOK (k : FuncId) (n : Nat) : Prop where
  f : Tryz.prog.funcs[k]? = some (fnOf Tryz.prog k)
  b : (fnOf Tryz.prog k).body = some (bodyOf Tryz.prog k)
  n : (fnOf Tryz.prog k).ntmps = n

/-- A pure call's first piece, and that behind a loop's head. -/
def runP (C : Ctx) (g : Cfg) (n k : Nat) (I : Nat → List AV → AHeap → Prop) (r : AV) (args : List AV) : Prop :=
  wpM Tryz.prog C g n (bodyOf Tryz.prog k) I (finW Tryz.prog (fnOf Tryz.prog k) r) 400 (.run []) [] (bT n ((List.range args.length).zip args)) AHeap.empty
def cutP (C : Ctx) (g : Cfg) (n k : Nat) (I : Nat → List AV → AHeap → Prop) (r : AV) (j : Nat) (vals : List AV) (H : AHeap) : Prop :=
  match g.cuts[j]? with
  | some ci => wpM Tryz.prog C g n (bodyOf Tryz.prog k) I (finW Tryz.prog (fnOf Tryz.prog k) r) 400 (.run (0 :: ci.p)) (.l ci.p :: ci.K) (bT n (ci.keys.zip vals)) H
  | none => True
/-- The same of a call on its caller's objects. -/
def runS (C : Ctx) (g : Cfg) (n k : Nat) (I : Nat → List AV → AHeap → Prop) (r : AV) (H0 : AHeap) (args : List AV) (H : AHeap) : Prop :=
  wpM Tryz.prog C g n (bodyOf Tryz.prog k) I (finS Tryz.prog (fnOf Tryz.prog k) r H0) 400 (.run []) [] (bT n ((List.range args.length).zip args)) H
def cutS (C : Ctx) (g : Cfg) (n k : Nat) (I : Nat → List AV → AHeap → Prop) (r : AV) (H0 : AHeap) (j : Nat) (vals : List AV) (H : AHeap) : Prop :=
  match g.cuts[j]? with
  | some ci => wpM Tryz.prog C g n (bodyOf Tryz.prog k) I (finS Tryz.prog (fnOf Tryz.prog k) r H0) 400 (.run (0 :: ci.p)) (.l ci.p :: ci.K) (bT n (ci.keys.zip vals)) H
  | none => True

section
variable {C : Ctx} {g : Cfg} {n k : Nat} {args : List AV} {r : AV}

theorem pureW (hC : C.OK Tryz.prog) (hk : FnOK k n) (hgen : g.gen = false) (hl : args.length ≤ n) (I : Nat → Nat → List AV → AHeap → Prop) (hstart : runP C g n k (fun j v H => ∃ m, I m j v H) r args)
    (hloop : ∀ m j vals H, j < g.cuts.length → I m j vals H → cutP C g n k (fun j v H => ∃ m', m' < m ∧ I m' j v H) r j vals H) : EntryOK Tryz.prog k args r := by
  refine entryW mixed nong hC hk.f hk.b hk.n hgen hl I 400 hstart (fun m j ci vals H hj hi => ?_)
  have := hloop m j vals H (List.getElem?_eq_some_iff.1 hj).1 hi
  unfold cutP at this
  rw [hj] at this
  exact this

theorem sharedW (hC : C.OK Tryz.prog) (hk : FnOK k n) (hgen : g.gen = true) (hl : args.length ≤ n) {H : AHeap} {b gn : Nat} {cs cs' : List AV} (ho : H.objs[b]? = some (.cells cs gn)) (I : Nat → Nat → List AV → AHeap → Prop)
    (hstart : runS C g n k (fun j v H => ∃ m, I m j v H) r (setC H b cs' gn) args H)
    (hloop : ∀ m j vals H1, j < g.cuts.length → I m j vals H1 → cutS C g n k (fun j v H => ∃ m', m' < m ∧ I m' j v H) r (setC H b cs' gn) j vals H1) : SharedFn Tryz.prog k args H r (setC H b cs' gn) := by
  refine entryH mixed nong hC hk.f hk.b hk.n hgen hl (setC_loops ho) I 400 hstart (fun m j ci vals H1 hj hi => ?_)
  have := hloop m j vals H1 (List.getElem?_eq_some_iff.1 hj).1 hi
  unfold cutS at this
  rw [hj] at this
  exact this

theorem newsW' (hC : C.OK Tryz.prog) (hk : FnOK k n) (hgen : g.gen = true) (hl : args.length ≤ n) {H : AHeap} {os : List AObj} (ho : os.all noLoop = true) (I : Nat → Nat → List AV → AHeap → Prop)
    (hstart : runS C g n k (fun j v H => ∃ m, I m j v H) r { H with objs := H.objs ++ os } args H)
    (hloop : ∀ m j vals H1, j < g.cuts.length → I m j vals H1 → cutS C g n k (fun j v H => ∃ m', m' < m ∧ I m' j v H) r { H with objs := H.objs ++ os } j vals H1) : SharedFn Tryz.prog k args H r { H with objs := H.objs ++ os } := by
  refine entryH mixed nong hC hk.f hk.b hk.n hgen hl (news_loops ho) I 400 hstart (fun m j ci vals H1 hj hi => ?_)
  have := hloop m j vals H1 (List.getElem?_eq_some_iff.1 hj).1 hi
  unfold cutS at this
  rw [hj] at this
  exact this

/-- Without loops that are cut. -/
theorem pureW0 (hC : C.OK Tryz.prog) (hk : FnOK k n) (hgen : g.gen = false) (hc : g.cuts = []) (hl : args.length ≤ n) (hstart : runP C g n k (fun _ _ _ => False) r args) : EntryOK Tryz.prog k args r := by
  refine pureW hC hk hgen hl (fun _ _ _ _ => False) ?_ (fun m j vals H hj _ => by rw [hc] at hj; exact absurd hj (Nat.not_lt_zero _))
  have : (fun (j : Nat) (v : List AV) (H : AHeap) => ∃ m : Nat, False) = fun _ _ _ => False := by
    funext j v H
    simp
  rw [this]
  exact hstart
end

def noT : Tbl := fun _ _ => none
def noFS : FuncId → Option FSpec := fun _ => none
def noSS : FuncId → Option SSpec := fun _ => none
def noNS : FuncId → Option NSpec := fun _ => none
theorem noT_ok {P : Program} : TblOK P noT := fun k args r h => by cases h
def extT (f : Tbl) (T : Tbl) : Tbl := fun k args => match f k args with
  | some r => some r
  | none => T k args
theorem extT_ok {P : Program} {f T : Tbl} (hf : TblOK P f) (hT : TblOK P T) : TblOK P (extT f T) := by
  intro k args r h
  unfold extT at h
  split at h
  · rename_i q hq
    cases h
    exact hf k args _ hq
  · exact hT k args r h
/-- One function more. -/
def addF (k : FuncId) (f : FSpec) (F : FuncId → Option FSpec) : FuncId → Option FSpec := fun j => match Nat.beq j k with
  | true => some f
  | false => F j
def addS (k : FuncId) (f : SSpec) (F : FuncId → Option SSpec) : FuncId → Option SSpec := fun j => match Nat.beq j k with
  | true => some f
  | false => F j
def FsOK (F : FuncId → Option FSpec) : Prop := ∀ k f, F k = some f → FSpecOK Tryz.prog k f
def SsOK (F : FuncId → Option SSpec) : Prop := ∀ k f, F k = some f → SSpecOK Tryz.prog k f
theorem noFS_ok : FsOK noFS := fun k f h => by cases h
def addN (k : FuncId) (f : NSpec) (F : FuncId → Option NSpec) : FuncId → Option NSpec := fun j => match Nat.beq j k with
  | true => some f
  | false => F j
def NsOK (F : FuncId → Option NSpec) : Prop := ∀ k f, F k = some f → NSpecOK Tryz.prog k f
theorem noNS_ok : NsOK noNS := fun k f h => by cases h
theorem noSS_ok : SsOK noSS := fun k f h => by cases h
theorem addF_ok {k : FuncId} {f : FSpec} {F : FuncId → Option FSpec} (hf : FSpecOK Tryz.prog k f) (hF : FsOK F) : FsOK (addF k f F) := by
  intro j f' h
  unfold addF at h
  split at h
  · rename_i hb
    cases h
    rw [Nat.eq_of_beq_eq_true hb]
    exact hf
  · exact hF j f' h
theorem addS_ok {k : FuncId} {f : SSpec} {F : FuncId → Option SSpec} (hf : SSpecOK Tryz.prog k f) (hF : SsOK F) : SsOK (addS k f F) := by
  intro j f' h
  unfold addS at h
  split at h
  · rename_i hb
    cases h
    rw [Nat.eq_of_beq_eq_true hb]
    exact hf
  · exact hF j f' h

theorem addN_ok {k : FuncId} {f : NSpec} {F : FuncId → Option NSpec} (hf : NSpecOK Tryz.prog k f) (hF : NsOK F) : NsOK (addN k f F) := by
  intro j f' h
  unfold addN at h
  split at h
  · rename_i hb
    cases h
    rw [Nat.eq_of_beq_eq_true hb]
    exact hf
  · exact hF j f' h

def I (n : Int) : AV := .sc (.int .i64 n)
def U (n : Int) : AV := .sc (.int .u32 n)
def W (n : Int) : AV := .sc (.int .u64 n)
def B (b : Bool) : AV := .sc (.bool b)
/-- A slice of these elements of one cell. -/
def sl (cs : List AV) : AV := .isl cs cs.length 0 false
end Go.Abs.Sym

