/- BlockingGraphs: its contract at the row's arguments. -/
import Derived.Test.YtbndbhglmbjfgaaGreatDoorGrLaw
import Derived.Test.YtbndbhglmbjfgaaGreatDoorTie
import Derived.Test.YtbndbhglmbjfgaaGreatDoorCards
import Derived.ProofKit
import Derived.OpenShut
import Derived.LaidMore
import Derived.Lay
import Derived.ReadAgain
import Derived.Deep.Slices
import Derived.SevenTiedAt
import Derived.Stop.Joined
import Derived.Test.YtbndbhglmbjfgaaGreatDoorGrKnown
set_option linter.all false
namespace Go.Proofs.YtbndbhglmbjfgaaGreatDoor
open Go Go.ChangeShapes Go.WideShapes Go.ChangeAt Go.RowKit Go.Abs

instance : Inhabited Sym.ArcV := ⟨⟨0, 0, 0, 0, default⟩⟩

set_option maxRecDepth 100000 in
/-- A slice that is handed in: where it lies. -/
theorem arg_slice {W : World} {base : Nat} {v : Value} {t e : TypeId} (hu : Tryz.prog.underlying t = some (.slice e)) (h : Value.okWide Tryz.prog W .any base t v) : v = .slice none 0 0 ∨ ∃ (b o len cap : Nat), v = .slice (some ⟨b, o, none⟩) len cap ∧ len ≤ cap ∧ b < W.heap.size := by
  unfold Value.okWide Cell.okWide Cell.ok at h
  simp only [hu] at h
  cases v with
  | slice a len cap =>
    cases a with
    | none =>
      cases len with
      | zero =>
        cases cap with
        | zero => exact .inl rfl
        | succ c => simp at h
      | succ n => simp at h
    | some ad =>
      obtain ⟨b, o, sp⟩ := ad
      simp only at h
      obtain ⟨h1, _, h2⟩ := h
      unfold World.has at h2
      obtain ⟨_, h2, row, cells, h3, _⟩ := h2
      simp only at h2 h3
      subst h2
      refine .inr ⟨b, o, len, cap, rfl, h1, ?_⟩
      unfold World.shape? at h3
      cases hb : W.heap[b]? with
      | none => simp only [hb] at h3; cases h3
      | some x => exact (Array.getElem?_eq_some_iff.1 hb).1
  | _ => simp at h

theorem addr_add {b o i : Nat} : (Addr.add ⟨b, o, none⟩ i) = ⟨b, o + i, none⟩ := by
  unfold Addr.add
  split
  · rename_i h; subst h; rfl
  · rfl

/-- A slice, whatever it holds. -/
theorem slice_bare {W : World} {b o len cap : Nat} (h1 : len ≤ cap) (h2 : b < W.heap.size) : IVR W (fun b => b < W.heap.size) (.isl [] len 0 false) (.slice (some ⟨b, o, none⟩) len cap) :=
  .isl (fun _ => .bool false) h2 (fun i x h => by simp at h) (fun i x h => by simp at h) h1 (Nat.zero_le _) (fun e => by cases e)

section
variable {H : Type} {enc : TypeId × Value → H} {W : World}

theorem ints_entry {v : Value} {x : DataW H × List MemPlace} {n : Nat} (ha : v = .slice none 0 0 ∨ ∃ (b o len cap : Nat), v = .slice (some ⟨b, o, none⟩) len cap ∧ len ≤ cap ∧ b < W.heap.size)
    (h : DataW.trod enc Tryz.prog W 0 (fun _ => true) true n 48 [v] = some x) :
    ∃ u : List Int, IVR W (fun b => b < W.heap.size) (Sym.slI u) v ∧ IVR W (fun b => b < W.heap.size) (.isl [] u.length 0 false) v := by
  rcases ha with rfl | ⟨b, o, len, cap, rfl, h1, h2⟩
  · exact ⟨[], .isn, .isn⟩
  · rcases Deep.open_slice1 Tryz.underlying48 (by kernel_rfl) h with ⟨h0, _⟩ | ⟨a, len', cap', m, n', V, D, Pl, h0, _, _, _, hm, _, hx⟩
    · simp at h0
    · simp only [List.cons.injEq, Value.slice.injEq, Option.some.injEq, and_true] at h0
      obtain ⟨rfl, rfl, rfl⟩ := h0
      have hlm : len ≤ m := by rw [hm]; exact h1
      obtain ⟨z, hz⟩ := Deep.choose_lt (α := Int) (n := len) (p := fun i z => W.cell? ⟨b, o + i, none⟩ = some (.int .i64 z)) (fun i hi => by
        obtain ⟨c1, c2⟩ := hx i (by omega)
        obtain ⟨q, e1, _⟩ := DataW.trod_int Tryz.underlying3 c2
        rw [addr_add] at c1
        simp only [List.cons.injEq, and_true] at e1
        exact ⟨q, by rw [c1, e1]⟩)
      have hu : ((List.range len).map z).length = len := by simp
      refine ⟨(List.range len).map z, ?_, by rw [hu]; exact slice_bare h1 h2⟩
      unfold Sym.slI
      rw [hu]
      have pick : ∀ (i : Nat) (y : AV), (((List.range len).map z).map Sym.I)[i]? = some y → i < len ∧ y = Sym.I (z i) := by
        intro i y hy
        simp only [List.map_map, List.getElem?_map, Option.map_eq_some_iff] at hy
        obtain ⟨j, hj, rfl⟩ := hy
        obtain ⟨hlt, rfl⟩ := List.getElem?_eq_some_iff.1 hj
        have hlt : i < len := by simpa using hlt
        exact ⟨hlt, by simp⟩
      refine .isl (fun i => .int .i64 (z i)) h2 (fun i y hy => ?_) (fun i y hy => ?_) h1 (Nat.zero_le _) (fun e => by cases e)
      · exact hz i (pick i y hy).1
      · rw [(pick i y hy).2]
        exact .sc rfl

theorem acs_pick : ∀ {l : List Sym.ArcV} {j : Nat} {y : AV}, (Sym.acs l)[j]? = some y → ∃ (i : Nat) (a : Sym.ArcV), l[i]? = some a ∧
    ((j = i * 5 ∧ y = Sym.I a.f) ∨ (j = i * 5 + 1 ∧ y = Sym.I a.t) ∨ (j = i * 5 + 2 ∧ y = Sym.I a.c) ∨ (j = i * 5 + 3 ∧ y = Sym.I a.d) ∨ (j = i * 5 + 4 ∧ y = .sc (.string a.s))) := by
  intro l
  induction l with
  | nil => intro j y h; simp [Sym.acs] at h
  | cons a l ih =>
    intro j y h
    match j with
    | 0 => simp [Sym.acs] at h; exact ⟨0, a, rfl, .inl ⟨rfl, h.symm⟩⟩
    | 1 => simp [Sym.acs] at h; exact ⟨0, a, rfl, .inr (.inl ⟨rfl, h.symm⟩)⟩
    | 2 => simp [Sym.acs] at h; exact ⟨0, a, rfl, .inr (.inr (.inl ⟨rfl, h.symm⟩))⟩
    | 3 => simp [Sym.acs] at h; exact ⟨0, a, rfl, .inr (.inr (.inr (.inl ⟨rfl, h.symm⟩)))⟩
    | 4 => simp [Sym.acs] at h; exact ⟨0, a, rfl, .inr (.inr (.inr (.inr ⟨rfl, h.symm⟩)))⟩
    | j + 5 =>
      obtain ⟨i, b, hb, hc⟩ := ih (j := j) (y := y) h
      refine ⟨i + 1, b, hb, ?_⟩
      rcases hc with ⟨h1, h2⟩ | ⟨h1, h2⟩ | ⟨h1, h2⟩ | ⟨h1, h2⟩ | ⟨h1, h2⟩
      · exact .inl ⟨by omega, h2⟩
      · exact .inr (.inl ⟨by omega, h2⟩)
      · exact .inr (.inr (.inl ⟨by omega, h2⟩))
      · exact .inr (.inr (.inr (.inl ⟨by omega, h2⟩)))
      · exact .inr (.inr (.inr (.inr ⟨by omega, h2⟩)))

/-- One arc's cells. -/
def arcAt (W : World) (b p : Nat) (a : Sym.ArcV) : Prop :=
  W.cell? ⟨b, p, none⟩ = some (.int .i64 a.f) ∧ W.cell? ⟨b, p + 1, none⟩ = some (.int .i64 a.t) ∧ W.cell? ⟨b, p + 2, none⟩ = some (.int .i64 a.c) ∧ W.cell? ⟨b, p + 3, none⟩ = some (.int .i64 a.d) ∧ W.cell? ⟨b, p + 4, none⟩ = some (.string a.s)

theorem one_cell {cs : List Value} {k : Nat} {v : Value} (h : (cs.drop k).take 1 = [v]) : cs[k]? = some v := by
  have h0 : ((cs.drop k).take 1)[0]? = some v := by rw [h]; rfl
  simpa using h0

theorem arcs_entry {v : Value} {x : DataW H × List MemPlace} {n : Nat} (ha : v = .slice none 0 0 ∨ ∃ (b o len cap : Nat), v = .slice (some ⟨b, o, none⟩) len cap ∧ len ≤ cap ∧ b < W.heap.size)
    (h : DataW.trod enc Tryz.prog W 0 (fun _ => true) true n 79 [v] = some x) :
    ∃ l : List Sym.ArcV, IVR W (fun b => b < W.heap.size) (Sym.slA l) v ∧ IVR W (fun b => b < W.heap.size) (.isl [] l.length 0 false) v := by
  rcases ha with rfl | ⟨b, o, len, cap, rfl, h1, h2⟩
  · exact ⟨[], .isn, .isn⟩
  · have c82 : Tryz.prog.cellsOf 82 = 5 := by kernel_rfl
    have c3 : Tryz.prog.cellsOf 3 = 1 := by kernel_rfl
    have c35 : Tryz.prog.cellsOf 35 = 1 := by kernel_rfl
    rcases Deep.open_slice Tryz.underlying79 h with ⟨h0, _⟩ | ⟨a, len', cap', m, n', D, Pl, h0, _, _, _, hm, _, hx⟩
    · simp at h0
    · simp only [List.cons.injEq, Value.slice.injEq, Option.some.injEq, and_true] at h0
      obtain ⟨rfl, rfl, rfl⟩ := h0
      have hlm : len ≤ m := by rw [hm]; exact h1
      rw [c82] at hx
      obtain ⟨z, hz⟩ := Deep.choose_lt (α := Sym.ArcV) (n := len) (p := fun i a => arcAt W b (o + i * 5) a) (fun i hi => by
        obtain ⟨cs, c1, c2⟩ := hx i (by omega)
        obtain ⟨_, hl, hc⟩ := World.cells?_some c1
        obtain ⟨xs, k, _, _, _, hxl, hf⟩ := DataW.trod_struct Tryz.underlying82 c2
        have f0 : DataW.trod enc Tryz.prog W 0 (fun _ => true) true k 3 ((cs.drop 0).take (Tryz.prog.cellsOf 3)) = xs[0]? := hf 0 _ rfl
        have f1 : DataW.trod enc Tryz.prog W 0 (fun _ => true) true k 3 ((cs.drop 1).take (Tryz.prog.cellsOf 3)) = xs[1]? := hf 1 _ rfl
        have f2 : DataW.trod enc Tryz.prog W 0 (fun _ => true) true k 3 ((cs.drop 2).take (Tryz.prog.cellsOf 3)) = xs[2]? := hf 2 _ rfl
        have f3 : DataW.trod enc Tryz.prog W 0 (fun _ => true) true k 3 ((cs.drop 3).take (Tryz.prog.cellsOf 3)) = xs[3]? := hf 3 _ rfl
        have f4 : DataW.trod enc Tryz.prog W 0 (fun _ => true) true k 35 ((cs.drop 4).take (Tryz.prog.cellsOf 35)) = xs[4]? := hf 4 _ rfl
        have hxl : xs.length = 5 := hxl
        rw [List.getElem?_eq_getElem (by omega)] at f0 f1 f2 f3 f4
        rw [c3] at f0 f1 f2 f3
        rw [c35] at f4
        obtain ⟨q0, e0, _⟩ := DataW.trod_int Tryz.underlying3 f0
        obtain ⟨q1, e1, _⟩ := DataW.trod_int Tryz.underlying3 f1
        obtain ⟨q2, e2, _⟩ := DataW.trod_int Tryz.underlying3 f2
        obtain ⟨q3, e3, _⟩ := DataW.trod_int Tryz.underlying3 f3
        obtain ⟨q4, e4, _⟩ := DataW.trod_string Tryz.underlying35 f4
        have g0 := hc 0 (by omega)
        have g1 := hc 1 (by omega)
        have g2 := hc 2 (by omega)
        have g3 := hc 3 (by omega)
        have g4 := hc 4 (by omega)
        rw [one_cell e0, addr_add, addr_add] at g0
        rw [one_cell e1, addr_add, addr_add] at g1
        rw [one_cell e2, addr_add, addr_add] at g2
        rw [one_cell e3, addr_add, addr_add] at g3
        rw [one_cell e4, addr_add, addr_add] at g4
        exact ⟨⟨q0, q1, q2, q3, q4⟩, g0, g1, g2, g3, g4⟩)
      have hu : ((List.range len).map z).length = len := by simp
      refine ⟨(List.range len).map z, ?_, by rw [hu]; exact slice_bare h1 h2⟩
      unfold Sym.slA
      rw [hu]
      have pick : ∀ (j : Nat) (y : AV), (Sym.acs ((List.range len).map z))[j]? = some y → ∃ v, W.cell? ⟨b, o + j, none⟩ = some v ∧ IVR W (fun b => b < W.heap.size) y v := by
        intro j y hy
        obtain ⟨i, a, hi, hc⟩ := acs_pick hy
        rw [List.getElem?_map, Option.map_eq_some_iff] at hi
        obtain ⟨i', hj, rfl⟩ := hi
        obtain ⟨hlt, rfl⟩ := List.getElem?_eq_some_iff.1 hj
        have hlt : i < len := by simpa using hlt
        rw [List.getElem_range] at hc
        obtain ⟨z0, z1, z2, z3, z4⟩ := hz i hlt
        rcases hc with ⟨rfl, rfl⟩ | ⟨rfl, rfl⟩ | ⟨rfl, rfl⟩ | ⟨rfl, rfl⟩ | ⟨rfl, rfl⟩
        · exact ⟨_, z0, .sc rfl⟩
        · exact ⟨_, z1, .sc rfl⟩
        · exact ⟨_, z2, .sc rfl⟩
        · exact ⟨_, z3, .sc rfl⟩
        · exact ⟨_, z4, .sc rfl⟩
      refine .isl (fun j => (W.cell? ⟨b, o + j, none⟩).getD (.bool false)) h2 (fun i y hy => ?_) (fun i y hy => ?_) h1 (Nat.zero_le _) (fun e => by cases e)
      · obtain ⟨v, hv, _⟩ := pick i y hy
        simp [hv]
      · obtain ⟨v, hv, hr⟩ := pick i y hy
        simpa [hv] using hr
end
end Go.Proofs.YtbndbhglmbjfgaaGreatDoor

namespace Go.Proofs.YtbndbhglmbjfgaaGreatDoor
open Go Go.ChangeShapes Go.WideShapes Go.ChangeAt Go.RowKit Go.Abs Go.Abs.Known
theorem own : ownKnob Tryz.prog.godebug = none := by kernel_rfl

/-- The table of 'math/bits.deBruijn64tab'. -/
def tabZ : List Int := [0, 1, 56, 2, 57, 49, 28, 3, 61, 58, 42, 50, 38, 29, 17, 4, 62, 47, 59, 36, 45, 43, 51, 22, 53, 39, 33, 30, 24, 18, 12, 5, 63, 55, 48, 27, 60, 41, 37, 16, 46, 35, 44, 21, 52, 32, 23, 11, 54, 26, 40, 15, 34, 20, 31, 10, 25, 14, 19, 9, 13, 8, 7, 6]

theorem tab_cell {W : World} (h : laidMetH Tryz.prog Rows.blockingGraphsRow.laid W) (r : Nat) (hr : r < 64) : W.cell? ⟨2, r, none⟩ = some (.int .u8 (tabZ.getD r 0)) := by
  rw [MakeChecks.laidMetH_plain _ _ _ (by kernel_rfl)] at h
  obtain ⟨ps, ⟨g0, t0, cs0, f0, p0, q0, _, _, _, _, ⟨g, t, cs, fuel, p, q, hg, ht, hv, hd, _, _⟩, _⟩, _, _⟩ := h
  obtain rfl := Option.some.inj ((show Tryz.prog.globalNamed "math/bits.deBruijn64tab" = some 2 by kernel_rfl).symm.trans hg)
  obtain rfl := Option.some.inj ((show (Tryz.prog.globals[2]?).map (·.type) = some 544 by kernel_rfl).symm.trans ht)
  obtain ⟨xs, m, _, ex, _, hl, hel⟩ := DataW.trod_array (show Tryz.prog.underlying 544 = some (.array 64 5) by kernel_rfl) hd
  have c5 : Tryz.prog.cellsOf 5 = 1 := by kernel_rfl
  have hE := hel r hr
  rw [c5, Nat.mul_one, List.getElem?_eq_getElem (by omega)] at hE
  obtain ⟨z, e1, e2, _⟩ := DataW.trod_int (show Tryz.prog.underlying 5 = some (.int .u8) by kernel_rfl) hE
  have hlen : tabZ.length = 64 := by kernel_rfl
  have e3 : (xs.map (·.1)) = tabZ.map fun n => .lit (.int .u8 n) := (DataW.agg.inj (Prod.mk.inj ex).1).symm
  have e4 : (xs.map (·.1))[r]? = (tabZ.map fun n => (DataW.lit (.int .u8 n) : DataW Unit))[r]? := by rw [e3]
  rw [List.getElem?_map, List.getElem?_map, List.getElem?_eq_getElem (by omega : r < xs.length), List.getElem?_eq_getElem (by omega : r < tabZ.length), e2] at e4
  have hz : z = tabZ.getD r 0 := by
    simp only [Option.map_some, Option.some.injEq, DataW.lit.injEq, Lit.int.injEq, true_and] at e4
    rw [e4, List.getD, List.getElem?_eq_getElem (by omega : r < tabZ.length)]; rfl
  rw [World.var?_cell hg hv r, ← hz]
  have : cs.toList[r]? = some (.int .u8 z) := by
    have h0 : ((cs.toList.drop r).take 1)[0]? = some (.int .u8 z) := by rw [e1]; rfl
    simpa using h0
  simpa using this

theorem laid_GK {W : World} (h : laidMetH Tryz.prog Rows.blockingGraphsRow.laid W) : GK W.heap.size W := by
  intro b cs hm
  have hm : (b, cs) = (2, tabZ.map fun n => (.int .u8 n : Value)) := List.mem_singleton.1 hm
  cases hm
  refine ⟨?_, fun i v hi => ?_⟩
  · have h0 := tab_cell h 0 (by omega)
    unfold World.cell? at h0
    cases hb : W.heap[2]? with
    | none => simp only [hb] at h0; cases h0
    | some o => exact (Array.getElem?_eq_some_iff.1 hb).1
  · rw [List.getElem?_map, Option.map_eq_some_iff] at hi
    obtain ⟨n, hn, rfl⟩ := hi
    have hlt : i < 64 := (List.getElem?_eq_some_iff.1 hn).1
    rw [tab_cell h i hlt]
    simp [List.getD, hn]

section
variable {H : Type} {enc : TypeId × Value → H} {P : Program} {w w' : World} {base : Nat} {sp : Nat → Bool} {held : Bool}
theorem trodAll_carry : ∀ {ts : List TypeId} {vs : List Value} {ds : List (DataW H)} {ps : List MemPlace}, DataW.TrodAll enc P w base sp held ts vs ds ps → (∀ p ∈ ps, w.sameAt w' p) → DataW.TrodAll enc P w' base sp held ts vs ds ps
  | [], [], [], _, h, _ => h
  | _ :: _, _ :: _, _ :: _, _, ⟨p, q, ⟨n, h1⟩, h2, e⟩, hs => ⟨p, q, ⟨n, DataW.trod_carry n _ _ _ h1 (fun x hx => hs x (by rw [e]; exact List.mem_append_left _ hx))⟩, trodAll_carry h2 (fun x hx => hs x (by rw [e]; exact List.mem_append_right _ hx)), e⟩
end

/-- From an entry of the table to a contract. -/
theorem calls_of_entry {k : FuncId} {fn : Func} {c : Code} (hf : Tryz.prog.funcs[k]? = some fn) (hb : fn.body = some c) {args : List AV} {r : AV} (h : EntryOK Tryz.prog k args r) {w : World} {S : Nat → Prop} {vs : Array Value} (hS : ∀ b, S b → b < w.heap.size) (hG : GK w.heap.size w) (hvs : IVRL w S args vs) :
    Calls Tryz.prog k vs w fun e w' => ∃ v, e = .returned v ∧ Below w.heap.size w w' ∧ ∃ S', IVR w' S' r v := by
  rcases h w S vs hS hG hvs with ⟨_, h⟩ | ⟨v, w', h, _⟩
  · refine Calls.mono' h ?_
    rintro _ w' ⟨v, rfl, S', h1, _, _, _, h2⟩
    exact ⟨v, rfl, h1, S', h2⟩
  · rw [callFunc_enter hf (nong k fn hf) hb] at h
    cases h

theorem bG : ∃ c, Tryz.f7.body = some c := ⟨_, rfl⟩

theorem graph_calls {H : Type} {enc : TypeId × Value → H} {W : World} (hL : laidMetH Tryz.prog Rows.blockingGraphsRow.laid W) {v0 v1 : Value} {d0 d1 : DataW H} {p0 p1 : List MemPlace}
    (a0 : v0 = .slice none 0 0 ∨ ∃ (b o len cap : Nat), v0 = .slice (some ⟨b, o, none⟩) len cap ∧ len ≤ cap ∧ b < W.heap.size) (t0 : DataW.Trod enc Tryz.prog W 0 (fun _ => true) true 48 v0 d0 p0)
    (a1 : v1 = .slice none 0 0 ∨ ∃ (b o len cap : Nat), v1 = .slice (some ⟨b, o, none⟩) len cap ∧ len ≤ cap ∧ b < W.heap.size) (t1 : DataW.Trod enc Tryz.prog W 0 (fun _ => true) true 79 v1 d1 p1) :
    Calls Tryz.prog 7 #[v0, v1] W fun e w' => e = .returned (.bool true) ∧ Below W.heap.size W w' := by
  have c0 : v0.cells.toList = [v0] := by rcases a0 with rfl | ⟨b, o, len, cap, rfl, _, _⟩ <;> rfl
  have c1 : v1.cells.toList = [v1] := by rcases a1 with rfl | ⟨b, o, len, cap, rfl, _, _⟩ <;> rfl
  obtain ⟨n0, t0⟩ := t0
  obtain ⟨n1, t1⟩ := t1
  rw [c0] at t0
  rw [c1] at t1
  obtain ⟨u, u1, u2⟩ := ints_entry a0 t0
  obtain ⟨l, l1, l2⟩ := arcs_entry a1 t1
  have two : ∀ {x y : AV}, IVR W (fun b => b < W.heap.size) x v0 → IVR W (fun b => b < W.heap.size) y v1 → IVRL W (fun b => b < W.heap.size) [x, y] #[v0, v1] := by
    intro x y h0 h1
    refine ⟨rfl, fun i z t a b => ?_⟩
    match i with
    | 0 => cases a; cases b; exact h0
    | 1 => cases a; cases b; exact h1
    | i + 2 => simp at a
  obtain ⟨c, bG⟩ := bG
  have fin : ∀ {x y : AV}, EntryOK Tryz.prog 7 [x, y] (.sc (.bool true)) → IVR W (fun b => b < W.heap.size) x v0 → IVR W (fun b => b < W.heap.size) y v1 → Calls Tryz.prog 7 #[v0, v1] W fun e w' => e = .returned (.bool true) ∧ Below W.heap.size W w' := by
    intro x y hE h0 h1
    refine Calls.mono' (calls_of_entry Tryz.func7 bG hE (fun _ h => h) (laid_GK hL) (two h0 h1)) ?_
    rintro _ w' ⟨v, rfl, h1, S', h2⟩
    exact ⟨by rw [sc_eq h2], h1⟩
  have hK : EntryOK Tryz.prog 13 [] (.sc (.bool true)) := known_entry
  cases h : decide (u.length ≤ 6 ∧ l.length ≤ 10) with
  | true =>
    have h := of_decide_eq_true h
    exact fin (Sym.ent7 hK u l h.1 h.2) u1 l1
  | false =>
    have h := of_decide_eq_false h
    exact fin (Sym.ent7o hK u.length l.length (by omega)) u2 l2

theorem kids : Kids Tryz.prog (· < Tryz.prog.types.size) := kids_rows (by kernel_rfl) (by kernel_rfl)
theorem full : ∀ t e, t < Tryz.prog.types.size → Tryz.prog.underlying t = some (.slice e) → 0 < Tryz.prog.cellsOf e := slices_full_of Tryz.prog (by kernel_rfl)
theorem small : ∀ t ∈ [48, 79], t < Tryz.prog.types.size := by
  have h : ([48, 79].all fun t => decide (t < Tryz.prog.types.size)) = true := by kernel_rfl
  intro t ht
  simpa using List.all_eq_true.1 h t ht

set_option maxRecDepth 100000 in
theorem post_below {H : Type} {enc : TypeId × Value → H} {W W' : World} {v0 v1 : Value} {d0 d1 : DataW H} {p0 p1 : List MemPlace}
    (hW : DataW.Whole enc Tryz.prog Tryz.f7.params.toList Rows.blockingGraphsSpec.vars false W (#[v0, v1] : Array Value).toList [d0, d1] [] (p0 ++ p1))
    (hA : DataW.TrodAll enc Tryz.prog W 0 (fun _ => true) true [48, 79] (#[v0, v1] : Array Value).toList [d0, d1] (p0 ++ p1)) (hw : Below W.heap.size W W') :
    Rows.blockingGraphsSpec.post enc Tryz.prog Tryz.f7 false true false false W #[v0, v1] (.bool true) W' := by
  have hlt : ∀ p ∈ p0 ++ p1, p.block < W.heap.size := hA.lt
  have h1 : DataW.TrodAll enc Tryz.prog W 0 (fun b => decide (b < W.heap.size)) true [48, 79] (#[v0, v1] : Array Value).toList [d0, d1] (p0 ++ p1) :=
    hA.respare kids full small (fun p hp => by simpa using hlt p hp)
  have h2 := trodAll_carry h1 (w' := W') (fun p hp => hw.same (hlt p hp))
  refine ⟨[d0, d1], [], p0 ++ p1, [], p0 ++ p1, [], hW, trodAll_mk1 (shut_bool Tryz.underlying4 true), ?_, rfl, hw.frame _, fun h => by cases h⟩
  rw [Tryz.params7]
  exact h2
end Go.Proofs.YtbndbhglmbjfgaaGreatDoor

