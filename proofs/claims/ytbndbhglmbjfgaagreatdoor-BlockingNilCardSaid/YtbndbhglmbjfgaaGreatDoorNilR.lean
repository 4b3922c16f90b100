/- BlockingNil: its contract at the row's arguments. -/
import Derived.Test.YtbndbhglmbjfgaaGreatDoorKnown
import Derived.Test.YtbndbhglmbjfgaaGreatDoorTie
import Derived.Test.YtbndbhglmbjfgaaGreatDoorCards
import Derived.ProofKit
import Derived.OpenShut
import Derived.LaidMore
import Derived.Lay
import Derived.ReadAgain
import Derived.Deep.Slices
import Derived.SevenTiedAt
import Derived.Stop.Joined
set_option linter.all false
namespace Go.Proofs.YtbndbhglmbjfgaaGreatDoor
open Go.ChangeShapes Go.WideShapes Go.ChangeAt Go.RowKit Go.Abs Go.Abs.Known

theorem own : ownKnob Tryz.prog.godebug = none := by kernel_rfl

/-- The table of 'math/bits.deBruijn64tab'. -/
def tabZ : List Int := [0, 1, 56, 2, 57, 49, 28, 3, 61, 58, 42, 50, 38, 29, 17, 4, 62, 47, 59, 36, 45, 43, 51, 22, 53, 39, 33, 30, 24, 18, 12, 5, 63, 55, 48, 27, 60, 41, 37, 16, 46, 35, 44, 21, 52, 32, 23, 11, 54, 26, 40, 15, 34, 20, 31, 10, 25, 14, 19, 9, 13, 8, 7, 6]

theorem tab_cell {W : World} (h : laidMetH Tryz.prog Rows.blockingNilRow.laid W) (r : Nat) (hr : r < 64) : W.cell? ⟨2, r, none⟩ = some (.int .u8 (tabZ.getD r 0)) := by
  rw [MakeChecks.laidMetH_plain _ _ _ (by kernel_rfl)] at h
  obtain ⟨ps, ⟨g0, t0, cs0, f0, p0, q0, _, _, _, _, ⟨g, t, cs, fuel, p, q, hg, ht, hv, hd, _, _⟩, _⟩, _, _⟩ := h
  obtain rfl := Option.some.inj ((show Tryz.prog.globalNamed "math/bits.deBruijn64tab" = some 2 by kernel_rfl).symm.trans hg)
  obtain rfl := Option.some.inj ((show (Tryz.prog.globals[2]?).map (·.type) = some 544 by kernel_rfl).symm.trans ht)
  obtain ⟨xs, m, _, ex, _, hl, hel⟩ := DataW.trod_array (show Tryz.prog.underlying 544 = some (.array 64 5) by kernel_rfl) hd
  have c5 : Tryz.prog.cellsOf 5 = 1 := by kernel_rfl
  have hE := hel r hr
  rw [c5, Nat.mul_one, List.getElem?_eq_getElem (by omega)] at hE
  obtain ⟨z, e1, e2, _⟩ := DataW.trod_int (show Tryz.prog.underlying 5 = some (.int .u8) by kernel_rfl) hE
  have hlen : tabZ.length = 64 := by kernel_rfl
  have e3 : (xs.map (·.1)) = tabZ.map fun n => .lit (.int .u8 n) := (DataW.agg.inj (Prod.mk.inj ex).1).symm
  have e4 : (xs.map (·.1))[r]? = (tabZ.map fun n => (DataW.lit (.int .u8 n) : DataW Unit))[r]? := by rw [e3]
  rw [List.getElem?_map, List.getElem?_map, List.getElem?_eq_getElem (by omega : r < xs.length), List.getElem?_eq_getElem (by omega : r < tabZ.length), e2] at e4
  have hz : z = tabZ.getD r 0 := by
    simp only [Option.map_some, Option.some.injEq, DataW.lit.injEq, Lit.int.injEq, true_and] at e4
    rw [e4, List.getD, List.getElem?_eq_getElem (by omega : r < tabZ.length)]; rfl
  rw [World.var?_cell hg hv r, ← hz]
  have : cs.toList[r]? = some (.int .u8 z) := by
    have h0 : ((cs.toList.drop r).take 1)[0]? = some (.int .u8 z) := by rw [e1]; rfl
    simpa using h0
  simpa using this

theorem laid_GK {W : World} (h : laidMetH Tryz.prog Rows.blockingNilRow.laid W) : GK W.heap.size W := by
  intro b cs hm
  have hm : (b, cs) = (2, tabZ.map fun n => (.int .u8 n : Value)) := List.mem_singleton.1 hm
  cases hm
  refine ⟨?_, fun i v hi => ?_⟩
  · have h0 := tab_cell h 0 (by omega)
    unfold World.cell? at h0
    cases hb : W.heap[2]? with
    | none => simp only [hb] at h0; cases h0
    | some o => exact (Array.getElem?_eq_some_iff.1 hb).1
  · rw [List.getElem?_map, Option.map_eq_some_iff] at hi
    obtain ⟨n, hn, rfl⟩ := hi
    have hlt : i < 64 := (List.getElem?_eq_some_iff.1 hn).1
    rw [tab_cell h i hlt]
    simp [List.getD, hn]

section
variable {H : Type} {enc : TypeId × Value → H} {P : Program} {w w' : World} {base : Nat} {sp : Nat → Bool} {held : Bool}
theorem trodAll_carry : ∀ {ts : List TypeId} {vs : List Value} {ds : List (DataW H)} {ps : List MemPlace}, DataW.TrodAll enc P w base sp held ts vs ds ps → (∀ p ∈ ps, w.sameAt w' p) → DataW.TrodAll enc P w' base sp held ts vs ds ps
  | [], [], [], _, h, _ => h
  | _ :: _, _ :: _, _ :: _, _, ⟨p, q, ⟨n, h1⟩, h2, e⟩, hs => ⟨p, q, ⟨n, DataW.trod_carry n _ _ _ h1 (fun x hx => hs x (by rw [e]; exact List.mem_append_left _ hx))⟩, trodAll_carry h2 (fun x hx => hs x (by rw [e]; exact List.mem_append_right _ hx)), e⟩
end

/-- From an entry of the table to a contract. -/
theorem calls_of_entry {k : FuncId} {fn : Func} {c : Code} (hf : Tryz.prog.funcs[k]? = some fn) (hb : fn.body = some c) {args : List AV} {r : AV} (h : EntryOK Tryz.prog k args r) {w : World} {S : Nat → Prop} {vs : Array Value} (hS : ∀ b, S b → b < w.heap.size) (hG : GK w.heap.size w) (hvs : IVRL w S args vs) :
    Calls Tryz.prog k vs w fun e w' => ∃ v, e = .returned v ∧ Below w.heap.size w w' ∧ ∃ S', IVR w' S' r v := by
  rcases h w S vs hS hG hvs with ⟨_, h⟩ | ⟨v, w', h, _⟩
  · refine Calls.mono' h ?_
    rintro _ w' ⟨v, rfl, S', h1, _, _, _, h2⟩
    exact ⟨v, rfl, h1, S', h2⟩
  · rw [callFunc_enter hf (nong k fn hf) hb] at h
    cases h

/-- A slice of ints, whatever it holds. -/
theorem slice_entry {W : World} {v0 : Value} (h : v0 = .slice none 0 0 ∨ ∃ (b o len cap : Nat), v0 = .slice (some ⟨b, o, none⟩) len cap ∧ len ≤ cap ∧ b < W.heap.size) : ∃ x, (x = N ∨ ∃ n, x = .isl [] n n false) ∧ IVR W (fun b => b < W.heap.size) x v0 := by
  rcases h with rfl | ⟨b, o, len, cap, rfl, h1, h2⟩
  · exact ⟨N, .inl rfl, .sc rfl⟩
  · exact ⟨.isl [] len len false, .inr ⟨len, rfl⟩, .isl (fun _ => undef) h2 (fun i x h => by simp at h) (fun i x h => by simp at h) h1 h1 (fun e => by cases e)⟩

theorem nil_calls {W : World} (hL : laidMetH Tryz.prog Rows.blockingNilRow.laid W) {v0 v1 : Value} (h : v0 = .slice none 0 0 ∨ ∃ (b o len cap : Nat), v0 = .slice (some ⟨b, o, none⟩) len cap ∧ len ≤ cap ∧ b < W.heap.size) :
    Calls Tryz.prog 12 #[v0, v1] W fun e w' => e = .returned (.bool true) ∧ Below W.heap.size W w' := by
  obtain ⟨x, hx, hv⟩ := slice_entry h
  have hE : EntryOK Tryz.prog 12 [x, .any] T := by
    rcases hx with rfl | ⟨n, rfl⟩
    · exact nil_entry0
    · exact nil_entry n
  have hvs : IVRL W (fun b => b < W.heap.size) [x, .any] #[v0, v1] := by
    refine ⟨rfl, fun i y u a b => ?_⟩
    match i with
    | 0 => cases a; cases b; exact hv
    | 1 => cases a; exact .any
    | i + 2 => simp at a
  refine Calls.mono' (calls_of_entry fN bN hE (fun _ h => h) (laid_GK hL) hvs) ?_
  rintro _ w' ⟨v, rfl, h1, S', h2⟩
  exact ⟨by rw [sc_eq h2], h1⟩

theorem kids : Kids Tryz.prog (· < Tryz.prog.types.size) := kids_rows (by kernel_rfl) (by kernel_rfl)
theorem full : ∀ t e, t < Tryz.prog.types.size → Tryz.prog.underlying t = some (.slice e) → 0 < Tryz.prog.cellsOf e := slices_full_of Tryz.prog (by kernel_rfl)
theorem small : ∀ t ∈ [48, 3], t < Tryz.prog.types.size := by
  have h : ([48, 3].all fun t => decide (t < Tryz.prog.types.size)) = true := by kernel_rfl
  intro t ht
  simpa using List.all_eq_true.1 h t ht

end Go.Proofs.YtbndbhglmbjfgaaGreatDoor

namespace Go.Proofs.YtbndbhglmbjfgaaGreatDoor
open Go.ChangeShapes Go.WideShapes Go.ChangeAt Go.RowKit Go.Abs Go.Abs.Known

set_option maxRecDepth 100000 in
theorem arg_slice {W : World} {base : Nat} {v : Value} (h : Value.okWide Tryz.prog W .any base 48 v) : v = .slice none 0 0 ∨ ∃ (b o len cap : Nat), v = .slice (some ⟨b, o, none⟩) len cap ∧ len ≤ cap ∧ b < W.heap.size := by
  have hu : Tryz.prog.underlying 48 = some (.slice 3) := by kernel_rfl
  unfold Value.okWide Cell.okWide Cell.ok at h
  simp only [hu] at h
  cases v with
  | slice a len cap =>
    cases a with
    | none =>
      cases len with
      | zero =>
        cases cap with
        | zero => exact .inl rfl
        | succ c => simp at h
      | succ n => simp at h
    | some ad =>
      obtain ⟨b, o, sp⟩ := ad
      simp only at h
      obtain ⟨h1, _, h2⟩ := h
      unfold World.has at h2
      obtain ⟨_, h2, row, cells, h3, _⟩ := h2
      simp only at h2 h3
      subst h2
      refine .inr ⟨b, o, len, cap, rfl, h1, ?_⟩
      unfold World.shape? at h3
      cases hb : W.heap[b]? with
      | none => simp only [hb] at h3; cases h3
      | some x => exact (Array.getElem?_eq_some_iff.1 hb).1
  | _ => simp at h

set_option maxRecDepth 100000 in
theorem post_below {H : Type} {enc : TypeId × Value → H} {W W' : World} {v0 v1 : Value} {d0 d1 : DataW H} {p0 p1 : List MemPlace}
    (hW : DataW.Whole enc Tryz.prog Tryz.f12.params.toList Rows.blockingNilSpec.vars false W (#[v0, v1] : Array Value).toList [d0, d1] [] (p0 ++ p1))
    (hA : DataW.TrodAll enc Tryz.prog W 0 (fun _ => true) true [48, 3] (#[v0, v1] : Array Value).toList [d0, d1] (p0 ++ p1)) (hw : Below W.heap.size W W') :
    Rows.blockingNilSpec.post enc Tryz.prog Tryz.f12 false true false false W #[v0, v1] (.bool true) W' := by
  have hlt : ∀ p ∈ p0 ++ p1, p.block < W.heap.size := hA.lt
  have h1 : DataW.TrodAll enc Tryz.prog W 0 (fun b => decide (b < W.heap.size)) true [48, 3] (#[v0, v1] : Array Value).toList [d0, d1] (p0 ++ p1) :=
    hA.respare kids full small (fun p hp => by simpa using hlt p hp)
  have h2 := trodAll_carry h1 (w' := W') (fun p hp => hw.same (hlt p hp))
  refine ⟨[d0, d1], [], p0 ++ p1, [], p0 ++ p1, [], hW, trodAll_mk1 (shut_bool Tryz.underlying4 true), ?_, rfl, hw.frame _, fun h => by cases h⟩
  rw [Tryz.params12]
  exact h2
end Go.Proofs.YtbndbhglmbjfgaaGreatDoor

