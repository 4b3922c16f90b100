/- What slices.Compact, graph.Make and blocking.Graph compute. -/
import Derived.Test.YtbndbhglmbjfgaaGreatDoorGrFnA
set_option linter.all false
set_option maxRecDepth 100000
namespace Go.Abs.Sym
open Go Go.Abs Go.Proofs

/-! slices.Compact on edges. -/

def eqE (x y : Int × Int) : Bool := x.1 == y.1 && x.2 == y.2
/-- The inner loop: q is read, p is written. -/
def cIn : Nat → Nat → List (Int × Int) → Nat → List (Int × Int) × Nat
  | 0, _, a, p => (a, p)
  | m + 1, q, a, p => match a[q]?, a[q - 1]? with
    | some x, some y => if eqE x y then cIn m (q + 1) a p else cIn m (q + 1) (a.set p x) (p + 1)
    | _, _ => (a, p)
def finE (n : Nat) (r : List (Int × Int) × Nat) : List (Int × Int) × Nat := (r.1.take r.2 ++ List.replicate (n - r.2) (0, 0), r.2)
def cOut : Nat → Nat → List (Int × Int) → List (Int × Int) × Nat
  | 0, _, a => (a, a.length)
  | m + 1, k, a => match a[k]?, a[k - 1]? with
    | some x, some y => if eqE x y then finE a.length (cIn (a.length - k - 1) (k + 1) a k) else cOut m (k + 1) a
    | _, _ => (a, a.length)
def compE (l : List (Int × Int)) : List (Int × Int) × Nat := cOut (l.length - 1) 1 l

theorem ecs_app : ∀ {x y : List (Int × Int)}, ecs (x ++ y) = ecs x ++ ecs y := by
  intro x y
  induction x with
  | nil => rfl
  | cons e x ih => simp only [List.cons_append, ecs, ih]
theorem ecs_take : ∀ {x : List (Int × Int)} {p : Nat}, (ecs x).take (p * 2) = ecs (x.take p) := by
  intro x
  induction x with
  | nil => intro p; simp [ecs]
  | cons e x ih =>
    intro p
    cases p with
    | zero => rfl
    | succ p =>
      rw [show (p + 1) * 2 = p * 2 + 1 + 1 by omega]
      simp only [ecs, List.take_succ_cons, ih]
theorem rep_zero : ∀ {m : Nat}, replicateCells [I 0, I 0] m = ecs (List.replicate m (0, 0)) := by
  intro m
  induction m with
  | zero => rfl
  | succ m ih => simp only [replicateCells, List.replicate_succ, ecs, ih]; rfl
theorem rep_len {m : Nat} : (replicateCells [I 0, I 0] m).length = m * 2 := by rw [rep_zero, ecs_len, List.length_replicate]

theorem f82 : FnOK 82 61 := ⟨by kernel_rfl, by kernel_rfl, by kernel_rfl⟩
def g82 : Cfg := ⟨true, [18, 19, 23, 24, 25, 28, 44, 37, 38, 42, 43, 49, 50, 51, 56, 59], [8, 13, 25, 32, 44], [], [⟨[0, 1, 0, 1, 1], [.b 0, .s [1, 1, 1]], [0, 3], 0⟩, ⟨[0, 1, 0, 1, 0, 1, 0, 0, 1, 0, 0, 1, 0, 1, 1], [.b 2, .s [1, 1, 0, 1, 0, 0, 1, 0, 0, 1, 0, 1, 1], .b 1, .s [1, 1, 0, 0, 1, 0, 1, 1], .l [0, 1, 0, 1, 1], .b 0, .s [1, 1, 1]], [0, 3, 4, 5], 0⟩]⟩
theorem nf_s82 (I' : Nat → List AV → AHeap → Prop) (b : Nat) (g : Nat) (n : Nat) (r : AV) (os : List AObj) (F : List Nat) (H0 : AHeap) : (runS C3 g82 61 82 I' r H0 [AV.osl b g 0 2 n n false] { objs := os, frz := F }) = (
  (decide ((↑n : Int) < 2) = true → Due (AV.osl b g 0 2 n n false = r ∧ { objs := os, frz := F } = H0)) ∧ (decide ((↑n : Int) < 2) = false → I' 0 [AV.osl b g 0 2 n n false, AV.sc (Value.int IntKind.i64 1)] { objs := os, frz := F })) := by kernel_rfl
theorem nf_c82 (I' : Nat → List AV → AHeap → Prop) (b : Nat) (g : Nat) (n : Nat) (k : Int) (r : AV) (os : List AObj) (F : List Nat) (H0 : AHeap) : (cutS C3 g82 61 82 I' r H0 0 [AV.osl b g 0 2 n n false, I k] { objs := os, frz := F }) = (
  (decide (k < (↑n : Int)) = true → Due (0 ≤ k ∧ k < (↑n : Int)) ∧ ∃ (cs : List AV), Due ((os ++ List.replicate 10 AObj.dead)[b]? = some (AObj.cells cs g)) ∧ ∃ (z : Int), ∃ (z_1 : Int), Due (List.take 2 (List.drop (0 + k.toNat * 2) cs) = [AV.sc (Value.int IntKind.i64 z), AV.sc (Value.int IntKind.i64 z_1)]) ∧ Due (0 ≤ IntKind.i64.wrap (k - 1) ∧ IntKind.i64.wrap (k - 1) < (↑n : Int)) ∧ ∃ (cs : List AV), Due ((os ++ List.replicate 10 AObj.dead)[b]? = some (AObj.cells cs g)) ∧ ∃ (z_2 : Int), ∃ (z_3 : Int), Due (List.take 2 (List.drop (0 + (IntKind.i64.wrap (k - 1)).toNat * 2) cs) = [AV.sc (Value.int IntKind.i64 z_2), AV.sc (Value.int IntKind.i64 z_3)]) ∧ ((z == z_2 && z_1 == z_3) = true → Due (0 ≤ k ∧ k ≤ (↑n : Int) ∧ (↑n : Int) ≤ (↑n : Int)) ∧ I' 1 [AV.osl b g 0 2 n n false, AV.sc (Value.int IntKind.i64 k), AV.osl b g (0 + k.toNat * 2) 2 (n - k.toNat) (n - k.toNat) false, AV.sc (Value.int IntKind.i64 1)] { objs := trimTo os.length (os ++ List.replicate 10 AObj.dead), frz := F }) ∧ ((z == z_2 && z_1 == z_3) = false → I' 0 [AV.osl b g 0 2 n n false, AV.sc (Value.int IntKind.i64 (IntKind.i64.wrap (k + 1)))] { objs := trimTo os.length (os ++ List.replicate 10 AObj.dead), frz := F })) ∧ (decide (k < (↑n : Int)) = false → Due (AV.osl b g 0 2 n n false = r ∧ { objs := os, frz := F } = H0))) := by kernel_rfl
theorem nf_d82 (I' : Nat → List AV → AHeap → Prop) (b : Nat) (g : Nat) (n : Nat) (o2 : Nat) (n2 : Nat) (c2 : Nat) (k : Int) (k2 : Int) (r : AV) (os : List AObj) (F : List Nat) (H0 : AHeap) : (cutS C3 g82 61 82 I' r H0 1 [AV.osl b g 0 2 n n false, I k, AV.osl b g o2 2 n2 c2 false, I k2] { objs := os, frz := F }) = (
  (decide (k2 < (↑n2 : Int)) = true → Due (0 ≤ k2 ∧ k2 < (↑n2 : Int)) ∧ ∃ (cs : List AV), Due ((os ++ List.replicate 10 AObj.dead)[b]? = some (AObj.cells cs g)) ∧ ∃ (z : Int), ∃ (z_1 : Int), Due (List.take 2 (List.drop (o2 + k2.toNat * 2) cs) = [AV.sc (Value.int IntKind.i64 z), AV.sc (Value.int IntKind.i64 z_1)]) ∧ Due (0 ≤ IntKind.i64.wrap (k2 - 1) ∧ IntKind.i64.wrap (k2 - 1) < (↑n2 : Int)) ∧ ∃ (cs : List AV), Due ((os ++ List.replicate 10 AObj.dead)[b]? = some (AObj.cells cs g)) ∧ ∃ (z_2 : Int), ∃ (z_3 : Int), Due (List.take 2 (List.drop (o2 + (IntKind.i64.wrap (k2 - 1)).toNat * 2) cs) = [AV.sc (Value.int IntKind.i64 z_2), AV.sc (Value.int IntKind.i64 z_3)]) ∧ ((!(z == z_2 && z_1 == z_3)) = true → Due (0 ≤ k2 ∧ k2 < (↑n2 : Int)) ∧ ∃ (cs : List AV), Due ((trimTo os.length (os ++ List.replicate 10 AObj.dead))[b]? = some (AObj.cells cs g)) ∧ ∃ (z : Int), ∃ (z_4 : Int), Due (List.take 2 (List.drop (o2 + k2.toNat * 2) cs) = [AV.sc (Value.int IntKind.i64 z), AV.sc (Value.int IntKind.i64 z_4)]) ∧ Due (0 ≤ k ∧ k < (↑n : Int)) ∧ ∃ (cs : List AV), Due ((trimTo os.length (os ++ List.replicate 10 AObj.dead))[b]? = some (AObj.cells cs g)) ∧ Due (F.contains b = false) ∧ Due (0 + k.toNat * 2 + 2 ≤ cs.length) ∧ I' 1 [AV.osl b g 0 2 n n false, AV.sc (Value.int IntKind.i64 (IntKind.i64.wrap (k + 1))), AV.osl b g o2 2 n2 c2 false, AV.sc (Value.int IntKind.i64 (IntKind.i64.wrap (k2 + 1)))] { objs := Abs.setObj (trimTo os.length (os ++ List.replicate 10 AObj.dead)) b (AObj.cells (putRange cs (0 + k.toNat * 2) [AV.sc (Value.int IntKind.i64 z), AV.sc (Value.int IntKind.i64 z_4)]) g), frz := F }) ∧ ((!(z == z_2 && z_1 == z_3)) = false → I' 1 [AV.osl b g 0 2 n n false, AV.sc (Value.int IntKind.i64 k), AV.osl b g o2 2 n2 c2 false, AV.sc (Value.int IntKind.i64 (IntKind.i64.wrap (k2 + 1)))] { objs := trimTo os.length (os ++ List.replicate 10 AObj.dead), frz := F })) ∧ (decide (k2 < (↑n2 : Int)) = false → Due (0 ≤ k ∧ k ≤ (↑n : Int) ∧ (↑n : Int) ≤ (↑n : Int)) ∧ ∃ (cs : List AV), Due (os[b]? = some (AObj.cells cs g)) ∧ Due (F.contains b = false) ∧ Due (0 < n - k.toNat ∧ 0 + k.toNat * 2 + (n - k.toNat) * 2 ≤ cs.length) ∧ Due ((0 : Int) ≤ 0 ∧ 0 ≤ k ∧ k ≤ (↑n : Int)) ∧ Due (AV.osl b g 0 2 (k.toNat - 0) (n - 0) false = r ∧ { objs := Abs.setObj os b (AObj.cells (putRange cs (0 + k.toNat * 2) (replicateCells [AV.sc (Value.int IntKind.i64 0), AV.sc (Value.int IntKind.i64 0)] (n - k.toNat))) g), frz := F } = H0))) := by kernel_rfl

theorem sh82 (l0 : List (Int × Int)) (hl : l0.length < 100000) (b g : Nat) (H : AHeap) (ho : H.objs[b]? = some (.cells (ecs l0) g)) (hz : b ∉ H.frz) :
    SharedFn Tryz.prog 82 [.osl b g 0 2 l0.length l0.length false] H (.osl b g 0 2 (compE l0).2 l0.length false) (setC H b (ecs (compE l0).1) g) := by
  obtain ⟨os, F⟩ := H
  simp only at ho hz
  have hb : b < os.length := (List.getElem?_eq_some_iff.1 ho).1
  have hF : F.contains b = false := free_of hz
  obtain ⟨n, hn⟩ : ∃ n, n = l0.length := ⟨_, rfl⟩
  rw [← hn]
  have key : ∀ {l : List (Int × Int)} {k : Nat}, trimTo (setObj os b (.cells (ecs l) g)).length (setObj os b (.cells (ecs l) g) ++ List.replicate k .dead) = setObj os b (.cells (ecs l) g) := trimTo_app
  have hlen : ∀ {l : List (Int × Int)}, b < (setObj os b (.cells (ecs l) g)).length := by intro l; rw [set_len hb]; exact hb
  refine sharedW (g := g82) C3_ok f82 rfl (by simp) ho (fun m j vals H =>
      (j = 0 ∧ ∃ k : Nat, 1 ≤ k ∧ k ≤ n ∧ m = (n - k) + n + 1 ∧ vals = [.osl b g 0 2 n n false, I k] ∧ H = ⟨setObj os b (.cells (ecs l0) g), F⟩ ∧ cOut (n - k) k l0 = compE l0) ∨
      (j = 1 ∧ ∃ (k0 k2 p : Nat) (a : List (Int × Int)), 1 ≤ k2 ∧ k0 + k2 ≤ n ∧ p < k0 + k2 ∧ a.length = n ∧ m = n - (k0 + k2) ∧ vals = [.osl b g 0 2 n n false, I p, .osl b g (0 + k0 * 2) 2 (n - k0) (n - k0) false, I k2] ∧
        H = ⟨setObj os b (.cells (ecs a) g), F⟩ ∧ finE n (cIn (n - (k0 + k2)) (k0 + k2) a p) = compE l0)) ?_ ?_
  · rw [nf_s82]
    refine ⟨fun h => ⟨?_, ?_⟩, fun h => ⟨_, .inl ⟨rfl, 1, Nat.le_refl _, ?_, rfl, rfl, by rw [set_same ho], ?_⟩⟩⟩
    · have h := of_decide_eq_true h
      unfold compE
      rw [← hn, show n - 1 = 0 by omega]
      simp [cOut, hn]
    · have h := of_decide_eq_true h
      unfold compE setC
      rw [← hn, show n - 1 = 0 by omega]
      simp [cOut, set_same ho]
    · have h := of_decide_eq_false h
      omega
    · rw [hn]; rfl
  · intro m j vals H1 hj hI
    rcases hI with ⟨rfl, k, hk1, hkn, rfl, rfl, rfl, hs⟩ | ⟨rfl, k0, k2, p, a, hk2, hq, hp, ha, rfl, rfl, rfl, hs⟩
    · rw [nf_c82]
      refine ⟨fun h => ?_, fun h => ⟨?_, ?_⟩⟩
      · have h := of_decide_eq_true h
        have hlt : k < n := by omega
        have hx : l0[k]? = some l0[k] := List.getElem?_eq_getElem (by omega)
        have hy : l0[k - 1]? = some l0[k - 1] := List.getElem?_eq_getElem (by omega)
        have ew : IntKind.i64.wrap ((k : Int) - 1) = ((k - 1 : Nat) : Int) := by rw [wi64 (by omega) (by omega)]; omega
        have en : ((k : Nat) : Int).toNat = k := by omega
        have en' : ((k - 1 : Nat) : Int).toNat = k - 1 := by omega
        rw [ew, en, en', key]
        refine ⟨⟨by omega⟩, _, ⟨by rw [get_app hlen, set_get hb]⟩, _, _, ⟨ecs_get hx⟩, ⟨by omega⟩, _, ⟨by rw [get_app hlen, set_get hb]⟩, _, _, ⟨ecs_get hy⟩, fun hc => ⟨⟨by omega⟩, ?_⟩, fun hc => ?_⟩
        · refine ⟨_, ?_, .inr ⟨rfl, k, 1, k, l0, Nat.le_refl _, by omega, by omega, hn.symm, rfl, rfl, rfl, ?_⟩⟩
          · omega
          · rw [show n - k = (n - (k + 1)) + 1 by omega] at hs
            unfold cOut at hs
            rw [hx, hy] at hs
            dsimp only at hs
            have : eqE l0[k] l0[k - 1] = true := hc
            rw [if_pos this, ← hn, show n - k - 1 = n - (k + 1) by omega] at hs
            exact hs
        · refine ⟨_, ?_, .inl ⟨rfl, k + 1, by omega, hlt, rfl, ?_, rfl, ?_⟩⟩
          · omega
          · rw [wi64 (by omega) (by omega)]; rfl
          · rw [show n - k = (n - (k + 1)) + 1 by omega] at hs
            unfold cOut at hs
            rw [hx, hy] at hs
            dsimp only at hs
            have : eqE l0[k] l0[k - 1] = false := hc
            rw [if_neg (by rw [this]; simp)] at hs
            exact hs
      · have h := of_decide_eq_false h
        rw [show n - k = 0 by omega] at hs
        rw [← hs]
        simp [cOut, hn]
      · have h := of_decide_eq_false h
        rw [show n - k = 0 by omega] at hs
        rw [← hs]
        rfl
    · rw [nf_d82]
      have en : ((p : Nat) : Int).toNat = p := by omega
      refine ⟨fun h => ?_, fun h => ?_⟩
      · have h := of_decide_eq_true h
        have hlt : k0 + k2 < n := by omega
        have hx : a[k0 + k2]? = some a[k0 + k2] := List.getElem?_eq_getElem (by omega)
        have hy : a[k0 + (k2 - 1)]? = some a[k0 + (k2 - 1)] := List.getElem?_eq_getElem (by omega)
        have ew : IntKind.i64.wrap ((k2 : Int) - 1) = ((k2 - 1 : Nat) : Int) := by rw [wi64 (by omega) (by omega)]; omega
        have e2 : ((k2 : Nat) : Int).toNat = k2 := by omega
        have e2' : ((k2 - 1 : Nat) : Int).toNat = k2 - 1 := by omega
        have o1 : 0 + k0 * 2 + k2 * 2 = 0 + (k0 + k2) * 2 := by omega
        have o2 : 0 + k0 * 2 + (k2 - 1) * 2 = 0 + (k0 + (k2 - 1)) * 2 := by omega
        have wk : IntKind.i64.wrap ((k2 : Int) + 1) = ((k2 + 1 : Nat) : Int) := by rw [wi64 (by omega) (by omega)]; rfl
        have wp : IntKind.i64.wrap ((p : Int) + 1) = ((p + 1 : Nat) : Int) := by rw [wi64 (by omega) (by omega)]; rfl
        rw [show n - (k0 + k2) = (n - (k0 + (k2 + 1))) + 1 by omega] at hs
        unfold cIn at hs
        rw [hx, show k0 + k2 - 1 = k0 + (k2 - 1) by omega, hy] at hs
        dsimp only at hs
        rw [ew, e2, e2', en, key, o1, o2, wk, wp]
        refine ⟨⟨by omega⟩, _, ⟨by rw [get_app hlen, set_get hb]⟩, _, _, ⟨ecs_get hx⟩, ⟨by omega⟩, _, ⟨by rw [get_app hlen, set_get hb]⟩, _, _, ⟨ecs_get hy⟩, fun hc => ?_, fun hc => ?_⟩
        · have : eqE a[k0 + k2] a[k0 + (k2 - 1)] = false := by
            have hc : (!eqE a[k0 + k2] a[k0 + (k2 - 1)]) = true := hc
            simpa using hc
          rw [if_neg (by rw [this]; simp)] at hs
          refine ⟨⟨by omega⟩, _, ⟨set_get hb⟩, _, _, ⟨ecs_get hx⟩, ⟨by omega⟩, _, ⟨set_get hb⟩, ⟨hF⟩, ⟨by rw [ecs_len]; omega⟩, ?_⟩
          refine ⟨_, ?_, .inr ⟨rfl, k0, k2 + 1, p + 1, a.set p a[k0 + k2], by omega, by omega, by omega, by rw [List.length_set]; exact ha, rfl, rfl, ?_, hs⟩⟩
          · omega
          · rw [set_set hb]
            rw [show ([AV.sc (Value.int IntKind.i64 a[k0 + k2].1), AV.sc (Value.int IntKind.i64 a[k0 + k2].2)] : List AV) = [I a[k0 + k2].1, I a[k0 + k2].2] from rfl, ecs_put (by omega)]
        · have : eqE a[k0 + k2] a[k0 + (k2 - 1)] = true := by
            have hc : (!eqE a[k0 + k2] a[k0 + (k2 - 1)]) = false := hc
            simpa using hc
          rw [if_pos this] at hs
          refine ⟨_, ?_, .inr ⟨rfl, k0, k2 + 1, p, a, by omega, by omega, by omega, ha, rfl, rfl, rfl, hs⟩⟩
          omega
      · have h := of_decide_eq_false h
        have hq' : k0 + k2 = n := by omega
        rw [show n - (k0 + k2) = 0 by omega] at hs
        rw [en]
        refine ⟨⟨by omega⟩, _, ⟨set_get hb⟩, ⟨hF⟩, ⟨by omega, by rw [ecs_len]; omega⟩, ⟨by omega⟩, ⟨?_, ?_⟩⟩
        · rw [← hs]
          rfl
        · rw [← hs, set_set hb]
          show (⟨setObj os b (.cells (putRange (ecs a) (0 + p * 2) (replicateCells [I 0, I 0] (n - p))) g), F⟩ : AHeap) = setC ⟨os, F⟩ b (ecs (a.take p ++ List.replicate (n - p) (0, 0))) g
          unfold setC
          have : putRange (ecs a) (0 + p * 2) (replicateCells [I 0, I 0] (n - p)) = ecs (a.take p ++ List.replicate (n - p) (0, 0)) := by
            unfold putRange
            rw [rep_len, List.drop_of_length_le (by rw [ecs_len]; omega), Nat.zero_add, ecs_take, rep_zero, ecs_app, List.append_nil]
          rw [this]

def ss82 : SSpec := ⟨List (Int × Int), fun l => l.length < 100000, ecs, fun b g l => [.osl b g 0 2 l.length l.length false], fun b g l => .osl b g 0 2 (compE l).2 l.length false, fun l => ecs (compE l).1, 0⟩
theorem ss82_ok : SSpecOK Tryz.prog 82 ss82 :=
  ⟨fun l b g H hp ho hz => sh82 l hp b g H ho hz, fun b g x y _ _ h _ => by rw [ecs_inj h]; exact ⟨rfl, rfl⟩⟩
end Go.Abs.Sym

set_option maxRecDepth 100000
namespace Go.Abs.Sym
open Go Go.Abs Go.Proofs

def t78 : Tbl := fun k args =>
  if Nat.beq k 78 then
    match args with
    | [.sc (.int .i64 n), .sc (.int .i64 x)] => some (B (byV n x))
    | _ => none
  else none
theorem t78_ok : TblOK Tryz.prog t78 := by
  intro k args r h
  unfold t78 at h
  split at h
  · rename_i hk
    split at h
    · rename_i n x
      cases h
      rw [Nat.eq_of_beq_eq_true hk]; exact ent78 n x
    · cases h
  · cases h
def shMake : FuncId → Bool := fun k => Nat.beq k 79 || Nat.beq k 80 || Nat.beq k 82
def C6 : Ctx := ⟨t78, noFS, addS 80 ss80 (addS 82 ss82 noSS), addN 79 ns79 noNS, shMake⟩
theorem C6_ok : C6.OK Tryz.prog := ⟨t78_ok, noFS_ok, addS_ok ss80_ok (addS_ok ss82_ok noSS_ok), addN_ok ns79_ok noNS_ok⟩

/-! No edges at all. -/
def nilE : AV := .isl [] 0 0 false
theorem e79a (c : Nat) : evalT Tryz.prog pureM noT 60 79 [.isl [] 0 c true] = .ok (.isl [] 0 0 true) := by kernel_rfl
theorem e79b : evalT Tryz.prog pureM noT 60 79 [.sc (.slice none 0 0)] = .ok (.sc (.slice none 0 0)) := by kernel_rfl
theorem ent79 : EntryOK Tryz.prog 79 [nilE] nilE := by
  intro w S vs hS hG hvs
  obtain ⟨hl, hv⟩ := hvs
  match vs, hl with
  | ⟨[v]⟩, _ =>
    have h0 := hv 0 nilE v rfl rfl
    have one : ∀ {x : AV}, IVR w S x v → IVRL w S [x] #[v] := fun h => ⟨rfl, fun i y u a b => by
      cases i with
      | zero => cases a; cases b; exact h
      | succ i => simp at a⟩
    cases h0 with
    | isl f hSb h1 h2 hl hc he => exact (ev noT_ok (e79a _)).wkR w S _ hS hG (one (.isl f hSb h1 h2 hl (Nat.le_refl _) (fun _ => rfl)))
    | isn => exact (ev noT_ok e79b).wkR w S _ hS hG (one (.sc rfl))
theorem e80n : evalT Tryz.prog pureM tOrd 60 80 [nilE, fOrd] = .ok (.tup []) := by kernel_rfl
theorem e82n : evalT Tryz.prog pureM tOrd 60 82 [nilE] = .ok nilE := by kernel_rfl
def tNil : Tbl := fun k args => match args with
  | [.isl [] 0 0 false] => if Nat.beq k 79 || Nat.beq k 82 then some nilE else none
  | [.isl [] 0 0 false, .fn (.func 81) [] []] => if Nat.beq k 80 then some (.tup []) else none
  | _ => none
theorem tNil_ok : TblOK Tryz.prog tNil := by
  intro k args r h
  unfold tNil at h
  split at h
  · split at h
    · rename_i hk
      cases h
      simp only [Bool.or_eq_true] at hk
      rcases hk with hk | hk
      · rw [Nat.eq_of_beq_eq_true hk]; exact ent79
      · rw [Nat.eq_of_beq_eq_true hk]; exact ev tOrd_ok e82n
    · cases h
  · split at h
    · rename_i hk
      cases h
      rw [Nat.eq_of_beq_eq_true hk]; exact ev tOrd_ok e80n
    · cases h
  · cases h
def C7 : Ctx := ⟨tNil, noFS, noSS, noNS, fun _ => false⟩
theorem C7_ok : C7.OK Tryz.prog := ⟨tNil_ok, noFS_ok, noSS_ok, noNS_ok⟩

theorem f36 : FnOK 36 42 := ⟨by kernel_rfl, by kernel_rfl, by kernel_rfl⟩
def g36 : Cfg := ⟨false, [20, 21], [19], [(10, false), (13, false), (25, false), (30, false)], [⟨[0, 1, 0, 1, 1], [.b 0, .s [1, 1, 1]], [0, 1, 4, 16, 17, 18], 1⟩]⟩
def gr0 : AObj := .cells [I 0, .sc (.slice none 0 0)] 0
def g36n : Cfg := ⟨false, [], [], [(10, false), (13, false)], []⟩
theorem nf_r36 (I' : Nat → List AV → AHeap → Prop) (n : Nat) (c : AV) (cs : List AV) (m : Nat) (r : AV) : (runP C6 g36 42 36 I' r [I (↑n : Int), AV.isl (c :: cs) (m + 1) 0 false]) = (
  Due (decide ((↑n : Int) < 0) = false) ∧ Due (decide ((↑n : Int) > 64) = false) ∧ I' 0 [AV.sc (Value.int IntKind.i64 (↑n : Int)), AV.isl (c :: cs) (m + 1) 0 false, AV.optr 0 0 0, AV.isl (c :: cs) (m + 1) 0 false, AV.sc (Value.int IntKind.i64 (↑(m + 1) : Int)), AV.sc (Value.int IntKind.i64 0)] { objs := [AObj.cells [AV.sc (Value.int IntKind.i64 0), AV.sc (Value.slice none 0 0)] 0], frz := [] }) := by kernel_rfl
theorem nf_c36 (I' : Nat → List AV → AHeap → Prop) (n : Nat) (c : AV) (cs : List AV) (m : Nat) (i : Int) (r : AV) : (cutP C6 g36 42 36 I' r 0 [I (↑n : Int), AV.isl (c :: cs) (m + 1) 0 false, AV.optr 0 0 0, AV.isl (c :: cs) (m + 1) 0 false, I (↑(m + 1) : Int), I i] { objs := [gr0], frz := [] }) = (
  (decide (i < (↑(m + 1) : Int)) = true → Due (0 ≤ i ∧ i < (↑(m + 1) : Int)) ∧ ∃ (z : Int), ∃ (z_1 : Int), Due (List.take 2 (List.drop 0 (List.drop (i.toNat * 2) (c :: cs))) = [AV.sc (Value.int IntKind.i64 z), AV.sc (Value.int IntKind.i64 z_1)]) ∧ Due ((decide (z < 0) || decide (z ≥ (↑n : Int))) = false) ∧ Due ((decide (z_1 < 0) || decide (z_1 ≥ (↑n : Int))) = false) ∧ Due (flatOs [AObj.cells [AV.sc (Value.int IntKind.i64 0), AV.sc (Value.slice none 0 0)] 0]) ∧ I' 0 [AV.sc (Value.int IntKind.i64 (↑n : Int)), AV.isl (c :: cs) (m + 1) 0 false, AV.optr 0 0 0, AV.isl (c :: cs) (m + 1) 0 false, AV.sc (Value.int IntKind.i64 (↑(m + 1) : Int)), AV.sc (Value.int IntKind.i64 (IntKind.i64.wrap (i + 1)))] { objs := [AObj.cells [AV.sc (Value.int IntKind.i64 0), AV.sc (Value.slice none 0 0)] 0], frz := [] }) ∧ (decide (i < (↑(m + 1) : Int)) = false → ∃ (x : (Int × Int) × List (Int × Int)), Due (x.2.length < 100000) ∧ Due ([AV.isl (c :: cs) (m + 1) 0 false] = [AV.isl (AV.sc (Value.int IntKind.i64 x.1.1) :: AV.sc (Value.int IntKind.i64 x.1.2) :: ecs x.2) (x.2.length + 1) 0 false]) ∧ Due (0 = 0) ∧ ∃ (x_1 : List (Int × Int)), Due (x_1.length ≤ 12) ∧ Due (AV.sc (Value.int IntKind.i64 x.1.1) :: AV.sc (Value.int IntKind.i64 x.1.2) :: ecs x.2 = ecs x_1 ∧ [AV.osl ([AObj.cells [AV.sc (Value.int IntKind.i64 0), AV.sc (Value.slice none 0 0)] 0].length + 1) 0 0 2 (x.2.length + 1) (x.2.length + 1) false, AV.fn (Fn.func 81) [] []] = [AV.osl ([AObj.cells [AV.sc (Value.int IntKind.i64 0), AV.sc (Value.slice none 0 0)] 0].length + 1) 0 0 2 x_1.length x_1.length false, AV.fn (Fn.func 81) [] []]) ∧ Due (0 = 0) ∧ ∃ (x_2 : List (Int × Int)), Due (x_2.length < 100000) ∧ Due (ecs (isortE x_1) = ecs x_2 ∧ [AV.osl ([AObj.cells [AV.sc (Value.int IntKind.i64 0), AV.sc (Value.slice none 0 0)] 0].length + 1) 0 0 2 (x.2.length + 1) (x.2.length + 1) false] = [AV.osl ([AObj.cells [AV.sc (Value.int IntKind.i64 0), AV.sc (Value.slice none 0 0)] 0].length + 1) 0 0 2 x_2.length x_2.length false]) ∧ Due (0 = 0 ∧ 0 + (cOut (x_2.length - 1) 1 x_2).2 * 2 ≤ (ecs (compE x_2).fst).length ∧ (ecs (compE x_2).fst).all flatA = true) ∧ Due (AV.tup [AV.agg [AV.sc (Value.int IntKind.i64 (↑n : Int)), AV.isl (List.take ((cOut (x_2.length - 1) 1 x_2).2 * 2) (List.drop 0 (ecs (compE x_2).fst))) (cOut (x_2.length - 1) 1 x_2).2 0 false], AV.sc (Value.int IntKind.i64 0)] = r))) := by kernel_rfl
theorem nf_n36 (n : Nat) (r : AV) : (runP C7 g36n 42 36 (fun (x : Nat) (x_1 : List AV) (x_2 : AHeap) ↦ False) r [I (↑n : Int), nilE]) = (
  Due (decide ((↑n : Int) < 0) = false) ∧ Due (decide ((↑n : Int) > 64) = false) ∧ Due (AV.tup [AV.agg [AV.sc (Value.int IntKind.i64 (↑n : Int)), AV.isl [] 0 0 false], AV.sc (Value.int IntKind.i64 0)] = r)) := by kernel_rfl

/-- What graph.Make hands back for edges between existing nodes. -/
def makeE (es : List (Int × Int)) : List (Int × Int) := (compE (isortE es)).1.take (compE (isortE es)).2
def makeV (n : Nat) (es : List (Int × Int)) : AV := .tup [.agg [I n, .isl (ecs (makeE es)) (compE (isortE es)).2 0 false], I 0]
def sle (es : List (Int × Int)) : AV := .isl (ecs es) es.length 0 false
def inR (n : Nat) (es : List (Int × Int)) : Prop := ∀ e, e ∈ es → 0 ≤ e.1 ∧ e.1 < n ∧ 0 ≤ e.2 ∧ e.2 < n

theorem cIn_len : ∀ (m q : Nat) (a : List (Int × Int)) (p : Nat), (cIn m q a p).1.length = a.length ∧ (cIn m q a p).2 ≤ p + m := by
  intro m
  induction m with
  | zero => intro q a p; exact ⟨rfl, Nat.le_refl _⟩
  | succ m ih =>
    intro q a p
    unfold cIn
    split
    · split
      · obtain ⟨h1, h2⟩ := ih (q + 1) a p
        exact ⟨h1, by omega⟩
      · rename_i x y _ _ _
        obtain ⟨h1, h2⟩ := ih (q + 1) (a.set p x) (p + 1)
        exact ⟨by rw [h1, List.length_set], by omega⟩
    · exact ⟨rfl, by simp⟩
theorem cOut_len : ∀ (m k : Nat) (a : List (Int × Int)), (cOut m k a).2 ≤ a.length ∧ (cOut m k a).1.length = a.length := by
  intro m
  induction m with
  | zero => intro k a; exact ⟨Nat.le_refl _, rfl⟩
  | succ m ih =>
    intro k a
    unfold cOut
    split
    · rename_i x y hx hy
      have hk : k < a.length := (List.getElem?_eq_some_iff.1 hx).1
      split
      · obtain ⟨h1, h2⟩ := cIn_len (a.length - k - 1) (k + 1) a k
        refine ⟨by show (cIn (a.length - k - 1) (k + 1) a k).2 ≤ _; omega, ?_⟩
        show ((cIn (a.length - k - 1) (k + 1) a k).1.take (cIn (a.length - k - 1) (k + 1) a k).2 ++ List.replicate (a.length - (cIn (a.length - k - 1) (k + 1) a k).2) (0, 0)).length = _
        rw [List.length_append, List.length_take, List.length_replicate, h1]
        omega
      · exact ih (k + 1) a
    · exact ⟨Nat.le_refl _, rfl⟩

theorem tk2 {es : List (Int × Int)} {i : Nat} {e : Int × Int} (h : es[i]? = some e) : List.take 2 (List.drop 0 (List.drop (i * 2) (ecs es))) = [I e.1, I e.2] := by
  rw [List.drop_zero, ← Nat.zero_add (i * 2)]
  exact ecs_get h

theorem ent36 (n : Nat) (es : List (Int × Int)) (hn : n ≤ 64) (hl : es.length ≤ 12) (hr : inR n es) : EntryOK Tryz.prog 36 [I n, sle es] (makeV n es) := by
  cases es with
  | nil =>
    refine pureW0 (g := g36n) C7_ok f36 rfl rfl (by simp) ?_
    show runP C7 g36n 42 36 (fun _ _ _ => False) (makeV n []) [I n, nilE]
    rw [nf_n36]
    exact ⟨⟨by simp⟩, ⟨by simp; omega⟩, ⟨rfl⟩⟩
  | cons e l =>
    have hl : l.length + 1 ≤ 12 := hl
    refine pureW (g := g36) C6_ok f36 rfl (by simp) (fun m j vals H => ∃ i : Nat, i ≤ l.length + 1 ∧ m = l.length + 1 - i ∧ vals = [I n, .isl (ecs (e :: l)) (l.length + 1) 0 false, .optr 0 0 0, .isl (ecs (e :: l)) (l.length + 1) 0 false, I ((l.length + 1 : Nat) : Int), I i] ∧ H = ⟨[gr0], []⟩) ?_ ?_
    · show runP C6 g36 42 36 _ _ [I n, .isl (I e.1 :: (I e.2 :: ecs l)) (l.length + 1) 0 false]
      rw [nf_r36]
      exact ⟨⟨by simp⟩, ⟨by simp; omega⟩, _, 0, Nat.zero_le _, rfl, rfl, rfl⟩
    · intro m j vals H hj hI
      have hj : j = 0 := by simpa [g36] using hj
      subst hj
      obtain ⟨i, hi, rfl, rfl, rfl⟩ := hI
      show cutP C6 g36 42 36 _ _ 0 [I n, .isl (I e.1 :: (I e.2 :: ecs l)) (l.length + 1) 0 false, .optr 0 0 0, .isl (I e.1 :: (I e.2 :: ecs l)) (l.length + 1) 0 false, I ((l.length + 1 : Nat) : Int), I i] ⟨[gr0], []⟩
      rw [nf_c36]
      refine ⟨fun h => ?_, fun h => ?_⟩
      · have h := of_decide_eq_true h
        have hlt : i < (e :: l).length := by simp only [List.length_cons]; omega
        have hx : (e :: l)[i]? = some (e :: l)[i] := List.getElem?_eq_getElem hlt
        obtain ⟨r1, r2, r3, r4⟩ := hr _ (List.getElem_mem hlt)
        refine ⟨⟨by omega⟩, (e :: l)[i].1, (e :: l)[i].2, ⟨?_⟩, ⟨?_⟩, ⟨?_⟩, ⟨⟨rfl, trivial⟩⟩, _, ?_, i + 1, by omega, rfl, ?_, rfl⟩
        · exact tk2 hx
        · simp; omega
        · simp; omega
        · omega
        · rw [wi64 (by omega) (by omega)]; rfl
      · have h := of_decide_eq_false h
        have hz : (e :: l : List (Int × Int)).length = l.length + 1 := rfl
        refine ⟨(e, l), ⟨by simp; omega⟩, ⟨rfl⟩, ⟨rfl⟩, e :: l, ⟨hl⟩, ⟨rfl, rfl⟩, ⟨rfl⟩, isortE (e :: l), ⟨by rw [isortE_len]; omega⟩, ⟨rfl, ?_⟩, ⟨rfl, ?_, ecs_flat⟩, ⟨?_⟩⟩
        · rw [isortE_len]; rfl
        · obtain ⟨h1, h2⟩ := cOut_len ((isortE (e :: l)).length - 1) 1 (isortE (e :: l))
          rw [ecs_len]
          show 0 + (compE (isortE (e :: l))).2 * 2 ≤ (compE (isortE (e :: l))).1.length * 2
          have : (compE (isortE (e :: l))).1.length = (isortE (e :: l)).length := h2
          have : (compE (isortE (e :: l))).2 ≤ (isortE (e :: l)).length := h1
          omega
        · unfold makeV makeE
          rw [List.drop_zero]
          show AV.tup [AV.agg [_, AV.isl (List.take ((compE (isortE (e :: l))).2 * 2) (ecs (compE (isortE (e :: l))).1)) _ 0 false], _] = _
          rw [ecs_take]
          rfl
end Go.Abs.Sym

set_option maxRecDepth 100000
namespace Go.Abs.Sym
open Go Go.Abs Go.Proofs

/-! blocking.Graph. -/
structure ArcV where
  f : Int
  t : Int
  c : Int
  d : Int
  s : ByteArray
def acs : List ArcV → List AV
  | [] => []
  | a :: l => I a.f :: I a.t :: I a.c :: I a.d :: .sc (.string a.s) :: acs l
def foundB (x : Int) (u : List Int) : Bool := decide (u[lowB x u]? = some x)
def slI (u : List Int) : AV := .isl (u.map I) u.length 0 false
theorem slI_eq {u : List Int} : slI u = sl (u.map I) := by unfold slI sl; rw [List.length_map]
theorem mapI_inj : ∀ {x y : List Int}, x.map I = y.map I → x = y := by
  intro x
  induction x with
  | nil => intro y h; cases y with
    | nil => rfl
    | cons e y => cases h
  | cons e x ih =>
    intro y h
    cases y with
    | nil => cases h
    | cons f y =>
      simp only [List.map_cons, List.cons.injEq] at h
      rw [I_inj h.1, ih h.2]
theorem slI_inj {x y : List Int} (h : slI x = slI y) : x = y := by
  unfold slI at h
  simp only [AV.isl.injEq] at h
  exact mapI_inj h.1
theorem sle_inj {x y : List (Int × Int)} (h : sle x = sle y) : x = y := by
  unfold sle at h
  simp only [AV.isl.injEq] at h
  exact ecs_inj h.1

def fs77 : FSpec := ⟨List Int × Int, fun p => p.1.length < 1000000 ∧ Rising p.1, fun p => [slI p.1, I p.2], fun p => .tup [I (lowB p.2 p.1), B (foundB p.2 p.1)]⟩
theorem fs77_ok : FSpecOK Tryz.prog 77 fs77 := by
  refine ⟨fun p h => ?_, fun x y _ _ h => ?_⟩
  · have := ent77 p.1 p.2 h.1 h.2
    rw [← slI_eq] at this
    exact this
  · obtain ⟨u, a⟩ := x
    obtain ⟨v, b⟩ := y
    have h : [slI u, I a] = [slI v, I b] := h
    simp only [List.cons.injEq, and_true] at h
    rw [slI_inj h.1, I_inj h.2]
def fs36 : FSpec := ⟨Nat × List (Int × Int), fun p => p.1 ≤ 64 ∧ p.2.length ≤ 12 ∧ inR p.1 p.2, fun p => [I p.1, sle p.2], fun p => makeV p.1 p.2⟩
theorem fs36_ok : FSpecOK Tryz.prog 36 fs36 := by
  refine ⟨fun p h => ent36 p.1 p.2 h.1 h.2.1 h.2.2, fun x y _ _ h => ?_⟩
  obtain ⟨n, a⟩ := x
  obtain ⟨m, b⟩ := y
  have h : [I n, sle a] = [I m, sle b] := h
  simp only [List.cons.injEq, and_true] at h
  have h1 := I_inj h.1
  rw [sle_inj h.2, show n = m by omega]
def C8 : Ctx := ⟨noT, addF 77 fs77 (addF 36 fs36 noFS), noSS, noNS, fun _ => false⟩
theorem C8_ok : C8.OK Tryz.prog := ⟨noT_ok, addF_ok fs77_ok (addF_ok fs36_ok noFS_ok), noSS_ok, noNS_ok⟩

theorem f34 : FnOK 34 79 := ⟨by kernel_rfl, by kernel_rfl, by kernel_rfl⟩
def g34 : Cfg := ⟨false, [27, 28, 31, 32, 43, 44, 71], [16, 21, 33, 42, 60, 63], [(37, false)], [⟨[0, 1, 0, 1, 1], [.b 0, .s [1, 1, 1]], [0, 1, 4, 6], 1⟩, ⟨[0, 1, 0, 1, 1, 1, 1, 1], [.b 2, .s [1, 1, 1, 1, 1, 1]], [0, 1, 4, 7, 39, 40, 41], 4⟩]⟩
theorem nf_m34 (I' : Nat → List AV → AHeap → Prop) (u : List Int) (c : List AV) (n : Nat) (r : AV) : (runP C8 g34 79 34 I' r [slI u, AV.isl c n 0 false]) = (
  (((↑u.length : Int) == 0) = true → Due (AV.tup [AV.agg [AV.sc (Value.int IntKind.i64 0), AV.isl [] 0 0 false], AV.sc (Value.int IntKind.i64 7)] = r)) ∧ (((↑u.length : Int) == 0) = false → I' 0 [AV.isl (List.map I u) u.length 0 false, AV.isl c n 0 false, AV.optr 0 0 0, AV.sc (Value.int IntKind.i64 1)] { objs := [AObj.cells [AV.sc (Value.int IntKind.i64 0), AV.sc (Value.slice none 0 0)] 0], frz := [] })) := by kernel_rfl
theorem nf_c34 (I' : Nat → List AV → AHeap → Prop) (u : List Int) (c : List AV) (n : Nat) (i : Int) (r : AV) : (cutP C8 g34 79 34 I' r 0 [slI u, AV.isl c n 0 false, AV.optr 0 0 0, I i] { objs := [gr0], frz := [] }) = (
  (decide (i < (↑u.length : Int)) = true → Due (0 ≤ IntKind.i64.wrap (i - 1) ∧ IntKind.i64.wrap (i - 1) < (↑u.length : Int)) ∧ ∃ (z : Int), Due (List.take 1 (List.drop 0 (List.drop ((IntKind.i64.wrap (i - 1)).toNat * 1) (List.map I u))) = [AV.sc (Value.int IntKind.i64 z)]) ∧ Due (0 ≤ i ∧ i < (↑u.length : Int)) ∧ ∃ (z_1 : Int), Due (List.take 1 (List.drop 0 (List.drop (i.toNat * 1) (List.map I u))) = [AV.sc (Value.int IntKind.i64 z_1)]) ∧ (decide (z ≥ z_1) = true → Due (AV.tup [AV.agg [AV.sc (Value.int IntKind.i64 0), AV.isl [] 0 0 false], AV.sc (Value.int IntKind.i64 8)] = r)) ∧ (decide (z ≥ z_1) = false → I' 0 [AV.isl (List.map I u) u.length 0 false, AV.isl c n 0 false, AV.optr 0 0 0, AV.sc (Value.int IntKind.i64 (IntKind.i64.wrap (i + 1)))] { objs := [AObj.cells [AV.sc (Value.int IntKind.i64 0), AV.sc (Value.slice none 0 0)] 0], frz := [] })) ∧ (decide (i < (↑u.length : Int)) = false → Due (decide ((↑u.length : Int) > 64) = false) ∧ I' 1 [AV.isl (List.map I u) u.length 0 false, AV.isl c n 0 false, AV.optr 0 0 0, AV.sc (Value.slice none 0 0), AV.isl c n 0 false, AV.sc (Value.int IntKind.i64 (↑n : Int)), AV.sc (Value.int IntKind.i64 0)] { objs := [AObj.cells [AV.sc (Value.int IntKind.i64 0), AV.sc (Value.slice none 0 0)] 0], frz := [] })) := by kernel_rfl
theorem nf_d34 (I' : Nat → List AV → AHeap → Prop) (u : List Int) (c : List AV) (n : Nat) (r : AV) : (cutP C8 g34 79 34 I' r 1 [slI u, AV.isl c n 0 false, AV.optr 0 0 0, AV.sc (Value.slice none 0 0), AV.isl c n 0 false, I (↑n : Int), I 0] { objs := [gr0], frz := [] }) = (
  (decide (0 < (↑n : Int)) = true → Due ((0 : Int) ≤ 0 ∧ 0 < (↑n : Int)) ∧ ∃ (z : Int), ∃ (z_1 : Int), ∃ (z_2 : Int), ∃ (z_3 : Int), ∃ (s : ByteArray), Due (List.take 5 c = [AV.sc (Value.int IntKind.i64 z), AV.sc (Value.int IntKind.i64 z_1), AV.sc (Value.int IntKind.i64 z_2), AV.sc (Value.int IntKind.i64 z_3), AV.sc (Value.string s)]) ∧ ∃ (x : List Int × Int), Due (x.1.length < 1000000 ∧ ∀ (a b : Nat) (x_1 y : Int), x.fst[a]? = some x_1 → x.fst[b]? = some y → a < b → x_1 < y) ∧ Due ([AV.isl (List.map I u) u.length 0 false, AV.sc (Value.int IntKind.i64 z)] = [AV.isl (List.map I x.1) x.1.length 0 false, AV.sc (Value.int IntKind.i64 x.2)]) ∧ ∃ (x_1 : List Int × Int), Due (x_1.1.length < 1000000 ∧ ∀ (a b : Nat) (x y : Int), x_1.fst[a]? = some x → x_1.fst[b]? = some y → a < b → x < y) ∧ Due ([AV.isl (List.map I u) u.length 0 false, AV.sc (Value.int IntKind.i64 z_1)] = [AV.isl (List.map I x_1.1) x_1.1.length 0 false, AV.sc (Value.int IntKind.i64 x_1.2)]) ∧ ((!foundB x.2 x.1) = true → Due (AV.tup [AV.agg [AV.sc (Value.int IntKind.i64 0), AV.isl [] 0 0 false], AV.sc (Value.int IntKind.i64 10)] = r)) ∧ ((!foundB x.2 x.1) = false → ((!foundB x_1.2 x_1.1) = true → Due (AV.tup [AV.agg [AV.sc (Value.int IntKind.i64 0), AV.isl [] 0 0 false], AV.sc (Value.int IntKind.i64 10)] = r)) ∧ ((!foundB x_1.2 x_1.1) = false → Due ((4 * (0 + 1) + 1024) * 16 ≤ 140737488355328) ∧ I' 1 [AV.isl (List.map I u) u.length 0 false, AV.isl c n 0 false, AV.optr 0 0 0, AV.osl [AObj.cells [AV.sc (Value.int IntKind.i64 0), AV.sc (Value.slice none 0 0)] 0, AObj.cells [AV.sc (Value.int IntKind.i64 z), AV.sc (Value.int IntKind.i64 z_1), AV.sc (Value.int IntKind.i64 z_2), AV.sc (Value.int IntKind.i64 z_3), AV.sc (Value.string s)] 0, AObj.cells [AV.sc (Value.int IntKind.i64 (↑(lowB x.2 x.1) : Int)), AV.sc (Value.int IntKind.i64 (↑(lowB x_1.2 x_1.1) : Int))] 0].length 0 0 2 (0 + 1) (0 + 1) false, AV.isl c n 0 false, AV.sc (Value.int IntKind.i64 (↑n : Int)), AV.sc (Value.int IntKind.i64 1)] { objs := [AObj.cells [AV.sc (Value.int IntKind.i64 0), AV.sc (Value.slice none 0 0)] 0, AObj.cells [AV.sc (Value.int IntKind.i64 z), AV.sc (Value.int IntKind.i64 z_1), AV.sc (Value.int IntKind.i64 z_2), AV.sc (Value.int IntKind.i64 z_3), AV.sc (Value.string s)] 0, AObj.cells [AV.sc (Value.int IntKind.i64 (↑(lowB x.2 x.1) : Int)), AV.sc (Value.int IntKind.i64 (↑(lowB x_1.2 x_1.1) : Int))] 0, AObj.cells [AV.sc (Value.int IntKind.i64 (↑(lowB x.2 x.1) : Int)), AV.sc (Value.int IntKind.i64 (↑(lowB x_1.2 x_1.1) : Int))] 0], frz := [] }))) ∧ (decide (0 < (↑n : Int)) = false → ∃ (x : Nat × List (Int × Int)), Due (x.1 ≤ 64 ∧ x.2.length ≤ 12 ∧ ∀ (e : Int × Int), e ∈ x.snd → 0 ≤ e.fst ∧ e.fst < (↑x.fst : Int) ∧ 0 ≤ e.snd ∧ e.snd < (↑x.fst : Int)) ∧ Due ([AV.sc (Value.int IntKind.i64 (↑u.length : Int)), AV.isl [] 0 0 false] = [AV.sc (Value.int IntKind.i64 (↑x.1 : Int)), AV.isl (ecs x.2) x.2.length 0 false]) ∧ Due (AV.tup [AV.agg [AV.sc (Value.int IntKind.i64 (↑x.1 : Int)), AV.isl (ecs (makeE x.2)) (compE (isortE x.2)).2 0 false], AV.sc (Value.int IntKind.i64 0)] = r))) := by kernel_rfl
theorem nf_e34 (I' : Nat → List AV → AHeap → Prop) (u : List Int) (c : List AV) (n : Nat) (g : Nat) (m : Nat) (c1 : List AV) (c2 : List AV) (es : List AV) (i : Int) (r : AV) : (cutP C8 g34 79 34 I' r 1 [slI u, AV.isl c n 0 false, AV.optr 0 0 0, AV.osl 3 g 0 2 m m false, AV.isl c n 0 false, I (↑n : Int), I i] { objs := [gr0, AObj.cells c1 0, AObj.cells c2 0, AObj.cells es g], frz := [] }) = (
  (decide (i < (↑n : Int)) = true → Due (0 ≤ i ∧ i < (↑n : Int)) ∧ ∃ (z : Int), ∃ (z_1 : Int), ∃ (z_2 : Int), ∃ (z_3 : Int), ∃ (s : ByteArray), Due (List.take 5 (List.drop 0 (List.drop (i.toNat * 5) c)) = [AV.sc (Value.int IntKind.i64 z), AV.sc (Value.int IntKind.i64 z_1), AV.sc (Value.int IntKind.i64 z_2), AV.sc (Value.int IntKind.i64 z_3), AV.sc (Value.string s)]) ∧ ∃ (x : List Int × Int), Due (x.1.length < 1000000 ∧ ∀ (a b : Nat) (x_1 y : Int), x.fst[a]? = some x_1 → x.fst[b]? = some y → a < b → x_1 < y) ∧ Due ([AV.isl (List.map I u) u.length 0 false, AV.sc (Value.int IntKind.i64 z)] = [AV.isl (List.map I x.1) x.1.length 0 false, AV.sc (Value.int IntKind.i64 x.2)]) ∧ ∃ (x_1 : List Int × Int), Due (x_1.1.length < 1000000 ∧ ∀ (a b : Nat) (x y : Int), x_1.fst[a]? = some x → x_1.fst[b]? = some y → a < b → x < y) ∧ Due ([AV.isl (List.map I u) u.length 0 false, AV.sc (Value.int IntKind.i64 z_1)] = [AV.isl (List.map I x_1.1) x_1.1.length 0 false, AV.sc (Value.int IntKind.i64 x_1.2)]) ∧ ((!foundB x.2 x.1) = true → Due (AV.tup [AV.agg [AV.sc (Value.int IntKind.i64 0), AV.isl [] 0 0 false], AV.sc (Value.int IntKind.i64 10)] = r)) ∧ ((!foundB x.2 x.1) = false → ((!foundB x_1.2 x_1.1) = true → Due (AV.tup [AV.agg [AV.sc (Value.int IntKind.i64 0), AV.isl [] 0 0 false], AV.sc (Value.int IntKind.i64 10)] = r)) ∧ ((!foundB x_1.2 x_1.1) = false → Due ((4 * (m + 1) + 1024) * 16 ≤ 140737488355328) ∧ Due (1 ≠ 0 ∧ g = g ∧ m < m + 1 ∧ 0 + m * 2 = es.length) ∧ Due (flatOs [AObj.cells [AV.sc (Value.int IntKind.i64 0), AV.sc (Value.slice none 0 0)] 0, AObj.cells c1 0, AObj.cells c2 0, AObj.cells (es ++ [AV.sc (Value.int IntKind.i64 (↑(lowB x.2 x.1) : Int)), AV.sc (Value.int IntKind.i64 (↑(lowB x_1.2 x_1.1) : Int))]) (g + 1)]) ∧ I' 1 [AV.isl (List.map I u) u.length 0 false, AV.isl c n 0 false, AV.optr 0 0 0, AV.osl 3 (g + 1) 0 2 (m + 1) (m + 1) false, AV.isl c n 0 false, AV.sc (Value.int IntKind.i64 (↑n : Int)), AV.sc (Value.int IntKind.i64 (IntKind.i64.wrap (i + 1)))] { objs := [AObj.cells [AV.sc (Value.int IntKind.i64 0), AV.sc (Value.slice none 0 0)] 0, AObj.cells c1 0, AObj.cells c2 0, AObj.cells (es ++ [AV.sc (Value.int IntKind.i64 (↑(lowB x.2 x.1) : Int)), AV.sc (Value.int IntKind.i64 (↑(lowB x_1.2 x_1.1) : Int))]) (g + 1)], frz := [] }))) ∧ (decide (i < (↑n : Int)) = false → Due (g = g ∧ 0 + m * 2 ≤ es.length ∧ es.all flatA = true) ∧ ∃ (x : Nat × List (Int × Int)), Due (x.1 ≤ 64 ∧ x.2.length ≤ 12 ∧ ∀ (e : Int × Int), e ∈ x.snd → 0 ≤ e.fst ∧ e.fst < (↑x.fst : Int) ∧ 0 ≤ e.snd ∧ e.snd < (↑x.fst : Int)) ∧ Due ([AV.sc (Value.int IntKind.i64 (↑u.length : Int)), AV.isl (List.take (m * 2) es) m 0 false] = [AV.sc (Value.int IntKind.i64 (↑x.1 : Int)), AV.isl (ecs x.2) x.2.length 0 false]) ∧ Due (AV.tup [AV.agg [AV.sc (Value.int IntKind.i64 (↑x.1 : Int)), AV.isl (ecs (makeE x.2)) (compE (isortE x.2)).2 0 false], AV.sc (Value.int IntKind.i64 0)] = r))) := by kernel_rfl

def adjB : List Int → Bool
  | x :: y :: l => decide (x < y) && adjB (y :: l)
  | _ => true
theorem adj_get : ∀ {u : List Int}, adjB u = true → ∀ (k : Nat) (x y : Int), u[k]? = some x → u[k + 1]? = some y → x < y := by
  intro u
  induction u with
  | nil => intro _ k x y h; simp at h
  | cons a u ih =>
    intro h k x y h1 h2
    cases u with
    | nil => simp at h2
    | cons b u =>
      simp only [adjB, Bool.and_eq_true, decide_eq_true_eq] at h
      cases k with
      | zero => simp at h1 h2; omega
      | succ k => exact ih h.2 k x y (by simpa using h1) (by simpa using h2)
theorem adj_of : ∀ {u : List Int}, (∀ (k : Nat) (x y : Int), u[k]? = some x → u[k + 1]? = some y → x < y) → adjB u = true := by
  intro u
  induction u with
  | nil => intro _; rfl
  | cons a u ih =>
    intro h
    cases u with
    | nil => rfl
    | cons b u =>
      simp only [adjB, Bool.and_eq_true, decide_eq_true_eq]
      exact ⟨h 0 a b rfl rfl, ih (fun k x y h1 h2 => h (k + 1) x y (by simpa using h1) (by simpa using h2))⟩
theorem rising_of {u : List Int} (h : adjB u = true) : Rising u := by
  have key : ∀ (d a : Nat) (x y : Int), u[a]? = some x → u[a + 1 + d]? = some y → x < y := by
    intro d
    induction d with
    | zero => intro a x y h1 h2; exact adj_get h a x y h1 h2
    | succ d ih =>
      intro a x y h1 h2
      have hlt : a + 1 + d < u.length := by have := (List.getElem?_eq_some_iff.1 h2).1; omega
      have hz : u[a + 1 + d]? = some u[a + 1 + d] := List.getElem?_eq_getElem hlt
      exact Int.lt_trans (ih a x _ h1 hz) (adj_get h (a + 1 + d) _ y hz (by rw [← h2]; congr 1))
  intro a b x y h1 h2 hab
  exact key (b - a - 1) a x y h1 (by rw [show a + 1 + (b - a - 1) = b by omega]; exact h2)

def fndB (u : List Int) (a : ArcV) : Bool := foundB a.f u && foundB a.t u
def eds (u : List Int) (l : List ArcV) : List (Int × Int) := l.map fun a => (((lowB a.f u : Nat) : Int), ((lowB a.t u : Nat) : Int))
def gErr (u : List Int) (l : List ArcV) : Int := if u.length = 0 then 7 else if adjB u = false then 8 else if l.all (fndB u) = false then 10 else 0
def gN (u : List Int) (l : List ArcV) : Int := if gErr u l = 0 then u.length else 0
def gC (u : List Int) (l : List ArcV) : List (Int × Int) := if gErr u l = 0 then makeE (eds u l) else []
def gL (u : List Int) (l : List ArcV) : Nat := if gErr u l = 0 then (compE (isortE (eds u l))).2 else 0
def graphV (u : List Int) (l : List ArcV) : AV := .tup [.agg [I (gN u l), .isl (ecs (gC u l)) (gL u l) 0 false], I (gErr u l)]
theorem graph_err {u : List Int} {l : List ArcV} {e : Int} (h : gErr u l = e) (hne : e ≠ 0) : graphV u l = .tup [.agg [I 0, .isl [] 0 0 false], I e] := by
  unfold graphV gN gC gL
  rw [h, if_neg hne, if_neg hne, if_neg hne]
  rfl

theorem found_lt {x : Int} {u : List Int} (h : foundB x u = true) : lowB x u < u.length := by
  unfold foundB at h
  exact (List.getElem?_eq_some_iff.1 (of_decide_eq_true h)).1
theorem eds_inR {u : List Int} {l : List ArcV} (h : l.all (fndB u) = true) : inR u.length (eds u l) := by
  intro e he
  obtain ⟨a, ha, rfl⟩ := List.mem_map.1 he
  have := List.all_eq_true.1 h a ha
  simp only [fndB, Bool.and_eq_true] at this
  have h1 := found_lt this.1
  have h2 := found_lt this.2
  simp only
  omega

theorem acs_get : ∀ {l : List ArcV} {i : Nat} {a : ArcV}, l[i]? = some a → List.take 5 (List.drop (i * 5) (acs l)) = [I a.f, I a.t, I a.c, I a.d, .sc (.string a.s)] := by
  intro l
  induction l with
  | nil => intro i a h; simp at h
  | cons x l ih =>
    intro i a h
    cases i with
    | zero => simp at h; subst h; rfl
    | succ i =>
      have := ih (i := i) (by simpa using h)
      rw [show (i + 1) * 5 = i * 5 + 1 + 1 + 1 + 1 + 1 by omega]
      exact this

def slA (l : List ArcV) : AV := .isl (acs l) l.length 0 false
theorem take_snoc {α : Type} {l : List α} {i : Nat} {a : α} (h : l[i]? = some a) : l.take (i + 1) = l.take i ++ [a] := by
  rw [List.take_add_one, h]
  rfl
theorem eds_snoc {u : List Int} {l : List ArcV} {a : ArcV} : ecs (eds u (l ++ [a])) = ecs (eds u l) ++ [I ((lowB a.f u : Nat) : Int), I ((lowB a.t u : Nat) : Int)] := by
  unfold eds
  rw [List.map_append, ecs_app]
  rfl

theorem ent34 (u : List Int) (l : List ArcV) (hu : u.length ≤ 6) (hl : l.length ≤ 10) : EntryOK Tryz.prog 34 [slI u, slA l] (graphV u l) := by
  refine pureW (g := g34) C8_ok f34 rfl (by simp) (fun m j vals H =>
      (j = 0 ∧ u.length ≠ 0 ∧ ∃ i : Nat, 1 ≤ i ∧ i ≤ u.length ∧ m = u.length - i + l.length + 1 ∧ vals = [slI u, slA l, .optr 0 0 0, I i] ∧ H = ⟨[gr0], []⟩ ∧ ∀ (k : Nat) (x y : Int), u[k]? = some x → u[k + 1]? = some y → k + 1 < i → x < y) ∨
      (j = 1 ∧ u.length ≠ 0 ∧ adjB u = true ∧ ∃ i : Nat, i ≤ l.length ∧ (l.take i).all (fndB u) = true ∧ m = l.length - i ∧
        ((i = 0 ∧ vals = [slI u, slA l, .optr 0 0 0, .sc (.slice none 0 0), slA l, I l.length, I 0] ∧ H = ⟨[gr0], []⟩) ∨
         (∃ (g : Nat) (c1 c2 : List AV), c1.all flatA = true ∧ c2.all flatA = true ∧ vals = [slI u, slA l, .optr 0 0 0, .osl 3 g 0 2 i i false, slA l, I l.length, I i] ∧ H = ⟨[gr0, .cells c1 0, .cells c2 0, .cells (ecs (eds u (l.take i))) g], []⟩)))) ?_ ?_
  · show runP C8 g34 79 34 _ _ [slI u, .isl (acs l) l.length 0 false]
    rw [nf_m34]
    refine ⟨fun h => ⟨?_⟩, fun h => ?_⟩
    · have h0 : u.length = 0 := by simpa using h
      rw [graph_err (e := 7) (by unfold gErr; rw [if_pos h0]) (by decide)]
      rfl
    · have h0 : u.length ≠ 0 := by simpa using h
      exact ⟨_, .inl ⟨rfl, h0, 1, Nat.le_refl _, by omega, rfl, rfl, rfl, fun k x y _ _ h => by omega⟩⟩
  · intro m j vals H hj hI
    rcases hI with ⟨rfl, h0, i, hi1, hiu, rfl, rfl, rfl, ha⟩ | ⟨rfl, h0, hadj, i, hil, hfn, rfl, ⟨rfl, rfl, rfl⟩ | ⟨g, c1, c2, hc1, hc2, rfl, rfl⟩⟩
    · show cutP C8 g34 79 34 _ _ 0 [slI u, .isl (acs l) l.length 0 false, .optr 0 0 0, I i] ⟨[gr0], []⟩
      rw [nf_c34]
      refine ⟨fun h => ?_, fun h => ⟨⟨by simp; omega⟩, ?_⟩⟩
      · have h := of_decide_eq_true h
        have hlt : i < u.length := by omega
        have hx : u[i - 1]? = some u[i - 1] := List.getElem?_eq_getElem (by omega)
        have hy : u[i]? = some u[i] := List.getElem?_eq_getElem hlt
        have ew : IntKind.i64.wrap ((i : Int) - 1) = ((i - 1 : Nat) : Int) := by rw [wi64 (by omega) (by omega)]; omega
        rw [ew]
        refine ⟨⟨by omega⟩, u[i - 1], ⟨tk1 (mapI hx)⟩, ⟨by omega⟩, u[i], ⟨tk1 (mapI hy)⟩, fun hc => ⟨?_⟩, fun hc => ?_⟩
        · have hc := of_decide_eq_true hc
          have hbad : adjB u = false := by
            cases hb : adjB u with
            | false => rfl
            | true =>
              have := adj_get hb (i - 1) _ _ hx (by rw [show i - 1 + 1 = i by omega]; exact hy)
              omega
          rw [graph_err (e := 8) (by unfold gErr; rw [if_neg h0, if_pos hbad]) (by decide)]
          rfl
        · have hc := of_decide_eq_false hc
          refine ⟨_, ?_, .inl ⟨rfl, h0, i + 1, by omega, hlt, rfl, ?_, rfl, fun k x y h1 h2 hk => ?_⟩⟩
          · omega
          · rw [wi64 (by omega) (by omega)]; rfl
          · by_cases hki : k + 1 < i
            · exact ha k x y h1 h2 hki
            · have : k = i - 1 := by omega
              subst this
              rw [hx] at h1
              rw [show i - 1 + 1 = i by omega, hy] at h2
              cases h1
              cases h2
              omega
      · have h := of_decide_eq_false h
        refine ⟨_, ?_, .inr ⟨rfl, h0, adj_of (fun k x y h1 h2 => ha k x y h1 h2 ?_), 0, Nat.zero_le _, rfl, rfl, .inl ⟨rfl, rfl, rfl⟩⟩⟩
        · omega
        · have := (List.getElem?_eq_some_iff.1 h2).1
          omega
    · show cutP C8 g34 79 34 _ _ 1 [slI u, .isl (acs l) l.length 0 false, .optr 0 0 0, .sc (.slice none 0 0), .isl (acs l) l.length 0 false, I l.length, I 0] ⟨[gr0], []⟩
      rw [nf_d34]
      have hr := rising_of hadj
      refine ⟨fun h => ?_, fun h => ?_⟩
      · have h := of_decide_eq_true h
        have hlt : 0 < l.length := by omega
        have hx : l[0]? = some l[0] := List.getElem?_eq_getElem hlt
        have bad : fndB u l[0] = false → l.all (fndB u) = false := by
          intro hb
          cases hq : l.all (fndB u) with
          | false => rfl
          | true =>
            have := List.all_eq_true.1 hq _ (List.getElem_mem hlt)
            rw [hb] at this
            cases this
        have out : fndB u l[0] = false → (AV.tup [.agg [I 0, .isl [] 0 0 false], I 10]) = graphV u l := fun hb =>
          (graph_err (e := 10) (by unfold gErr; rw [if_neg h0, if_neg (by rw [hadj]; simp), if_pos (bad hb)]) (by decide)).symm
        refine ⟨⟨by omega⟩, l[0].f, l[0].t, l[0].c, l[0].d, l[0].s, ⟨acs_get hx⟩, (u, l[0].f), ⟨by simp only; omega, hr⟩, ⟨rfl⟩, (u, l[0].t), ⟨by simp only; omega, hr⟩, ⟨rfl⟩, fun h1 => ⟨out ?_⟩, fun h1 => ⟨fun h2 => ⟨out ?_⟩, fun h2 => ⟨⟨by decide⟩, ?_⟩⟩⟩
        · simp only [Bool.not_eq_true'] at h1
          simp [fndB, h1]
        · simp only [Bool.not_eq_true'] at h2
          simp [fndB, h2]
        · simp only [Bool.not_eq_false'] at h1 h2
          refine ⟨_, ?_, .inr ⟨rfl, h0, hadj, 1, hlt, ?_, rfl, .inr ⟨0, [I l[0].f, I l[0].t, I l[0].c, I l[0].d, .sc (.string l[0].s)], [I ((lowB l[0].f u : Nat) : Int), I ((lowB l[0].t u : Nat) : Int)], ?_, ?_, rfl, ?_⟩⟩⟩
          · omega
          · rw [show (1 : Nat) = 0 + 1 from rfl, take_snoc hx]
            simp [fndB, h1, h2]
          · rfl
          · rfl
          · rw [show (1 : Nat) = 0 + 1 from rfl, take_snoc hx, eds_snoc]
            rfl
      · have h := of_decide_eq_false h
        have hl0 : l = [] := List.length_eq_zero_iff.1 (by omega)
        subst hl0
        have he : gErr u [] = 0 := by unfold gErr; rw [if_neg h0, if_neg (by rw [hadj]; simp), if_neg (by simp)]
        refine ⟨(u.length, []), ⟨by simp only; omega, by simp, fun e he => by simp at he⟩, ⟨rfl⟩, ⟨?_⟩⟩
        unfold graphV gN gC gL
        rw [he, if_pos rfl, if_pos rfl, if_pos rfl]
        rfl
    · show cutP C8 g34 79 34 _ _ 1 [slI u, .isl (acs l) l.length 0 false, .optr 0 0 0, .osl 3 g 0 2 i i false, .isl (acs l) l.length 0 false, I l.length, I i] ⟨[gr0, .cells c1 0, .cells c2 0, .cells (ecs (eds u (l.take i))) g], []⟩
      rw [nf_e34]
      have hr := rising_of hadj
      have hlen : (ecs (eds u (l.take i))).length = i * 2 := by
        rw [ecs_len]
        unfold eds
        rw [List.length_map, List.length_take]
        omega
      refine ⟨fun h => ?_, fun h => ?_⟩
      · have h := of_decide_eq_true h
        have hlt : i < l.length := by omega
        have hx : l[i]? = some l[i] := List.getElem?_eq_getElem hlt
        have bad : fndB u l[i] = false → l.all (fndB u) = false := by
          intro hb
          cases hq : l.all (fndB u) with
          | false => rfl
          | true =>
            have := List.all_eq_true.1 hq _ (List.getElem_mem hlt)
            rw [hb] at this
            cases this
        have out : fndB u l[i] = false → (AV.tup [.agg [I 0, .isl [] 0 0 false], I 10]) = graphV u l := fun hb =>
          (graph_err (e := 10) (by unfold gErr; rw [if_neg h0, if_neg (by rw [hadj]; simp), if_pos (bad hb)]) (by decide)).symm
        refine ⟨⟨by omega⟩, l[i].f, l[i].t, l[i].c, l[i].d, l[i].s, ⟨by rw [List.drop_zero]; exact acs_get hx⟩, (u, l[i].f), ⟨by simp only; omega, hr⟩, ⟨rfl⟩, (u, l[i].t), ⟨by simp only; omega, hr⟩, ⟨rfl⟩, fun h1 => ⟨out ?_⟩, fun h1 => ⟨fun h2 => ⟨out ?_⟩, fun h2 => ⟨⟨by omega⟩, ⟨by decide, rfl, by omega, by omega⟩, ⟨rfl, hc1, hc2, ?_, trivial⟩, ?_⟩⟩⟩
        · simp only [Bool.not_eq_true'] at h1
          simp [fndB, h1]
        · simp only [Bool.not_eq_true'] at h2
          simp [fndB, h2]
        · show (ecs (eds u (l.take i)) ++ [I _, I _]).all flatA = true
          rw [← eds_snoc]
          exact ecs_flat
        · simp only [Bool.not_eq_false'] at h1 h2
          refine ⟨_, ?_, .inr ⟨rfl, h0, hadj, i + 1, hlt, ?_, rfl, .inr ⟨g + 1, c1, c2, hc1, hc2, ?_, ?_⟩⟩⟩
          · omega
          · rw [take_snoc hx, List.all_append, hfn]
            simp [fndB, h1, h2]
          · rw [wi64 (by omega) (by omega)]; rfl
          · rw [take_snoc hx, eds_snoc]
            rfl
      · have h := of_decide_eq_false h
        have hil' : i = l.length := by omega
        subst hil'
        rw [List.take_length] at hfn hlen ⊢
        have he : gErr u l = 0 := by unfold gErr; rw [if_neg h0, if_neg (by rw [hadj]; simp), if_neg (by rw [hfn]; simp)]
        refine ⟨⟨rfl, by omega, ecs_flat⟩, (u.length, eds u l), ⟨by simp only; omega, by simp only [eds, List.length_map]; omega, eds_inR hfn⟩, ⟨?_⟩, ⟨?_⟩⟩
        · rw [List.take_of_length_le (by omega)]
          simp [eds, I]
        · unfold graphV gN gC gL
          rw [he, if_pos rfl, if_pos rfl, if_pos rfl]
          rfl
end Go.Abs.Sym

