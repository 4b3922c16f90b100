/- BlockingGraphs hands back true, if Known() does. -/
import Derived.Test.YtbndbhglmbjfgaaGreatDoorGrFnB
set_option linter.all false
set_option maxRecDepth 100000
namespace Go.Abs.Sym
open Go Go.Abs Go.Proofs

/-! The law of blocking graphs. -/
theorem acs_inj : ∀ {x y : List ArcV}, acs x = acs y → x = y := by
  intro x
  induction x with
  | nil => intro y h; cases y with
    | nil => rfl
    | cons e y => cases h
  | cons e x ih =>
    intro y h
    cases y with
    | nil => cases h
    | cons f y =>
      simp only [acs, List.cons.injEq] at h
      obtain ⟨h1, h2, h3, h4, h5, h6⟩ := h
      have h5 : e.s = f.s := Value.string.inj (AV.sc.inj h5)
      obtain ⟨a, b, c, d, s⟩ := e
      obtain ⟨a', b', c', d', s'⟩ := f
      simp only at h5
      have := I_inj h1
      have := I_inj h2
      have := I_inj h3
      have := I_inj h4
      simp only at *
      subst_vars
      rw [ih h6]
theorem slA_inj {x y : List ArcV} (h : slA x = slA y) : x = y := by
  unfold slA at h
  simp only [AV.isl.injEq] at h
  exact acs_inj h.1
def fs34 : FSpec := ⟨List Int × List ArcV, fun p => p.1.length ≤ 6 ∧ p.2.length ≤ 10, fun p => [slI p.1, slA p.2], fun p => graphV p.1 p.2⟩
theorem fs34_ok : FSpecOK Tryz.prog 34 fs34 := by
  refine ⟨fun p h => ent34 p.1 p.2 h.1 h.2, fun x y _ _ h => ?_⟩
  obtain ⟨u, l⟩ := x
  obtain ⟨v, m⟩ := y
  have h : [slI u, slA l] = [slI v, slA m] := h
  simp only [List.cons.injEq, and_true] at h
  rw [slI_inj h.1, slA_inj h.2]
def fs35 : FSpec := ⟨List Int × Int, fun p => p.1.length < 1000000, fun p => [slI p.1, I p.2], fun p => I (atV p.2 p.1 0)⟩
theorem fs35_ok : FSpecOK Tryz.prog 35 fs35 := by
  refine ⟨fun p h => ?_, fun x y _ _ h => ?_⟩
  · have := ent35 p.1 p.2 h
    rw [← slI_eq] at this
    exact this
  · obtain ⟨u, a⟩ := x
    obtain ⟨v, b⟩ := y
    have h : [slI u, I a] = [slI v, I b] := h
    simp only [List.cons.injEq, and_true] at h
    rw [slI_inj h.1, I_inj h.2]
def tKn : Tbl := fun k args => if Nat.beq k 13 then (match args with | [] => some (B true) | _ => none) else none
def C9 : Ctx := ⟨tKn, addF 34 fs34 (addF 35 fs35 (addF 36 fs36 noFS)), noSS, noNS, fun _ => false⟩
theorem tKn_ok (hK : EntryOK Tryz.prog 13 [] (B true)) : TblOK Tryz.prog tKn := by
  intro k args r h
  unfold tKn at h
  split at h
  · rename_i hk
    split at h
    · cases h
      rw [Nat.eq_of_beq_eq_true hk]; exact hK
    · cases h
  · cases h
theorem C9_ok (hK : EntryOK Tryz.prog 13 [] (B true)) : C9.OK Tryz.prog := ⟨tKn_ok hK, addF_ok fs34_ok (addF_ok fs35_ok (addF_ok fs36_ok noFS_ok)), noSS_ok, noNS_ok⟩

theorem f7 : FnOK 7 153 := ⟨by kernel_rfl, by kernel_rfl, by kernel_rfl⟩
def g7 : Cfg := ⟨false, [46, 47, 51, 52, 63, 65, 70, 72, 89, 145, 146, 150, 151, 152], [37, 41, 53, 57, 75, 78, 81, 91, 139], [(21, false), (26, false), (94, true), (98, true), (104, true), (114, false), (117, false), (124, false), (133, false), (152, false)],
  [⟨[0, 1, 0, 1, 1, 1, 1, 1], [.b 0, .s [1, 1, 1, 1, 1, 1]], [0, 1, 5, 6, 7, 8], 1⟩, ⟨[0, 1, 0, 1, 1, 1, 1, 1, 1, 1], [.b 2, .s [1, 1, 1, 1, 1, 1, 1, 1]], [0, 1, 5, 6, 7, 9, 10], 3⟩, ⟨[0, 1, 0, 1, 1, 1, 1, 1, 1, 1, 1, 1, 1, 1], [.b 4, .s [1, 1, 1, 1, 1, 1, 1, 1, 1, 1, 1, 1]], [5, 13, 15], 4⟩]⟩
def gO (n : Int) (c : List AV) (m : Nat) : AObj := .cells [I n, .isl c m 0 false] 0
theorem nf_m7 (I' : Nat → List AV → AHeap → Prop) (u : List Int) (c : List AV) (n : Nat) : (runP C9 g7 153 7 I' (B true) [slI u, AV.isl c n 0 false]) = (
  Due (decide ((↑u.length : Int) > 6) = false) ∧ Due (decide ((↑n : Int) > 10) = false) ∧ ∃ (x : List Int × List ArcV), Due (x.1.length ≤ 6 ∧ x.2.length ≤ 10) ∧ Due ([AV.isl (List.map I u) u.length 0 false, AV.isl c n 0 false] = [AV.isl (List.map I x.1) x.1.length 0 false, AV.isl (acs x.2) x.2.length 0 false]) ∧ (((↑u.length : Int) == 0) = true → I' 0 [AV.isl (List.map I u) u.length 0 false, AV.isl c n 0 false, AV.optr 0 0 0, AV.sc (Value.int IntKind.i64 (gErr x.1 x.2)), AV.sc (Value.int IntKind.i64 7), AV.sc (Value.int IntKind.i64 1)] { objs := [AObj.cells [AV.sc (Value.int IntKind.i64 (gN x.1 x.2)), AV.isl (ecs (gC x.1 x.2)) (gL x.1 x.2) 0 false] 0], frz := [] }) ∧ (((↑u.length : Int) == 0) = false → I' 0 [AV.isl (List.map I u) u.length 0 false, AV.isl c n 0 false, AV.optr 0 0 0, AV.sc (Value.int IntKind.i64 (gErr x.1 x.2)), AV.sc (Value.int IntKind.i64 0), AV.sc (Value.int IntKind.i64 1)] { objs := [AObj.cells [AV.sc (Value.int IntKind.i64 (gN x.1 x.2)), AV.isl (ecs (gC x.1 x.2)) (gL x.1 x.2) 0 false] 0], frz := [] })) := by kernel_rfl
theorem nf_c7 (I' : Nat → List AV → AHeap → Prop) (u : List Int) (c : List AV) (n : Nat) (gn : Int) (gc : List AV) (gm : Nat) (er : Int) (w : Int) (i : Int) : (cutP C9 g7 153 7 I' (B true) 0 [slI u, AV.isl c n 0 false, AV.optr 0 0 0, I er, I w, I i] { objs := [gO gn gc gm], frz := [] }) = (
  (decide (i < (↑u.length : Int)) = true → Due (0 ≤ i ∧ i < (↑u.length : Int)) ∧ ∃ (z : Int), Due (List.take 1 (List.drop 0 (List.drop (i.toNat * 1) (List.map I u))) = [AV.sc (Value.int IntKind.i64 z)]) ∧ Due (0 ≤ IntKind.i64.wrap (i - 1) ∧ IntKind.i64.wrap (i - 1) < (↑u.length : Int)) ∧ ∃ (z_1 : Int), Due (List.take 1 (List.drop 0 (List.drop ((IntKind.i64.wrap (i - 1)).toNat * 1) (List.map I u))) = [AV.sc (Value.int IntKind.i64 z_1)]) ∧ (decide (z ≤ z_1) = true → I' 0 [AV.isl (List.map I u) u.length 0 false, AV.isl c n 0 false, AV.optr 0 0 0, AV.sc (Value.int IntKind.i64 er), AV.sc (Value.int IntKind.i64 8), AV.sc (Value.int IntKind.i64 (IntKind.i64.wrap (i + 1)))] { objs := [AObj.cells [AV.sc (Value.int IntKind.i64 gn), AV.isl gc gm 0 false] 0], frz := [] }) ∧ (decide (z ≤ z_1) = false → I' 0 [AV.isl (List.map I u) u.length 0 false, AV.isl c n 0 false, AV.optr 0 0 0, AV.sc (Value.int IntKind.i64 er), AV.sc (Value.int IntKind.i64 w), AV.sc (Value.int IntKind.i64 (IntKind.i64.wrap (i + 1)))] { objs := [AObj.cells [AV.sc (Value.int IntKind.i64 gn), AV.isl gc gm 0 false] 0], frz := [] })) ∧ (decide (i < (↑u.length : Int)) = false → I' 1 [AV.isl (List.map I u) u.length 0 false, AV.isl c n 0 false, AV.optr 0 0 0, AV.sc (Value.int IntKind.i64 er), AV.sc (Value.int IntKind.i64 w), AV.sc (Value.slice none 0 0), AV.sc (Value.int IntKind.i64 0)] { objs := [AObj.cells [AV.sc (Value.int IntKind.i64 gn), AV.isl gc gm 0 false] 0], frz := [] })) := by kernel_rfl
theorem nf_d7 (I' : Nat → List AV → AHeap → Prop) (u : List Int) (c : List AV) (n : Nat) (gn : Int) (gc : List AV) (gm : Nat) (er : Int) (w : Int) : (cutP C9 g7 153 7 I' (B true) 1 [slI u, AV.isl c n 0 false, AV.optr 0 0 0, I er, I w, AV.sc (Value.slice none 0 0), I 0] { objs := [gO gn gc gm], frz := [] }) = (
  (decide (0 < (↑n : Int)) = true → Due ((0 : Int) ≤ 0 ∧ 0 < (↑n : Int)) ∧ ∃ (z : Int), Due (List.take 1 c = [AV.sc (Value.int IntKind.i64 z)]) ∧ ∃ (x : List Int × Int), Due (x.1.length < 1000000) ∧ Due ([AV.isl (List.map I u) u.length 0 false, AV.sc (Value.int IntKind.i64 z)] = [AV.isl (List.map I x.1) x.1.length 0 false, AV.sc (Value.int IntKind.i64 x.2)]) ∧ Due ((0 : Int) ≤ 0 ∧ 0 < (↑n : Int)) ∧ ∃ (z : Int), Due (List.take 1 (List.drop 0 (List.drop 1 c)) = [AV.sc (Value.int IntKind.i64 z)]) ∧ ∃ (x_1 : List Int × Int), Due (x_1.1.length < 1000000) ∧ Due ([AV.isl (List.map I u) u.length 0 false, AV.sc (Value.int IntKind.i64 z)] = [AV.isl (List.map I x_1.1) x_1.1.length 0 false, AV.sc (Value.int IntKind.i64 x_1.2)]) ∧ ((w == 0) = true → (decide (atV x.snd x.fst 0 < 0) = true → Due ((4 * (0 + 1) + 1024) * 16 ≤ 140737488355328) ∧ I' 1 [AV.isl (List.map I u) u.length 0 false, AV.isl c n 0 false, AV.optr 0 0 0, AV.sc (Value.int IntKind.i64 er), AV.sc (Value.int IntKind.i64 10), AV.osl [AObj.cells [AV.sc (Value.int IntKind.i64 gn), AV.isl gc gm 0 false] 0, AObj.cells [AV.sc (Value.int IntKind.i64 (atV x.2 x.1 0)), AV.sc (Value.int IntKind.i64 (atV x_1.2 x_1.1 0))] 0].length 0 0 2 (0 + 1) (0 + 1) false, AV.sc (Value.int IntKind.i64 1)] { objs := [AObj.cells [AV.sc (Value.int IntKind.i64 gn), AV.isl gc gm 0 false] 0, AObj.cells [AV.sc (Value.int IntKind.i64 (atV x.2 x.1 0)), AV.sc (Value.int IntKind.i64 (atV x_1.2 x_1.1 0))] 0, AObj.cells [AV.sc (Value.int IntKind.i64 (atV x.2 x.1 0)), AV.sc (Value.int IntKind.i64 (atV x_1.2 x_1.1 0))] 0], frz := [] }) ∧ (decide (atV x.snd x.fst 0 < 0) = false → (decide (atV x_1.snd x_1.fst 0 < 0) = true → Due ((4 * (0 + 1) + 1024) * 16 ≤ 140737488355328) ∧ I' 1 [AV.isl (List.map I u) u.length 0 false, AV.isl c n 0 false, AV.optr 0 0 0, AV.sc (Value.int IntKind.i64 er), AV.sc (Value.int IntKind.i64 10), AV.osl [AObj.cells [AV.sc (Value.int IntKind.i64 gn), AV.isl gc gm 0 false] 0, AObj.cells [AV.sc (Value.int IntKind.i64 (atV x.2 x.1 0)), AV.sc (Value.int IntKind.i64 (atV x_1.2 x_1.1 0))] 0].length 0 0 2 (0 + 1) (0 + 1) false, AV.sc (Value.int IntKind.i64 1)] { objs := [AObj.cells [AV.sc (Value.int IntKind.i64 gn), AV.isl gc gm 0 false] 0, AObj.cells [AV.sc (Value.int IntKind.i64 (atV x.2 x.1 0)), AV.sc (Value.int IntKind.i64 (atV x_1.2 x_1.1 0))] 0, AObj.cells [AV.sc (Value.int IntKind.i64 (atV x.2 x.1 0)), AV.sc (Value.int IntKind.i64 (atV x_1.2 x_1.1 0))] 0], frz := [] }) ∧ (decide (atV x_1.snd x_1.fst 0 < 0) = false → Due ((4 * (0 + 1) + 1024) * 16 ≤ 140737488355328) ∧ I' 1 [AV.isl (List.map I u) u.length 0 false, AV.isl c n 0 false, AV.optr 0 0 0, AV.sc (Value.int IntKind.i64 er), AV.sc (Value.int IntKind.i64 w), AV.osl [AObj.cells [AV.sc (Value.int IntKind.i64 gn), AV.isl gc gm 0 false] 0, AObj.cells [AV.sc (Value.int IntKind.i64 (atV x.2 x.1 0)), AV.sc (Value.int IntKind.i64 (atV x_1.2 x_1.1 0))] 0].length 0 0 2 (0 + 1) (0 + 1) false, AV.sc (Value.int IntKind.i64 1)] { objs := [AObj.cells [AV.sc (Value.int IntKind.i64 gn), AV.isl gc gm 0 false] 0, AObj.cells [AV.sc (Value.int IntKind.i64 (atV x.2 x.1 0)), AV.sc (Value.int IntKind.i64 (atV x_1.2 x_1.1 0))] 0, AObj.cells [AV.sc (Value.int IntKind.i64 (atV x.2 x.1 0)), AV.sc (Value.int IntKind.i64 (atV x_1.2 x_1.1 0))] 0], frz := [] }))) ∧ ((w == 0) = false → Due ((4 * (0 + 1) + 1024) * 16 ≤ 140737488355328) ∧ I' 1 [AV.isl (List.map I u) u.length 0 false, AV.isl c n 0 false, AV.optr 0 0 0, AV.sc (Value.int IntKind.i64 er), AV.sc (Value.int IntKind.i64 w), AV.osl [AObj.cells [AV.sc (Value.int IntKind.i64 gn), AV.isl gc gm 0 false] 0, AObj.cells [AV.sc (Value.int IntKind.i64 (atV x.2 x.1 0)), AV.sc (Value.int IntKind.i64 (atV x_1.2 x_1.1 0))] 0].length 0 0 2 (0 + 1) (0 + 1) false, AV.sc (Value.int IntKind.i64 1)] { objs := [AObj.cells [AV.sc (Value.int IntKind.i64 gn), AV.isl gc gm 0 false] 0, AObj.cells [AV.sc (Value.int IntKind.i64 (atV x.2 x.1 0)), AV.sc (Value.int IntKind.i64 (atV x_1.2 x_1.1 0))] 0, AObj.cells [AV.sc (Value.int IntKind.i64 (atV x.2 x.1 0)), AV.sc (Value.int IntKind.i64 (atV x_1.2 x_1.1 0))] 0], frz := [] })) ∧ (decide (0 < (↑n : Int)) = false → ((w != 0) = true → Due ((er == w) = true) ∧ Due ((gn == 0) = true) ∧ Due (((↑gm : Int) == 0) = true) ∧ Due (AV.sc (Value.bool true) = AV.sc (Value.bool true))) ∧ ((w != 0) = false → ∃ (x : Nat × List (Int × Int)), Due (x.1 ≤ 64 ∧ x.2.length ≤ 12 ∧ ∀ (e : Int × Int), e ∈ x.snd → 0 ≤ e.fst ∧ e.fst < (↑x.fst : Int) ∧ 0 ≤ e.snd ∧ e.snd < (↑x.fst : Int)) ∧ Due ([AV.sc (Value.int IntKind.i64 (↑u.length : Int)), AV.isl [] 0 0 false] = [AV.sc (Value.int IntKind.i64 (↑x.1 : Int)), AV.isl (ecs x.2) x.2.length 0 false]) ∧ Due ((er != 0) = false) ∧ Due (false = false) ∧ Due ((gn != (↑x.1 : Int)) = false) ∧ Due (((↑gm : Int) != (↑(compE (isortE x.2)).2 : Int)) = false) ∧ I' 2 [AV.optr 0 0 0, AV.optr [AObj.cells [AV.sc (Value.int IntKind.i64 gn), AV.isl gc gm 0 false] 0].length 0 0, AV.sc (Value.int IntKind.i64 0)] { objs := [AObj.cells [AV.sc (Value.int IntKind.i64 gn), AV.isl gc gm 0 false] 0, AObj.cells [AV.sc (Value.int IntKind.i64 (↑x.1 : Int)), AV.isl (ecs (makeE x.2)) (compE (isortE x.2)).2 0 false] 0], frz := [] }))) := by kernel_rfl
theorem nf_e7 (I' : Nat → List AV → AHeap → Prop) (u : List Int) (c : List AV) (n : Nat) (gn : Int) (gc : List AV) (gm : Nat) (er : Int) (w : Int) (c1 : List AV) (es : List AV) (g : Nat) (m : Nat) (i : Int) : (cutP C9 g7 153 7 I' (B true) 1 [slI u, AV.isl c n 0 false, AV.optr 0 0 0, I er, I w, AV.osl 2 g 0 2 m m false, I i] { objs := [gO gn gc gm, AObj.cells c1 0, AObj.cells es g], frz := [] }) = (
  (decide (i < (↑n : Int)) = true → Due (0 ≤ i ∧ i < (↑n : Int)) ∧ ∃ (z : Int), Due (List.take 1 (List.drop 0 (List.drop 0 (List.drop (i.toNat * 5) c))) = [AV.sc (Value.int IntKind.i64 z)]) ∧ ∃ (x : List Int × Int), Due (x.1.length < 1000000) ∧ Due ([AV.isl (List.map I u) u.length 0 false, AV.sc (Value.int IntKind.i64 z)] = [AV.isl (List.map I x.1) x.1.length 0 false, AV.sc (Value.int IntKind.i64 x.2)]) ∧ Due (0 ≤ i ∧ i < (↑n : Int)) ∧ ∃ (z : Int), Due (List.take 1 (List.drop 0 (List.drop 1 (List.drop (i.toNat * 5) c))) = [AV.sc (Value.int IntKind.i64 z)]) ∧ ∃ (x_1 : List Int × Int), Due (x_1.1.length < 1000000) ∧ Due ([AV.isl (List.map I u) u.length 0 false, AV.sc (Value.int IntKind.i64 z)] = [AV.isl (List.map I x_1.1) x_1.1.length 0 false, AV.sc (Value.int IntKind.i64 x_1.2)]) ∧ ((w == 0) = true → (decide (atV x.snd x.fst 0 < 0) = true → Due ((4 * (m + 1) + 1024) * 16 ≤ 140737488355328) ∧ Due (1 ≠ 0 ∧ g = g ∧ m < m + 1 ∧ 0 + m * 2 = es.length) ∧ Due (flatOs [AObj.cells [AV.sc (Value.int IntKind.i64 gn), AV.isl gc gm 0 false] 0, AObj.cells c1 0, AObj.cells (es ++ [AV.sc (Value.int IntKind.i64 (atV x.2 x.1 0)), AV.sc (Value.int IntKind.i64 (atV x_1.2 x_1.1 0))]) (g + 1)]) ∧ I' 1 [AV.isl (List.map I u) u.length 0 false, AV.isl c n 0 false, AV.optr 0 0 0, AV.sc (Value.int IntKind.i64 er), AV.sc (Value.int IntKind.i64 10), AV.osl 2 (g + 1) 0 2 (m + 1) (m + 1) false, AV.sc (Value.int IntKind.i64 (IntKind.i64.wrap (i + 1)))] { objs := [AObj.cells [AV.sc (Value.int IntKind.i64 gn), AV.isl gc gm 0 false] 0, AObj.cells c1 0, AObj.cells (es ++ [AV.sc (Value.int IntKind.i64 (atV x.2 x.1 0)), AV.sc (Value.int IntKind.i64 (atV x_1.2 x_1.1 0))]) (g + 1)], frz := [] }) ∧ (decide (atV x.snd x.fst 0 < 0) = false → (decide (atV x_1.snd x_1.fst 0 < 0) = true → Due ((4 * (m + 1) + 1024) * 16 ≤ 140737488355328) ∧ Due (1 ≠ 0 ∧ g = g ∧ m < m + 1 ∧ 0 + m * 2 = es.length) ∧ Due (flatOs [AObj.cells [AV.sc (Value.int IntKind.i64 gn), AV.isl gc gm 0 false] 0, AObj.cells c1 0, AObj.cells (es ++ [AV.sc (Value.int IntKind.i64 (atV x.2 x.1 0)), AV.sc (Value.int IntKind.i64 (atV x_1.2 x_1.1 0))]) (g + 1)]) ∧ I' 1 [AV.isl (List.map I u) u.length 0 false, AV.isl c n 0 false, AV.optr 0 0 0, AV.sc (Value.int IntKind.i64 er), AV.sc (Value.int IntKind.i64 10), AV.osl 2 (g + 1) 0 2 (m + 1) (m + 1) false, AV.sc (Value.int IntKind.i64 (IntKind.i64.wrap (i + 1)))] { objs := [AObj.cells [AV.sc (Value.int IntKind.i64 gn), AV.isl gc gm 0 false] 0, AObj.cells c1 0, AObj.cells (es ++ [AV.sc (Value.int IntKind.i64 (atV x.2 x.1 0)), AV.sc (Value.int IntKind.i64 (atV x_1.2 x_1.1 0))]) (g + 1)], frz := [] }) ∧ (decide (atV x_1.snd x_1.fst 0 < 0) = false → Due ((4 * (m + 1) + 1024) * 16 ≤ 140737488355328) ∧ Due (1 ≠ 0 ∧ g = g ∧ m < m + 1 ∧ 0 + m * 2 = es.length) ∧ Due (flatOs [AObj.cells [AV.sc (Value.int IntKind.i64 gn), AV.isl gc gm 0 false] 0, AObj.cells c1 0, AObj.cells (es ++ [AV.sc (Value.int IntKind.i64 (atV x.2 x.1 0)), AV.sc (Value.int IntKind.i64 (atV x_1.2 x_1.1 0))]) (g + 1)]) ∧ I' 1 [AV.isl (List.map I u) u.length 0 false, AV.isl c n 0 false, AV.optr 0 0 0, AV.sc (Value.int IntKind.i64 er), AV.sc (Value.int IntKind.i64 w), AV.osl 2 (g + 1) 0 2 (m + 1) (m + 1) false, AV.sc (Value.int IntKind.i64 (IntKind.i64.wrap (i + 1)))] { objs := [AObj.cells [AV.sc (Value.int IntKind.i64 gn), AV.isl gc gm 0 false] 0, AObj.cells c1 0, AObj.cells (es ++ [AV.sc (Value.int IntKind.i64 (atV x.2 x.1 0)), AV.sc (Value.int IntKind.i64 (atV x_1.2 x_1.1 0))]) (g + 1)], frz := [] }))) ∧ ((w == 0) = false → Due ((4 * (m + 1) + 1024) * 16 ≤ 140737488355328) ∧ Due (1 ≠ 0 ∧ g = g ∧ m < m + 1 ∧ 0 + m * 2 = es.length) ∧ Due (flatOs [AObj.cells [AV.sc (Value.int IntKind.i64 gn), AV.isl gc gm 0 false] 0, AObj.cells c1 0, AObj.cells (es ++ [AV.sc (Value.int IntKind.i64 (atV x.2 x.1 0)), AV.sc (Value.int IntKind.i64 (atV x_1.2 x_1.1 0))]) (g + 1)]) ∧ I' 1 [AV.isl (List.map I u) u.length 0 false, AV.isl c n 0 false, AV.optr 0 0 0, AV.sc (Value.int IntKind.i64 er), AV.sc (Value.int IntKind.i64 w), AV.osl 2 (g + 1) 0 2 (m + 1) (m + 1) false, AV.sc (Value.int IntKind.i64 (IntKind.i64.wrap (i + 1)))] { objs := [AObj.cells [AV.sc (Value.int IntKind.i64 gn), AV.isl gc gm 0 false] 0, AObj.cells c1 0, AObj.cells (es ++ [AV.sc (Value.int IntKind.i64 (atV x.2 x.1 0)), AV.sc (Value.int IntKind.i64 (atV x_1.2 x_1.1 0))]) (g + 1)], frz := [] })) ∧ (decide (i < (↑n : Int)) = false → ((w != 0) = true → Due ((er == w) = true) ∧ Due ((gn == 0) = true) ∧ Due (((↑gm : Int) == 0) = true) ∧ Due (AV.sc (Value.bool true) = AV.sc (Value.bool true))) ∧ ((w != 0) = false → Due (g = g ∧ 0 + m * 2 ≤ es.length ∧ es.all flatA = true) ∧ ∃ (x : Nat × List (Int × Int)), Due (x.1 ≤ 64 ∧ x.2.length ≤ 12 ∧ ∀ (e : Int × Int), e ∈ x.snd → 0 ≤ e.fst ∧ e.fst < (↑x.fst : Int) ∧ 0 ≤ e.snd ∧ e.snd < (↑x.fst : Int)) ∧ Due ([AV.sc (Value.int IntKind.i64 (↑u.length : Int)), AV.isl (List.take (m * 2) es) m 0 false] = [AV.sc (Value.int IntKind.i64 (↑x.1 : Int)), AV.isl (ecs x.2) x.2.length 0 false]) ∧ Due ((er != 0) = false) ∧ Due (false = false) ∧ Due ((gn != (↑x.1 : Int)) = false) ∧ Due (((↑gm : Int) != (↑(compE (isortE x.2)).2 : Int)) = false) ∧ I' 2 [AV.optr 0 0 0, AV.optr [AObj.cells [AV.sc (Value.int IntKind.i64 gn), AV.isl gc gm 0 false] 0, AObj.cells c1 0, AObj.cells es g].length 0 0, AV.sc (Value.int IntKind.i64 0)] { objs := [AObj.cells [AV.sc (Value.int IntKind.i64 gn), AV.isl gc gm 0 false] 0, AObj.cells c1 0, AObj.cells es g, AObj.cells [AV.sc (Value.int IntKind.i64 (↑x.1 : Int)), AV.isl (ecs (makeE x.2)) (compE (isortE x.2)).2 0 false] 0], frz := [2] }))) := by kernel_rfl
theorem nf_h7 (I' : Nat → List AV → AHeap → Prop) (gn : Int) (gn2 : Int) (gc : List AV) (gc2 : List AV) (gm : Nat) (gm2 : Nat) (q : Int) : (cutP C9 g7 153 7 I' (B true) 2 [AV.optr 0 0 0, AV.optr 1 0 0, I q] { objs := [gO gn gc gm, gO gn2 gc2 gm2], frz := [] }) = (
  (decide (q < (↑gm : Int)) = true → Due (0 ≤ q ∧ q < (↑gm : Int)) ∧ ∃ (z : Int), ∃ (z_1 : Int), Due (List.take 2 (List.drop 0 (List.drop (q.toNat * 2) gc)) = [AV.sc (Value.int IntKind.i64 z), AV.sc (Value.int IntKind.i64 z_1)]) ∧ Due (0 ≤ q ∧ q < (↑gm2 : Int)) ∧ ∃ (z_2 : Int), ∃ (z_3 : Int), Due (List.take 2 (List.drop 0 (List.drop (q.toNat * 2) gc2)) = [AV.sc (Value.int IntKind.i64 z_2), AV.sc (Value.int IntKind.i64 z_3)]) ∧ Due ((!(z == z_2 && z_1 == z_3)) = false) ∧ I' 2 [AV.optr 0 0 0, AV.optr 1 0 0, AV.sc (Value.int IntKind.i64 (IntKind.i64.wrap (q + 1)))] { objs := [AObj.cells [AV.sc (Value.int IntKind.i64 gn), AV.isl gc gm 0 false] 0, AObj.cells [AV.sc (Value.int IntKind.i64 gn2), AV.isl gc2 gm2 0 false] 0], frz := [] }) ∧ (decide (q < (↑gm : Int)) = false → Due (AV.sc (Value.bool true) = AV.sc (Value.bool true)))) := by kernel_rfl
theorem nf_k7 (I' : Nat → List AV → AHeap → Prop) (gn : Int) (gn2 : Int) (gc : List AV) (gc2 : List AV) (gm : Nat) (gm2 : Nat) (c1 : List AV) (es : List AV) (g : Nat) (q : Int) : (cutP C9 g7 153 7 I' (B true) 2 [AV.optr 0 0 0, AV.optr 3 0 0, I q] { objs := [gO gn gc gm, AObj.cells c1 0, AObj.cells es g, gO gn2 gc2 gm2], frz := [2] }) = (
  (decide (q < (↑gm : Int)) = true → Due (0 ≤ q ∧ q < (↑gm : Int)) ∧ ∃ (z : Int), ∃ (z_1 : Int), Due (List.take 2 (List.drop 0 (List.drop (q.toNat * 2) gc)) = [AV.sc (Value.int IntKind.i64 z), AV.sc (Value.int IntKind.i64 z_1)]) ∧ Due (0 ≤ q ∧ q < (↑gm2 : Int)) ∧ ∃ (z_2 : Int), ∃ (z_3 : Int), Due (List.take 2 (List.drop 0 (List.drop (q.toNat * 2) gc2)) = [AV.sc (Value.int IntKind.i64 z_2), AV.sc (Value.int IntKind.i64 z_3)]) ∧ Due ((!(z == z_2 && z_1 == z_3)) = false) ∧ I' 2 [AV.optr 0 0 0, AV.optr 3 0 0, AV.sc (Value.int IntKind.i64 (IntKind.i64.wrap (q + 1)))] { objs := [AObj.cells [AV.sc (Value.int IntKind.i64 gn), AV.isl gc gm 0 false] 0, AObj.cells c1 0, AObj.cells es g, AObj.cells [AV.sc (Value.int IntKind.i64 gn2), AV.isl gc2 gm2 0 false] 0], frz := [2] }) ∧ (decide (q < (↑gm : Int)) = false → Due (AV.sc (Value.bool true) = AV.sc (Value.bool true)))) := by kernel_rfl

theorem atV_low {x : Int} : ∀ {u : List Int} (i : Int), Rising u → atV x u i = if foundB x u then i + (lowB x u : Nat) else -1 := by
  intro u
  induction u with
  | nil => intro i _; rfl
  | cons y u ih =>
    intro i hr
    have hr' : Rising u := fun a b p q h1 h2 h => hr (a + 1) (b + 1) p q (by simpa using h1) (by simpa using h2) (by omega)
    rw [atV_cons]
    by_cases hy : y < x
    · have e1 : lowB x (y :: u) = lowB x u + 1 := by
        unfold lowB
        rw [List.takeWhile_cons, if_pos (by simpa using hy)]
        rfl
      have e2 : foundB x (y :: u) = foundB x u := by
        unfold foundB
        rw [e1]
        rfl
      rw [if_neg (by omega), e1, e2, ih (i + 1) hr']
      split
      · omega
      · rfl
    · have e1 : lowB x (y :: u) = 0 := by
        unfold lowB
        rw [List.takeWhile_cons, if_neg (by simpa using hy)]
        rfl
      by_cases he : y = x
      · subst he
        have e2 : foundB y (y :: u) = true := by
          unfold foundB
          rw [e1]
          simp
        rw [if_pos rfl, e2, e1]
        simp
      · have e2 : foundB x (y :: u) = false := by
          unfold foundB
          rw [e1]
          simp [he]
        have e3 : foundB x u = false := by
          cases hf : foundB x u with
          | false => rfl
          | true =>
            unfold foundB at hf
            have hf := of_decide_eq_true hf
            have := hr 0 (lowB x u + 1) y x rfl (by simpa using hf) (by omega)
            omega
        rw [if_neg he, e2, ih (i + 1) hr', e3]
        rfl

def w0 (u : List Int) : Int := if u.length = 0 then 7 else if adjB u = false then 8 else 0
def wv (u : List Int) (l : List ArcV) (i : Nat) : Int := if w0 u ≠ 0 then w0 u else if (l.take i).all (fndB u) = false then 10 else 0
def avs (u : List Int) (l : List ArcV) : List (Int × Int) := l.map fun a => (atV a.f u 0, atV a.t u 0)
theorem w0_adj {u : List Int} (h : w0 u = 0) : u.length ≠ 0 ∧ adjB u = true := by
  unfold w0 at h
  split at h
  · cases h
  · split at h
    · cases h
    · rename_i h1 h2
      exact ⟨h1, by simpa using h2⟩
theorem gErr_wv {u : List Int} {l : List ArcV} : gErr u l = wv u l l.length := by
  unfold gErr wv w0
  rw [List.take_length]
  split
  · rfl
  · split
    · rfl
    · simp
theorem found_at {u : List Int} {x : Int} (h : adjB u = true) : foundB x u = decide (0 ≤ atV x u 0) := by
  rw [atV_low 0 (rising_of h)]
  cases foundB x u with
  | true => simp
  | false => rfl
theorem wv_step {u : List Int} {l : List ArcV} {i : Nat} {a : ArcV} (hx : l[i]? = some a) : wv u l (i + 1) = if wv u l i = 0 ∧ (atV a.f u 0 < 0 ∨ atV a.t u 0 < 0) then 10 else wv u l i := by
  by_cases h0 : w0 u = 0
  · obtain ⟨_, hadj⟩ := w0_adj h0
    have e : ∀ k, wv u l k = if (l.take k).all (fndB u) = false then 10 else 0 := fun k => by unfold wv; rw [if_neg (by simp [h0])]
    rw [e, e, take_snoc hx, List.all_append]
    have e2 : [a].all (fndB u) = (decide (0 ≤ atV a.f u 0) && decide (0 ≤ atV a.t u 0)) := by
      simp [fndB, found_at hadj]
    rw [e2]
    cases (l.take i).all (fndB u) with
    | false => simp
    | true =>
      simp only [Bool.true_and]
      by_cases h1 : 0 ≤ atV a.f u 0
      · by_cases h2 : 0 ≤ atV a.t u 0
        · simp [h1, h2]
        · simp [h1, h2]
      · simp [h1]
  · have e : ∀ k, wv u l k = w0 u := fun k => by unfold wv; rw [if_pos h0]
    rw [e, e, if_neg (fun h => h0 h.1)]
theorem avs_snoc {u : List Int} {l : List ArcV} {a : ArcV} : ecs (avs u (l ++ [a])) = ecs (avs u l) ++ [I (atV a.f u 0), I (atV a.t u 0)] := by
  unfold avs
  rw [List.map_append, ecs_app]
  rfl
theorem avs_eds {u : List Int} {l : List ArcV} (h : adjB u = true) (hf : l.all (fndB u) = true) : avs u l = eds u l := by
  unfold avs eds
  refine List.map_congr_left (fun a ha => ?_)
  have := List.all_eq_true.1 hf a ha
  simp only [fndB, Bool.and_eq_true] at this
  rw [atV_low 0 (rising_of h), atV_low 0 (rising_of h), this.1, this.2]
  simp
theorem acs_drop : ∀ {l : List ArcV} {i : Nat} {a : ArcV}, l[i]? = some a → ∃ r, List.drop (i * 5) (acs l) = I a.f :: I a.t :: r := by
  intro l
  induction l with
  | nil => intro i a h; simp at h
  | cons x l ih =>
    intro i a h
    cases i with
    | zero => simp at h; subst h; exact ⟨_, rfl⟩
    | succ i =>
      obtain ⟨r, hr⟩ := ih (i := i) (by simpa using h)
      refine ⟨r, ?_⟩
      rw [show (i + 1) * 5 = i * 5 + 1 + 1 + 1 + 1 + 1 by omega]
      exact hr
theorem makeE_len {es : List (Int × Int)} : (makeE es).length = (compE (isortE es)).2 := by
  obtain ⟨h1, h2⟩ := cOut_len ((isortE es).length - 1) 1 (isortE es)
  unfold makeE
  rw [List.length_take]
  have : (compE (isortE es)).1.length = (isortE es).length := h2
  have : (compE (isortE es)).2 ≤ (isortE es).length := h1
  omega

theorem gC_small {u : List Int} {l : List ArcV} : (gC u l).length ≤ l.length := by
  unfold gC
  split
  · rw [makeE_len]
    obtain ⟨h1, _⟩ := cOut_len ((isortE (eds u l)).length - 1) 1 (isortE (eds u l))
    have h2 : (compE (isortE (eds u l))).2 ≤ (isortE (eds u l)).length := h1
    rw [isortE_len] at h2
    simpa [eds] using h2
  · simp
def gG (u : List Int) (l : List ArcV) : AObj := gO (gN u l) (ecs (gC u l)) (gL u l)
/-- What holds at the heads of the law's three loops. -/
def I7 (u : List Int) (l : List ArcV) (m j : Nat) (vals : List AV) (H : AHeap) : Prop :=
      (j = 0 ∧ ∃ (i : Nat) (w : Int), 1 ≤ i ∧ i ≤ u.length + 1 ∧ m = (u.length + 1 - i) + l.length + (compE (isortE (avs u l))).2 + 3 ∧ vals = [slI u, slA l, .optr 0 0 0, I (gErr u l), I w, I i] ∧ H = ⟨[gG u l], []⟩ ∧
        ((w = (if u.length = 0 then 7 else 0) ∧ ∀ (k : Nat) (x y : Int), u[k]? = some x → u[k + 1]? = some y → k + 1 < i → x < y) ∨ (w = 8 ∧ adjB u = false ∧ u.length ≠ 0))) ∨
      (j = 1 ∧ ∃ i : Nat, i ≤ l.length ∧ m = l.length - i + (compE (isortE (avs u l))).2 + 2 ∧
        ((i = 0 ∧ vals = [slI u, slA l, .optr 0 0 0, I (gErr u l), I (wv u l 0), .sc (.slice none 0 0), I 0] ∧ H = ⟨[gG u l], []⟩) ∨
         (∃ (g : Nat) (c1 : List AV), c1.all flatA = true ∧ vals = [slI u, slA l, .optr 0 0 0, I (gErr u l), I (wv u l i), .osl 2 g 0 2 i i false, I i] ∧ H = ⟨[gG u l, .cells c1 0, .cells (ecs (avs u (l.take i))) g], []⟩))) ∨
      (j = 2 ∧ ∃ q : Nat, q ≤ gL u l ∧ m = (compE (isortE (avs u l))).2 - q ∧ gL u l = (compE (isortE (avs u l))).2 ∧ (gC u l).length = gL u l ∧ ∃ gn2 : Int,
        ((vals = [.optr 0 0 0, .optr 1 0 0, I q] ∧ H = ⟨[gG u l, gO gn2 (ecs (gC u l)) (gL u l)], []⟩) ∨
         (∃ (g : Nat) (c1 es : List AV), vals = [.optr 0 0 0, .optr 3 0 0, I q] ∧ H = ⟨[gG u l, .cells c1 0, .cells es g, gO gn2 (ecs (gC u l)) (gL u l)], [2]⟩)))

set_option maxHeartbeats 1000000 in
theorem ent7 (hK : EntryOK Tryz.prog 13 [] (B true)) (u : List Int) (l : List ArcV) (hu : u.length ≤ 6) (hl : l.length ≤ 10) : EntryOK Tryz.prog 7 [slI u, slA l] (B true) := by
  -- the end, where edges are compared
  have fin : ∀ {es : List (Int × Int)}, gErr u l = 0 → es = eds u l → gN u l = u.length ∧ gC u l = makeE es ∧ gL u l = (compE (isortE es)).2 := by
    intro es he hes
    subst hes
    unfold gN gC gL
    rw [he, if_pos rfl, if_pos rfl, if_pos rfl]
    exact ⟨rfl, rfl, rfl⟩
  refine pureW (g := g7) (C9_ok hK) f7 rfl (by simp) (I7 u l) ?_ ?_
  · show runP C9 g7 153 7 _ _ [slI u, .isl (acs l) l.length 0 false]
    rw [nf_m7]
    refine ⟨⟨by simp; omega⟩, ⟨by simp; omega⟩, (u, l), ⟨hu, hl⟩, ⟨rfl⟩, fun h => ?_, fun h => ?_⟩
    · have h0 : u.length = 0 := by simpa using h
      exact ⟨_, .inl ⟨rfl, 1, 7, Nat.le_refl _, by omega, rfl, rfl, rfl, .inl ⟨by rw [if_pos h0], fun k x y _ _ h => by omega⟩⟩⟩
    · have h0 : u.length ≠ 0 := by simpa using h
      exact ⟨_, .inl ⟨rfl, 1, 0, Nat.le_refl _, by omega, rfl, rfl, rfl, .inl ⟨by rw [if_neg h0], fun k x y _ _ h => by omega⟩⟩⟩
  · intro m j vals H hj hI
    rcases hI with ⟨rfl, i, w, hi1, hiu, rfl, rfl, rfl, hw⟩ | ⟨rfl, i, hil, rfl, ⟨rfl, rfl, rfl⟩ | ⟨g, c1, hc1, rfl, rfl⟩⟩ | ⟨rfl, q, hq, rfl, hgl, hgc, gn2, ⟨rfl, rfl⟩ | ⟨g, c1, es, rfl, rfl⟩⟩
    · show cutP C9 g7 153 7 _ _ 0 [slI u, .isl (acs l) l.length 0 false, .optr 0 0 0, I (gErr u l), I w, I i] ⟨[gO (gN u l) (ecs (gC u l)) (gL u l)], []⟩
      rw [nf_c7]
      refine ⟨fun h => ?_, fun h => ?_⟩
      · have h := of_decide_eq_true h
        have hlt : i < u.length := by omega
        have hx : u[i]? = some u[i] := List.getElem?_eq_getElem hlt
        have hy : u[i - 1]? = some u[i - 1] := List.getElem?_eq_getElem (by omega)
        have ew : IntKind.i64.wrap ((i : Int) - 1) = ((i - 1 : Nat) : Int) := by rw [wi64 (by omega) (by omega)]; omega
        have ei : IntKind.i64.wrap ((i : Int) + 1) = ((i + 1 : Nat) : Int) := by rw [wi64 (by omega) (by omega)]; rfl
        rw [ew, ei]
        refine ⟨⟨by omega⟩, u[i], ⟨tk1 (mapI hx)⟩, ⟨by omega⟩, u[i - 1], ⟨tk1 (mapI hy)⟩, fun hc => ?_, fun hc => ?_⟩
        · have hc := of_decide_eq_true hc
          refine ⟨_, ?_, .inl ⟨rfl, i + 1, 8, by omega, by omega, rfl, rfl, rfl, .inr ⟨rfl, ?_, by omega⟩⟩⟩
          · omega
          · cases hb : adjB u with
            | false => rfl
            | true =>
              have := adj_get hb (i - 1) _ _ hy (by rw [show i - 1 + 1 = i by omega]; exact hx)
              omega
        · have hc := of_decide_eq_false hc
          refine ⟨_, ?_, .inl ⟨rfl, i + 1, w, by omega, by omega, rfl, rfl, rfl, ?_⟩⟩
          · omega
          · rcases hw with ⟨hw, ha⟩ | hw
            · refine .inl ⟨hw, fun k x y h1 h2 hk => ?_⟩
              by_cases hki : k + 1 < i
              · exact ha k x y h1 h2 hki
              · have : k = i - 1 := by omega
                subst this
                rw [hy] at h1
                rw [show i - 1 + 1 = i by omega, hx] at h2
                cases h1
                cases h2
                omega
            · exact .inr hw
      · have h := of_decide_eq_false h
        have hw0 : w = wv u l 0 := by
          have e : wv u l 0 = w0 u := by
            unfold wv
            by_cases h0 : w0 u = 0
            · rw [if_neg (by simp [h0]), h0]
              rfl
            · rw [if_pos h0]
          rw [e]
          unfold w0
          rcases hw with ⟨rfl, ha⟩ | ⟨rfl, hb, h0⟩
          · by_cases h0 : u.length = 0
            · rw [if_pos h0, if_pos h0]
            · rw [if_neg h0, if_neg h0, if_neg (by
                rw [adj_of (fun k x y h1 h2 => ha k x y h1 h2 (by have := (List.getElem?_eq_some_iff.1 h2).1; omega))]
                simp)]
          · rw [if_neg h0, if_pos hb]
        refine ⟨_, ?_, .inr (.inl ⟨rfl, 0, Nat.zero_le _, rfl, .inl ⟨rfl, ?_, rfl⟩⟩)⟩
        · omega
        · rw [hw0]; rfl
    · show cutP C9 g7 153 7 _ _ 1 [slI u, .isl (acs l) l.length 0 false, .optr 0 0 0, I (gErr u l), I (wv u l 0), .sc (.slice none 0 0), I 0] ⟨[gO (gN u l) (ecs (gC u l)) (gL u l)], []⟩
      rw [nf_d7]
      refine ⟨fun h => ?_, fun h => ⟨fun hw => ?_, fun hw => ?_⟩⟩
      · have h := of_decide_eq_true h
        have hlt : 0 < l.length := by omega
        have hx : l[0]? = some l[0] := List.getElem?_eq_getElem hlt
        obtain ⟨r, hr⟩ := acs_drop hx
        rw [Nat.zero_mul, List.drop_zero] at hr
        have hst := wv_step (u := u) hx
        have go : ∀ w' : Int, wv u l 1 = w' → ∃ m', m' < l.length - 0 + (compE (isortE (avs u l))).2 + 2 ∧ I7 u l m' 1 [slI u, slA l, .optr 0 0 0, I (gErr u l), I w', .osl 2 0 0 2 1 1 false, I 1]
            ⟨[gO (gN u l) (ecs (gC u l)) (gL u l), .cells [I (atV l[0].f u 0), I (atV l[0].t u 0)] 0, .cells [I (atV l[0].f u 0), I (atV l[0].t u 0)] 0], []⟩ := by
          intro w' hw'
          subst hw'
          refine ⟨_, ?_, .inr (.inl ⟨rfl, 1, hlt, rfl, .inr ⟨0, [I (atV l[0].f u 0), I (atV l[0].t u 0)], rfl, rfl, ?_⟩⟩)⟩
          · omega
          · rw [show (1 : Nat) = 0 + 1 from rfl, take_snoc hx, avs_snoc]
            rfl
        refine ⟨⟨by omega⟩, l[0].f, ⟨by rw [hr]; rfl⟩, (u, l[0].f), ⟨by simp only; omega⟩, ⟨rfl⟩, ⟨by omega⟩, l[0].t, ⟨by rw [hr]; rfl⟩, (u, l[0].t), ⟨by simp only; omega⟩, ⟨rfl⟩, fun h0 => ⟨fun h1 => ⟨⟨by decide⟩, go 10 ?_⟩, fun h1 => ⟨fun h2 => ⟨⟨by decide⟩, go 10 ?_⟩, fun h2 => ⟨⟨by decide⟩, go _ ?_⟩⟩⟩, fun h0 => ⟨⟨by decide⟩, go _ ?_⟩⟩
        · have h0 : wv u l 0 = 0 := by simpa using h0
          have h1 := of_decide_eq_true h1
          rw [hst, if_pos ⟨h0, .inl h1⟩]
        · have h0 : wv u l 0 = 0 := by simpa using h0
          have h2 := of_decide_eq_true h2
          rw [hst, if_pos ⟨h0, .inr h2⟩]
        · have h1 := of_decide_eq_false h1
          have h2 := of_decide_eq_false h2
          rw [hst, if_neg (fun h => h.2.elim h1 h2)]
        · have h0 : wv u l 0 ≠ 0 := by simpa using h0
          rw [hst, if_neg (fun h => h0 h.1)]
      · have h := of_decide_eq_false h
        have hl0 : l = [] := List.length_eq_zero_iff.1 (by omega)
        subst hl0
        have hw : wv u [] 0 ≠ 0 := by simpa using hw
        have he : gErr u [] = wv u [] 0 := gErr_wv
        refine ⟨⟨by rw [he]; simp⟩, ⟨?_⟩, ⟨?_⟩, ⟨rfl⟩⟩
        · unfold gN; rw [he, if_neg hw]; rfl
        · unfold gL; rw [he, if_neg hw]; rfl
      · have h := of_decide_eq_false h
        have hl0 : l = [] := List.length_eq_zero_iff.1 (by omega)
        subst hl0
        have hw : wv u [] 0 = 0 := by simpa using hw
        have he : gErr u [] = 0 := gErr_wv.trans hw
        obtain ⟨f1, f2, f3⟩ := fin (es := []) he rfl
        refine ⟨(u.length, []), ⟨by simp only; omega, by simp, fun e he => by simp at he⟩, ⟨rfl⟩, ⟨by rw [he]; rfl⟩, ⟨rfl⟩, ⟨by rw [f1]; simp⟩, ⟨by rw [f3]; simp⟩, ?_⟩
        refine ⟨_, ?_, .inr (.inr ⟨rfl, 0, Nat.zero_le _, rfl, f3, ?_, (u.length : Int), .inl ⟨rfl, ?_⟩⟩)⟩
        · simp [avs]
        · rw [f2, f3]; exact makeE_len
        · unfold gG; rw [f2, f3]; rfl
    · show cutP C9 g7 153 7 _ _ 1 [slI u, .isl (acs l) l.length 0 false, .optr 0 0 0, I (gErr u l), I (wv u l i), .osl 2 g 0 2 i i false, I i] ⟨[gO (gN u l) (ecs (gC u l)) (gL u l), .cells c1 0, .cells (ecs (avs u (l.take i))) g], []⟩
      rw [nf_e7]
      have hlen : (ecs (avs u (l.take i))).length = i * 2 := by
        rw [ecs_len]
        unfold avs
        rw [List.length_map, List.length_take]
        omega
      refine ⟨fun h => ?_, fun h => ⟨fun hw => ?_, fun hw => ⟨⟨rfl, by omega, ecs_flat⟩, ?_⟩⟩⟩
      · have h := of_decide_eq_true h
        have hlt : i < l.length := by omega
        have hx : l[i]? = some l[i] := List.getElem?_eq_getElem hlt
        obtain ⟨r, hr⟩ := acs_drop hx
        have hst := wv_step (u := u) hx
        have en : ((i : Nat) : Int).toNat = i := by omega
        have ei : IntKind.i64.wrap ((i : Int) + 1) = ((i + 1 : Nat) : Int) := by rw [wi64 (by omega) (by omega)]; rfl
        rw [en, hr, ei]
        have go : ∀ w' : Int, wv u l (i + 1) = w' → ∃ m', m' < l.length - i + (compE (isortE (avs u l))).2 + 2 ∧ I7 u l m' 1 [slI u, slA l, .optr 0 0 0, I (gErr u l), I w', .osl 2 (g + 1) 0 2 (i + 1) (i + 1) false, I ((i + 1 : Nat) : Int)]
            ⟨[gO (gN u l) (ecs (gC u l)) (gL u l), .cells c1 0, .cells (ecs (avs u (l.take i)) ++ [I (atV l[i].f u 0), I (atV l[i].t u 0)]) (g + 1)], []⟩ := by
          intro w' hw'
          subst hw'
          refine ⟨_, ?_, .inr (.inl ⟨rfl, i + 1, hlt, rfl, .inr ⟨g + 1, c1, hc1, rfl, ?_⟩⟩)⟩
          · omega
          · rw [take_snoc hx, avs_snoc]
            rfl
        have fl : flatOs [.cells [I (gN u l), .isl (ecs (gC u l)) (gL u l) 0 false] 0, .cells c1 0, .cells (ecs (avs u (l.take i)) ++ [I (atV l[i].f u 0), I (atV l[i].t u 0)]) (g + 1)] := by
          refine ⟨rfl, hc1, ?_, trivial⟩
          show (ecs (avs u (l.take i)) ++ [I _, I _]).all flatA = true
          rw [← avs_snoc]
          exact ecs_flat
        have app : (1 : Nat) ≠ 0 ∧ g = g ∧ i < i + 1 ∧ 0 + i * 2 = (ecs (avs u (l.take i))).length := ⟨by decide, rfl, by omega, by omega⟩
        refine ⟨⟨by omega⟩, l[i].f, ⟨rfl⟩, (u, l[i].f), ⟨by simp only; omega⟩, ⟨rfl⟩, ⟨by omega⟩, l[i].t, ⟨rfl⟩, (u, l[i].t), ⟨by simp only; omega⟩, ⟨rfl⟩, fun h0 => ⟨fun h1 => ⟨⟨by omega⟩, ⟨app⟩, ⟨fl⟩, go 10 ?_⟩, fun h1 => ⟨fun h2 => ⟨⟨by omega⟩, ⟨app⟩, ⟨fl⟩, go 10 ?_⟩, fun h2 => ⟨⟨by omega⟩, ⟨app⟩, ⟨fl⟩, go _ ?_⟩⟩⟩, fun h0 => ⟨⟨by omega⟩, ⟨app⟩, ⟨fl⟩, go _ ?_⟩⟩
        · have h0 : wv u l i = 0 := by simpa using h0
          have h1 := of_decide_eq_true h1
          rw [hst, if_pos ⟨h0, .inl h1⟩]
        · have h0 : wv u l i = 0 := by simpa using h0
          have h2 := of_decide_eq_true h2
          rw [hst, if_pos ⟨h0, .inr h2⟩]
        · have h1 := of_decide_eq_false h1
          have h2 := of_decide_eq_false h2
          rw [hst, if_neg (fun h => h.2.elim h1 h2)]
        · have h0 : wv u l i ≠ 0 := by simpa using h0
          rw [hst, if_neg (fun h => h0 h.1)]
      · have h := of_decide_eq_false h
        have hil' : i = l.length := by omega
        subst hil'
        have hw : wv u l l.length ≠ 0 := by simpa using hw
        have he : gErr u l = wv u l l.length := gErr_wv
        refine ⟨⟨by rw [he]; simp⟩, ⟨?_⟩, ⟨?_⟩, ⟨rfl⟩⟩
        · unfold gN; rw [he, if_neg hw]; rfl
        · unfold gL; rw [he, if_neg hw]; rfl
      · have h := of_decide_eq_false h
        have hil' : i = l.length := by omega
        subst hil'
        rw [List.take_length] at hlen ⊢
        have hw : wv u l l.length = 0 := by simpa using hw
        have he : gErr u l = 0 := gErr_wv.trans hw
        have hw0 : w0 u = 0 := by
          cases hq : decide (w0 u = 0) with
          | true => exact of_decide_eq_true hq
          | false =>
            have hq := of_decide_eq_false hq
            unfold wv at hw
            rw [if_pos hq] at hw
            exact absurd hw hq
        obtain ⟨h0, hadj⟩ := w0_adj hw0
        have hfn : l.all (fndB u) = true := by
          unfold wv at hw
          rw [if_neg (by simp [hw0]), List.take_length] at hw
          cases hq : l.all (fndB u) with
          | true => rfl
          | false => rw [hq] at hw; cases hw
        have hae : avs u l = eds u l := avs_eds hadj hfn
        obtain ⟨f1, f2, f3⟩ := fin he hae
        refine ⟨(u.length, avs u l), ⟨by simp only; omega, by simp only [avs, List.length_map]; omega, by rw [hae]; exact eds_inR hfn⟩, ⟨?_⟩, ⟨by rw [he]; rfl⟩, ⟨rfl⟩, ⟨by rw [f1]; simp⟩, ⟨by rw [f3]; simp⟩, ?_⟩
        · rw [List.take_of_length_le (by omega)]
          simp [avs]
        refine ⟨_, ?_, .inr (.inr ⟨rfl, 0, Nat.zero_le _, rfl, f3, ?_, (u.length : Int), .inr ⟨g, c1, ecs (avs u l), rfl, ?_⟩⟩)⟩
        · omega
        · rw [f2, f3]; exact makeE_len
        · unfold gG; rw [f2, f3]; rfl
    · show cutP C9 g7 153 7 _ _ 2 [.optr 0 0 0, .optr 1 0 0, I q] ⟨[gO (gN u l) (ecs (gC u l)) (gL u l), gO gn2 (ecs (gC u l)) (gL u l)], []⟩
      rw [nf_h7]
      refine ⟨fun h => ?_, fun _ => ⟨rfl⟩⟩
      have h := of_decide_eq_true h
      have hlt : q < (gC u l).length := by omega
      have hx : (gC u l)[q]? = some (gC u l)[q] := List.getElem?_eq_getElem hlt
      refine ⟨⟨by omega⟩, _, _, ⟨tk2 hx⟩, ⟨by omega⟩, _, _, ⟨tk2 hx⟩, ⟨by simp⟩, ?_⟩
      refine ⟨_, ?_, .inr (.inr ⟨rfl, q + 1, by omega, rfl, hgl, hgc, gn2, .inl ⟨?_, rfl⟩⟩)⟩
      · omega
      · rw [wi64 (by omega) (by have := gC_small (u := u) (l := l); omega)]; rfl
    · show cutP C9 g7 153 7 _ _ 2 [.optr 0 0 0, .optr 3 0 0, I q] ⟨[gO (gN u l) (ecs (gC u l)) (gL u l), .cells c1 0, .cells es g, gO gn2 (ecs (gC u l)) (gL u l)], [2]⟩
      rw [nf_k7]
      refine ⟨fun h => ?_, fun _ => ⟨rfl⟩⟩
      have h := of_decide_eq_true h
      have hlt : q < (gC u l).length := by omega
      have hx : (gC u l)[q]? = some (gC u l)[q] := List.getElem?_eq_getElem hlt
      refine ⟨⟨by omega⟩, _, _, ⟨tk2 hx⟩, ⟨by omega⟩, _, _, ⟨tk2 hx⟩, ⟨by simp⟩, ?_⟩
      refine ⟨_, ?_, .inr (.inr ⟨rfl, q + 1, by omega, rfl, hgl, hgc, gn2, .inr ⟨g, c1, es, ?_, rfl⟩⟩)⟩
      · omega
      · rw [wi64 (by omega) (by have := gC_small (u := u) (l := l); omega)]; rfl
end Go.Abs.Sym

set_option maxRecDepth 100000
namespace Go.Abs.Sym
open Go Go.Abs Go.Proofs

/-! The law of blocking graphs, where a list is longer than the law looks into. -/
def g7a : Cfg := ⟨false, [], [], [(21, true)], []⟩
def g7b : Cfg := ⟨false, [], [], [(21, false), (26, true)], []⟩
theorem nf_o7 (I' : Nat → List AV → AHeap → Prop) (a : Nat) (b : Nat) : (runP C9 g7a 153 7 I' (B true) [AV.isl [] a 0 false, AV.isl [] b 0 false]) = (
  Due (decide ((↑a : Int) > 6) = true) ∧ Due (AV.sc (Value.bool true) = AV.sc (Value.bool true))) := by kernel_rfl
theorem nf_q7 (I' : Nat → List AV → AHeap → Prop) (a : Nat) (b : Nat) : (runP C9 g7b 153 7 I' (B true) [AV.isl [] a 0 false, AV.isl [] b 0 false]) = (
  Due (decide ((↑a : Int) > 6) = false) ∧ Due (decide ((↑b : Int) > 10) = true) ∧ Due (AV.sc (Value.bool true) = AV.sc (Value.bool true))) := by kernel_rfl
theorem ent7o (hK : EntryOK Tryz.prog 13 [] (B true)) (a b : Nat) (h : 6 < a ∨ 10 < b) : EntryOK Tryz.prog 7 [.isl [] a 0 false, .isl [] b 0 false] (B true) := by
  cases ha : decide (6 < a) with
  | true =>
    have ha := of_decide_eq_true ha
    refine pureW0 (g := g7a) (C9_ok hK) f7 rfl rfl (by simp) (by rw [nf_o7]; exact ⟨⟨decide_eq_true (by omega)⟩, ⟨rfl⟩⟩)
  | false =>
    have ha := of_decide_eq_false ha
    refine pureW0 (g := g7b) (C9_ok hK) f7 rfl rfl (by simp) (by rw [nf_q7]; exact ⟨⟨decide_eq_false (by omega)⟩, ⟨decide_eq_true (by omega)⟩, ⟨rfl⟩⟩)
end Go.Abs.Sym

