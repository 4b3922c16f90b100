/- What cmp.Compare, cmp.Or, slices.BinarySearch, slices.SortFunc and slices.Clone compute. -/
import Derived.Test.YtbndbhglmbjfgaaGreatDoorGrSymB
set_option linter.all false
set_option maxRecDepth 100000
namespace Go.Abs.Sym
open Go Go.Abs Go.Proofs

/-! Comparisons of ints; the order of edges; a node that does not exist. -/

def pureM : FuncId → Mode := fun _ => .pure
theorem ev {T : Tbl} (hT : TblOK Tryz.prog T) {k : Nat} {args : List AV} {r : AV} (h : evalT Tryz.prog pureM T 60 k args = .ok r) : EntryOK Tryz.prog k args r := evalT_ok mixed nong hT h

theorem e208 (x : Int) : evalT Tryz.prog pureM noT 60 208 [I x] = .ok (B (!(decide (x = x)))) := by kernel_rfl
theorem e143 (x : Int) : evalT Tryz.prog pureM noT 60 143 [I x] = .ok (B (!(decide (x = x)))) := by kernel_rfl

def tNaN : Tbl := fun k args =>
  if Nat.beq k 208 || Nat.beq k 143 then
    match args with
    | [.sc (.int .i64 _)] => some (B false)
    | _ => none
  else none

theorem tNaN_ok : TblOK Tryz.prog tNaN := by
  intro k args r h
  unfold tNaN at h
  split at h
  · rename_i hk
    split at h
    · rename_i x
      cases h
      simp only [Bool.or_eq_true] at hk
      rcases hk with hk | hk
      · rw [Nat.eq_of_beq_eq_true hk]
        have := ev noT_ok (e208 x)
        rw [show (!(decide (x = x))) = false by simp] at this
        exact this
      · rw [Nat.eq_of_beq_eq_true hk]
        have := ev noT_ok (e143 x)
        rw [show (!(decide (x = x))) = false by simp] at this
        exact this
    · cases h
  · cases h

theorem e142 (x y : Int) : evalT Tryz.prog pureM tNaN 60 142 [I x, I y] = .ok (B (decide (x < y))) := by kernel_rfl

def cmp3 (x y : Int) : Int := if x < y then -1 else if y < x then 1 else 0
def or2v (p q : Int) : Int := if p = 0 then q else p

def C1 : Ctx := ⟨tNaN, noFS, noSS, noNS, fun _ => false⟩
theorem C1_ok : C1.OK Tryz.prog := ⟨tNaN_ok, noFS_ok, noSS_ok, noNS_ok⟩

theorem f147 : FnOK 147 20 := ⟨by kernel_rfl, by kernel_rfl, by kernel_rfl⟩
theorem f146 : FnOK 146 18 := ⟨by kernel_rfl, by kernel_rfl, by kernel_rfl⟩
theorem f78 : FnOK 78 12 := ⟨by kernel_rfl, by kernel_rfl, by kernel_rfl⟩
theorem f35 : FnOK 35 19 := ⟨by kernel_rfl, by kernel_rfl, by kernel_rfl⟩
theorem f77 : FnOK 77 54 := ⟨by kernel_rfl, by kernel_rfl, by kernel_rfl⟩
theorem nf_147 (x : Int) (y : Int) (r : AV) : (runP C1 ⟨false, [], [16, 19], [], []⟩ 20 147 (fun _ _ _ => False) r [I x, I y]) = (
  (decide (x < y) = true → Due (AV.sc (Value.int IntKind.i64 (-1)) = r)) ∧ (decide (x < y) = false → (decide (x > y) = true → Due (AV.sc (Value.int IntKind.i64 1) = r)) ∧ (decide (x > y) = false → Due (AV.sc (Value.int IntKind.i64 0) = r)))) := by kernel_rfl
theorem nf_146 (p : Int) (q : Int) (r : AV) : (runP C1 ⟨false, [], [14], [], []⟩ 18 146 (fun _ _ _ => False) r [sl [I p, I q]]) = (
  ((p != 0) = true → Due (AV.sc (Value.int IntKind.i64 p) = r)) ∧ ((p != 0) = false → ((q != 0) = true → Due (AV.sc (Value.int IntKind.i64 q) = r)) ∧ ((q != 0) = false → Due (AV.sc (Value.int IntKind.i64 0) = r)))) := by kernel_rfl
theorem nf_78 (n : Int) (x : Int) (r : AV) : (runP C1 ⟨false, [], [6], [], []⟩ 12 78 (fun _ _ _ => False) r [I n, I x]) = (
  (decide (x < 0) = true → Due (AV.sc (Value.bool true) = r)) ∧ (decide (x < 0) = false → Due (AV.sc (Value.bool (decide (x ≥ n))) = r))) := by kernel_rfl

theorem ent147 (x y : Int) : EntryOK Tryz.prog 147 [I x, I y] (I (cmp3 x y)) := by
  refine pureW0 (g := ⟨false, [], [16, 19], [], []⟩) C1_ok f147 rfl rfl (by simp) ?_
  rw [nf_147]
  refine ⟨fun h => ⟨?_⟩, fun h => ⟨fun h2 => ⟨?_⟩, fun h2 => ⟨?_⟩⟩⟩
  · have h := of_decide_eq_true h
    unfold cmp3
    rw [if_pos h]; rfl
  · have h := of_decide_eq_false h
    have h2 := of_decide_eq_true h2
    unfold cmp3
    rw [if_neg h, if_pos h2]; rfl
  · have h := of_decide_eq_false h
    have h2 := of_decide_eq_false h2
    unfold cmp3
    rw [if_neg h, if_neg h2]; rfl

theorem ent146 (p q : Int) : EntryOK Tryz.prog 146 [sl [I p, I q]] (I (or2v p q)) := by
  refine pureW0 (g := ⟨false, [], [14], [], []⟩) C1_ok f146 rfl rfl (by simp) ?_
  rw [nf_146]
  unfold or2v
  refine ⟨fun h => ⟨?_⟩, fun h => ⟨fun h2 => ⟨?_⟩, fun h2 => ⟨?_⟩⟩⟩
  · simp at h
    rw [if_neg h]; rfl
  · simp at h
    rw [if_pos h]; rfl
  · simp at h h2
    rw [if_pos h, h2]; rfl

def byV (n x : Int) : Bool := decide (x < 0) || decide (x ≥ n)
theorem ent78 (n x : Int) : EntryOK Tryz.prog 78 [I n, I x] (B (byV n x)) := by
  refine pureW0 (g := ⟨false, [], [6], [], []⟩) C1_ok f78 rfl rfl (by simp) ?_
  rw [nf_78]
  unfold byV
  refine ⟨fun h => ⟨?_⟩, fun h => ⟨?_⟩⟩
  · rw [h]; rfl
  · rw [h]; rfl

/-! Numbers of a width. -/
theorem wi64 {x : Int} (h1 : -9223372036854775808 ≤ x) (h2 : x < 9223372036854775808) : IntKind.i64.wrap x = x := by
  unfold IntKind.wrap
  simp only [show IntKind.i64.bits = 64 from rfl, show IntKind.i64.signed = true from rfl, Bool.true_and]
  split <;> rename_i h <;> simp at h <;> omega
theorem wu64 {x : Int} (h1 : 0 ≤ x) (h2 : x < 18446744073709551616) : IntKind.u64.wrap x = x := by
  unfold IntKind.wrap
  simp only [show IntKind.u64.bits = 64 from rfl, show IntKind.u64.signed = false from rfl, Bool.false_and]
  simp
  omega
theorem wu32 {x : Int} (h1 : 0 ≤ x) (h2 : x < 4294967296) : IntKind.u32.wrap x = x := by
  unfold IntKind.wrap
  simp only [show IntKind.u32.bits = 32 from rfl, show IntKind.u32.signed = false from rfl, Bool.false_and]
  simp
  omega

theorem tk1 {cs : List AV} {i : Nat} {v : AV} (h : cs[i]? = some v) : List.take 1 (List.drop 0 (List.drop (i * 1) cs)) = [v] := by
  rw [List.drop_zero, Nat.mul_one]
  obtain ⟨hl, rfl⟩ := List.getElem?_eq_some_iff.1 h
  rw [List.drop_eq_getElem_cons hl]
  rfl

theorem mapI {u : List Int} {i : Nat} {z : Int} (h : u[i]? = some z) : (u.map I)[i]? = some (I z) := by rw [List.getElem?_map, h]; rfl

def g35 : Cfg := ⟨false, [14, 15], [9, 17], [], [⟨[0, 1, 0, 1], [.b 0, .s [1, 1]], [0, 1, 5], 0⟩]⟩
theorem nf_m35 (I' : Nat → List AV → AHeap → Prop) (l : List AV) (x : Int) (r : AV) : (runP C1 g35 19 35 I' r [sl l, I x]) = (
  I' 0 [AV.isl l l.length 0 false, AV.sc (Value.int IntKind.i64 x), AV.sc (Value.int IntKind.i64 0)] { objs := [], frz := [] }) := by kernel_rfl
theorem nf_c35 (I' : Nat → List AV → AHeap → Prop) (l : List AV) (x : Int) (i : Int) (r : AV) : (cutP C1 g35 19 35 I' r 0 [sl l, I x, I i] { objs := [], frz := [] }) = (
  (decide (i < ↑l.length) = true → Due (0 ≤ i ∧ i < ↑l.length) ∧ ∃ z, Due (List.take 1 (List.drop 0 (List.drop (i.toNat * 1) l)) = [AV.sc (Value.int IntKind.i64 z)]) ∧ ((z == x) = true → Due (AV.sc (Value.int IntKind.i64 i) = r)) ∧ ((z == x) = false → I' 0 [AV.isl l l.length 0 false, AV.sc (Value.int IntKind.i64 x), AV.sc (Value.int IntKind.i64 (IntKind.i64.wrap (i + 1)))] { objs := [], frz := [] })) ∧ (decide (i < ↑l.length) = false → Due (AV.sc (Value.int IntKind.i64 (-1)) = r))) := by kernel_rfl

/-- The index of the first that is x, counted from i; -1 if there is none. -/
def atV (x : Int) : List Int → Int → Int
  | [], _ => -1
  | y :: l, i => if y = x then i else atV x l (i + 1)

theorem atV_cons {x y : Int} {l : List Int} {i : Int} : atV x (y :: l) i = if y = x then i else atV x l (i + 1) := rfl

theorem ent35 (u : List Int) (x : Int) (hu : u.length < 1000000) : EntryOK Tryz.prog 35 [sl (u.map I), I x] (I (atV x u 0)) := by
  refine pureW (g := g35) C1_ok f35 rfl (by simp) (fun m j vals H => ∃ i : Nat, i ≤ u.length ∧ m = u.length - i ∧ vals = [sl (u.map I), I x, I i] ∧ H = ⟨[], []⟩ ∧ atV x (u.drop i) i = atV x u 0) ?_ ?_
  · rw [nf_m35]
    exact ⟨_, 0, Nat.zero_le _, rfl, rfl, rfl, rfl⟩
  · intro m j vals H hj hI
    have hj : j = 0 := by simpa [g35] using hj
    subst hj
    obtain ⟨i, hi, rfl, rfl, rfl, ha⟩ := hI
    rw [nf_c35]
    have hlen : (u.map I).length = u.length := by simp
    refine ⟨fun h => ⟨⟨?_⟩, ?_⟩, fun h => ⟨?_⟩⟩
    · have h := of_decide_eq_true h
      omega
    · have h := of_decide_eq_true h
      have hlt : i < u.length := by rw [hlen] at h; omega
      have hz : u[i]? = some u[i] := List.getElem?_eq_getElem hlt
      refine ⟨u[i], ⟨tk1 (mapI hz)⟩, fun hq => ⟨?_⟩, fun hq => ?_⟩
      · rw [List.drop_eq_getElem_cons hlt] at ha
        rw [atV_cons, if_pos (by simpa using hq)] at ha
        rw [← ha]; rfl
      · refine ⟨_, ?_, i + 1, hlt, rfl, ?_, rfl, ?_⟩
        · omega
        · rw [wi64 (by omega) (by omega)]; rfl
        · rw [List.drop_eq_getElem_cons hlt] at ha
          rw [atV_cons, if_neg (by simpa using hq)] at ha
          rw [← ha]; rfl
    · have h := of_decide_eq_false h
      have : i = u.length := by rw [hlen] at h; omega
      subst this
      rw [List.drop_length] at ha
      rw [← ha]; rfl

def tLess : Tbl := fun k args =>
  if Nat.beq k 142 then
    match args with
    | [.sc (.int .i64 x), .sc (.int .i64 y)] => some (B (decide (x < y)))
    | _ => none
  else none
theorem tLess_ok : TblOK Tryz.prog tLess := by
  intro k args r h
  unfold tLess at h
  split at h
  · rename_i hk
    split at h
    · rename_i x y
      cases h
      rw [Nat.eq_of_beq_eq_true hk]; exact ev tNaN_ok (e142 x y)
    · cases h
  · cases h
def C2 : Ctx := ⟨extT tNaN tLess, noFS, noSS, noNS, fun _ => false⟩
theorem C2_ok : C2.OK Tryz.prog := ⟨extT_ok tNaN_ok tLess_ok, noFS_ok, noSS_ok, noNS_ok⟩
def g77 : Cfg := ⟨false, [24, 25, 38, 39, 45, 46], [15, 27, 34, 41], [], [⟨[0, 0, 1, 1, 1], [.b 0, .s [1, 1, 1, 1]], [0, 1, 6, 7, 8], 0⟩]⟩
theorem nf_m77 (I' : Nat → List AV → AHeap → Prop) (l : List AV) (x : Int) (r : AV) : (runP C2 g77 54 77 I' r [sl l, I x]) = (
  I' 0 [AV.isl l l.length 0 false, AV.sc (Value.int IntKind.i64 x), AV.sc (Value.int IntKind.i64 ↑l.length), AV.sc (Value.int IntKind.i64 0), AV.sc (Value.int IntKind.i64 ↑l.length)] { objs := [], frz := [] }) := by kernel_rfl
theorem nf_c77 (I' : Nat → List AV → AHeap → Prop) (l : List AV) (x : Int) (i : Int) (j : Int) (r : AV) : (cutP C2 g77 54 77 I' r 0 [sl l, I x, I ↑l.length, I i, I j] { objs := [], frz := [] }) = (
  (decide (i < j) = true → Due (0 ≤ IntKind.i64.wrap ((IntKind.u64.wrap (IntKind.i64.wrap (i + j))).fdiv 2) ∧ IntKind.i64.wrap ((IntKind.u64.wrap (IntKind.i64.wrap (i + j))).fdiv 2) < ↑l.length) ∧ ∃ z, Due (List.take 1 (List.drop 0 (List.drop ((IntKind.i64.wrap ((IntKind.u64.wrap (IntKind.i64.wrap (i + j))).fdiv 2)).toNat * 1) l)) = [AV.sc (Value.int IntKind.i64 z)]) ∧ (decide (z < x) = true → I' 0 [AV.isl l l.length 0 false, AV.sc (Value.int IntKind.i64 x), AV.sc (Value.int IntKind.i64 ↑l.length), AV.sc (Value.int IntKind.i64 (IntKind.i64.wrap (IntKind.i64.wrap ((IntKind.u64.wrap (IntKind.i64.wrap (i + j))).fdiv 2) + 1))), AV.sc (Value.int IntKind.i64 j)] { objs := [], frz := [] }) ∧ (decide (z < x) = false → I' 0 [AV.isl l l.length 0 false, AV.sc (Value.int IntKind.i64 x), AV.sc (Value.int IntKind.i64 ↑l.length), AV.sc (Value.int IntKind.i64 i), AV.sc (Value.int IntKind.i64 (IntKind.i64.wrap ((IntKind.u64.wrap (IntKind.i64.wrap (i + j))).fdiv 2)))] { objs := [], frz := [] })) ∧ (decide (i < j) = false → (decide (i < ↑l.length) = true → Due (0 ≤ i ∧ i < ↑l.length) ∧ ∃ z, Due (List.take 1 (List.drop 0 (List.drop (i.toNat * 1) l)) = [AV.sc (Value.int IntKind.i64 z)]) ∧ ((z == x) = true → Due (AV.tup [AV.sc (Value.int IntKind.i64 i), AV.sc (Value.bool true)] = r)) ∧ ((z == x) = false → Due (0 ≤ i ∧ i < ↑l.length) ∧ ∃ z, Due (List.take 1 (List.drop 0 (List.drop (i.toNat * 1) l)) = [AV.sc (Value.int IntKind.i64 z)]) ∧ Due (AV.tup [AV.sc (Value.int IntKind.i64 i), AV.sc (Value.bool false)] = r))) ∧ (decide (i < ↑l.length) = false → Due (AV.tup [AV.sc (Value.int IntKind.i64 i), AV.sc (Value.bool false)] = r)))) := by kernel_rfl
/-- How many at the list's head are less than x. -/
def lowB (x : Int) (u : List Int) : Nat := (u.takeWhile fun y => decide (y < x)).length

theorem lowB_eq {x : Int} : ∀ {u : List Int} {i : Nat}, i ≤ u.length → (∀ k y, u[k]? = some y → k < i → y < x) → (∀ y, u[i]? = some y → ¬ y < x) → lowB x u = i := by
  intro u
  induction u with
  | nil => intro i hi _ _; simp at hi; subst hi; rfl
  | cons y u ih =>
    intro i hi h1 h2
    cases i with
    | zero =>
      have := h2 y rfl
      unfold lowB
      rw [List.takeWhile_cons, if_neg (by simpa using this)]
      rfl
    | succ i =>
      have := h1 0 y rfl (Nat.succ_pos _)
      unfold lowB at ih ⊢
      rw [List.takeWhile_cons, if_pos (by simpa using this), List.length_cons, ih (i := i) (by simpa using hi) (fun k z hk hlt => h1 (k + 1) z (by simpa using hk) (by omega)) (fun z hz => h2 z (by simpa using hz))]

theorem mid {i j : Nat} (h : i + j < 4000000) : IntKind.i64.wrap ((IntKind.u64.wrap (IntKind.i64.wrap ((i : Int) + j))).fdiv 2) = (((i + j) / 2 : Nat) : Int) := by
  rw [wi64 (x := (i : Int) + j) (by omega) (by omega), wu64 (x := (i : Int) + j) (by omega) (by omega), Int.fdiv_eq_ediv_of_nonneg _ (by omega), wi64 (by omega) (by omega)]
  omega

def Rising (u : List Int) : Prop := ∀ (a b : Nat) (x y : Int), u[a]? = some x → u[b]? = some y → a < b → x < y

theorem ent77 (u : List Int) (x : Int) (hu : u.length < 1000000) (hr : Rising u) : EntryOK Tryz.prog 77 [sl (u.map I), I x] (.tup [I (lowB x u), B (decide (u[lowB x u]? = some x))]) := by
  refine pureW (g := g77) C2_ok f77 rfl (by simp) (fun m _ vals H => ∃ i j : Nat, i ≤ j ∧ j ≤ u.length ∧ m = j - i ∧ vals = [sl (u.map I), I x, I u.length, I i, I j] ∧ H = ⟨[], []⟩ ∧ (∀ k y, u[k]? = some y → k < i → y < x) ∧ ∀ k y, u[k]? = some y → j ≤ k → ¬ y < x) ?_ ?_
  · rw [nf_m77]
    refine ⟨_, 0, u.length, Nat.zero_le _, Nat.le_refl _, rfl, by simp [sl, I], rfl, fun k y _ h => absurd h (Nat.not_lt_zero _), fun k y h hk => ?_⟩
    rw [List.getElem?_eq_none hk] at h
    cases h
  · intro m q vals H hq hI
    have hq : q = 0 := by simpa [g77] using hq
    subst hq
    obtain ⟨i, j, hij, hj, rfl, rfl, rfl, h1, h2⟩ := hI
    have hlen : (u.map I).length = u.length := by simp
    have e : ([sl (u.map I), I x, I u.length, I i, I j] : List AV) = [sl (u.map I), I x, I (u.map I).length, I i, I j] := by rw [hlen]
    rw [e, nf_c77, mid (by omega)]
    refine ⟨fun h => ?_, fun h => ?_⟩
    · have h := of_decide_eq_true h
      have hlt : (i + j) / 2 < u.length := by omega
      have hz : u[(i + j) / 2]? = some u[(i + j) / 2] := List.getElem?_eq_getElem hlt
      refine ⟨⟨by omega⟩, u[(i + j) / 2], ⟨tk1 (mapI hz)⟩, fun hc => ?_, fun hc => ?_⟩
      · have hc := of_decide_eq_true hc
        refine ⟨_, ?_, (i + j) / 2 + 1, j, by omega, hj, rfl, ?_, rfl, fun k y hk hlt' => ?_, h2⟩
        · omega
        · rw [wi64 (by omega) (by omega)]; simp [sl, I]
        · rcases Nat.lt_or_ge k ((i + j) / 2) with hk' | hk'
          · exact Int.lt_trans (hr _ _ _ _ hk hz hk') hc
          · have : k = (i + j) / 2 := by omega
            subst this
            rw [hz] at hk
            cases hk
            exact hc
      · have hc := of_decide_eq_false hc
        refine ⟨_, ?_, i, (i + j) / 2, by omega, by omega, rfl, by simp [sl, I], rfl, h1, fun k y hk hle => ?_⟩
        · omega
        · rcases Nat.lt_or_ge ((i + j) / 2) k with hk' | hk'
          · have := hr _ _ _ _ hz hk hk'
            omega
          · have : k = (i + j) / 2 := by omega
            subst this
            rw [hz] at hk
            cases hk
            exact hc
    · have h := of_decide_eq_false h
      have : j = i := by omega
      subst this
      have hl : lowB x u = j := lowB_eq hj h1 (fun y hy => h2 j y hy (Nat.le_refl _))
      rw [hl]
      refine ⟨fun h => ⟨⟨by have := of_decide_eq_true h; omega⟩, ?_⟩, fun h => ⟨?_⟩⟩
      · have h := of_decide_eq_true h
        have hlt : j < u.length := by omega
        have hz : u[j]? = some u[j] := List.getElem?_eq_getElem hlt
        refine ⟨u[j], ⟨tk1 (mapI hz)⟩, fun hc => ⟨?_⟩, fun hc => ⟨⟨by omega⟩, u[j], ⟨tk1 (mapI hz)⟩, ⟨?_⟩⟩⟩
        · have : u[j] = x := by simpa using hc
          rw [hz, this]
          simp [I, B]
        · have : u[j] ≠ x := by simpa using hc
          rw [hz]
          simp [I, B, this]
      · have h := of_decide_eq_false h
        rw [List.getElem?_eq_none (by omega)]
        simp [I, B]
end Go.Abs.Sym

set_option maxRecDepth 100000
namespace Go.Abs.Sym
open Go Go.Abs Go.Proofs

/-! Sorting edges. -/

/-- The cells of edges. -/
def ecs : List (Int × Int) → List AV
  | [] => []
  | e :: l => I e.1 :: I e.2 :: ecs l

def ordE (a b c d : Int) : Int := or2v (cmp3 a c) (cmp3 b d)
def tCmp : Tbl := fun k args =>
  if Nat.beq k 147 then
    match args with
    | [.sc (.int .i64 x), .sc (.int .i64 y)] => some (I (cmp3 x y))
    | _ => none
  else if Nat.beq k 146 then
    match args with
    | [.isl [.sc (.int .i64 p), .sc (.int .i64 q)] 2 _ _] => some (I (or2v p q))
    | _ => none
  else none

theorem tCmp_ok : TblOK Tryz.prog tCmp := by
  intro k args r h
  unfold tCmp at h
  split at h
  · rename_i hk
    split at h
    · rename_i x y
      cases h
      rw [Nat.eq_of_beq_eq_true hk]; exact ent147 x y
    · cases h
  · split at h
    · rename_i hk
      split at h
      · rename_i p q _ _
        cases h
        rw [Nat.eq_of_beq_eq_true hk]
        exact EntryOK.wkArgs (ent146 p q)
      · cases h
    · cases h

theorem e81 (a b c d : Int) : evalT Tryz.prog pureM tCmp 60 81 [.agg [I a, I b], .agg [I c, I d]] = .ok (I (ordE a b c d)) := by kernel_rfl
def tOrd : Tbl := fun k args =>
  if Nat.beq k 81 then
    match args with
    | [.agg [.sc (.int .i64 a), .sc (.int .i64 b)], .agg [.sc (.int .i64 c), .sc (.int .i64 d)]] => some (I (ordE a b c d))
    | _ => none
  else none
theorem tOrd_ok : TblOK Tryz.prog tOrd := by
  intro k args r h
  unfold tOrd at h
  split at h
  · rename_i hk
    split at h
    · rename_i a b c d
      cases h
      rw [Nat.eq_of_beq_eq_true hk]; exact ev tCmp_ok (e81 a b c d)
    · cases h
  · cases h

def shSort : FuncId → Bool := fun k => Nat.beq k 79 || Nat.beq k 80 || Nat.beq k 82 || Nat.beq k 144 || Nat.beq k 209
def C3 : Ctx := ⟨tOrd, noFS, noSS, noNS, shSort⟩
theorem C3_ok : C3.OK Tryz.prog := ⟨tOrd_ok, noFS_ok, noSS_ok, noNS_ok⟩
def fOrd : AV := .fn (.func 81) [] []

/-! Heaps with room for a region's objects. -/
theorem trimTo_app {os : List AObj} {k : Nat} : trimTo os.length (os ++ List.replicate k .dead) = os := by
  induction os with
  | nil =>
    have : ∀ k, dropDead (List.replicate k AObj.dead) = [] := by
      intro k
      induction k with
      | zero => rfl
      | succ k ih => rw [List.replicate_succ, dropDead, ih]
    exact this k
  | cons o os ih => simp only [List.length_cons, List.cons_append, trimTo, ih]
theorem get_app {os ds : List AObj} {b : Nat} (h : b < os.length) : (os ++ ds)[b]? = os[b]? := List.getElem?_append_left h
theorem set_app {os ds : List AObj} {b : Nat} {o : AObj} (h : b < os.length) : setObj (os ++ ds) b o = setObj os b o ++ ds := by
  unfold setObj
  rw [if_pos (by rw [List.length_append]; omega), if_pos h, List.set_append_left _ _ h]
theorem set_len {os : List AObj} {b : Nat} {o : AObj} (h : b < os.length) : (setObj os b o).length = os.length := by
  unfold setObj
  rw [if_pos h, List.length_set]
theorem set_get {os : List AObj} {b : Nat} {o : AObj} (h : b < os.length) : (setObj os b o)[b]? = some o := by
  unfold setObj
  rw [if_pos h]
  simp [h]
theorem set_set {os : List AObj} {b : Nat} {o o' : AObj} (h : b < os.length) : setObj (setObj os b o) b o' = setObj os b o' := by
  unfold setObj
  rw [if_pos h, if_pos (by rw [List.length_set]; exact h), if_pos h, List.set_set]
theorem set_same {os : List AObj} {b : Nat} {o : AObj} (h : os[b]? = some o) : setObj os b o = os := by
  unfold setObj
  rw [if_pos (List.getElem?_eq_some_iff.1 h).1]
  apply List.ext_getElem?
  intro i
  rw [List.getElem?_set]
  by_cases e : b = i
  · subst e
    simp [(List.getElem?_eq_some_iff.1 h).1, (List.getElem?_eq_some_iff.1 h).2]
  · simp [e]

theorem ecs_len : ∀ {l : List (Int × Int)}, (ecs l).length = l.length * 2 := by
  intro l
  induction l with
  | nil => rfl
  | cons e l ih => simp only [ecs, List.length_cons, ih]; omega
theorem ecs_flat : ∀ {l : List (Int × Int)}, (ecs l).all flatA = true := by
  intro l
  induction l with
  | nil => rfl
  | cons e l ih => simp only [ecs, List.all_cons, ih]; rfl
theorem ecs_one : ∀ {l : List (Int × Int)}, (ecs l).all oneCell = true := by
  intro l
  induction l with
  | nil => rfl
  | cons e l ih => simp only [ecs, List.all_cons, ih]; rfl
theorem ecs_get : ∀ {l : List (Int × Int)} {i : Nat} {e : Int × Int}, l[i]? = some e → List.take 2 (List.drop (0 + i * 2) (ecs l)) = [I e.1, I e.2] := by
  intro l
  induction l with
  | nil => intro i e h; simp at h
  | cons x l ih =>
    intro i e h
    cases i with
    | zero => simp at h; subst h; rfl
    | succ i =>
      have := ih (i := i) (by simpa using h)
      rw [show 0 + (i + 1) * 2 = (0 + i * 2) + 1 + 1 by omega]
      exact this
theorem ecs_put : ∀ {l : List (Int × Int)} {i : Nat} {e : Int × Int}, i < l.length → putRange (ecs l) (0 + i * 2) [I e.1, I e.2] = ecs (l.set i e) := by
  intro l
  induction l with
  | nil => intro i e h; simp at h
  | cons x l ih =>
    intro i e h
    cases i with
    | zero => rfl
    | succ i =>
      have := ih (i := i) (e := e) (by simpa using h)
      rw [show 0 + (i + 1) * 2 = (0 + i * 2) + 1 + 1 by omega]
      unfold putRange at this ⊢
      simp only [List.set_cons_succ, ecs, ← this]
      simp [show 0 + i * 2 + 1 + 1 + 2 = 0 + i * 2 + 2 + 1 + 1 by omega]

def ltE (x y : Int × Int) : Bool := decide (ordE x.1 x.2 y.1 y.2 < 0)
/-- Insertion: the j-th goes down. -/
def insE : Nat → List (Int × Int) → List (Int × Int)
  | 0, l => l
  | j + 1, l => match l[j + 1]?, l[j]? with
    | some x, some y => if ltE x y then insE j ((l.set (j + 1) y).set j x) else l
    | _, _ => l
def insAll : Nat → Nat → List (Int × Int) → List (Int × Int)
  | 0, _, l => l
  | m + 1, i, l => insAll m (i + 1) (insE i l)
def isortE (l : List (Int × Int)) : List (Int × Int) := insAll (l.length - 1) 1 l
theorem insE_len : ∀ (j : Nat) {l : List (Int × Int)}, (insE j l).length = l.length := by
  intro j
  induction j with
  | zero => intro l; rfl
  | succ j ih =>
    intro l
    unfold insE
    split
    · split
      · rw [ih, List.length_set, List.length_set]
      · rfl
    · rfl
theorem insAll_len : ∀ (m i : Nat) {l : List (Int × Int)}, (insAll m i l).length = l.length := by
  intro m
  induction m with
  | zero => intro i l; rfl
  | succ m ih => intro i l; unfold insAll; rw [ih, insE_len]
theorem isortE_len {l : List (Int × Int)} : (isortE l).length = l.length := insAll_len _ _

theorem f209 : FnOK 209 53 := ⟨by kernel_rfl, by kernel_rfl, by kernel_rfl⟩
def g209 : Cfg := ⟨true, [25, 26, 30, 31, 45, 46, 49, 50, 51, 52], [14, 20, 33], [], [⟨[0, 1], [.b 0], [0, 1, 2, 3, 8], 0⟩, ⟨[0, 1, 0, 0, 1, 0, 0, 1], [.b 2, .b 1, .s [1, 1, 0, 0, 1], .l [0, 1], .b 0], [0, 1, 2, 3, 8, 9], 0⟩]⟩
theorem nf_s209 (I' : Nat → List AV → AHeap → Prop) (b : Nat) (g : Nat) (n : Nat) (ex : Bool) (r : AV) (os : List AObj) (F : List Nat) (H0 : AHeap) : (runS C3 g209 53 209 I' r H0 [AV.osl b g 0 2 n n ex, I 0, I ↑n, fOrd] { objs := os, frz := F }) = (
  I' 0 [AV.osl b g 0 2 n n ex, AV.sc (Value.int IntKind.i64 0), AV.sc (Value.int IntKind.i64 ↑n), AV.fn (Fn.func 81) [] [], AV.sc (Value.int IntKind.i64 1)] { objs := os, frz := F }) := by kernel_rfl
theorem nf_c209 (I' : Nat → List AV → AHeap → Prop) (b : Nat) (g : Nat) (n : Nat) (ex : Bool) (i : Int) (r : AV) (os : List AObj) (F : List Nat) (H0 : AHeap) : (cutS C3 g209 53 209 I' r H0 0 [AV.osl b g 0 2 n n ex, I 0, I ↑n, fOrd, I i] { objs := os, frz := F }) = (
  (decide (i < ↑n) = true → I' 1 [AV.osl b g 0 2 n n ex, AV.sc (Value.int IntKind.i64 0), AV.sc (Value.int IntKind.i64 ↑n), AV.fn (Fn.func 81) [] [], AV.sc (Value.int IntKind.i64 i), AV.sc (Value.int IntKind.i64 i)] { objs := os, frz := F }) ∧ (decide (i < ↑n) = false → Due (AV.tup [] = r ∧ { objs := os, frz := F } = H0))) := by kernel_rfl
theorem nf_d209 (I' : Nat → List AV → AHeap → Prop) (b : Nat) (g : Nat) (n : Nat) (ex : Bool) (i : Int) (j : Int) (r : AV) (os : List AObj) (F : List Nat) (H0 : AHeap) : (cutS C3 g209 53 209 I' r H0 1 [AV.osl b g 0 2 n n ex, I 0, I ↑n, fOrd, I i, I j] { objs := os, frz := F }) = (
  (decide (j > 0) = true → Due (0 ≤ j ∧ j < ↑n) ∧ ∃ cs, Due ((os ++ List.replicate 17 AObj.dead)[b]? = some (AObj.cells cs g)) ∧ ∃ z z_1, Due (List.take 2 (List.drop (0 + j.toNat * 2) cs) = [AV.sc (Value.int IntKind.i64 z), AV.sc (Value.int IntKind.i64 z_1)]) ∧ Due (0 ≤ IntKind.i64.wrap (j - 1) ∧ IntKind.i64.wrap (j - 1) < ↑n) ∧ ∃ cs, Due ((os ++ List.replicate 17 AObj.dead)[b]? = some (AObj.cells cs g)) ∧ ∃ z_2 z_3, Due (List.take 2 (List.drop (0 + (IntKind.i64.wrap (j - 1)).toNat * 2) cs) = [AV.sc (Value.int IntKind.i64 z_2), AV.sc (Value.int IntKind.i64 z_3)]) ∧ (decide (ordE z z_1 z_2 z_3 < 0) = true → Due (0 ≤ IntKind.i64.wrap (j - 1) ∧ IntKind.i64.wrap (j - 1) < ↑n) ∧ ∃ cs, Due ((trimTo os.length (os ++ List.replicate 17 AObj.dead) ++ List.replicate 18 AObj.dead)[b]? = some (AObj.cells cs g)) ∧ ∃ z z_4, Due (List.take 2 (List.drop (0 + (IntKind.i64.wrap (j - 1)).toNat * 2) cs) = [AV.sc (Value.int IntKind.i64 z), AV.sc (Value.int IntKind.i64 z_4)]) ∧ Due (0 ≤ j ∧ j < ↑n) ∧ ∃ cs, Due ((trimTo os.length (os ++ List.replicate 17 AObj.dead) ++ List.replicate 18 AObj.dead)[b]? = some (AObj.cells cs g)) ∧ ∃ z_5 z_6, Due (List.take 2 (List.drop (0 + j.toNat * 2) cs) = [AV.sc (Value.int IntKind.i64 z_5), AV.sc (Value.int IntKind.i64 z_6)]) ∧ Due (0 ≤ j ∧ j < ↑n) ∧ ∃ cs, Due ((trimTo os.length (os ++ List.replicate 17 AObj.dead) ++ List.replicate 18 AObj.dead)[b]? = some (AObj.cells cs g)) ∧ Due (F.contains b = false) ∧ Due (0 + j.toNat * 2 + 2 ≤ cs.length) ∧ Due (0 ≤ IntKind.i64.wrap (j - 1) ∧ IntKind.i64.wrap (j - 1) < ↑n) ∧ ∃ cs_1, Due ((Abs.setObj (trimTo os.length (os ++ List.replicate 17 AObj.dead) ++ List.replicate 18 AObj.dead) b (AObj.cells (putRange cs (0 + j.toNat * 2) [AV.sc (Value.int IntKind.i64 z), AV.sc (Value.int IntKind.i64 z_4)]) g))[b]? = some (AObj.cells cs_1 g)) ∧ Due (F.contains b = false) ∧ Due (0 + (IntKind.i64.wrap (j - 1)).toNat * 2 + 2 ≤ cs_1.length) ∧ I' 1 [AV.osl b g 0 2 n n ex, AV.sc (Value.int IntKind.i64 0), AV.sc (Value.int IntKind.i64 ↑n), AV.fn (Fn.func 81) [] [], AV.sc (Value.int IntKind.i64 i), AV.sc (Value.int IntKind.i64 (IntKind.i64.wrap (j - 1)))] { objs := trimTo (trimTo os.length (os ++ List.replicate 17 AObj.dead)).length (Abs.setObj (Abs.setObj (trimTo os.length (os ++ List.replicate 17 AObj.dead) ++ List.replicate 18 AObj.dead) b (AObj.cells (putRange cs (0 + j.toNat * 2) [AV.sc (Value.int IntKind.i64 z), AV.sc (Value.int IntKind.i64 z_4)]) g)) b (AObj.cells (putRange cs_1 (0 + (IntKind.i64.wrap (j - 1)).toNat * 2) [AV.sc (Value.int IntKind.i64 z_5), AV.sc (Value.int IntKind.i64 z_6)]) g)), frz := F }) ∧ (decide (ordE z z_1 z_2 z_3 < 0) = false → I' 0 [AV.osl b g 0 2 n n ex, AV.sc (Value.int IntKind.i64 0), AV.sc (Value.int IntKind.i64 ↑n), AV.fn (Fn.func 81) [] [], AV.sc (Value.int IntKind.i64 (IntKind.i64.wrap (i + 1)))] { objs := trimTo os.length (os ++ List.replicate 17 AObj.dead), frz := F })) ∧ (decide (j > 0) = false → I' 0 [AV.osl b g 0 2 n n ex, AV.sc (Value.int IntKind.i64 0), AV.sc (Value.int IntKind.i64 ↑n), AV.fn (Fn.func 81) [] [], AV.sc (Value.int IntKind.i64 (IntKind.i64.wrap (i + 1)))] { objs := trimTo os.length (os ++ List.replicate 17 AObj.dead), frz := F })) := by kernel_rfl

/-- slices.insertionSortCmpFunc on edges. -/
theorem sh209 (l0 : List (Int × Int)) (hl : l0.length < 100000) (b g : Nat) (ex : Bool) (H : AHeap) (ho : H.objs[b]? = some (.cells (ecs l0) g)) (hz : b ∉ H.frz) :
    SharedFn Tryz.prog 209 [.osl b g 0 2 l0.length l0.length ex, I 0, I l0.length, fOrd] H (.tup []) (setC H b (ecs (isortE l0)) g) := by
  obtain ⟨os, F⟩ := H
  simp only at ho hz
  have hb : b < os.length := (List.getElem?_eq_some_iff.1 ho).1
  have hF : F.contains b = false := by
    cases h : F.contains b with
    | false => rfl
    | true => exact absurd (List.contains_iff_mem.1 h) hz
  let n := l0.length
  have key : ∀ {l : List (Int × Int)} {k : Nat}, trimTo (setObj os b (.cells (ecs l) g)).length (setObj os b (.cells (ecs l) g) ++ List.replicate k .dead) = setObj os b (.cells (ecs l) g) := trimTo_app
  refine sharedW (g := g209) C3_ok f209 rfl (by simp) ho (fun m j vals H => ∃ (i : Nat) (l : List (Int × Int)), l.length = n ∧ H = ⟨setObj os b (.cells (ecs l) g), F⟩ ∧ 1 ≤ i ∧
      ((j = 0 ∧ i ≤ n + 1 ∧ m = (n - i) * (n + 2) ∧ vals = [.osl b g 0 2 n n ex, I 0, I n, fOrd, I i] ∧ insAll (n - i) i l = isortE l0) ∨
       (j = 1 ∧ i < n ∧ ∃ q : Nat, q ≤ i ∧ m = (n - i - 1) * (n + 2) + (q + 1) ∧ vals = [.osl b g 0 2 n n ex, I 0, I n, fOrd, I i, I q] ∧ insAll (n - i - 1) (i + 1) (insE q l) = isortE l0))) ?_ ?_
  · rw [nf_s209]
    exact ⟨_, 1, l0, rfl, by rw [set_same ho], Nat.le_refl _, .inl ⟨rfl, by omega, rfl, rfl, rfl⟩⟩
  · intro m j vals H1 hj hI
    obtain ⟨i, l, hln, rfl, hi1, ⟨rfl, hin, rfl, rfl, hs⟩ | ⟨rfl, hin, q, hq, rfl, rfl, hs⟩⟩ := hI
    · rw [nf_c209]
      refine ⟨fun h => ?_, fun h => ⟨rfl, ?_⟩⟩
      · have h := of_decide_eq_true h
        have hlt : i < n := by omega
        refine ⟨_, ?_, i, l, hln, rfl, hi1, .inr ⟨rfl, hlt, i, Nat.le_refl _, rfl, rfl, ?_⟩⟩
        · have e : (n - i) * (n + 2) = (n - i - 1) * (n + 2) + (n + 2) := by
            rw [← Nat.succ_mul]
            exact congrArg (· * (n + 2)) (by omega)
          omega
        · have : n - i = (n - i - 1) + 1 := by omega
          rw [this] at hs
          exact hs
      · have h := of_decide_eq_false h
        have : n - i = 0 := by omega
        rw [this] at hs
        rw [← hs]
        rfl
    · rw [nf_d209]
      have hb' : b < (setObj os b (.cells (ecs l) g)).length := by rw [set_len hb]; exact hb
      have out : ∀ {q : Nat}, insE q l = l → insAll (n - i - 1) (i + 1) (insE q l) = isortE l0 → ∃ m', m' < (n - i - 1) * (n + 2) + (q + 1) ∧ ∃ (i' : Nat) (l' : List (Int × Int)), l'.length = n ∧
          (⟨trimTo (setObj os b (.cells (ecs l) g)).length (setObj os b (.cells (ecs l) g) ++ List.replicate 17 .dead), F⟩ : AHeap) = ⟨setObj os b (.cells (ecs l') g), F⟩ ∧ 1 ≤ i' ∧
          ((0 = 0 ∧ i' ≤ n + 1 ∧ m' = (n - i') * (n + 2) ∧ ([.osl b g 0 2 n n ex, I 0, I n, fOrd, I (IntKind.i64.wrap (i + 1))] : List AV) = [.osl b g 0 2 n n ex, I 0, I n, fOrd, I i'] ∧ insAll (n - i') i' l' = isortE l0) ∨ (0 = 1 ∧ i' < n ∧ ∃ q : Nat, q ≤ i' ∧ m' = (n - i' - 1) * (n + 2) + (q + 1) ∧ ([.osl b g 0 2 n n ex, I 0, I n, fOrd, I (IntKind.i64.wrap (i + 1))] : List AV) = [.osl b g 0 2 n n ex, I 0, I n, fOrd, I i', I q] ∧ insAll (n - i' - 1) (i' + 1) (insE q l') = isortE l0)) := by
        intro q e hs
        rw [e] at hs
        refine ⟨(n - (i + 1)) * (n + 2), ?_, i + 1, l, hln, by rw [key], by omega, .inl ⟨rfl, by omega, rfl, ?_, ?_⟩⟩
        · rw [show n - (i + 1) = n - i - 1 by omega]; omega
        · rw [wi64 (by omega) (by omega)]; rfl
        · rw [show n - (i + 1) = n - i - 1 by omega]; exact hs
      refine ⟨fun h => ?_, fun h => ?_⟩
      · have h := of_decide_eq_true h
        obtain ⟨p, rfl⟩ : ∃ p, q = p + 1 := ⟨q - 1, by omega⟩
        have hx : l[p + 1]? = some l[p + 1] := List.getElem?_eq_getElem (by omega)
        have hy : l[p]? = some l[p] := List.getElem?_eq_getElem (by omega)
        have ew : IntKind.i64.wrap (((p + 1 : Nat) : Int) - 1) = (p : Nat) := by rw [wi64 (by omega) (by omega)]; omega
        have en : ((p + 1 : Nat) : Int).toNat = p + 1 := by omega
        have en' : ((p : Nat) : Int).toNat = p := by omega
        rw [ew, en, en']
        refine ⟨⟨by omega⟩, _, ⟨by rw [get_app hb', set_get hb]⟩, _, _, ⟨ecs_get hx⟩, ⟨by omega⟩, _, ⟨by rw [get_app hb', set_get hb]⟩, _, _, ⟨ecs_get hy⟩, fun hc => ?_, fun hc => ?_⟩
        · refine ⟨⟨by omega⟩, _, ⟨by rw [key, get_app hb', set_get hb]⟩, _, _, ⟨ecs_get hy⟩, ⟨by omega⟩, _, ⟨by rw [key, get_app hb', set_get hb]⟩, _, _, ⟨ecs_get hx⟩, ⟨by omega⟩, _, ⟨by rw [key, get_app hb', set_get hb]⟩, ⟨hF⟩, ⟨?_⟩, ⟨by omega⟩, ecs (l.set (p + 1) l[p]), ⟨?_⟩, ⟨hF⟩, ⟨?_⟩, ?_⟩
          · rw [ecs_len]; omega
          · rw [key, set_app hb', set_set hb]
            rw [get_app (by rw [set_len hb]; exact hb), set_get hb]
            rw [show ([AV.sc (Value.int IntKind.i64 l[p].1), AV.sc (Value.int IntKind.i64 l[p].2)] : List AV) = [I l[p].1, I l[p].2] from rfl, ecs_put (by omega)]
          · rw [ecs_len, List.length_set]; omega
          · refine ⟨_, ?_, i, (l.set (p + 1) l[p]).set p l[p + 1], by simp [hln], ?_, hi1, .inr ⟨rfl, hin, p, by omega, rfl, rfl, ?_⟩⟩
            · omega
            · rw [key, set_app hb', set_set hb, set_app (by rw [set_len hb]; exact hb), set_set hb]
              rw [show ([AV.sc (Value.int IntKind.i64 l[p + 1].1), AV.sc (Value.int IntKind.i64 l[p + 1].2)] : List AV) = [I l[p + 1].1, I l[p + 1].2] from rfl, ecs_put (by simp; omega)]
              rw [set_len hb, ← set_len (o := .cells (ecs ((l.set (p + 1) l[p]).set p l[p + 1])) g) hb, trimTo_app]
            · unfold insE at hs
              rw [hx, hy] at hs
              have : ltE l[p + 1] l[p] = true := hc
              dsimp only at hs
              rw [if_pos this] at hs
              exact hs
        · refine out ?_ hs
          unfold insE
          rw [hx, hy]
          have : ltE l[p + 1] l[p] = false := hc
          dsimp only
          rw [if_neg (by rw [this]; simp)]
      · have h := of_decide_eq_false h
        have : q = 0 := by omega
        subst this
        exact out rfl hs
end Go.Abs.Sym

set_option maxRecDepth 100000
namespace Go.Abs.Sym
open Go Go.Abs Go.Proofs

theorem I_inj {x y : Int} (h : I x = I y) : x = y := by
  unfold I at h
  cases h
  rfl

theorem ecs_inj : ∀ {x y : List (Int × Int)}, ecs x = ecs y → x = y := by
  intro x
  induction x with
  | nil => intro y h; cases y with
    | nil => rfl
    | cons e y => cases h
  | cons e x ih =>
    intro y h
    cases y with
    | nil => cases h
    | cons f y =>
      simp only [ecs, List.cons.injEq] at h
      rw [ih h.2.2, Prod.ext (I_inj h.1) (I_inj h.2.1)]

def ss209 : SSpec := ⟨List (Int × Int), fun l => l.length < 100000, ecs, fun b g l => [.osl b g 0 2 l.length l.length false, I 0, I l.length, fOrd], fun _ _ _ => .tup [], fun l => ecs (isortE l), 0⟩
theorem ss209_ok : SSpecOK Tryz.prog 209 ss209 :=
  ⟨fun l b g H hp ho hz => sh209 l hp b g false H ho hz, fun b g x y _ _ h _ => by rw [ecs_inj h]; exact ⟨rfl, rfl⟩⟩
def C4 : Ctx := ⟨tOrd, noFS, addS 209 ss209 noSS, noNS, shSort⟩
theorem C4_ok : C4.OK Tryz.prog := ⟨tOrd_ok, noFS_ok, addS_ok ss209_ok noSS_ok, noNS_ok⟩
def ss144 : SSpec := ⟨List (Int × Int) × Int, fun p => p.1.length ≤ 12, fun p => ecs p.1, fun b g p => [.osl b g 0 2 p.1.length p.1.length false, I 0, I p.1.length, I p.2, fOrd], fun _ _ _ => .tup [], fun p => ecs (isortE p.1), 0⟩

def len64 : Nat → Int
  | 0 => 0 | 1 => 1 | 2 => 2 | 3 => 2 | 4 => 3 | 5 => 3 | 6 => 3 | 7 => 3 | _ => 4
theorem e145 (n : Nat) (h : n ≤ 12) : EntryOK Tryz.prog 145 [W n] (I (len64 n)) := by
  match n, h with
  | 0, _ => exact ev noT_ok (by kernel_rfl)
  | 1, _ => exact ev noT_ok (by kernel_rfl)
  | 2, _ => exact ev noT_ok (by kernel_rfl)
  | 3, _ => exact ev noT_ok (by kernel_rfl)
  | 4, _ => exact ev noT_ok (by kernel_rfl)
  | 5, _ => exact ev noT_ok (by kernel_rfl)
  | 6, _ => exact ev noT_ok (by kernel_rfl)
  | 7, _ => exact ev noT_ok (by kernel_rfl)
  | 8, _ => exact ev noT_ok (by kernel_rfl)
  | 9, _ => exact ev noT_ok (by kernel_rfl)
  | 10, _ => exact ev noT_ok (by kernel_rfl)
  | 11, _ => exact ev noT_ok (by kernel_rfl)
  | 12, _ => exact ev noT_ok (by kernel_rfl)
def fs145 : FSpec := ⟨Nat, fun n => n ≤ 12, fun n => [W n], fun n => I (len64 n)⟩
theorem nW_inj {x y : Nat} (h : [W x] = [W y]) : x = y := by
  simp [W] at h
  exact Int.ofNat_inj.1 h
theorem fs145_ok : FSpecOK Tryz.prog 145 fs145 := ⟨fun n h => e145 n h, fun x y _ _ h => congrArg (fun n : Nat => I (len64 n)) (nW_inj h)⟩

theorem free_of {F : List Nat} {b : Nat} (hz : b ∉ F) : F.contains b = false := by
  cases h : F.contains b with
  | false => rfl
  | true => exact absurd (List.contains_iff_mem.1 h) hz

def g144 : Cfg := ⟨true, [], [], [(25, true)], []⟩
theorem f144 : FnOK 144 148 := ⟨by kernel_rfl, by kernel_rfl, by kernel_rfl⟩
theorem nf_s144 (I' : Nat → List AV → AHeap → Prop) (b : Nat) (g : Nat) (n : Nat) (lim : Int) (r : AV) (os : List AObj) (F : List Nat) (H0 : AHeap) : (runS C4 g144 148 144 I' r H0 [AV.osl b g 0 2 n n false, I 0, I ↑n, I lim, fOrd] { objs := os, frz := F }) = (
  Due (decide (IntKind.i64.wrap (↑n - 0) ≤ 12) = true) ∧ ∃ cs, Due (os[b]? = some (AObj.cells cs g)) ∧ Due (F.contains b = false) ∧ ∃ x, Due (x.length < 100000) ∧ Due (cs = ecs x ∧ [AV.osl b g 0 2 n n false, AV.sc (Value.int IntKind.i64 0), AV.sc (Value.int IntKind.i64 ↑n), AV.fn (Fn.func 81) [] []] = [AV.osl b g 0 2 x.length x.length false, AV.sc (Value.int IntKind.i64 0), AV.sc (Value.int IntKind.i64 ↑x.length), AV.fn (Fn.func 81) [] []]) ∧ Due (AV.tup [] = r ∧ { objs := Abs.setObj os b (AObj.cells (ecs (isortE x)) g), frz := F } = H0)) := by kernel_rfl
theorem noLoops {g : Cfg} (hg : g.cuts = []) {I : Nat → Nat → List AV → AHeap → Prop} {X : Nat → Nat → List AV → AHeap → Prop} : ∀ m j vals H, j < g.cuts.length → I m j vals H → X m j vals H := fun m j vals H hj => by rw [hg] at hj; exact absurd hj (Nat.not_lt_zero _)

theorem ss144_ok : SSpecOK Tryz.prog 144 ss144 := by
  refine ⟨fun p b g H hp ho hz => ?_, fun b g x y _ _ h _ => by rw [show ss144.cells' x = ecs (isortE x.1) from rfl, show ss144.cells' y = ecs (isortE y.1) from rfl, ecs_inj h]; exact ⟨rfl, rfl⟩⟩
  obtain ⟨l, lim⟩ := p
  obtain ⟨os, F⟩ := H
  simp only at ho hz
  have hb : b < os.length := (List.getElem?_eq_some_iff.1 ho).1
  have hp : l.length ≤ 12 := hp
  refine sharedW (g := g144) C4_ok f144 rfl (by simp [ss144]) ho (fun _ _ _ _ => False) ?_ (noLoops rfl)
  show runS C4 g144 148 144 _ _ _ [.osl b g 0 2 l.length l.length false, I 0, I l.length, I lim, fOrd] ⟨os, F⟩
  rw [nf_s144]
  refine ⟨⟨decide_eq_true ?_⟩, _, ⟨ho⟩, ⟨free_of hz⟩, l, ⟨by omega⟩, ⟨rfl, rfl⟩, ⟨rfl, rfl⟩⟩
  rw [wi64 (by omega) (by omega)]
  omega

def C5 : Ctx := ⟨tOrd, addF 145 fs145 noFS, addS 144 ss144 noSS, noNS, shSort⟩
theorem C5_ok : C5.OK Tryz.prog := ⟨tOrd_ok, addF_ok fs145_ok noFS_ok, addS_ok ss144_ok noSS_ok, noNS_ok⟩
def g80 : Cfg := ⟨true, [], [], [], []⟩
theorem f80 : FnOK 80 14 := ⟨by kernel_rfl, by kernel_rfl, by kernel_rfl⟩
theorem nf_s80 (I' : Nat → List AV → AHeap → Prop) (b : Nat) (g : Nat) (n : Nat) (r : AV) (os : List AObj) (F : List Nat) (H0 : AHeap) : (runS C5 g80 14 80 I' r H0 [AV.osl b g 0 2 n n false, fOrd] { objs := os, frz := F }) = (
  ∃ x : Nat, Due (x ≤ 12) ∧ Due ([AV.sc (Value.int IntKind.u64 (IntKind.u64.wrap ↑n))] = [AV.sc (Value.int IntKind.u64 ↑x)]) ∧ ∃ cs, Due (os[b]? = some (AObj.cells cs g)) ∧ Due (F.contains b = false) ∧ ∃ x_1 : List (Int × Int) × Int, Due (x_1.1.length ≤ 12) ∧ Due (cs = ecs x_1.fst ∧ [AV.osl b g 0 2 n n false, AV.sc (Value.int IntKind.i64 0), AV.sc (Value.int IntKind.i64 ↑n), AV.sc (Value.int IntKind.i64 (len64 x)), AV.fn (Fn.func 81) [] []] = [AV.osl b g 0 2 x_1.1.length x_1.1.length false, AV.sc (Value.int IntKind.i64 0), AV.sc (Value.int IntKind.i64 ↑x_1.1.length), AV.sc (Value.int IntKind.i64 x_1.2), AV.fn (Fn.func 81) [] []]) ∧ Due (AV.tup [] = r ∧ { objs := Abs.setObj os b (AObj.cells (ecs (isortE x_1.fst)) g), frz := F } = H0)) := by kernel_rfl
def ss80 : SSpec := ⟨List (Int × Int), fun l => l.length ≤ 12, ecs, fun b g l => [.osl b g 0 2 l.length l.length false, fOrd], fun _ _ _ => .tup [], fun l => ecs (isortE l), 0⟩
theorem ss80_ok : SSpecOK Tryz.prog 80 ss80 := by
  refine ⟨fun l b g H hp ho hz => ?_, fun b g x y _ _ h _ => by rw [ecs_inj h]; exact ⟨rfl, rfl⟩⟩
  obtain ⟨os, F⟩ := H
  simp only at ho hz
  have hp : (l : List (Int × Int)).length ≤ 12 := hp
  refine sharedW (g := g80) C5_ok f80 rfl (by simp [ss80]) ho (fun _ _ _ _ => False) ?_ (noLoops rfl)
  show runS C5 g80 14 80 _ _ _ [.osl b g 0 2 (l : List (Int × Int)).length (l : List (Int × Int)).length false, fOrd] ⟨os, F⟩
  rw [nf_s80]
  refine ⟨(l : List (Int × Int)).length, ⟨hp⟩, ⟨?_⟩, _, ⟨ho⟩, ⟨free_of hz⟩, (l, len64 (l : List (Int × Int)).length), ⟨hp⟩, ⟨rfl, rfl⟩, ⟨rfl, rfl⟩⟩
  rw [wu64 (by omega) (by omega)]

def g79 : Cfg := ⟨true, [7], [], [], []⟩
theorem f79 : FnOK 79 8 := ⟨by kernel_rfl, by kernel_rfl, by kernel_rfl⟩
theorem nf_s79 (I' : Nat → List AV → AHeap → Prop) (c : AV) (cs : List AV) (n : Nat) (r : AV) (os : List AObj) (F : List Nat) (H0 : AHeap) : (runS C3 g79 8 79 I' r H0 [AV.isl (c :: cs) (n + 1) 0 false] { objs := os, frz := F }) = (
  Due ((n + 1) * 2 ≤ (c :: cs).length ∧ (c :: cs).all oneCell = true) ∧ Due ((4 * (0 + (n + 1)) + 1024) * 16 ≤ 140737488355328) ∧ ∃ cs_1, Due ((Abs.setObj os os.length (AObj.cells [] 0))[os.length]? = some (AObj.cells cs_1 0)) ∧ Due (n + 1 ≠ 0 ∧ 0 < 0 + (n + 1) ∧ 0 ≤ cs_1.length) ∧ Due (AV.osl (Abs.setObj os os.length (AObj.cells [] 0)).length 0 0 2 (0 + (n + 1)) (0 + (n + 1)) false = r ∧ { objs := Abs.setObj (Abs.setObj os os.length (AObj.cells [] 0)) (Abs.setObj os os.length (AObj.cells [] 0)).length (AObj.cells (List.take ((n + 1) * 2) (c :: cs)) 0), frz := F } = H0)) := by kernel_rfl
def ns79 : NSpec := ⟨(Int × Int) × List (Int × Int), fun p => p.2.length < 100000, fun p => [.isl (ecs (p.1 :: p.2)) (p.2.length + 1) 0 false], fun p => [.cells [] 0, .cells (ecs (p.1 :: p.2)) 0], fun n p => .osl (n + 1) 0 0 2 (p.2.length + 1) (p.2.length + 1) false⟩
theorem set_new {os : List AObj} {o : AObj} : setObj os os.length o = os ++ [o] := by
  unfold setObj
  rw [if_neg (Nat.lt_irrefl _)]
theorem ns79_ok : NSpecOK Tryz.prog 79 ns79 := by
  refine ⟨fun p H hp => ?_, fun x y _ _ h => ?_⟩
  · obtain ⟨e, l⟩ := p
    obtain ⟨os, F⟩ := H
    have hp : l.length < 100000 := hp
    refine newsW' (g := g79) C3_ok f79 rfl (by simp [ns79]) rfl (fun _ _ _ _ => False) ?_ (noLoops rfl)
    show runS C3 g79 8 79 _ _ _ [.isl (I e.1 :: (I e.2 :: ecs l)) (l.length + 1) 0 false] ⟨os, F⟩
    rw [nf_s79]
    have hl : (I e.1 :: I e.2 :: ecs l).length = (l.length + 1) * 2 := ecs_len (l := e :: l)
    refine ⟨⟨by omega, ecs_one (l := e :: l)⟩, ⟨by omega⟩, [], ⟨?_⟩, ⟨by omega, by omega, by simp⟩, ⟨?_, ?_⟩⟩
    · rw [set_new]; simp
    · rw [set_new]
      simp [ns79]
    · rw [set_new, set_new, List.take_of_length_le (by omega)]
      simp [ns79, ecs]
  · obtain ⟨e, l⟩ := x
    obtain ⟨f, m⟩ := y
    have h : [AV.isl (ecs (e :: l)) (l.length + 1) 0 false] = [AV.isl (ecs (f :: m)) (m.length + 1) 0 false] := h
    simp only [List.cons.injEq, AV.isl.injEq, and_true] at h
    have := ecs_inj h.1
    simp only [List.cons.injEq] at this
    obtain ⟨rfl, rfl⟩ := this
    exact ⟨rfl, fun _ => rfl⟩
end Go.Abs.Sym

