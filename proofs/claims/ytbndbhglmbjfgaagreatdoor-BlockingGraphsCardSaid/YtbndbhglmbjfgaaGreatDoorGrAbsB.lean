/- The interpreter is sound: calls, regions in any order, statements. -/
import Derived.Test.YtbndbhglmbjfgaaGreatDoorGrAbsA
import Derived.TacticsIn
import Derived.LoopNIn
set_option linter.all false
namespace Go.Abs
open Go Go.RowKit

theorem mapS_ok {f : AV → R (AV × List Nat)} : ∀ {xs xs' : List AV} {bs : List Nat}, mapS f xs = .ok (xs', bs) → xs'.length = xs.length ∧
    (∀ (i : Nat) (x : AV), xs[i]? = some x → ∃ x' b, f x = .ok (x', b) ∧ xs'[i]? = some x' ∧ ∀ c, c ∈ b → c ∈ bs) ∧
    ∀ c, c ∈ bs → ∃ (i : Nat) (x x' : AV) (b : List Nat), xs[i]? = some x ∧ f x = .ok (x', b) ∧ c ∈ b := by
  intro xs
  induction xs with
  | nil =>
    intro xs' bs h
    cases h
    exact ⟨rfl, fun i x hx => by simp at hx, fun c hc => by simp at hc⟩
  | cons x xs ih =>
    intro xs' bs h
    unfold mapS at h
    obtain ⟨⟨x', b⟩, hx, h⟩ := bind_ok h
    obtain ⟨⟨ys, cs⟩, hys, h⟩ := bind_ok h
    cases pure_ok h
    obtain ⟨h1, h2, h3⟩ := ih hys
    refine ⟨by simp [h1], fun i y hy => ?_, fun c hc => ?_⟩
    · cases i with
      | zero =>
        simp at hy; subst hy
        exact ⟨x', b, hx, rfl, fun c hc => by simp [hc]⟩
      | succ i =>
        obtain ⟨y', d, e1, e2, e3⟩ := h2 i y (by simpa using hy)
        exact ⟨y', d, e1, by simpa using e2, fun c hc => by simp [e3 c hc]⟩
    · simp only [List.mem_append] at hc
      rcases hc with hc | hc
      · exact ⟨0, x, x', b, rfl, hx, hc⟩
      · obtain ⟨i, y, y', d, e1, e2, e3⟩ := h3 c hc
        exact ⟨i + 1, y, y', d, by simpa using e1, e2, e3⟩

section
variable {P : Program} {w : World}
variable {n₀ : Nat} {w₀ : World} {S T : Nat → Prop} {H : AHeap} {φ : Nat → Nat × Nat × Nat} {D : Nat → Prop}

/-- What a deep conversion is to give. -/
def ImmAt (w : World) (S : Nat → Prop) (H : AHeap) (φ : Nat → Nat × Nat × Nat) (x' : AV) (bs : List Nat) (v : Value) : Prop :=
  (∀ c, c ∈ bs → ∃ cs g, H.objs[c]? = some (.cells cs g)) ∧ ∀ T : Nat → Prop, (∀ b, S b → T b) → (∀ c, c ∈ bs → T (φ c).1) → IVR w T x' v

theorem IVR.weaken {x : AV} {v : Value} (h : IVR w S x v) (hS : ∀ b, S b → T b) : IVR w T x v := h.mono hS (fun _ _ => rfl)

theorem imm_sim (R : Rel n₀ w₀ w S H φ D) : ∀ (n : Nat) (x x' : AV) (bs : List Nat) (v : Value), imm H n x = .ok (x', bs) → VR w S H.objs φ x v → ImmAt w S H φ x' bs v := by
  intro n
  induction n with
  | zero => intro x x' bs v h; cases h
  | succ n ih =>
    intro x x' bs v h hv
    have list : ∀ {xs xs' : List AV} {cs : List Nat} {vs : Array Value}, mapS (imm H n) xs = .ok (xs', cs) → VRL w S H.objs φ xs vs →
        (∀ c, c ∈ cs → ∃ cs g, H.objs[c]? = some (.cells cs g)) ∧ xs'.length = vs.size ∧ ∀ T : Nat → Prop, (∀ b, S b → T b) → (∀ c, c ∈ cs → T (φ c).1) → ∀ (i : Nat) (y : AV) (u : Value), xs'[i]? = some y → vs[i]? = some u → IVR w T y u := by
      intro xs xs' cs vs hm hvs
      obtain ⟨h1, h2, h3⟩ := mapS_ok hm
      refine ⟨fun c hc => ?_, h1.trans hvs.1, fun T hT hb i y u hy hu => ?_⟩
      · obtain ⟨i, y, y', b, e1, e2, e3⟩ := h3 c hc
        obtain ⟨u, _, hu⟩ := hvs.get e1
        exact (ih y y' b u e2 hu).1 c e3
      · obtain ⟨z, hz, hr⟩ := hvs.get' hu
        obtain ⟨y', b, e1, e2, e3⟩ := h2 i z hz
        rw [hy] at e2
        cases e2
        exact (ih z y b u e1 hr).2 T hT (fun c hc => hb c (e3 c hc))
    have cells : ∀ {xs xs' : List AV} {cs : List Nat} {b o : Nat}, mapS (imm H n) xs = .ok (xs', cs) → Cells w S H.objs φ b o xs →
        (∀ c, c ∈ cs → ∃ cs g, H.objs[c]? = some (.cells cs g)) ∧ ∀ T : Nat → Prop, (∀ b, S b → T b) → (∀ c, c ∈ cs → T (φ c).1) → ∃ f : Nat → Value,
          (∀ (i : Nat) (y : AV), xs'[i]? = some y → w.cell? ⟨b, o + i, none⟩ = some (f i)) ∧ ∀ (i : Nat) (y : AV), xs'[i]? = some y → IVR w T y (f i) := by
      intro xs xs' cs b o hm hc
      obtain ⟨h1, h2, h3⟩ := mapS_ok hm
      refine ⟨fun c hc' => ?_, fun T hT hb => ?_⟩
      · obtain ⟨i, y, y', d, e1, e2, e3⟩ := h3 c hc'
        obtain ⟨u, _, hu⟩ := hc i y e1
        exact (ih y y' d u e2 hu).1 c e3
      · obtain ⟨f, f1, f2⟩ := hc.fn
        refine ⟨f, fun i y hy => f1 i ?_, fun i y hy => ?_⟩
        · rw [← h1]; exact (List.getElem?_eq_some_iff.1 hy).1
        · have hi : i < xs.length := by rw [← h1]; exact (List.getElem?_eq_some_iff.1 hy).1
          have hx : xs[i]? = some xs[i] := by simp [hi]
          obtain ⟨y', d, e1, e2, e3⟩ := h2 i _ hx
          rw [hy] at e2
          cases e2
          exact (ih _ y d _ e1 (f2 i _ hx)).2 T hT (fun c hc => hb c (e3 c hc))
    unfold imm at h
    split at h
    · cases h
      exact ⟨fun c hc => by simp at hc, fun T hT _ => .any⟩
    · cases h
      obtain ⟨rfl, hs⟩ := hv.sc_inv
      exact ⟨fun c hc => by simp at hc, fun T hT _ => .sc hs⟩
    · cases h
      refine ⟨fun c hc => by simp at hc, fun T hT _ => ?_⟩
      cases hv with
      | im h => exact h.weaken hT
    · cases h
      refine ⟨fun c hc => by simp at hc, fun T hT _ => ?_⟩
      cases hv with
      | im h => exact h.weaken hT
    · replace h := bind_ok h
      obtain ⟨⟨cs', b⟩, hm, h⟩ := h
      cases pure_ok h
      obtain ⟨vs, rfl, hvs⟩ := hv.agg_inv
      obtain ⟨h1, h2, h3⟩ := list hm hvs
      exact ⟨h1, fun T hT hb => .agg h2 (h3 T hT hb)⟩
    · replace h := bind_ok h
      obtain ⟨⟨cs', b⟩, hm, h⟩ := h
      cases pure_ok h
      obtain ⟨vs, rfl, hvs⟩ := hv.tup_inv
      obtain ⟨h1, h2, h3⟩ := list hm hvs
      exact ⟨h1, fun T hT hb => .tup h2 (h3 T hT hb)⟩
    · rename_i f a c
      replace h := bind_ok h
      obtain ⟨⟨a', b⟩, hm, h⟩ := h
      replace h := bind_ok h
      obtain ⟨⟨c', b'⟩, hm', h⟩ := h
      cases pure_ok h
      have hf : ∃ a2 c2, v = .func (.func f) a2 c2 ∧ VRL w S H.objs φ a a2 ∧ VRL w S H.objs φ c c2 := by
        cases hv with
        | im h => cases h with
          | fn ha hc k1 k2 => exact ⟨_, _, rfl, ⟨ha, fun i x v a b => .im (k1 i x v a b)⟩, ⟨hc, fun i x v a b => .im (k2 i x v a b)⟩⟩
        | fn ha hc k1 k2 => exact ⟨_, _, rfl, ⟨ha, k1⟩, ⟨hc, k2⟩⟩
      obtain ⟨a2, c2, rfl, hva, hvc⟩ := hf
      obtain ⟨h1, h2, h3⟩ := list hm hva
      obtain ⟨k1, k2, k3⟩ := list hm' hvc
      refine ⟨fun c hc => ?_, fun T hT hb => .fn h2 k2 (h3 T hT fun c hc => hb c (by simp [hc])) (k3 T hT fun c hc => hb c (by simp [hc]))⟩
      simp only [List.mem_append] at hc
      exact hc.elim (h1 c) (k1 c)
    · rename_i ty z
      replace h := bind_ok h
      obtain ⟨⟨y, b⟩, hm, h⟩ := h
      cases pure_ok h
      have hi : ∃ u, v = .iface ty u ∧ VR w S H.objs φ z u := by
        cases hv with
        | im h => cases h with | ifc h => exact ⟨_, rfl, .im h⟩
        | ifc h => exact ⟨_, rfl, h⟩
      obtain ⟨u, rfl, hu⟩ := hi
      obtain ⟨h1, h2⟩ := ih _ _ _ u hm hu
      exact ⟨h1, fun T hT hb => .ifc (h2 T hT hb)⟩
    · rename_i b0 g off
      replace h := bind_ok h
      obtain ⟨cs, hcs, h⟩ := h
      replace h := bind_ok h
      obtain ⟨⟨cs', b⟩, hm, h⟩ := h
      cases pure_ok h
      have hb := hcells_ok hcs
      have hvv := hv.optr_inv hb
      subst hvv
      have hc : Cells w S H.objs φ (φ b0).1 ((φ b0).2.1 + off) (cs.drop off) := by
        intro i y hy
        rw [List.getElem?_drop] at hy
        have := R.cells hb _ y hy
        rwa [← Nat.add_assoc] at this
      obtain ⟨h1, h2⟩ := cells hm hc
      refine ⟨fun c hc => ?_, fun T hT hbb => ?_⟩
      · rcases List.mem_cons.1 hc with rfl | hc
        · exact ⟨_, _, hb⟩
        · exact h1 c hc
      · obtain ⟨f, f1, f2⟩ := h2 T hT (fun c hc => hbb c (by simp [hc]))
        exact .iptr f (hbb _ (by simp)) f1 f2
    · rename_i b0 g off k l c0 ex
      replace h := bind_ok h
      obtain ⟨cs, hcs, h⟩ := h
      replace h := bind_ok h
      obtain ⟨r, hr, h⟩ := h
      replace h := bind_ok h
      obtain ⟨⟨cs', b⟩, hm, h⟩ := h
      cases pure_ok h
      have hb := hcells_ok hcs
      obtain ⟨o, c, rfl, ho, hlc, hcc, hec, hsz⟩ := hv.osl_inv hb
      refine ⟨fun c hc => ?_, fun T hT hbb => ?_⟩
      · rcases List.mem_cons.1 hc with rfl | hc
        · exact ⟨_, _, hb⟩
        · have hcell := (R.cells hb).sub hr
          exact (cells hm hcell).1 c hc
      · rcases ho with ho | ho
        · have hcell := (R.cells hb).sub hr
          rw [← ho] at hcell
          obtain ⟨f, f1, f2⟩ := (cells hm hcell).2 T hT (fun c hc => hbb c (by simp [hc]))
          exact .isl f (hbb _ (by simp)) f1 f2 hlc hcc hec
        · have hl0 : r.length = 0 := by
            rw [(getRange_ok hr).1]
            have : l = 0 := Nat.le_zero.1 (ho ▸ hlc)
            rw [this, Nat.zero_mul]
          have hc0 : cs' = [] := List.length_eq_zero_iff.1 (by rw [(mapS_ok hm).1, hl0])
          subst hc0
          exact .isl (fun _ => undef) (hbb _ (by simp)) (fun i x hx => by simp at hx) (fun i x hx => by simp at hx) hlc hcc hec
    · cases h

theorem mem_addFrz {bs : List Nat} : ∀ {F : List Nat} {b : Nat}, b ∈ addFrz F bs ↔ b ∈ F ∨ b ∈ bs := by
  induction bs with
  | nil => intro F b; simp [addFrz]
  | cons c bs ih =>
    intro F b
    unfold addFrz
    rw [ih]
    split
    · rename_i h
      simp only [List.contains_iff_mem] at h
      simp only [List.mem_cons]
      constructor
      · rintro (h1 | h1)
        · exact .inl h1
        · exact .inr (.inr h1)
      · rintro (h1 | rfl | h1)
        · exact .inl h1
        · exact .inl h
        · exact .inr h1
    · simp only [List.mem_cons]
      constructor
      · rintro ((rfl | h1) | h1)
        · exact .inr (.inl rfl)
        · exact .inl h1
        · exact .inr (.inr h1)
      · rintro (h1 | rfl | h1)
        · exact .inl (.inr h1)
        · exact .inl (.inl rfl)
        · exact .inr h1

/-- What was read is frozen. -/
def frzS (S : Nat → Prop) (φ : Nat → Nat × Nat × Nat) (bs : List Nat) : Nat → Prop := fun b => S b ∨ ∃ c, c ∈ bs ∧ (φ c).1 = b

theorem freeze_sim (R : Rel n₀ w₀ w S H φ D) {e : Eff} (he : e.set = none) (hbs : ∀ c, c ∈ e.frz → ∃ cs g, H.objs[c]? = some (.cells cs g)) :
    Rel n₀ w₀ w (frzS S φ e.frz) (H.apply e) φ D ∧ Ext n₀ w S H.objs φ D w (frzS S φ e.frz) (H.apply e).objs φ D := by
  have hap : H.apply e = { H with frz := addFrz H.frz e.frz } := by
    unfold AHeap.apply
    rw [he]
  have E : Ext n₀ w S H.objs φ D w (frzS S φ e.frz) H.objs φ D := by
    refine ⟨fun b hb => .inl hb, fun b hb => ?_, fun _ _ => rfl, fun b o h => ⟨o, h, OExt.refl _ _⟩, fun _ h => h⟩
    rcases hb with hb | ⟨c, hc, rfl⟩
    · exact .inl hb
    · obtain ⟨cs, g, hcs⟩ := hbs c hc
      exact .inr (R.place c _ hcs rfl)
  rw [hap]
  refine ⟨⟨R.below, R.size, ?_, ?_, R.place, R.inj, ?_, ?_, R.glob⟩, E⟩
  · rintro b (hb | ⟨c, hc, rfl⟩)
    · exact R.szS b hb
    · obtain ⟨cs, g, hcs⟩ := hbs c hc
      exact R.lt hcs rfl
  · intro b o hb
    have hor := R.obj b o hb
    cases o with
    | dead => trivial
    | cells cs g =>
      obtain ⟨C, t, lo, hi, h1, h2, h3, h4, h5⟩ := hor
      refine ⟨C, t, lo, hi, h1, h2, h3, fun i x v a b => (h4 i x v a b).ext E, ?_⟩
      rw [mem_addFrz]
      constructor
      · rintro (h | h)
        · exact .inl (h5.1 h)
        · exact .inr ⟨b, h, rfl⟩
      · rintro (h | ⟨c, hc, hq⟩)
        · exact .inl (h5.2 h)
        · obtain ⟨cs', g', hcs⟩ := hbs c hc
          have := R.inj c b _ _ hcs hb rfl rfl hq
          exact .inr (this ▸ hc)
    | map es =>
      obtain ⟨EE, c, h1, h2, h3, h4, h5⟩ := hor
      refine ⟨EE, c, h1, h2, fun i k v e' a b => ⟨(h3 i k v e' a b).1, (h3 i k v e' a b).2.ext E⟩, ?_, h5⟩
      rintro (h | ⟨c', hc, hq⟩)
      · exact h4 h
      · obtain ⟨cs', g', hcs⟩ := hbs c' hc
        have := R.inj c' b _ _ hcs hb rfl rfl hq
        subst this
        rw [hb] at hcs; cases hcs
    | raw x =>
      obtain ⟨h1, h2, h3⟩ := hor
      refine ⟨h1, h2, ?_⟩
      rintro (h | ⟨c', hc, hq⟩)
      · exact h3 h
      · obtain ⟨cs', g', hcs⟩ := hbs c' hc
        have := R.inj c' b _ _ hcs hb rfl rfl hq
        subst this
        rw [hb] at hcs; cases hcs
    | siter s pos =>
      obtain ⟨h1, h2⟩ := hor
      refine ⟨h1, ?_⟩
      rintro (h | ⟨c', hc, hq⟩)
      · exact h2 h
      · obtain ⟨cs', g', hcs⟩ := hbs c' hc
        have := R.inj c' b _ _ hcs hb rfl rfl hq
        subst this
        rw [hb] at hcs; cases hcs
    | loop st pend ts ps as bd =>
      obtain ⟨fn, TT, h1, h2, h3, h4⟩ := hor
      refine ⟨fn, TT, h1, h2.ext E, h3, ?_⟩
      rintro (h | ⟨c', hc, hq⟩)
      · exact h4 h
      · obtain ⟨cs', g', hcs⟩ := hbs c' hc
        have := R.inj c' b _ _ hcs hb rfl rfl hq
        subst this
        rw [hb] at hcs; cases hcs
  · intro d hd
    obtain ⟨h1, h2, h3⟩ := R.dfr d hd
    refine ⟨h1, ?_, h3⟩
    rintro (h | ⟨c, hc, hq⟩)
    · exact h2 h
    · obtain ⟨cs, g, hcs⟩ := hbs c hc
      obtain ⟨C, t, lo, hi, k1, _⟩ := R.obj c _ hcs
      rw [hq, h3] at k1
      cases k1
  · intro b hb
    rcases mem_addFrz.1 hb with hb | hb
    · exact R.frzc b hb
    · exact hbs b hb
end
end Go.Abs

namespace Go.Abs
open Go Go.RowKit

/-- The fence that lets every function in; in a round of loop l, or in none. -/
def FW (ro : Option Nat) : Fence := { Fence.wide with round := ro }

/-- The mark of a loop over a function. -/
def mark1 (r : Nat) : Deferred := { target := .collected r, args := #[] }

/-- A call that enters a function with a body, or one that the model answers at once. -/
def CallsV (P : Program) (k : FuncId) (vs : Array Value) (w : World) (R : Value → World → Prop) : Prop :=
  ((callFunc k vs).run P w = .ok (.enter k vs) w ∧ Calls P k vs w fun e w' => ∃ v, e = .returned v ∧ R v w') ∨ ∃ v w', (callFunc k vs).run P w = .ok (.value v) w' ∧ R v w'

def PureOK (P : Program) (call : CallF) : Prop :=
  ∀ k g, call.pure k = some g → ∀ (args : List AV) (r : AV), g args = .ok r → ∀ (w : World) (S : Nat → Prop) (vs : Array Value), (∀ b, S b → b < w.heap.size) → GK w.heap.size w → IVRL w S args vs →
    CallsV P k vs w fun v w' => ∃ S', Below w.heap.size w w' ∧ (∀ b, S b → S' b) ∧ (∀ b, S' b → S b ∨ w.heap.size ≤ b) ∧ (∀ b, S' b → b < w'.heap.size) ∧ IVR w' S' r v

def SharedOK (P : Program) (call : CallF) : Prop :=
  ∀ k (args : List AV) (H : AHeap) (r : AV) (H' : AHeap), call.pure k = none → call.shared k args H = .ok (r, H') → ∀ (n₀ : Nat) (w₀ w : World) (S : Nat → Prop) (φ : Nat → Nat × Nat × Nat) (D : Nat → Prop) (vs : Array Value),
    Rel n₀ w₀ w S H φ D → VRL w S H.objs φ args vs →
    (callFunc k vs).run P w = .ok (.enter k vs) w ∧ Calls P k vs w fun e w' => ∃ v S' φ' D', e = .returned v ∧ Rel n₀ w₀ w' S' H' φ' D' ∧ Ext n₀ w S H.objs φ D w' S' H'.objs φ' D' ∧ VR w' S' H'.objs φ' r v

def Marks (d d' : List Deferred) (D D' : Nat → Prop) : Prop := ∃ ms : List Nat, d' = ms.map mark1 ++ d ∧ ms.Nodup ∧ ∀ r, r ∈ ms → D' r ∧ ¬ D r

theorem Marks.refl (d : List Deferred) (D : Nat → Prop) : Marks d d D D := ⟨[], rfl, List.nodup_nil, fun r h => by simp at h⟩

theorem Marks.trans {d d' d'' : List Deferred} {D D' D'' : Nat → Prop} (h : Marks d d' D D') (k : Marks d' d'' D' D'') (h1 : ∀ r, D r → D' r) (h2 : ∀ r, D' r → D'' r) : Marks d d'' D D'' := by
  obtain ⟨ms, rfl, n1, p1⟩ := h
  obtain ⟨ns, rfl, n2, p2⟩ := k
  refine ⟨ns ++ ms, by simp, ?_, ?_⟩
  · rw [List.nodup_append]
    refine ⟨n2, n1, fun a ha b hb e => ?_⟩
    subst e
    exact (p2 a ha).2 (p1 a hb).1
  · intro r hr
    rcases List.mem_append.1 hr with hr | hr
    · exact ⟨(p2 r hr).1, fun hd => (p2 r hr).2 (h1 r hd)⟩
    · exact ⟨h2 r (p1 r hr).1, (p1 r hr).2⟩

def ExecOK (P : Program) (ex : ExecF) : Prop :=
  ∀ (c : Code) (ts : List AV) (H : AHeap) (e : Exit) (ts' : List AV) (H' : AHeap), ex c ts H = .ok (e, ts', H') → ∀ (ro : Option Nat) (n₀ : Nat) (w₀ w : World) (S : Nat → Prop) (φ : Nat → Nat × Nat × Nat) (D : Nat → Prop) (a : Act) (Q : Exit → Act → World → Prop),
    (∀ l, ro = some l → ∃ b st pend ts0 ps as bd, H.objs[b]? = some (.loop st pend ts0 ps as bd) ∧ (φ b).1 = l ∧ D (φ b).2.2) →
    Rel n₀ w₀ w S H φ D → VRL w S H.objs φ ts a.tmps →
    (∀ (a' : Act) (w' : World) (S' : Nat → Prop) (φ' : Nat → Nat × Nat × Nat) (D' : Nat → Prop), Rel n₀ w₀ w' S' H' φ' D' → Ext n₀ w S H.objs φ D w' S' H'.objs φ' D' → VRL w' S' H'.objs φ' ts' a'.tmps → Marks a.defers a'.defers D D' → Q e a' w') →
    c.wpIn (FW ro) 0 P Q a w

section
variable {P : Program} {w : World}
variable {n₀ : Nat} {w₀ : World} {S : Nat → Prop} {H : AHeap} {φ : Nat → Nat × Nat × Nat} {D : Nat → Prop}

theorem exec_v {s : Sem Value} {u : Value} {w' : World} (h : s.run P w = .ok u w') : (do pure (Next.value (← s)) : Sem Next).run P w = .ok (.value u) w' := by
  rw [run_bind_ok h]; rfl

theorem exec_u {s : Sem Unit} {w' : World} (h : s.run P w = .ok () w') : (do s; pure Next.skip : Sem Next).run P w = .ok .skip w' := by
  rw [run_bind_ok h]; rfl

/-- An operation has been carried out. -/
def Done (P : Program) (n₀ : Nat) (w₀ w : World) (S : Nat → Prop) (H : AHeap) (φ : Nat → Nat × Nat × Nat) (D : Nat → Prop) (a : Act) (o : Oper) (x : AV) (e : Eff) : Prop :=
  ∃ w', (∃ v, (execOp a.eval o).run P w = .ok (.value v) w' ∧ Good n₀ w₀ w S H φ D x e v w') ∨ ((execOp a.eval o).run P w = .ok .skip w' ∧ Good n₀ w₀ w S H φ D x e undef w')

theorem Done.value {a : Act} {o : Oper} {x : AV} {e : Eff} {w' : World} {v : Value} (h : (execOp a.eval o).run P w = .ok (.value v) w') (g : Good n₀ w₀ w S H φ D x e v w') : Done P n₀ w₀ w S H φ D a o x e := ⟨w', .inl ⟨v, h, g⟩⟩
theorem Done.skip {a : Act} {o : Oper} {x : AV} {e : Eff} {w' : World} (h : (execOp a.eval o).run P w = .ok .skip w') (g : Good n₀ w₀ w S H φ D x e undef w') : Done P n₀ w₀ w S H φ D a o x e := ⟨w', .inr ⟨h, g⟩⟩

theorem v0_ok {x : R AV} {y : AV} {e : Eff} (h : v0 x = .ok (y, e)) : x = .ok y ∧ e = {} := by
  unfold v0 at h
  obtain ⟨a, ha, h⟩ := bind_ok h
  cases pure_ok h
  exact ⟨ha, rfl⟩

theorem v1_ok {x : R (AV × List Nat)} {y : AV} {e : Eff} (h : v1 x = .ok (y, e)) : ∃ rd, x = .ok (y, rd) ∧ e = { rd := rd } := by
  unfold v1 at h
  obtain ⟨⟨a, rd⟩, ha, h⟩ := bind_ok h
  cases pure_ok h
  exact ⟨rd, ha, rfl⟩

theorem u1_ok {x : R Eff} {y : AV} {e : Eff} (h : u1 x = .ok (y, e)) : x = .ok e ∧ y = AV.undef := by
  unfold u1 at h
  obtain ⟨a, ha, h⟩ := bind_ok h
  cases pure_ok h
  exact ⟨ha, rfl⟩

theorem bound_of {ts : List AV} {a : Act} (hts : VRL w S H.objs φ ts a.tmps) (x : Option Operand) : ∀ r, optNat (x.map (evalOp ts)) = .ok r → BoundR (x.map a.eval) r := by
  intro r h
  refine optNat_sim (w := w) (S := S) (H := H.objs) (φ := φ) h (fun q hq => ?_) (fun hn => ?_)
  · cases x with
    | none => cases hq
    | some y =>
      simp only [Option.map_some, Option.some.injEq] at hq
      subst hq
      exact ⟨_, rfl, evalOp_VR hts y⟩
  · cases x with
    | none => rfl
    | some y => cases hn

/-- Whether an operation is a call of a function by its value. -/
def isCallV : Op → Bool
  | .call { callee := .value _, .. } => true
  | _ => false

theorem push_modify {α : Type} (h : Array α) (o : α) (f : α → α) : (h.push o).modify h.size f = h.push (f o) := by
  apply Array.ext
  · simp
  · intro i h1 h2
    simp at h1
    rw [Array.getElem_modify]
    by_cases e : h.size = i
    · subst e; simp
    · rw [if_neg e, Array.getElem_push_lt (by omega), Array.getElem_push_lt (by omega)]

theorem stringToBytes_sim (R : Rel n₀ w₀ w S H φ D) {slot : Option Nat} {el : TypeId} {s : ByteArray} {b : Nat} {e : Eff} (h : newA H slot (.cells (s.data.toList.map fun c => .sc (.int .u8 c.toNat)) 0) = .ok (b, e)) :
    ∃ u w', (Conv.stringToBytes el s).run P w = .ok u w' ∧ Good n₀ w₀ w S H φ D (.osl b 0 0 1 s.size s.size false) e u w' := by
  have hcut : ∃ q, s.size ≤ q ∧ (Question.appendCap s.size 0 el).cut (w.tape w.drawn (.appendCap s.size 0 el)) = q := ⟨_, by simp only [Question.cut]; omega, rfl⟩
  obtain ⟨q, hq1, hq2⟩ := hcut
  have hE : ∃ E : Array Value, E = s.data.map (fun b => (.int .u8 b.toNat : Value)) := ⟨_, rfl⟩
  obtain ⟨E, hE⟩ := hE
  have hEs : E.size = s.size := by rw [hE]; simp
  have hC : ∃ C : Array Value, C = E ++ Array.replicate (q - s.size) (.int .u8 0) := ⟨_, rfl⟩
  obtain ⟨C, hC⟩ := hC
  have hCs : C.size = q := by rw [hC, Array.size_append, hEs, Array.size_replicate]; omega
  obtain ⟨φ', p1, p2, p3, p4⟩ := new_sim R.drew (e' := e) h rfl (newA_ok h).2.1 (ob := .cells C el (C.size, C.size + 1)) C.size (by
    intro H' X
    have hS : ¬ S w.heap.size := fun hs => Nat.lt_irrefl _ (R.szS _ hs)
    refine ⟨C, el, C.size, C.size + 1, ?_, fun i hi hh => by omega, ?_, ?_, ?_⟩
    · rw [upd_same]; simp
    · rw [upd_same]; exact ⟨by simp; rw [hCs]; exact hq1, rfl⟩
    · rw [upd_same]
      intro i x v a1 b1
      simp only [List.getElem?_map] at a1
      simp only [Nat.zero_add] at b1
      cases hs : s.data.toList[i]? with
      | none => rw [hs] at a1; cases a1
      | some c =>
        rw [hs] at a1
        simp at a1
        subst a1
        have hi : i < s.data.toList.length := (List.getElem?_eq_some_iff.1 hs).1
        have hi' : i < E.size := by rw [hE]; simpa using hi
        rw [hC, Array.getElem?_append, if_pos hi', hE, Array.getElem?_map] at b1
        have : s.data[i]? = some c := by rw [← Array.getElem?_toList]; exact hs
        rw [this] at b1
        simp at b1
        subst b1
        exact .im (.sc rfl)
    · rw [upd_same]
      exact ⟨fun hb => absurd hb (newA_frz R h), fun hs => absurd hs hS⟩)
  refine ⟨.slice (some ⟨w.heap.size, 0, none⟩) s.size q, { w with drawn := w.drawn + 1, heap := w.heap.push (.cells C el (C.size, C.size + 1)) }, ?_, S, φ', p2, (Ext.drew (n₀ := n₀) (w := w) (S := S) (φ := φ) (D := D)).trans p3, .osl p4 (Nat.le_refl _) hq1 hq1 (fun e => by simp at e) (fun _ => ⟨0, by rw [p1], .inl (by rw [p1]), by rw [p1, hCs]; simp⟩)⟩
  unfold Conv.stringToBytes
  rw [run_bind_ok (run_choose rfl), hq2]
  simp only
  rw [run_bind_ok (a := (⟨w.heap.size, 0, none⟩ : Addr)) (w' := { w with drawn := w.drawn + 1, heap := w.heap.push (.cells C el) }) (by rw [hC, hE]; rfl)]
  have hshape : ({ w with drawn := w.drawn + 1, heap := w.heap.push (.cells C el) } : World).shape? w.heap.size = some (el, C.size) := by
    simp [World.shape?]
  have hmark : (markStringish ⟨w.heap.size, 0, none⟩).run P { w with drawn := w.drawn + 1, heap := w.heap.push (.cells C el) } = .ok () { w with drawn := w.drawn + 1, heap := w.heap.push (.cells C el (C.size, C.size + 1)) } := by
    unfold markStringish
    rw [run_bind_ok (a := some (el, C.size)) (w' := { w with drawn := w.drawn + 1, heap := w.heap.push (.cells C el) }) (by simp only [shape, Sem.run, hshape])]
    simp only [freeze, Sem.run]
    congr 1
    simp only [World.freeze]
    rw [if_neg (by omega)]
    simp only [push_modify]
    rfl
  rw [run_bind_ok hmark]
  rfl

theorem bytesToString_run {ad : Addr} {ns : List Int} {len : Nat} {c : Nat} (h : (loadCells ad len).run P w = .ok (ns.map fun n => (.int .u8 n : Value)).toArray w) :
    (Conv.bytesToString (.slice (some ad) len c)).run P w = .ok (.string ⟨(ns.map fun n => UInt8.ofNat n.toNat).toArray⟩) w := by
  unfold Conv.bytesToString
  simp only
  rw [run_bind_ok h]
  have key : ∀ (ns : List Int) (acc : ByteArray), (forIn (List.map (fun n => (Value.int IntKind.u8 n)) ns) acc fun c s => (match c with
      | Value.int IntKind.u8 n => pure (ForInStep.yield (s.push (UInt8.ofNat n.toNat)))
      | _ => do
        stuck "bytesToString: byte expected"
        pure (ForInStep.yield s) : Sem (ForInStep ByteArray))).run P w = .ok ⟨acc.data ++ (ns.map fun n => UInt8.ofNat n.toNat).toArray⟩ w := by
    intro ns
    induction ns with
    | nil => intro acc; simp only [List.map_nil, List.forIn_nil]; simp
    | cons n ns ih =>
      intro acc
      simp only [List.map_cons, List.forIn_cons]
      rw [run_bind_ok (a := ForInStep.yield (acc.push (UInt8.ofNat n.toNat))) (w' := w) rfl]
      simp only
      rw [ih]
      congr 1
      congr 1
      apply Array.toList_inj.1
      simp [ByteArray.push]
  rw [List.forIn_toArray]
  refine (run_bind_ok (key ns ByteArray.empty)).trans ?_
  simp only [run_pure]
  congr 1
  congr 1
  congr 1
  apply Array.toList_inj.1
  simp

theorem bytesStr_sim (R : Rel n₀ w₀ w S H φ D) {el : TypeId} {x y : AV} {e : Eff} {ad : Addr} {len c : Nat} (h : bytesStr P H el x = .ok (y, e)) (hv : VR w S H.objs φ x (.slice (some ad) len c)) :
    ∃ u, (do match ← underlying el with
        | .int .u8 => Conv.bytesToString (.slice (some ad) len c)
        | .int .i32 => Conv.runesToString (.slice (some ad) len c)
        | _ => stuck "Convert: a slice of what to string?" : Sem Value).run P w = .ok u w ∧ Good n₀ w₀ w S H φ D y e u w := by
  unfold bytesStr at h
  replace h := bind_ok h
  obtain ⟨de, hde, h⟩ := h
  split at h
  · replace h := bind_ok h
    obtain ⟨n, hn, h⟩ := h
    replace h := bind_ok h
    obtain ⟨⟨cs, rd⟩, hcs, h⟩ := h
    replace h := bind_ok h
    obtain ⟨bs, hbs, h⟩ := h
    cases pure_ok h
    have hnl : n = len := by
      rcases (lenA_sim (P := P) hn hv).2 with ⟨a, c', e⟩ | ⟨s, e, _⟩
      · cases e; rfl
      · cases e
    subst hnl
    obtain ⟨C, hC, hCl⟩ := sliceCells_sim (P := P) R hcs hn (Nat.le_refl _) hv
    obtain ⟨ns, hns, rfl⟩ := bytesOf_sim hbs hCl.list
    have hCe : C = (ns.map fun n => (.int .u8 n : Value)).toArray := by rw [← hns]
    subst hCe
    have hC : (loadCells ad (n * 1)).run P w = .ok (ns.map fun n => (.int .u8 n : Value)).toArray w := hC
    rw [Nat.mul_one] at hC
    refine ⟨.string ⟨(ns.map fun n => UInt8.ofNat n.toNat).toArray⟩, ?_, Good.same R rfl rfl (.im (.sc rfl))⟩
    rw [run_bind_ok (tund_run hde)]
    exact bytesToString_run hC
  · cases h

theorem bytesStr_nil (R : Rel n₀ w₀ w S H φ D) {el : TypeId} {y : AV} {e : Eff} (h : bytesStr P H el (.isl [] 0 0 false) = .ok (y, e)) :
    ∃ u, (do match ← underlying el with
        | .int .u8 => Conv.bytesToString (.slice none 0 0)
        | .int .i32 => Conv.runesToString (.slice none 0 0)
        | _ => stuck "Convert: a slice of what to string?" : Sem Value).run P w = .ok u w ∧ Good n₀ w₀ w S H φ D y e u w := by
  unfold bytesStr at h
  replace h := bind_ok h
  obtain ⟨de, hde, h⟩ := h
  split at h
  · replace h := bind_ok h
    obtain ⟨n, hn, h⟩ := h
    cases hn
    replace h := bind_ok h
    obtain ⟨⟨cs, rd⟩, hcs, h⟩ := h
    replace h := bind_ok h
    obtain ⟨bs, hbs, h⟩ := h
    cases hcs
    cases hbs
    cases pure_ok h
    refine ⟨.string ⟨#[]⟩, ?_, Good.same R rfl rfl (.im (.sc rfl))⟩
    rw [run_bind_ok (tund_run hde)]
    rfl
  · cases h

theorem convertA_sim (R : Rel n₀ w₀ w S H φ D) {slot : Option Nat} {src dst : TypeId} {x y : AV} {e : Eff} {v : Value} (h : convertA P H slot src dst x = .ok (y, e)) (hv : VR w S H.objs φ x v) :
    ∃ u w', (convert src dst v).run P w = .ok u w' ∧ Good n₀ w₀ w S H φ D y e u w' := by
  unfold convertA at h
  replace h := bind_ok h
  obtain ⟨ds, hds, h⟩ := h
  replace h := bind_ok h
  obtain ⟨dd, hdd, h⟩ := h
  split at h
  · rename_i el s
    replace h := bind_ok h
    obtain ⟨de, hde, h⟩ := h
    split at h
    · replace h := bind_ok h
      obtain ⟨⟨b, e'⟩, hb, h⟩ := h
      cases pure_ok h
      have := hv.sc_inv.1
      subst this
      obtain ⟨u, w', h1, h2⟩ := stringToBytes_sim (P := P) R (el := el) hb
      refine ⟨u, w', ?_, h2⟩
      unfold convert
      rw [run_bind_ok (tund_run hds), run_bind_ok (tund_run hdd)]
      simp only
      rw [run_bind_ok (tund_run hde)]
      exact h1
    · cases h
  · rename_i el cs len cap ex
    rcases hv.isl_inv with ⟨b, o, c, rfl, _⟩ | ⟨rfl, rfl, rfl, rfl, rfl⟩
    case inr =>
      obtain ⟨u, h1, h2⟩ := bytesStr_nil R h
      refine ⟨u, w, ?_, h2⟩
      unfold convert
      rw [run_bind_ok (tund_run hds), run_bind_ok (tund_run hdd)]
      exact h1
    obtain ⟨u, h1, h2⟩ := bytesStr_sim R h hv
    refine ⟨u, w, ?_, h2⟩
    unfold convert
    rw [run_bind_ok (tund_run hds), run_bind_ok (tund_run hdd)]
    exact h1
  · rename_i el b g off k len cap ex
    obtain ⟨ad, c, rfl⟩ := hv.osl_form
    obtain ⟨u, h1, h2⟩ := bytesStr_sim R h hv
    refine ⟨u, w, ?_, h2⟩
    unfold convert
    rw [run_bind_ok (tund_run hds), run_bind_ok (tund_run hdd)]
    exact h1
  · split at h
    · rename_i a ha
      have := toScalar_VR ha hv
      subst this
      obtain ⟨u, hu, h⟩ := bind_ok h
      cases pure_ok h
      exact ⟨u, w, semPure_run (ofOpt_ok hu) w, Good.same R rfl rfl (ofV_VR u)⟩
    · cases h
end
end Go.Abs

namespace Go.Abs
open Go Go.RowKit

section
variable {P : Program} {w : World}
variable {n₀ : Nat} {w₀ : World} {S : Nat → Prop} {H : AHeap} {φ : Nat → Nat × Nat × Nat} {D : Nat → Prop}

theorem clearA_sim (R : Rel n₀ w₀ w S H φ D) {ts : Array TypeId} {t : TypeId} {x : AV} {e : Eff} {v : Value} (h : clearA P H ts.toList x = .ok e) (hv : VR w S H.objs φ x v) :
    ∃ u w', (Builtin.clear_ ts t #[v]).run P w = .ok u w' ∧ Good n₀ w₀ w S H φ D AV.undef e u w' := by
  unfold clearA at h
  split at h
  · rename_i t0 hts
    have hts : ts[0]? = some t0 := by rw [← Array.getElem?_toList, hts]; rfl
    obtain ⟨d, hd, h⟩ := bind_ok h
    split at h
    · rename_i elem b g off k len cap ex _
      obtain ⟨size, hs, h2⟩ := bind_ok h
      obtain ⟨z, hz, h3⟩ := bind_ok h2
      clear h h2
      split at h3
      · rename_i hc
        obtain ⟨rfl, hlen, hs0, hone⟩ := hc
        obtain ⟨cs, hcs, _⟩ := bind_ok (x := hcells H b g) (by unfold writeAt at h3; exact h3)
        have hb := hcells_ok hcs
        obtain ⟨o, c, rfl, ho, hlc, _⟩ := hv.osl_inv hb
        have ho : o = (φ b).2.1 + off := by
          rcases ho with ho | ho
          · exact ho
          · omega
        subst ho
        obtain ⟨z1, z2⟩ := zeroCellsA_sim (w := w) (S := S) (H := H.objs) (φ := φ) hz hs
        obtain ⟨zv, hzr, hzs, hzl⟩ := z2 (Nat.mul_ne_zero (by omega) hs0)
        have e1 : Builtin.zeroCells zv.cells len = (Array.range (len * k)).map (fun j => zv.cells[j % zv.cells.size]!) := by
          unfold Builtin.zeroCells
          rw [hzs]
        rw [← e1] at hzl
        have hpl : ∀ u ∈ (Builtin.zeroCells zv.cells len).toList, plainV u = true := by
          intro u hu
          obtain ⟨i, hi⟩ := List.getElem?_of_mem hu
          rw [Array.getElem?_toList] at hi
          have hlt : i < z.length := by rw [hzl.1]; exact (Array.getElem?_eq_some_iff.1 hi).1
          have hzi : z[i]? = some z[i] := List.getElem?_eq_getElem hlt
          have hq := hzl.2 i _ u hzi hi
          obtain ⟨h1, h2, _⟩ := hq.one (List.all_eq_true.1 hone _ (List.getElem_mem hlt))
          cases u <;> first | rfl | exact absurd rfl (h1 _) | exact absurd rfl (h2 _)
        obtain ⟨_, w', r1, φ', r2, r3, _⟩ := writeAt_sim (P := P) R h3 (vs := (Builtin.zeroCells zv.cells len).toList) (by simpa using hzl) hpl
        refine ⟨.tuple #[], w', ?_, S, φ', r2, r3, VR.undef⟩
        unfold Builtin.clear_
        have h0 : (#[Value.slice (some ⟨(φ b).1, (φ b).2.1 + off, none⟩) len c] : Array Value)[0]? = some (.slice (some ⟨(φ b).1, (φ b).2.1 + off, none⟩) len c) := rfl
        simp only [hts, h0]
        rw [run_bind_ok (tund_run hd)]
        obtain ⟨m, rfl⟩ : ∃ m, len = m + 1 := ⟨len - 1, by omega⟩
        simp only
        rw [run_bind_ok hzr]
        exact (run_bind_ok r1).trans rfl
      · cases h3
    · cases h
  · cases h

theorem args2 {ts : List AV} {a : Act} {H : List AObj} (hts : VRL w S H φ ts a.tmps) {args : Array Operand} {x y : AV} (h : args.toList.map (evalOp ts) = [x, y]) : ∃ vx vy, args.map a.eval = #[vx, vy] ∧ VR w S H φ x vx ∧ VR w S H φ y vy := by
  have hm := map_VRL hts args
  rw [h] at hm
  have h2 : (args.map a.eval).size = 2 := by rw [← hm.1]; rfl
  refine ⟨(args.map a.eval)[0], (args.map a.eval)[1], ?_, hm.2 0 x _ rfl (Array.getElem?_eq_getElem (by omega)), hm.2 1 y _ rfl (Array.getElem?_eq_getElem (by omega))⟩
  apply Array.ext
  · simpa using h2
  · intro i h1 h3
    have : i = 0 ∨ i = 1 := by omega
    rcases this with rfl | rfl <;> rfl

theorem args1 {ts : List AV} {a : Act} {H : List AObj} (hts : VRL w S H φ ts a.tmps) {args : Array Operand} {x : AV} (h : args.toList.map (evalOp ts) = [x]) : ∃ vx, args.map a.eval = #[vx] ∧ VR w S H φ x vx := by
  have hm := map_VRL hts args
  rw [h] at hm
  have h2 : (args.map a.eval).size = 1 := by rw [← hm.1]; rfl
  refine ⟨(args.map a.eval)[0], ?_, hm.2 0 x _ rfl (Array.getElem?_eq_getElem (by omega))⟩
  apply Array.ext
  · simpa using h2
  · intro i h1 h3
    have : i = 0 := by omega
    subst this
    rfl

/-- The small operations that are no calls of functions. -/
theorem opE_done (R : Rel n₀ w₀ w S H φ D) {call : CallF} {slot : Option Nat} {ts : List AV} {a : Act} {o : Oper} {x : AV} {e : Eff} (hts : VRL w S H.objs φ ts a.tmps) (h : opE P call slot ts H o.op = .ok (x, e))
    (hc : isCallV o.op = false) : Done P n₀ w₀ w S H φ D a o x e := by
  have ev := fun q => evalOp_VR hts q
  unfold opE at h
  cases ho : o.op with
  | move y =>
    rw [ho] at h; cases h
    exact .value (by unfold execOp; rw [ho]; rfl) (Good.same R rfl rfl (ev y))
  | assign y =>
    rw [ho] at h; cases h
    exact .value (by unfold execOp; rw [ho]; rfl) (Good.same R rfl rfl (ev y))
  | pick c p q =>
    rw [ho] at h
    simp only at h
    split at h
    · rename_i b hb
      cases h
      have hcv : a.eval c = .bool b := by have := ev c; rw [hb] at this; exact this.sc_inv.1
      refine .value (v := if b then a.eval p else a.eval q) (by unfold execOp; rw [ho]; simp only [hcv]; rfl) (Good.same R rfl rfl ?_)
      cases b
      · exact ev q
      · exact ev p
    · cases h
  | alloc t =>
    rw [ho] at h
    simp only at h
    obtain ⟨z, hz, h⟩ := bind_ok h
    obtain ⟨zv, hzr, rfl⟩ := tzero_run (P := P) (w := w) hz
    obtain ⟨u, w', h1, h2⟩ := boxA_sim (P := P) R h (ofV_VR zv)
    refine .value (v := u) (w' := w') ?_ h2
    unfold execOp
    rw [ho]
    refine exec_v ?_
    unfold Instr.alloc
    rw [run_bind_ok hzr]
    exact h1
  | box t y =>
    rw [ho] at h
    dsimp only at h
    obtain ⟨u, w', h1, h2⟩ := boxA_sim (P := P) R h (ev y)
    exact .value (by unfold execOp; rw [ho]; exact exec_v h1) h2
  | build t parts =>
    rw [ho] at h
    dsimp only at h
    replace h := v0_ok h
    obtain ⟨h, rfl⟩ := h
    obtain ⟨u, h1, h2⟩ := buildA_sim (P := P) (w := w) (S := S) (φ := φ) (H := H.objs) (qs := parts.map fun (i, x) => (i, a.eval x)) h (by simpa using parts_map hts parts.toList)
    exact .value (by unfold execOp; rw [ho]; exact exec_v h1) (Good.same R rfl rfl h2)
  | buildSlice t len parts =>
    rw [ho] at h
    dsimp only at h
    obtain ⟨u, w', h1, h2⟩ := buildSliceA_sim (P := P) R (qs := parts.map fun (i, x) => (i, a.eval x)) h (by simpa using parts_map hts parts.toList)
    exact .value (by unfold execOp; rw [ho]; exact exec_v h1) h2
  | load t y =>
    rw [ho] at h
    dsimp only at h
    replace h := v1_ok h
    obtain ⟨rd, h, rfl⟩ := h
    obtain ⟨u, h1, h2⟩ := loadA_sim (P := P) R h (ev y)
    exact .value (by unfold execOp; rw [ho]; exact exec_v h1) (Good.same R rfl rfl h2)
  | store t p q =>
    rw [ho] at h
    dsimp only at h
    replace h := u1_ok h
    obtain ⟨h, rfl⟩ := h
    obtain ⟨w', h1, h2⟩ := storeA_sim (P := P) R h (ev p) (ev q)
    exact .skip (by unfold execOp; rw [ho]; exact exec_u h1) h2
  | nilCheck y =>
    rw [ho] at h
    dsimp only at h
    replace h := v0_ok h
    obtain ⟨h, rfl⟩ := h
    obtain ⟨h1, h2⟩ := nilCheckA_sim (P := P) (w := w) (o := o) (ρ := a.eval) (X := y) h (ev y) ho rfl
    exact .value h1 (Good.same R rfl rfl h2)
  | binOp op t p q t' =>
    rw [ho] at h
    dsimp only at h
    replace h := v0_ok h
    obtain ⟨h, rfl⟩ := h
    obtain ⟨u, h1, h2⟩ := binOpA_sim (P := P) (w := w) h (ev p) (ev q)
    exact .value (by unfold execOp; rw [ho]; exact exec_v h1) (Good.same R rfl rfl h2)
  | unOp op t y =>
    rw [ho] at h
    simp only at h
    split at h
    · rename_i b hb
      replace h := v0_ok h
      obtain ⟨h, rfl⟩ := h
      obtain ⟨u, h1, h2⟩ := unOp_sim (P := P) (w := w) hb h (ev y)
      exact .value (by unfold execOp; rw [ho]; exact exec_v h1) (Good.same R rfl rfl h2)
    · cases h
  | convert src dst y =>
    rw [ho] at h
    dsimp only at h
    obtain ⟨u, w', h1, h2⟩ := convertA_sim (P := P) R h (ev y)
    exact .value (by unfold execOp; rw [ho]; exact exec_v h1) h2
  | sliceToArrayPointer t y =>
    rw [ho] at h
    dsimp only at h
    replace h := v0_ok h
    obtain ⟨h, rfl⟩ := h
    obtain ⟨u, h1, h2⟩ := toArrayPtr_sim (P := P) R h (ev y)
    exact .value (by unfold execOp; rw [ho]; exact exec_v h1) (Good.same R rfl rfl h2)
  | makeInterface t y =>
    rw [ho] at h
    dsimp only at h
    replace h := v0_ok h
    obtain ⟨h, rfl⟩ := h
    obtain ⟨u, h1, h2⟩ := ifaceA_sim (P := P) (w := w) h (ev y)
    exact .value (by unfold execOp; rw [ho]; exact exec_v h1) (Good.same R rfl rfl h2)
  | makeFunc f first captured =>
    rw [ho] at h
    simp only at h
    split at h
    · cases h
      have m1 := map_VRL hts first
      have m2 := map_VRL hts captured
      exact .value (by unfold execOp; rw [ho]; rfl) (Good.same R rfl rfl (.fn m1.1 m2.1 m1.2 m2.2))
    · cases h
  | makeMap t r =>
    rw [ho] at h
    cases r with
    | some r => cases h
    | none =>
      simp only at h
      obtain ⟨⟨b, e'⟩, hb, h⟩ := bind_ok h
      cases pure_ok h
      obtain ⟨u, w', h1, h2⟩ := makeMap_sim (P := P) R hb t
      exact .value (by unfold execOp; rw [ho]; exact exec_v h1) h2
  | makeSlice t l c =>
    rw [ho] at h
    dsimp only at h
    obtain ⟨u, w', h1, h2⟩ := makeSliceA_sim (P := P) R h (ev l) (ev c)
    exact .value (by unfold execOp; rw [ho]; exact exec_v h1) h2
  | slice t y lo hi mx =>
    rw [ho] at h
    dsimp only at h
    replace h := v1_ok h
    obtain ⟨rd, h, rfl⟩ := h
    obtain ⟨u, h1, h2⟩ := sliceA_sim (P := P) R h (ev y) (bound_of hts lo) (bound_of hts hi) (bound_of hts mx)
    exact .value (by unfold execOp; rw [ho]; exact exec_v h1) (Good.same R rfl rfl h2)
  | fieldAddr t y f =>
    rw [ho] at h
    dsimp only at h
    replace h := v0_ok h
    obtain ⟨h, rfl⟩ := h
    obtain ⟨u, h1, h2⟩ := fieldAddrA_sim (P := P) (w := w) h (ev y)
    exact .value (by unfold execOp; rw [ho]; exact exec_v h1) (Good.same R rfl rfl h2)
  | indexAddr t y i =>
    rw [ho] at h
    dsimp only at h
    replace h := v0_ok h
    obtain ⟨h, rfl⟩ := h
    obtain ⟨u, h1, h2⟩ := indexAddrA_sim (P := P) R h (ev y) (ev i)
    exact .value (by unfold execOp; rw [ho]; exact exec_v h1) (Good.same R rfl rfl h2)
  | index t y i =>
    rw [ho] at h
    dsimp only at h
    replace h := v0_ok h
    obtain ⟨h, rfl⟩ := h
    obtain ⟨u, h1, h2⟩ := indexA_sim (P := P) (w := w) h (ev y) (ev i)
    exact .value (by unfold execOp; rw [ho]; exact exec_v h1) (Good.same R rfl rfl h2)
  | lookup t y i ok =>
    rw [ho] at h
    dsimp only at h
    obtain ⟨u, h1, h2, h3, h4⟩ := lookupA_sim (P := P) R h (ev y) (ev i)
    exact .value (by unfold execOp; rw [ho]; exact exec_v h1) (Good.same R h3 h4 h2)
  | mapUpdate t m k y =>
    rw [ho] at h
    dsimp only at h
    replace h := u1_ok h
    obtain ⟨h, rfl⟩ := h
    obtain ⟨w', h1, h2⟩ := mapUpdateA_sim (P := P) R h (ev m) (ev k) (ev y)
    exact .skip (by unfold execOp; rw [ho]; exact exec_u h1) h2
  | range t y =>
    rw [ho] at h
    dsimp only at h
    obtain ⟨u, w', h1, h2⟩ := rangeA_sim (P := P) R h (ev y)
    exact .value (by unfold execOp; rw [ho]; exact exec_v h1) h2
  | next it s =>
    rw [ho] at h
    cases s with
    | false => cases h
    | true =>
      obtain ⟨u, w', h1, h2⟩ := nextA_sim (P := P) (t := o.type) R h (ev it)
      exact .value (by unfold execOp; rw [ho]; exact exec_v h1) h2
  | extract t i =>
    rw [ho] at h
    simp only at h
    split at h
    · rename_i vs hvs
      split at h
      · rename_i y hy
        cases h
        have := ev t
        rw [hvs] at this
        obtain ⟨u, h1, h2⟩ := extract_sim (P := P) hy this
        exact .value (by unfold execOp; rw [ho]; exact exec_v h1) (Good.same R rfl rfl h2)
      · cases h
    · cases h
  | call c =>
    rw [ho] at h
    dsimp only at h
    obtain ⟨callee, args, argTypes⟩ := c
    cases callee with
    | value f => rw [ho] at hc; cases hc
    | invoke r m => cases h
    | builtin b =>
      simp only at h
      unfold builtinA at h
      have run : ∀ (s : Sem Value) (u : Value) (w' : World), (builtin b argTypes o.type (args.map fun | .const _ => true | _ => false) (args.map a.eval)) = (do pure (.value (← s))) → s.run P w = .ok u w' → (execOp a.eval o).run P w = .ok (.value u) w' := by
        intro s u w' e hs
        unfold execOp
        rw [ho]
        simp only
        unfold resolve
        simp only
        rw [run_bind_ok (a := { target := .builtin b argTypes o.type (args.map fun | .const _ => true | _ => false), args := args.map a.eval }) (w' := w) rfl]
        unfold invoke
        simp only
        rw [e]
        exact exec_v hs
      split at h
      · rename_i hcl
        have hcl : b = .clear := by cases b <;> first | rfl | cases hcl
        subst hcl
        unfold builtinC at h
        split at h
        · rename_i y hargs
          obtain ⟨vx, e1, hx⟩ := args1 hts hargs
          obtain ⟨h3, rfl⟩ := u1_ok h
          obtain ⟨u, w', h1, h2⟩ := clearA_sim (P := P) (t := o.type) R h3 hx
          rw [e1] at run
          exact .value (run _ u w' rfl h1) h2
        · cases h
      rename_i hncl
      clear hncl
      unfold builtinB at h
      split at h
      · rename_i s y hargs
        obtain ⟨vs, vx, e1, hs, hx⟩ := args2 hts hargs
        obtain ⟨u, w', h1, h2⟩ := appendA_sim (P := P) (t := o.type) R h hs hx
        rw [e1] at run
        exact .value (run _ u w' rfl h1) h2
      · rename_i y hargs
        obtain ⟨vx, e1, hx⟩ := args1 hts hargs
        replace h := v1_ok h
        obtain ⟨rd, h, rfl⟩ := h
        obtain ⟨u, h1, h2⟩ := lenBuiltin_sim (P := P) (t := o.type) R h hx
        rw [e1] at run
        exact .value (run _ u w rfl h1) (Good.same R rfl rfl h2)
      · rename_i y hargs
        obtain ⟨vx, e1, hx⟩ := args1 hts hargs
        replace h := v0_ok h
        obtain ⟨h, rfl⟩ := h
        obtain ⟨u, h1, h2⟩ := capBuiltin_sim (P := P) (w := w) (t := o.type) h hx
        rw [e1] at run
        exact .value (run _ u w rfl h1) (Good.same R rfl rfl h2)
      · replace h := v0_ok h
        obtain ⟨h, rfl⟩ := h
        obtain ⟨u, h1, h2⟩ := minMaxA_sim (P := P) (w := w) (ts := argTypes) (t := o.type) h (map_VRL hts args)
        exact .value (run _ u w rfl h1) (Good.same R rfl rfl h2)
      · replace h := v0_ok h
        obtain ⟨h, rfl⟩ := h
        obtain ⟨u, h1, h2⟩ := minMaxA_sim (P := P) (w := w) (ts := argTypes) (t := o.type) h (map_VRL hts args)
        exact .value (run _ u w rfl h1) (Good.same R rfl rfl h2)
      · cases h
  | _ => rw [ho] at h; cases h
end
end Go.Abs

namespace Go.Abs
open Go Go.RowKit

section
variable {P : Program} {w : World}
variable {n₀ : Nat} {w₀ : World} {S : Nat → Prop} {H : AHeap} {φ : Nat → Nat × Nat × Nat} {D : Nat → Prop}

/-- What is asked behind a step. -/
def Cont (n₀ : Nat) (w₀ w : World) (S : Nat → Prop) (H : AHeap) (φ : Nat → Nat × Nat × Nat) (D : Nat → Prop) (ts' : List AV) (H' : AHeap) (d : List Deferred) (K : Act → World → Prop) : Prop :=
  ∀ (a' : Act) (w' : World) (S' : Nat → Prop) (φ' : Nat → Nat × Nat × Nat) (D' : Nat → Prop), Rel n₀ w₀ w' S' H' φ' D' → Ext n₀ w S H.objs φ D w' S' H'.objs φ' D' → VRL w' S' H'.objs φ' ts' a'.tmps → a'.defers = d → K a' w'

theorem put_VRL {H : List AObj} {ts : List AV} {a : Act} (hts : VRL w S H φ ts a.tmps) {x : AV} {v : Value} (hv : VR w S H φ x v) (dst : Option Tmp) :
    VRL w S H φ (putT ts dst x) (a.put dst v).tmps := by
  cases dst with
  | none => exact hts
  | some d => exact hts.set d hv

theorem put_defers (a : Act) (dst : Option Tmp) (v : Value) : (a.put dst v).defers = a.defers := by
  cases dst <;> rfl

theorem Done.step {a : Act} {o : Oper} {x : AV} {e : Eff} {ro : Option Nat} {ts : List AV} {K : Act → World → Prop} {Q : Exit → Act → World → Prop} (g : Done P n₀ w₀ w S H φ D a o x e)
    (hd : ∀ c, o.op ≠ .defer c) (hts : VRL w S H.objs φ ts a.tmps)
    (hK : Cont n₀ w₀ w S H φ D (putT ts o.dst x) (H.apply e) a.defers K) : o.wpIn (FW ro) 0 P a w K Q := by
  unfold Oper.wpIn
  refine ⟨fun _ _ => trivial, ?_⟩
  rw [Oper.semAt_eq _ _ _ hd]
  obtain ⟨w', ⟨v, h1, S', φ', h2, h3, h4⟩ | ⟨h1, S', φ', h2, h3, h4⟩⟩ := g
  · rw [h1]
    exact hK _ _ S' φ' D h2 h3 (put_VRL (hts.ext h3) h4 o.dst) (put_defers _ _ _)
  · rw [h1]
    exact hK _ _ S' φ' D h2 h3 (put_VRL (hts.ext h3) h4 o.dst) (put_defers _ _ _)

theorem VR.func_inv {k : FuncId} {f c : List AV} {v : Value} {H : List AObj} (h : VR w S H φ (.fn (.func k) f c) v) : ∃ f' c', v = .func (.func k) f' c' ∧ VRL w S H φ f f' ∧ VRL w S H φ c c' := by
  cases h with
  | im h =>
    cases h with
    | fn ha hc h1 h2 => exact ⟨_, _, rfl, ⟨ha, fun i x v a b => .im (h1 i x v a b)⟩, ⟨hc, fun i x v a b => .im (h2 i x v a b)⟩⟩
  | fn ha hc h1 h2 => exact ⟨_, _, rfl, ⟨ha, h1⟩, ⟨hc, h2⟩⟩

theorem VR.yield_inv {l : Nat} {v : Value} {H : List AObj} (h : VR w S H φ (.fn (.yield l) [] []) v) : v = .func (.yield (φ l).1) #[] #[] ∧ ∃ st pend ts ps as bd, H[l]? = some (.loop st pend ts ps as bd) := by
  cases h with
  | im h => cases h
  | yield h => exact ⟨rfl, h⟩

/-- A call by a value: what the model does first. -/
theorem call_run {f : Operand} {args : Array Operand} {at_ : Array TypeId} {a : Act} {o : Oper} {k : FuncId} {f' c' : Array Value} (ho : o.op = .call { callee := .value f, args := args, argTypes := at_ })
    (hf : a.eval f = .func (.func k) f' c') : (execOp a.eval o).run P w = (callFunc k (f' ++ args.map a.eval ++ c')).run P w := by
  unfold execOp
  rw [ho]
  simp only
  unfold resolve
  simp only [hf]
  rfl

theorem callYield_run {f : Operand} {args : Array Operand} {at_ : Array TypeId} {a : Act} {o : Oper} {l : Nat} (ho : o.op = .call { callee := .value f, args := args, argTypes := at_ })
    (hf : a.eval f = .func (.yield l) #[] #[]) : (execOp a.eval o).run P w = (Instr.yield l (args.map a.eval)).run P w := by
  unfold execOp
  rw [ho]
  simp only
  unfold resolve
  simp only [hf]
  have : (#[] : Array Value) ++ args.map a.eval = args.map a.eval := by simp
  show (Instr.yield l (#[] ++ args.map a.eval)).run P w = _
  rw [this]

theorem callsIn_of {k : FuncId} {vs : Array Value} {R : Ending → World → Prop} (h : Calls P k vs w R) : CallsIn Fence.wide 0 P k vs w R := callsIn_wide.2 h

theorem callsIn_FW {ro : Option Nat} {n : Nat} {k : FuncId} {vs : Array Value} {R : Ending → World → Prop} (h : Calls P k vs w R) : CallsIn (FW ro) n P k vs w R := by
  have := callsIn_wide (n := n).2 h
  exact this

/-- The world has gone on beyond what the run knows. -/
theorem rel_beyond (R : Rel n₀ w₀ w S H φ D) {w' : World} {S' : Nat → Prop} (hb : Below w.heap.size w w') (h1 : ∀ b, S b → S' b) (h2 : ∀ b, S' b → S b ∨ w.heap.size ≤ b) (h3 : ∀ b, S' b → b < w'.heap.size) :
    Rel n₀ w₀ w' S' H φ D ∧ Ext n₀ w S H.objs φ D w' S' H.objs φ D := by
  have E : Ext n₀ w S H.objs φ D w' S' H.objs φ D :=
    ⟨h1, fun b h => (h2 b h).imp id (Nat.le_trans R.size), fun b h => hb.block b (R.szS b h), fun b o h => ⟨o, h, OExt.refl _ _⟩, fun _ h => h⟩
  refine ⟨⟨R.below.trans (hb.mono R.size), Nat.le_trans R.size hb.size, h3, fun b o h => ?_, R.place, R.inj, fun d hd => ?_, R.frzc, R.glob.below (hb.mono R.size)⟩, E⟩
  · cases hl : o.live with
    | false => cases o <;> simp [AObj.live] at hl; trivial
    | true =>
      have lt := R.lt h hl
      exact (R.obj b o h).ext E (hb.block _ lt) rfl Iff.rfl ⟨fun h => (h2 _ h).resolve_right (by omega), h1 _⟩
  · obtain ⟨k1, k2, k3⟩ := R.dfr d hd
    have lt := (Array.getElem?_eq_some_iff.1 k3).1
    exact ⟨k1, fun h => k2 ((h2 _ h).resolve_right (by omega)), by rw [hb.block _ lt]; exact k3⟩

theorem mapS_imm (R : Rel n₀ w₀ w S H φ D) {n : Nat} {xs xs' : List AV} {bs : List Nat} {vs : Array Value} (hm : mapS (imm H n) xs = .ok (xs', bs)) (hvs : VRL w S H.objs φ xs vs) :
    (∀ c, c ∈ bs → ∃ cs g, H.objs[c]? = some (.cells cs g)) ∧ IVRL w (frzS S φ bs) xs' vs := by
  obtain ⟨h1, h2, h3⟩ := mapS_ok hm
  refine ⟨fun c hc => ?_, h1.trans hvs.1, fun i y u hy hu => ?_⟩
  · obtain ⟨i, y, y', b, e1, e2, e3⟩ := h3 c hc
    obtain ⟨u, _, hu⟩ := hvs.get e1
    exact (imm_sim R n y y' b u e2 hu).1 c e3
  · obtain ⟨z, hz, hr⟩ := hvs.get' hu
    obtain ⟨y', b, e1, e2, e3⟩ := h2 i z hz
    rw [hy] at e2
    cases e2
    exact (imm_sim R n z y b u e1 hr).2 _ (fun b hb => .inl hb) (fun c hc => .inr ⟨c, e3 c hc, rfl⟩)

theorem pureCall_sim (R : Rel n₀ w₀ w S H φ D) {call : CallF} (hp : PureOK P call) {k : FuncId} {g : List AV → Go.Abs.R AV} (hg : call.pure k = some g) {args : List AV} {vs : Array Value} {x : AV} {e : Eff} (h : pureCallA H g args = .ok (x, e)) (hvs : VRL w S H.objs φ args vs) :
    CallsV P k vs w fun v w' => ∃ S', Rel n₀ w₀ w' S' (H.apply e) φ D ∧ Ext n₀ w S H.objs φ D w' S' (H.apply e).objs φ D ∧ VR w' S' (H.apply e).objs φ x v := by
  unfold pureCallA at h
  replace h := bind_ok h
  obtain ⟨⟨args', bs⟩, hm, h⟩ := h
  replace h := bind_ok h
  obtain ⟨r, hr, h⟩ := h
  cases pure_ok h
  obtain ⟨hb, hi⟩ := mapS_imm R hm hvs
  obtain ⟨R1, E1⟩ := freeze_sim R (e := { rd := bs, frz := bs }) rfl hb
  have step : ∀ v w', (∃ S', Below w.heap.size w w' ∧ (∀ b, frzS S φ bs b → S' b) ∧ (∀ b, S' b → frzS S φ bs b ∨ w.heap.size ≤ b) ∧ (∀ b, S' b → b < w'.heap.size) ∧ IVR w' S' x v) →
      ∃ S', Rel n₀ w₀ w' S' (H.apply { rd := bs, frz := bs }) φ D ∧ Ext n₀ w S H.objs φ D w' S' (H.apply { rd := bs, frz := bs }).objs φ D ∧ VR w' S' (H.apply { rd := bs, frz := bs }).objs φ x v := by
    rintro v w' ⟨S', h1, h2, h3, h4, h5⟩
    obtain ⟨R2, E2⟩ := rel_beyond R1 h1 h2 h3 h4
    exact ⟨S', R2, E1.trans E2, .im h5⟩
  rcases hp k g hg args' x hr w _ vs R1.szS (R1.glob.mono R1.size) hi with ⟨h1, h2⟩ | ⟨v, w', h1, h2⟩
  · refine .inl ⟨h1, fun cs => ?_⟩
    obtain ⟨e, w', fr, ⟨v, rfl, h⟩, hc⟩ := h2 cs
    exact ⟨_, w', fr, ⟨v, rfl, step v w' h⟩, hc⟩
  · exact .inr ⟨v, w', h1, step v w' h2⟩

theorem Calls.mono' {k : FuncId} {vs : Array Value} {R R' : Ending → World → Prop} (h : Calls P k vs w R) (hr : ∀ e w, R e w → R' e w) : Calls P k vs w R' := fun cs =>
  let ⟨e, w', fr, r, x⟩ := h cs
  ⟨e, w', fr, hr _ _ r, x⟩

theorem isCallV_inv {o : Op} (h : isCallV o = true) : ∃ f args at_, o = .call { callee := .value f, args := args, argTypes := at_ } := by
  cases o <;> simp [isCallV] at h
  rename_i c
  obtain ⟨callee, args, at_⟩ := c
  cases callee <;> simp at h
  exact ⟨_, _, _, rfl⟩

theorem opE_sim (R : Rel n₀ w₀ w S H φ D) {call : CallF} (hp : PureOK P call) {slot : Option Nat} {ts : List AV} {a : Act} {o : Oper} {x : AV} {e : Eff} {ro : Option Nat} {K : Act → World → Prop} {Q : Exit → Act → World → Prop}
    (hts : VRL w S H.objs φ ts a.tmps) (h : opE P call slot ts H o.op = .ok (x, e))
    (hK : Cont n₀ w₀ w S H φ D (putT ts o.dst x) (H.apply e) a.defers K) : o.wpIn (FW ro) 0 P a w K Q := by
  cases hc : isCallV o.op with
  | false => exact (opE_done R hts h hc).step (fun c hc => by rw [hc] at h; cases h) hts hK
  | true =>
    obtain ⟨f, args, at_, ho⟩ := isCallV_inv hc
    rw [ho] at h
    unfold opE at h
    simp only at h
    split at h
    · rename_i k first captured hf
      split at h
      · rename_i g hg
        obtain ⟨f', c', hv, h1, h2⟩ := (hf ▸ evalOp_VR hts f).func_inv
        have hvs := (h1.append (map_VRL hts args)).append h2
        have := pureCall_sim R hp hg h hvs
        unfold Oper.wpIn
        refine ⟨fun _ _ => trivial, ?_⟩
        rw [Oper.semAt_eq _ _ _ (fun c hc => by rw [ho] at hc; cases hc), call_run ho hv]
        rcases this with ⟨h3, h4⟩ | ⟨v, w', h3, S', R', E', V'⟩
        · rw [h3]
          refine ⟨(fun h => by cases h), ?_⟩
          refine callsIn_FW (Calls.mono' h4 ?_)
          rintro _ w' ⟨v, rfl, S', R', E', V'⟩
          exact hK _ _ S' φ D R' E' (put_VRL (hts.ext E') V' o.dst) (put_defers _ _ _)
        · rw [h3]
          exact hK _ _ S' φ D R' E' (put_VRL (hts.ext E') V' o.dst) (put_defers _ _ _)
      · cases h
    · cases h
end
end Go.Abs

namespace Go.Abs
open Go Go.RowKit

section
variable {P : Program} {w : World}
variable {n₀ : Nat} {w₀ : World} {S : Nat → Prop} {H : AHeap} {φ : Nat → Nat × Nat × Nat} {D : Nat → Prop}

theorem getLoop_run {r : Nat} {x : Loop} (h : w.heap[r]? = some (.loop x)) : (Instr.getLoop r).run P w = .ok x w := by
  unfold Instr.getLoop
  rw [run_bind_ok (a := Obj.loop x) (w' := w) (by simp only [getObj, Sem.run, h])]
  rfl

theorem setLoop_run {r : Nat} {x y : Loop} (h : w.heap[r]? = some (.loop x)) : (Go.setObj r (.loop y)).run P w = .ok () { w with heap := w.heap.setIfInBounds r (.loop y) } :=
  run_setObj h (fun _ _ _ h => by cases h)

theorem beginRound_run {r : Nat} {x : Loop} (h : w.heap[r]? = some (.loop x)) (hs : x.state = .ready) : (Instr.beginRound r).run P w = .ok () { w with heap := w.heap.setIfInBounds r (.loop { x with state := .busy }) } := by
  unfold Instr.beginRound
  rw [run_bind_ok (getLoop_run h), run_bind_ok (setLoop_run h), hs]
  rfl

theorem endRound_run {r : Nat} {x : Loop} (h : w.heap[r]? = some (.loop x)) (j : Option Code) :
    (Instr.endRound r j).run P w = .ok (.bool j.isNone) { w with heap := w.heap.setIfInBounds r (.loop { x with state := if j.isNone then .ready else .done, pending := j }) } := by
  unfold Instr.endRound
  rw [run_bind_ok (getLoop_run h), run_bind_ok (setLoop_run h)]
  rfl

theorem endLoop_run {r : Nat} {x : Loop} (h : w.heap[r]? = some (.loop x)) (hs : x.state ≠ .busy) :
    (Instr.endLoop r).run P w = .ok x.pending { w with heap := w.heap.setIfInBounds r (.loop { x with state := .exhausted }) } := by
  unfold Instr.endLoop
  rw [run_bind_ok (getLoop_run h)]
  have : (x.state == LoopState.busy) = false := by
    cases hx : x.state <;> first | rfl | exact absurd hx hs
  rw [this]
  simp only [Bool.false_eq_true, if_false]
  first
    | rw [run_bind_ok (setLoop_run h)]; rfl
    | (refine (run_bind_ok (a := ()) (w' := w) rfl).trans ?_; rw [run_bind_ok (setLoop_run h)]; rfl)

/-- A loop's record is set anew. -/
theorem loop_set (R : Rel n₀ w₀ w S H φ D) {l : Nat} {st st' : LoopState} {pend pend' : Option Code} {ts : List AV} {ps : List Tmp} {as bd : Code} (hl : H.objs[l]? = some (.loop st pend ts ps as bd))
    (hD : st' ≠ .exhausted → D (φ l).2.2) (hx : st = .exhausted → st' = .exhausted) :
    ∃ fn T, w.heap[(φ l).1]? = some (.loop { state := st, pending := pend, fn := fn, tmps := T, params := ps.toArray, assign := as, body := bd, defers := (φ l).2.2 }) ∧ VRL w S H.objs φ ts T ∧
      ∃ φ', φ' l = φ l ∧ Rel n₀ w₀ { w with heap := w.heap.setIfInBounds (φ l).1 (.loop { state := st', pending := pend', fn := fn, tmps := T, params := ps.toArray, assign := as, body := bd, defers := (φ l).2.2 }) } S
          { H with objs := H.objs.set l (.loop st' pend' ts ps as bd) } φ' D ∧
        Ext n₀ w S H.objs φ D { w with heap := w.heap.setIfInBounds (φ l).1 (.loop { state := st', pending := pend', fn := fn, tmps := T, params := ps.toArray, assign := as, body := bd, defers := (φ l).2.2 }) } S (H.objs.set l (.loop st' pend' ts ps as bd)) φ' D := by
  obtain ⟨fn, T, h1, h2, h3, h4⟩ := R.obj l _ hl
  refine ⟨fn, T, h1, h2, ?_⟩
  have hlt := (Array.getElem?_eq_some_iff.1 h1).1
  have hz : l ∉ H.frz := fun hz => by
    obtain ⟨cs, g, hc⟩ := R.frzc l hz
    rw [hl] at hc; cases hc
  have := obj_sim R (e := { set := some (l, .loop st' pend' ts ps as bd) }) (ob := .loop { state := st', pending := pend', fn := fn, tmps := T, params := ps.toArray, assign := as, body := bd, defers := (φ l).2.2 }) hl rfl h4 hz rfl rfl
    ⟨⟨_, _, _, _, _, _, rfl, hx⟩, rfl⟩ (fun ds hd => by rw [h1] at hd; cases hd) (fun H' E => by
      refine ⟨fn, T, ?_, h2.ext E, ?_, ?_⟩
      · rw [upd_same]; exact set_here hlt
      · rw [upd_same]; exact hD
      · rw [upd_same]; exact h4)
  have hap : H.apply { set := some (l, .loop st' pend' ts ps as bd) } = { H with objs := H.objs.set l (.loop st' pend' ts ps as bd) } := by
    unfold AHeap.apply setObj
    simp only [(List.getElem?_eq_some_iff.1 hl).1, if_true]
    rfl
  rw [hap] at this
  exact this

theorem setParams_VRL {H : List AObj} : ∀ (ps : List Tmp) (as ts : List AV) (as' T : Array Value), VRL w S H φ ts T → VRL w S H φ as as' →
    VRL w S H φ (setParams ps as ts) ((ps.toArray.zip as').foldl (fun tmps (t, a) => tmps.setIfInBounds t a) T) := by
  have key : ∀ (ps : List Tmp) (as ts : List AV) (as' : List Value) (T : Array Value), VRL w S H φ ts T → VRL w S H φ as as'.toArray →
      VRL w S H φ (setParams ps as ts) ((ps.zip as').foldl (fun tmps (t, a) => tmps.setIfInBounds t a) T) := by
    intro ps
    induction ps with
    | nil => intro as ts as' T h1 h2; simpa [setParams] using h1
    | cons p ps ih =>
      intro as ts as' T h1 h2
      cases as with
      | nil =>
        have : as' = [] := by
          have := h2.1
          simpa using this.symm
        subst this
        simpa [setParams] using h1
      | cons x as =>
        cases as' with
        | nil => have := h2.1; simp at this
        | cons v as' =>
          simp only [setParams, List.zip_cons_cons, List.foldl_cons]
          refine ih as _ as' _ (h1.set p (h2.2 0 x v rfl rfl)) ⟨by have := h2.1; simpa using this, fun i y u a b => h2.2 (i + 1) y u (by simpa using a) (by simpa using b)⟩
  intro ps as ts as' T h1 h2
  have := key ps as ts as'.toList T h1 (by simpa using h2)
  have e : (ps.toArray.zip as') = (ps.zip as'.toList).toArray := by
    rw [← Array.toList_inj]; simp
  rw [e, List.foldl_toArray]
  exact this
end
end Go.Abs

namespace Go.Abs
open Go Go.RowKit

/-- The loop of whose round the frame is. -/
def RoOK (ro : Option Nat) (H : AHeap) (φ : Nat → Nat × Nat × Nat) (D : Nat → Prop) : Prop :=
  ∀ l, ro = some l → ∃ b st pend ts0 ps as bd, H.objs[b]? = some (.loop st pend ts0 ps as bd) ∧ (φ b).1 = l ∧ D (φ b).2.2

section
variable {P : Program} {w : World}
variable {n₀ : Nat} {w₀ : World} {S : Nat → Prop} {H : AHeap} {φ : Nat → Nat × Nat × Nat} {D : Nat → Prop}

theorem RoOK.ext {ro : Option Nat} {w' : World} {S' : Nat → Prop} {H' : AHeap} {φ' : Nat → Nat × Nat × Nat} {D' : Nat → Prop} (h : RoOK ro H φ D) (E : Ext n₀ w S H.objs φ D w' S' H'.objs φ' D') : RoOK ro H' φ' D' := by
  intro l hl
  obtain ⟨b, st, pend, ts0, ps, as, bd, h1, h2, h3⟩ := h l hl
  obtain ⟨o', k1, ⟨⟨_, _, _, _, _, _, rfl, _⟩, hp⟩⟩ := E.obj _ _ h1
  exact ⟨b, _, _, _, _, _, _, k1, by rw [hp]; exact h2, by rw [hp]; exact E.dfr _ h3⟩

theorem objs_set_get {l : Nat} {o : AObj} {L : List AObj} {o' : AObj} (h : L[l]? = some o) : (L.set l o')[l]? = some o' := by
  rw [List.getElem?_set]
  simp [(List.getElem?_eq_some_iff.1 h).1]

theorem yieldA_sim (R : Rel n₀ w₀ w S H φ D) {ex : ExecF} (hex : ExecOK P ex) {l : Nat} {args : List AV} {vs : Array Value} {x : AV} {H' : AHeap} {ro : Option Nat} (h : yieldA ex l args H = .ok (x, H')) (hvs : VRL w S H.objs φ args vs) :
    ∃ f tmps assign body, (Instr.yield (φ l).1 vs).run P w = .ok (.round (φ l).1 f tmps assign body) w ∧
      RoundIn (FW ro) 0 P (φ l).1 f tmps assign body w fun e w' => ∃ v S' φ' D', e = .returned v ∧ Rel n₀ w₀ w' S' H' φ' D' ∧ Ext n₀ w S H.objs φ D w' S' H'.objs φ' D' ∧ VR w' S' H'.objs φ' x v := by
  unfold yieldA at h
  split at h
  · rename_i pend ts params assign body hl
    split at h
    · cases h
    · rename_i hlen
      simp only [ne_eq, Decidable.not_not] at hlen
      obtain ⟨fn, T, h1, h2, h3, h4⟩ := R.obj l _ hl
      have hD := h3 (by simp)
      refine ⟨fn, (params.toArray.zip vs).foldl (fun tmps (t, a) => tmps.setIfInBounds t a) T, assign, body, ?_, ?_⟩
      · unfold Instr.yield
        rw [run_bind_ok (getLoop_run h1)]
        simp only
        have : vs.size = params.toArray.size := by rw [← hvs.1, hlen]; simp
        rw [if_neg (by rw [this]; simp)]
        rfl
      · refine roundIn_of_wpIn (F := FW ro) trivial ?_
        replace h := bind_ok h
        obtain ⟨⟨e1, ts1, H1⟩, hx1, h⟩ := h
        split at h
        · rename_i ts1' H1' hq
          cases hq
          have ro1 : RoOK (some (φ l).1) H φ D := fun l' hl' => by
            cases hl'
            exact ⟨l, _, _, _, _, _, _, hl, rfl, hD⟩
          refine hex assign _ H .normal ts1 H1 hx1 (some (φ l).1) n₀ w₀ w S φ D _ _ ro1 R (setParams_VRL params args ts vs T h2 hvs) ?_
          intro a1 w1 S1 φ1 D1 R1 E1 V1 M1
          split at h
          · rename_i pend1 ts0 ps as bd hl1
            replace h := bind_ok h
            obtain ⟨⟨e2, ts2, H2⟩, hx2, h⟩ := h
            replace h := bind_ok h
            obtain ⟨jump, hj, h⟩ := h
            obtain ⟨o', k1, ⟨⟨_, _, _, _, _, _, rfl, _⟩, hp1⟩⟩ := E1.obj _ _ hl
            rw [hl1] at k1
            cases k1
            have hD1 : D1 (φ1 l).2.2 := by rw [hp1]; exact E1.dfr _ hD
            obtain ⟨fn1, T1, q1, q2, φ2, hp2, R2, E2⟩ := loop_set R1 (st' := .busy) (pend' := pend1) hl1 (fun _ => hD1) (fun e => by cases e)
            have hbr := beginRound_run (P := P) q1 rfl
            rw [hp1] at hbr R2 E2
            refine ⟨_, hbr, ?_⟩
            · have hl2 := objs_set_get (o' := .loop .busy pend1 ts0 ps as bd) hl1
              have ro2 : RoOK (some (φ l).1) { H1 with objs := H1.objs.set l (.loop .busy pend1 ts0 ps as bd) } φ2 D1 := fun l' hl' => by
                cases hl'
                exact ⟨l, _, _, _, _, _, _, hl2, by rw [hp2, hp1], by rw [hp2]; exact hD1⟩
              refine hex body ts1 _ e2 ts2 H2 hx2 (some (φ l).1) n₀ w₀ _ S1 φ2 D1 _ _ ro2 R2 (V1.ext E2) ?_
              intro a3 w3 S3 φ3 D3 R3 E3 V3 M3
              split at h
              · rename_i pend3 ts3 ps3 as3 bd3 hl3
                cases pure_ok h
                obtain ⟨o', k1, ⟨⟨_, _, _, _, _, _, rfl, _⟩, hp3⟩⟩ := E3.obj _ _ hl2
                rw [hl3] at k1
                cases k1
                have hD3 : D3 (φ3 l).2.2 := by rw [hp3, hp2]; exact E3.dfr _ hD1
                obtain ⟨fn3, T3, q3, q4, φ4, hp4, R4, E4⟩ := loop_set R3 (st' := if jump.isNone then .ready else .done) (pend' := jump) hl3 (fun _ => hD3) (fun e => by cases e)
                have hfin := endRound_run (P := P) q3 jump
                rw [hp3, hp2, hp1] at hfin R4 E4
                unfold jumpOf at hj
                split at hj
                · cases hj
                  exact ⟨_, _, hfin, _, S3, φ4, D3, rfl, R4, ((E1.trans E2).trans E3).trans E4, .im (.sc rfl)⟩
                · cases hj
                  exact ⟨_, _, hfin, _, S3, φ4, D3, rfl, R4, ((E1.trans E2).trans E3).trans E4, .im (.sc rfl)⟩
                · cases hj
                  exact ⟨_, _, hfin, _, S3, φ4, D3, rfl, R4, ((E1.trans E2).trans E3).trans E4, .im (.sc rfl)⟩
                · cases hj
              · cases h
          · cases h
        · cases h
  · cases h
end
end Go.Abs

namespace Go.Abs
open Go Go.RowKit

section
variable {P : Program} {w : World}
variable {n₀ : Nat} {w₀ : World} {S : Nat → Prop} {H : AHeap} {φ : Nat → Nat × Nat × Nat} {D : Nat → Prop}

theorem wantedA_ok {ops : Array Oper} {ts : List AV} {a : Act} {H : List AObj} {o : Oper} {b : Bool} (h : wantedA ops.toList ts o = .ok b) (hts : VRL w S H φ ts a.tmps) : Region.wanted o (yielded ops a.tmps) = b := by
  unfold wantedA at h
  unfold Region.wanted
  split at h
  · rename_i hg
    cases h
    rw [hg]
  · rename_i j want hg
    rw [hg]
    simp only
    unfold yielded
    rw [show ops.toList[j]? = ops[j]? from Array.getElem?_toList] at h
    split at h
    · rename_i d hd
      rw [hd]
      simp only [Option.bind_some]
      split at h
      · rename_i v hv
        cases h
        obtain ⟨u, hu, hr⟩ := hts.get hv
        rw [hu]
        obtain ⟨rfl, _⟩ := hr.sc_inv
        simp only
        cases v <;> cases want <;> rfl
      · cases h
      · rename_i h1 h2
        cases h
        have key : ∀ c, a.tmps[d]? ≠ some (.bool c) := by
          intro c hc
          obtain ⟨y, hy, hr⟩ := hts.get' hc
          cases hr with
          | im hr =>
            cases hr with
            | any => exact h2 hy
            | sc _ => exact h1 _ hy
        split
        · rename_i c hc
          exact absurd hc (key c)
        · rfl
    · rename_i hd
      cases h
      rw [hd]
      rfl

theorem bigA_sim (R : Rel n₀ w₀ w S H φ D) {call : CallF} {ex : ExecF} (hs : SharedOK P call) (hex : ExecOK P ex) {ts : List AV} {a : Act} {o : Oper} {f x : AV} {args : List AV} {H' : AHeap} {ro : Option Nat} {K : Act → World → Prop} {Q : Exit → Act → World → Prop}
    (hts : VRL w S H.objs φ ts a.tmps) (hb : bigCall call ts o.op = some (f, args)) (h : bigA call ex f args H = .ok (x, H'))
    (hK : Cont n₀ w₀ w S H φ D (putT ts o.dst x) H' a.defers K) : o.wpIn (FW ro) 0 P a w K Q := by
  unfold bigCall at hb
  split at hb
  · rename_i c ho
    split at hb
    · rename_i g hg
      obtain ⟨callee, as, at_⟩ := c
      simp only at hg
      subst hg
      have hd : ∀ c, o.op ≠ .defer c := fun c hc => by rw [ho] at hc; cases hc
      split at hb
      · rename_i k first captured hf
        split at hb
        · cases hb
        · rename_i hn
          cases hb
          obtain ⟨f', c', hv, h1, h2⟩ := (hf ▸ evalOp_VR hts g).func_inv
          have hvs := (h1.append (map_VRL hts as)).append h2
          obtain ⟨q1, q2⟩ := hs k _ H x H' hn h n₀ w₀ w S φ D _ R hvs
          unfold Oper.wpIn
          refine ⟨fun _ _ => trivial, ?_⟩
          rw [Oper.semAt_eq _ _ _ hd, call_run ho hv, q1]
          refine ⟨(fun h => by cases h), ?_⟩
          refine callsIn_FW (Calls.mono' q2 ?_)
          rintro _ w' ⟨v, S', φ', D', rfl, R', E', V'⟩
          exact hK _ _ S' φ' D' R' E' (put_VRL (hts.ext E') V' o.dst) (put_defers _ _ _)
      · rename_i l hf
        cases hb
        obtain ⟨hv, _⟩ := (hf ▸ evalOp_VR hts g).yield_inv
        obtain ⟨f, tmps, assign, body, q1, q2⟩ := yieldA_sim (P := P) (ro := ro) R hex h (map_VRL hts as)
        unfold Oper.wpIn
        refine ⟨fun _ _ => trivial, ?_⟩
        rw [Oper.semAt_eq _ _ _ hd, callYield_run ho hv, q1]
        refine ⟨(fun h => by cases h), ?_⟩
        refine RoundIn.mono q2 ?_
        rintro _ w' ⟨v, S', φ', D', rfl, R', E', V'⟩
        exact hK _ _ S' φ' D' R' E' (put_VRL (hts.ext E') V' o.dst) (put_defers _ _ _)
      · cases hb
    · cases hb
  · cases hb

theorem stepA_sim (R : Rel n₀ w₀ w S H φ D) {call : CallF} {ex : ExecF} (hp : PureOK P call) (hs : SharedOK P call) (hex : ExecOK P ex) {slot : Option Nat} {all : Array Oper} {o : Oper} {ts ts' : List AV} {H' : AHeap} {eo : Option Eff}
    (h : stepA P call ex slot all.toList o ts H = .ok (ts', H', eo)) {a : Act} {ro : Option Nat} {K : Act → World → Prop} {Q : Exit → Act → World → Prop} (hts : VRL w S H.objs φ ts a.tmps)
    (hK : Cont n₀ w₀ w S H φ D ts' H' a.defers K) :
    if Region.wanted o (yielded all a.tmps) then o.wpIn (FW ro) 0 P a w K Q else (∀ f, o.about P w a.eval = some f → (FW ro).fn f) ∧ K (a.put o.dst undef) w := by
  unfold stepA at h
  split at h
  · cases h
  · rename_i hw
    rw [wantedA_ok hw hts, if_pos rfl]
    split at h
    · rename_i f args hb
      replace h := bind_ok h
      obtain ⟨⟨v, H1⟩, hv, h⟩ := h
      cases pure_ok h
      exact bigA_sim R hs hex hts hb hv hK
    · split at h
      · rename_i v e hv
        cases h
        exact opE_sim R hp hts hv hK
      · cases h
  · rename_i hw
    rw [wantedA_ok hw hts, if_neg (by simp)]
    cases h
    refine ⟨fun _ _ => trivial, hK _ _ S φ D R ?_ (put_VRL hts VR.undef o.dst) (put_defers _ _ _)⟩
    exact Ext.refl

theorem seqA_sim {call : CallF} {ex : ExecF} (hp : PureOK P call) (hs : SharedOK P call) (hex : ExecOK P ex) {all : Array Oper} {ro : Option Nat} {Q : Exit → Act → World → Prop} : ∀ (l : List Oper) {w : World} {S : Nat → Prop} {H : AHeap} {φ : Nat → Nat × Nat × Nat} {D : Nat → Prop} {ts ts' : List AV} {H' : AHeap} {a : Act},
    seqA P call ex all.toList l ts H = .ok (ts', H') → Rel n₀ w₀ w S H φ D → VRL w S H.objs φ ts a.tmps → Cont n₀ w₀ w S H φ D ts' H' a.defers (Q .normal) → wpListIn (FW ro) 0 P all Q l a w := by
  intro l
  induction l with
  | nil =>
    intro w S H φ D ts ts' H' a h R hts hK
    cases h
    exact hK _ _ S φ D R Ext.refl hts rfl
  | cons o rest ih =>
    intro w S H φ D ts ts' H' a h R hts hK
    unfold seqA at h
    replace h := bind_ok h
    obtain ⟨⟨ts1, H1, eo⟩, h1, h⟩ := h
    refine stepA_sim R hp hs hex h1 hts ?_
    intro a1 w1 S1 φ1 D1 R1 E1 V1 hd
    refine ih h R1 V1 ?_
    intro a2 w2 S2 φ2 D2 R2 E2 V2 hd2
    exact hK a2 w2 S2 φ2 D2 R2 (E1.trans E2) V2 (hd2.trans hd)
end
end Go.Abs

namespace Go.Abs
open Go Go.RowKit

section
variable {P : Program} {H H' : AHeap}

def Same (H H' : AHeap) (rd : List Nat) : Prop := ∀ b, b ∈ rd → H'.objs[b]? = H.objs[b]?

/-- What was set was read, and is as free as it was. -/
def SetSame (H H' : AHeap) (e : Eff) : Prop := ∀ b o, e.set = some (b, o) → b ∈ e.rd ∧ (H'.frz.contains b = H.frz.contains b)

theorem Same.app {a b : List Nat} (h : Same H H' (a ++ b)) : Same H H' a ∧ Same H H' b :=
  ⟨fun c hc => h c (List.mem_append_left _ hc), fun c hc => h c (List.mem_append_right _ hc)⟩

theorem Same.one {b : Nat} {l : List Nat} (h : Same H H' (b :: l)) : H'.objs[b]? = H.objs[b]? := h b (by simp)
theorem Same.tl {b : Nat} {l : List Nat} (h : Same H H' (b :: l)) : Same H H' l := fun c hc => h c (by simp [hc])

theorem hcells_loc {b g : Nat} (h : H'.objs[b]? = H.objs[b]?) : hcells H' b g = hcells H b g := by
  unfold hcells; rw [h]

theorem readAt_loc {p : AV} {n : Nat} {cs : List AV} {rd : List Nat} (h : readAt H p n = .ok (cs, rd)) (hs : Same H H' rd) : readAt H' p n = .ok (cs, rd) := by
  have h0 := h
  unfold readAt at h ⊢
  split at h
  · exact h
  · obtain ⟨c, hc, h⟩ := bind_ok h
    replace h := bind_ok h
    obtain ⟨d, hd, h⟩ := h
    cases pure_ok h
    simp only [hcells_loc hs.one]
    unfold readAt at h0
    exact h0
  · exact h
  · cases h

theorem loadA_loc {t : TypeId} {p x : AV} {rd : List Nat} (h : loadA P H t p = .ok (x, rd)) (hs : Same H H' rd) : loadA P H' t p = .ok (x, rd) := by
  unfold loadA at h ⊢
  replace h := bind_ok h
  obtain ⟨a, ha, h⟩ := h
  simp only [ha, bind, Except.bind]
  cases a with
  | true =>
    simp only [if_true] at h ⊢
    replace h := bind_ok h
    obtain ⟨n, hn, h⟩ := h
    replace h := bind_ok h
    obtain ⟨⟨cs, rd'⟩, hr, h⟩ := h
    cases pure_ok h
    simp only [hn, readAt_loc hr hs]
    rfl
  | false =>
    simp only [Bool.false_eq_true, if_false] at h ⊢
    replace h := bind_ok h
    obtain ⟨⟨cs, rd'⟩, hr, h⟩ := h
    have : rd' = rd := by
      split at h
      · cases pure_ok h
        rename_i heq
        cases heq; rfl
      · cases h
    subst this
    simp only [readAt_loc hr hs]
    exact h

theorem writeAt_loc {b g off : Nat} {new : List AV} {e : Eff} (h : writeAt H b g off new = .ok e) (hs : Same H H' e.rd) (hz : SetSame H H' e) : writeAt H' b g off new = .ok e := by
  have h0 := h
  unfold writeAt at h
  replace h := bind_ok h
  obtain ⟨cs, hc, h⟩ := h
  split at h
  · cases h
  · split at h
    · cases pure_ok h
      rw [← h0]
      unfold writeAt
      rw [hcells_loc (hs b (by simp)), (hz b _ rfl).2]
    · cases h

theorem storeA_loc {t : TypeId} {p v : AV} {e : Eff} (h : storeA P H t p v = .ok e) (hs : Same H H' e.rd) (hz : SetSame H H' e) : storeA P H' t p v = .ok e := by
  have h0 := h
  unfold storeA at h ⊢
  replace h := bind_ok h
  obtain ⟨n, hn, h⟩ := h
  simp only [hn, bind, Except.bind]
  split at h
  · rename_i hq
    rw [if_pos hq]
    split at h
    · exact writeAt_loc h hs hz
    · cases h
  · cases h

theorem newA_loc {s : Nat} {o : AObj} {b : Nat} {e : Eff} (h : newA H (some s) o = .ok (b, e)) (hs : Same H H' e.rd) : newA H' (some s) o = .ok (b, e) := by
  have h0 := h
  unfold newA at h
  simp only at h
  split at h
  · rename_i hd
    cases h
    unfold newA
    simp only
    rw [hs s (by simp), hd]
  · cases h

theorem newA_set {s : Nat} {o : AObj} {b : Nat} {e : Eff} (h : newA H (some s) o = .ok (b, e)) : e.rd = [s] ∧ e.set = some (s, o) ∧ e.frz = [] ∧ b = s ∧ H.objs[s]? = some .dead := by
  unfold newA at h
  simp only at h
  split at h
  · rename_i hd
    cases h
    exact ⟨rfl, rfl, rfl, rfl, hd⟩
  · cases h

theorem mapS_loc {f g : AV → R (AV × List Nat)} (hfg : ∀ (x y : AV) (rd : List Nat), f x = .ok (y, rd) → Same H H' rd → g x = .ok (y, rd)) : ∀ {xs ys : List AV} {rd : List Nat}, mapS f xs = .ok (ys, rd) → Same H H' rd → mapS g xs = .ok (ys, rd) := by
  intro xs
  induction xs with
  | nil => intro ys rd h _; exact h
  | cons x xs ih =>
    intro ys rd h hs
    unfold mapS at h ⊢
    replace h := bind_ok h
    obtain ⟨⟨y, b⟩, hy, h⟩ := h
    replace h := bind_ok h
    obtain ⟨⟨ys', bs⟩, hys, h⟩ := h
    cases pure_ok h
    simp only [hfg x y b hy hs.app.1, ih hys hs.app.2, bind, Except.bind]
    rfl

theorem imm_loc : ∀ (n : Nat) (x y : AV) (rd : List Nat), imm H n x = .ok (y, rd) → Same H H' rd → imm H' n x = .ok (y, rd) := by
  intro n
  induction n with
  | zero => intro x y rd h; cases h
  | succ n ih =>
    intro x y rd h hs
    unfold imm at h ⊢
    split at h
    · exact h
    · exact h
    · exact h
    · exact h
    · replace h := bind_ok h
      obtain ⟨⟨cs', b⟩, hm, h⟩ := h
      cases pure_ok h
      simp only [mapS_loc ih hm hs, bind, Except.bind]; rfl
    · replace h := bind_ok h
      obtain ⟨⟨cs', b⟩, hm, h⟩ := h
      cases pure_ok h
      simp only [mapS_loc ih hm hs, bind, Except.bind]; rfl
    · replace h := bind_ok h
      obtain ⟨⟨a', b⟩, hm, h⟩ := h
      replace h := bind_ok h
      obtain ⟨⟨c', b'⟩, hm', h⟩ := h
      cases pure_ok h
      simp only [mapS_loc ih hm hs.app.1, mapS_loc ih hm' hs.app.2, bind, Except.bind]; rfl
    · replace h := bind_ok h
      obtain ⟨⟨z, b⟩, hm, h⟩ := h
      cases pure_ok h
      simp only [ih _ _ _ hm hs, bind, Except.bind]; rfl
    · replace h := bind_ok h
      obtain ⟨cs, hcs, h⟩ := h
      replace h := bind_ok h
      obtain ⟨⟨cs', b⟩, hm, h⟩ := h
      cases pure_ok h
      simp only [hcells_loc hs.one, hcs, mapS_loc ih hm hs.tl, bind, Except.bind]; rfl
    · replace h := bind_ok h
      obtain ⟨cs, hcs, h⟩ := h
      replace h := bind_ok h
      obtain ⟨r, hr, h⟩ := h
      replace h := bind_ok h
      obtain ⟨⟨cs', b⟩, hm, h⟩ := h
      cases pure_ok h
      simp only [hcells_loc hs.one, hcs, hr, mapS_loc ih hm hs.tl, bind, Except.bind]; rfl
    · cases h

theorem boxA_loc {s : Nat} {t : TypeId} {x y : AV} {e : Eff} (h : boxA P H (some s) t x = .ok (y, e)) (hs : Same H H' e.rd) : boxA P H' (some s) t x = .ok (y, e) := by
  unfold boxA at h ⊢
  replace h := bind_ok h
  obtain ⟨n, hn, h⟩ := h
  simp only [hn, bind, Except.bind]
  split at h
  · rename_i hq
    rw [if_pos hq]
    replace h := bind_ok h
    obtain ⟨⟨b, e'⟩, hb, h⟩ := h
    cases pure_ok h
    simp only [newA_loc hb hs]
    rfl
  · cases h

theorem buildSliceA_loc {s : Nat} {t : TypeId} {n : Nat} {ps : List (Nat × AV)} {y : AV} {e : Eff} (h : buildSliceA P H (some s) t n ps = .ok (y, e)) (hs : Same H H' e.rd) : buildSliceA P H' (some s) t n ps = .ok (y, e) := by
  unfold buildSliceA at h ⊢
  replace h := bind_ok h
  obtain ⟨d, hd, h⟩ := h
  simp only [hd, bind, Except.bind]
  split at h
  · replace h := bind_ok h
    obtain ⟨k, hk, h⟩ := h
    simp only [hk]
    split at h
    · cases h
    · rename_i hq
      rw [if_neg hq]
      replace h := bind_ok h
      obtain ⟨z, hz, h⟩ := h
      replace h := bind_ok h
      obtain ⟨c, hc, h⟩ := h
      replace h := bind_ok h
      obtain ⟨⟨b, e'⟩, hb, h⟩ := h
      cases pure_ok h
      simp only [hz, hc, newA_loc hb hs]
      rfl
  · cases h

theorem makeSliceA_loc {s : Nat} {t : TypeId} {l c y : AV} {e : Eff} (h : makeSliceA P H (some s) t l c = .ok (y, e)) (hs : Same H H' e.rd) : makeSliceA P H' (some s) t l c = .ok (y, e) := by
  unfold makeSliceA at h ⊢
  replace h := bind_ok h
  obtain ⟨d, hd, h⟩ := h
  simp only [hd, bind, Except.bind]
  split at h
  · replace h := bind_ok h
    obtain ⟨l', hl, h⟩ := h
    replace h := bind_ok h
    obtain ⟨c', hc, h⟩ := h
    replace h := bind_ok h
    obtain ⟨i, hi, h⟩ := h
    simp only [hl, hc, hi]
    dsimp only at h
    split at h
    · rename_i hq
      rw [if_pos hq]
      replace h := bind_ok h
      obtain ⟨z, hz, h⟩ := h
      replace h := bind_ok h
      obtain ⟨⟨b, e'⟩, hb, h⟩ := h
      replace h := bind_ok h
      obtain ⟨k, hk, h⟩ := h
      cases pure_ok h
      simp only [hz, hk, newA_loc hb hs]
      rfl
    · cases h
  · cases h

theorem sliceArr_loc {n : Nat} {elem : TypeId} {b g off l : Nat} {hi mx : Option Nat} {y : AV} {rd : List Nat} (h : sliceArr P H n elem b g off l hi mx = .ok (y, rd)) (hs : Same H H' rd) : sliceArr P H' n elem b g off l hi mx = .ok (y, rd) := by
  unfold sliceArr at h ⊢
  replace h := bind_ok h
  obtain ⟨k, hk, h⟩ := h
  replace h := bind_ok h
  obtain ⟨cs, hcs, h⟩ := h
  split at h
  · rename_i hq
    cases pure_ok h
    simp only [hk, hcells_loc hs.one, hcs, bind, Except.bind]
    rw [if_pos hq]
    rfl
  · cases h

theorem sliceA_loc {t : TypeId} {x y : AV} {lo hi mx : Option AV} {rd : List Nat} (h : sliceA P H t x lo hi mx = .ok (y, rd)) (hs : Same H H' rd) : sliceA P H' t x lo hi mx = .ok (y, rd) := by
  unfold sliceA at h ⊢
  replace h := bind_ok h
  obtain ⟨lo', h1, h⟩ := h
  replace h := bind_ok h
  obtain ⟨hi', h2, h⟩ := h
  replace h := bind_ok h
  obtain ⟨mx', h3, h⟩ := h
  simp only [h1, h2, h3, bind, Except.bind]
  dsimp only at h
  split at h
  · cases h
  · rename_i hq
    rw [if_neg hq]
    replace h := bind_ok h
    obtain ⟨d, hd, h⟩ := h
    simp only [hd]
    split at h
    · exact h
    · exact h
    · exact h
    · exact h
    · replace h := bind_ok h
      obtain ⟨d', hd', h⟩ := h
      simp only [hd']
      split at h
      · exact sliceArr_loc h hs
      · cases h
    · exact sliceArr_loc h hs
    · cases h

theorem sliceCells_loc {k : Nat} {x : AV} {n : Nat} {cs : List AV} {rd : List Nat} (h : sliceCells H k x n = .ok (cs, rd)) (hs : Same H H' rd) : sliceCells H' k x n = .ok (cs, rd) := by
  unfold sliceCells at h ⊢
  split at h
  · exact h
  · exact h
  · exact h
  · replace h := bind_ok h
    obtain ⟨c, hc, h⟩ := h
    split at h
    · rename_i hq
      replace h := bind_ok h
      obtain ⟨r, hr, h⟩ := h
      cases pure_ok h
      simp only [hcells_loc hs.one, hc, bind, Except.bind]
      rw [if_pos hq]
      simp only [hr]
      rfl
    · cases h
  · cases h

theorem growA_loc {s k : Nat} {x y : AV} {len n : Nat} {new : List AV} {rd : List Nat} {e : Eff} (h : growA H (some s) k x len n new rd = .ok (y, e)) (hs : Same H H' e.rd) : growA H' (some s) k x len n new rd = .ok (y, e) := by
  unfold growA at h ⊢
  replace h := bind_ok h
  obtain ⟨⟨old, rd'⟩, h1, h⟩ := h
  replace h := bind_ok h
  obtain ⟨⟨b, e'⟩, h2, h⟩ := h
  cases pure_ok h
  have a1 : Same H H' rd' := hs.app.2
  have a2 : Same H H' e'.rd := hs.app.1.app.1
  simp only [sliceCells_loc h1 a1, newA_loc h2 a2, bind, Except.bind]
  rfl

theorem growA_eff {s k : Nat} {x y : AV} {len n : Nat} {new : List AV} {rd : List Nat} {e : Eff} (h : growA H (some s) k x len n new rd = .ok (y, e)) : (∀ b, b ∈ rd → b ∈ e.rd) ∧ s ∈ e.rd ∧ ∃ o, e.set = some (s, o) := by
  unfold growA at h
  replace h := bind_ok h
  obtain ⟨⟨old, rd'⟩, h1, h⟩ := h
  replace h := bind_ok h
  obtain ⟨⟨b, e'⟩, h2, h⟩ := h
  cases pure_ok h
  obtain ⟨k1, k2, k3, k4, k5⟩ := newA_set h2
  refine ⟨fun b hb => ?_, ?_, _, k2⟩
  · simp [hb]
  · simp [k1]

theorem newsA_loc {elem : TypeId} {k : Nat} {z : Bool} {x : AV} {n : Nat} {cs : List AV} {rd : List Nat} (h : newsA P H elem k z x = .ok (n, cs, rd)) (hs : Same H H' rd) : newsA P H' elem k z x = .ok (n, cs, rd) := by
  unfold newsA at h ⊢
  split at h
  · rename_i hq
    rw [if_pos hq]
    exact h
  · rename_i hq
    rw [if_neg hq]
    replace h := bind_ok h
    obtain ⟨n', hn, h⟩ := h
    replace h := bind_ok h
    obtain ⟨⟨cs', rd'⟩, hc, h⟩ := h
    cases pure_ok h
    simp only [hn, sliceCells_loc hc hs, bind, Except.bind]
    rfl

theorem appendB_loc {s k len n : Nat} {x y : AV} {new : List AV} {rd : List Nat} {e : Eff} (h : appendB H (some s) x k len n new rd = .ok (y, e)) (hs : Same H H' e.rd) (hz : SetSame H H' e) :
    (∀ b, b ∈ rd → b ∈ e.rd) ∧ appendB H' (some s) x k len n new rd = .ok (y, e) := by
  unfold appendB at h ⊢
  split at h
  · split at h
    · rename_i hq
      rw [if_pos hq]
      have h0 := h
      cases pure_ok h
      exact ⟨fun b hb => hb, h0⟩
    · rename_i hq
      rw [if_neg hq]
      exact ⟨(growA_eff h).1, growA_loc h hs⟩
  · split at h
    · rename_i hq
      rw [if_pos hq]
      have h0 := h
      cases pure_ok h
      exact ⟨fun b hb => hb, h0⟩
    · rename_i hq
      rw [if_neg hq]
      split at h
      · rename_i hq
        rw [if_pos hq]
        exact ⟨(growA_eff h).1, growA_loc h hs⟩
      · cases h
  · split at h
    · rename_i hq
      rw [if_pos hq]
      have h0 := h
      cases pure_ok h
      exact ⟨fun b hb => hb, h0⟩
    rename_i hq
    rw [if_neg hq]
    split at h
    · cases h
    rename_i hq
    rw [if_neg hq]
    split at h
    · rename_i hq
      rw [if_pos hq]
      replace h := bind_ok h
      obtain ⟨e', he', h⟩ := h
      cases pure_ok h
      have hw := writeAt_loc he' hs.app.1 (fun b o hb => by
        obtain ⟨h1, h2⟩ := hz b o hb
        unfold writeAt at he'
        replace he' := bind_ok he'
        obtain ⟨cs, hc, he'⟩ := he'
        split at he'
        · cases he'
        · split at he'
          · cases pure_ok he'
            cases hb
            exact ⟨by simp, h2⟩
          · cases he')
      refine ⟨fun b hb => List.mem_append_right _ hb, ?_⟩
      simp only [hw, bind, Except.bind]
      rfl
    · rename_i hq
      rw [if_neg hq]
      split at h
      · rename_i hq
        rw [if_pos hq]
        exact ⟨(growA_eff h).1, growA_loc h hs⟩
      · rename_i hq
        rw [if_neg hq]
        replace h := bind_ok h
        obtain ⟨cs, hcs, h⟩ := h
        split at h
        · cases h
        · rename_i hq
          split at h
          · rename_i hr
            cases pure_ok h
            refine ⟨fun b hb => by simp [hb], ?_⟩
            have h1 := (hz _ _ rfl).2
            simp only [hcells_loc hs.one, hcs, bind, Except.bind]
            rw [h1, if_neg hq, if_pos hr]
            rfl
          · cases h
  · cases h

theorem appendA_loc {s : Nat} {ts : List TypeId} {x y z : AV} {e : Eff} (h : appendA P H (some s) ts x y = .ok (z, e)) (hs : Same H H' e.rd) (hz : SetSame H H' e) : appendA P H' (some s) ts x y = .ok (z, e) := by
  unfold appendA at h ⊢
  split at h
  · replace h := bind_ok h
    obtain ⟨d, hd, h⟩ := h
    simp only [hd, bind, Except.bind]
    split at h
    · replace h := bind_ok h
      obtain ⟨xd, h1, h⟩ := h
      replace h := bind_ok h
      obtain ⟨k, h2, h⟩ := h
      replace h := bind_ok h
      obtain ⟨i, h3, h⟩ := h
      replace h := bind_ok h
      obtain ⟨zz, h4, h⟩ := h
      replace h := bind_ok h
      obtain ⟨⟨n, new, rd⟩, h5, h⟩ := h
      replace h := bind_ok h
      obtain ⟨len, h6, h⟩ := h
      split at h
      · cases h
      · rename_i hq
        obtain ⟨k1, k2⟩ := appendB_loc h hs hz
        simp only [h1, h2, h3, h4, newsA_loc h5 (fun b hb => hs b (k1 b hb)), h6]
        rw [if_neg hq]
        exact k2
    · cases h
  · cases h

theorem mapEntriesA_loc {x : AV} {es : List (Value × AV)} {rd : List Nat} (h : mapEntriesA H x = .ok (es, rd)) (hs : Same H H' rd) : mapEntriesA H' x = .ok (es, rd) := by
  unfold mapEntriesA at h ⊢
  split at h
  · exact h
  · split at h
    · rename_i hb
      cases h
      rw [hs _ (by simp), hb]
    · cases h
  · cases h

theorem lookupA_loc {t : TypeId} {x k y : AV} {ok : Bool} {e : Eff} (h : lookupA P H t x k ok = .ok (y, e)) (hs : Same H H' e.rd) : lookupA P H' t x k ok = .ok (y, e) := by
  unfold lookupA at h ⊢
  replace h := bind_ok h
  obtain ⟨d, hd, h⟩ := h
  simp only [hd, bind, Except.bind]
  split at h
  · replace h := bind_ok h
    obtain ⟨kv, hkv, h⟩ := h
    replace h := bind_ok h
    obtain ⟨⟨es, rd⟩, hes, h⟩ := h
    replace h := bind_ok h
    obtain ⟨u, hu, h⟩ := h
    have h0 := h
    replace h := bind_ok h
    obtain ⟨r, hr, h⟩ := h
    have hrd : e.rd = rd := by
      split at h
      · cases pure_ok h; rfl
      · replace h := bind_ok h
        obtain ⟨z, hz, h⟩ := h
        cases pure_ok h; rfl
    simp only [hkv, mapEntriesA_loc hes (hrd ▸ hs), hu]
    exact h0
  · cases h

theorem mapUpdateA_loc {t : TypeId} {m k x : AV} {e : Eff} (h : mapUpdateA P H t m k x = .ok e) (hs : Same H H' e.rd) : mapUpdateA P H' t m k x = .ok e := by
  unfold mapUpdateA at h ⊢
  replace h := bind_ok h
  obtain ⟨d, hd, h⟩ := h
  simp only [hd, bind, Except.bind]
  split at h
  · rename_i b
    replace h := bind_ok h
    obtain ⟨kv, hkv, h⟩ := h
    simp only [hkv]
    split at h
    · rename_i es hb
      have h0 := h
      replace h := bind_ok h
      obtain ⟨u, hu, h⟩ := h
      replace h := bind_ok h
      obtain ⟨r, hr, h⟩ := h
      have hrd : e.rd = [b] := by
        split at h
        · split at h
          · split at h
            · cases pure_ok h; rfl
            · cases h
          · cases h
        · cases pure_ok h; rfl
      rw [hs b (by rw [hrd]; simp), hb]
      exact h0
    · cases h
  · cases h

theorem lenBuiltin_loc {ts : List TypeId} {x y : AV} {rd : List Nat} (h : lenBuiltin P H ts x = .ok (y, rd)) (hs : Same H H' rd) : lenBuiltin P H' ts x = .ok (y, rd) := by
  unfold lenBuiltin at h ⊢
  split at h
  · replace h := bind_ok h
    obtain ⟨d, hd, h⟩ := h
    simp only [hd, bind, Except.bind]
    split at h
    · exact h
    · replace h := bind_ok h
      obtain ⟨⟨es, rd'⟩, hes, h⟩ := h
      cases pure_ok h
      simp only [mapEntriesA_loc hes hs]
      rfl
    · exact h
    · exact h
    · exact h
    · exact h
    · cases h
  · cases h

theorem bytesStr_loc {t : TypeId} {x y : AV} {e : Eff} (h : bytesStr P H t x = .ok (y, e)) (hs : Same H H' e.rd) : bytesStr P H' t x = .ok (y, e) := by
  unfold bytesStr at h ⊢
  replace h := bind_ok h
  obtain ⟨d, hd, h⟩ := h
  simp only [hd, bind, Except.bind]
  split at h
  · replace h := bind_ok h
    obtain ⟨n, hn, h⟩ := h
    replace h := bind_ok h
    obtain ⟨⟨cs, rd⟩, hc, h⟩ := h
    replace h := bind_ok h
    obtain ⟨bs, hbs, h⟩ := h
    cases pure_ok h
    simp only [hn, sliceCells_loc hc hs, hbs]
    rfl
  · cases h

theorem convertA_loc {s : Nat} {src dst : TypeId} {x y : AV} {e : Eff} (h : convertA P H (some s) src dst x = .ok (y, e)) (hs : Same H H' e.rd) : convertA P H' (some s) src dst x = .ok (y, e) := by
  unfold convertA at h ⊢
  replace h := bind_ok h
  obtain ⟨ds, hds, h⟩ := h
  replace h := bind_ok h
  obtain ⟨dd, hdd, h⟩ := h
  simp only [hds, hdd, bind, Except.bind]
  split at h
  · replace h := bind_ok h
    obtain ⟨de, hde, h⟩ := h
    simp only [hde]
    split at h
    · replace h := bind_ok h
      obtain ⟨⟨b, e'⟩, hb, h⟩ := h
      cases pure_ok h
      simp only [newA_loc hb hs]
      rfl
    · cases h
  · exact bytesStr_loc h hs
  · exact bytesStr_loc h hs
  · exact h

theorem nextA_loc {x y : AV} {e : Eff} (h : nextA H x = .ok (y, e)) (hs : Same H H' e.rd) : nextA H' x = .ok (y, e) := by
  unfold nextA at h ⊢
  split at h
  · rename_i b
    split at h
    · rename_i s pos hb
      have hrd : e.rd = [b] := by
        split at h
        · cases h; rfl
        · cases h; rfl
      rw [hs b (by rw [hrd]; simp), hb]
      exact h
    · cases h
  · cases h

theorem rangeA_loc {s : Nat} {t : TypeId} {x y : AV} {e : Eff} (h : rangeA P H (some s) t x = .ok (y, e)) (hs : Same H H' e.rd) : rangeA P H' (some s) t x = .ok (y, e) := by
  unfold rangeA at h ⊢
  replace h := bind_ok h
  obtain ⟨d, hd, h⟩ := h
  simp only [hd, bind, Except.bind]
  split at h
  · replace h := bind_ok h
    obtain ⟨⟨b, e'⟩, hb, h⟩ := h
    cases pure_ok h
    simp only [newA_loc hb hs]
    rfl
  · cases h

theorem pureCallA_loc {g : List AV → Go.Abs.R AV} {xs : List AV} {y : AV} {e : Eff} (h : pureCallA H g xs = .ok (y, e)) (hs : Same H H' e.rd) : pureCallA H' g xs = .ok (y, e) := by
  unfold pureCallA at h ⊢
  replace h := bind_ok h
  obtain ⟨⟨xs', bs⟩, hm, h⟩ := h
  replace h := bind_ok h
  obtain ⟨r, hr, h⟩ := h
  cases pure_ok h
  simp only [mapS_loc (imm_loc immFuel) hm hs, hr, bind, Except.bind]
  rfl
end
end Go.Abs

namespace Go.Abs
open Go Go.RowKit

section
variable {P : Program} {H H' : AHeap}

theorem opE_congr {call : CallF} {slot : Option Nat} {ts ts' : List AV} {o : Op} (hρ : ∀ q, q ∈ o.operands → evalOp ts' q = evalOp ts q) : opE P call slot ts' H o = opE P call slot ts H o := by
  have lst : ∀ (l : Array Operand), (∀ q, q ∈ l → q ∈ o.operands) → l.toList.map (evalOp ts') = l.toList.map (evalOp ts) := by
    intro l hl
    exact List.map_congr_left fun q hq => hρ q (hl q (by simpa using hq))
  have opt : ∀ (l : Option Operand), (∀ q, l = some q → q ∈ o.operands) → l.map (evalOp ts') = l.map (evalOp ts) := by
    intro l hl
    cases l with
    | none => rfl
    | some q => simp only [Option.map_some]; rw [hρ q (hl q rfl)]
  unfold opE
  cases o with
  | move x => simp only [hρ x (by simp [Op.operands])]
  | assign x => simp only [hρ x (by simp [Op.operands])]
  | pick c a b => simp only [hρ c (by simp [Op.operands]), hρ a (by simp [Op.operands]), hρ b (by simp [Op.operands])]
  | box t x => simp only [hρ x (by simp [Op.operands])]
  | build t ps =>
    simp only
    rw [List.map_congr_left (g := fun p => (p.1, evalOp ts p.2)) fun p hp => by rw [hρ p.2 (by simp only [Op.operands, List.mem_toArray, List.mem_map]; exact ⟨p, hp, rfl⟩)]]
  | buildSlice t n ps =>
    simp only
    rw [List.map_congr_left (g := fun p => (p.1, evalOp ts p.2)) fun p hp => by rw [hρ p.2 (by simp only [Op.operands, List.mem_toArray, List.mem_map]; exact ⟨p, hp, rfl⟩)]]
  | load t x => simp only [hρ x (by simp [Op.operands])]
  | store t a x => simp only [hρ x (by simp [Op.operands]), hρ a (by simp [Op.operands])]
  | nilCheck x => simp only [hρ x (by simp [Op.operands])]
  | binOp op t x y t' => simp only [hρ x (by simp [Op.operands]), hρ y (by simp [Op.operands])]
  | unOp op t x => simp only [hρ x (by simp [Op.operands])]
  | convert s d x => simp only [hρ x (by simp [Op.operands])]
  | sliceToArrayPointer t x => simp only [hρ x (by simp [Op.operands])]
  | makeInterface t x => simp only [hρ x (by simp [Op.operands])]
  | makeFunc f a c =>
    simp only
    rw [lst a (fun q hq => by simp [Op.operands, hq]), lst c (fun q hq => by simp [Op.operands, hq])]
  | makeSlice t l c => simp only [hρ l (by simp [Op.operands]), hρ c (by simp [Op.operands])]
  | slice t x l h m =>
    simp only
    rw [hρ x (by simp [Op.operands]), opt l (fun q hq => by simp [Op.operands, hq]), opt h (fun q hq => by simp [Op.operands, hq]), opt m (fun q hq => by simp [Op.operands, hq])]
  | fieldAddr t x f => simp only [hρ x (by simp [Op.operands])]
  | indexAddr t x i => simp only [hρ x (by simp [Op.operands]), hρ i (by simp [Op.operands])]
  | index t x i => simp only [hρ x (by simp [Op.operands]), hρ i (by simp [Op.operands])]
  | lookup t x i b => simp only [hρ x (by simp [Op.operands]), hρ i (by simp [Op.operands])]
  | mapUpdate t m k x => simp only [hρ x (by simp [Op.operands]), hρ m (by simp [Op.operands]), hρ k (by simp [Op.operands])]
  | range t x => simp only [hρ x (by simp [Op.operands])]
  | next x b => cases b <;> simp only [hρ x (by simp [Op.operands])]
  | extract x i => simp only [hρ x (by simp [Op.operands])]
  | makeMap t r => cases r <;> rfl
  | call c =>
    obtain ⟨callee, args, at_⟩ := c
    simp only
    cases callee with
    | builtin b => simp only; rw [lst args (fun q hq => by simp [Op.operands, Call.operands, hq])]
    | value f => simp only; rw [lst args (fun q hq => by simp [Op.operands, Call.operands, hq]), hρ f (by simp [Op.operands, Call.operands])]
    | invoke r m => rfl
  | _ => rfl

theorem bigCall_congr {call : CallF} {ts ts' : List AV} {o : Op} (hρ : ∀ q, q ∈ o.operands → evalOp ts' q = evalOp ts q) : bigCall call ts' o = bigCall call ts o := by
  unfold bigCall
  cases o with
  | call c =>
    obtain ⟨callee, args, at_⟩ := c
    have lst : args.toList.map (evalOp ts') = args.toList.map (evalOp ts) := by
      refine List.map_congr_left fun q hq => hρ q ?_
      have : q ∈ args := by simpa using hq
      cases callee <;> simp [Op.operands, Call.operands, this]
    cases callee with
    | builtin b => rfl
    | value f => simp only; rw [lst, hρ f (by simp [Op.operands, Call.operands])]
    | invoke r m => rfl
  | _ => rfl

theorem v1_loc {x : R (AV × List Nat)} {x' : R (AV × List Nat)} {y : AV} {e : Eff} (h : v1 x = .ok (y, e)) (hx : ∀ z rd, x = .ok (z, rd) → rd = e.rd → x' = .ok (z, rd)) : v1 x' = .ok (y, e) := by
  obtain ⟨rd, hr, he⟩ := v1_ok h
  subst he
  unfold v1
  rw [hx _ _ hr rfl]
  rfl

theorem u1_loc {x : R Eff} {x' : R Eff} {y : AV} {e : Eff} (h : u1 x = .ok (y, e)) (hx : x = .ok e → x' = .ok e) : u1 x' = .ok (y, e) := by
  obtain ⟨hr, he⟩ := u1_ok h
  subst he
  unfold u1
  rw [hx hr]
  rfl

theorem clearA_loc {ts : List TypeId} {x : AV} {e : Eff} (h : clearA P H ts x = .ok e) (hs : Same H H' e.rd) (hz : SetSame H H' e) : clearA P H' ts x = .ok e := by
  unfold clearA at h ⊢
  split at h
  · replace h := bind_ok h
    obtain ⟨d, hd, h⟩ := h
    simp only [hd, bind, Except.bind]
    split at h
    · replace h := bind_ok h
      obtain ⟨size, hsz, h⟩ := h
      replace h := bind_ok h
      obtain ⟨z, hzz, h⟩ := h
      simp only [hsz, hzz]
      split at h
      · rename_i hc
        rw [if_pos hc]
        exact writeAt_loc h hs hz
      · cases h
    · cases h
  · cases h

theorem builtinB_loc {s : Nat} {b : Builtin} {at_ : List TypeId} {args : List AV} {x : AV} {e : Eff} (h : builtinB P H (some s) b at_ args = .ok (x, e)) (hs : Same H H' e.rd) (hz : SetSame H H' e) : builtinB P H' (some s) b at_ args = .ok (x, e) := by
  unfold builtinB at h ⊢
  split at h
  · exact appendA_loc h hs hz
  · exact v1_loc h fun z rd hx hr => lenBuiltin_loc hx (hr ▸ hs)
  · exact h
  · exact h
  · exact h
  · cases h

theorem builtinA_loc {s : Nat} {b : Builtin} {at_ : List TypeId} {args : List AV} {x : AV} {e : Eff} (h : builtinA P H (some s) b at_ args = .ok (x, e)) (hs : Same H H' e.rd) (hz : SetSame H H' e) : builtinA P H' (some s) b at_ args = .ok (x, e) := by
  unfold builtinA at h ⊢
  split at h
  · unfold builtinC at h ⊢
    split at h
    · exact u1_loc h fun hx => clearA_loc hx hs hz
    · cases h
  · exact builtinB_loc h hs hz

theorem opE_loc {call : CallF} {s : Nat} {ts : List AV} {o : Op} {x : AV} {e : Eff} (h : opE P call (some s) ts H o = .ok (x, e)) (hs : Same H H' e.rd) (hz : SetSame H H' e) : opE P call (some s) ts H' o = .ok (x, e) := by
  unfold opE at h ⊢
  cases o with
  | alloc t =>
    simp only at h ⊢
    replace h := bind_ok h
    obtain ⟨z, hz', h⟩ := h
    simp only [hz', bind, Except.bind]
    exact boxA_loc h hs
  | box t x => exact boxA_loc h hs
  | buildSlice t n ps => exact buildSliceA_loc h hs
  | load t a => exact v1_loc h fun z rd hx hr => loadA_loc hx (hr ▸ hs)
  | store t a x => exact u1_loc h fun hx => storeA_loc hx hs hz
  | convert a d x => exact convertA_loc h hs
  | makeMap t r =>
    cases r with
    | some r => cases h
    | none =>
      simp only at h ⊢
      replace h := bind_ok h
      obtain ⟨⟨b, e'⟩, hb, h⟩ := h
      cases pure_ok h
      simp only [newA_loc hb hs, bind, Except.bind]
      rfl
  | makeSlice t l c => exact makeSliceA_loc h hs
  | slice t x l hh m => exact v1_loc h fun z rd hx hr => sliceA_loc hx (hr ▸ hs)
  | lookup t x i ok => exact lookupA_loc h hs
  | mapUpdate t m k x => exact u1_loc h fun hx => mapUpdateA_loc hx hs
  | range t x => exact rangeA_loc h hs
  | next it b =>
    cases b with
    | false => cases h
    | true => exact nextA_loc h hs
  | call c =>
    obtain ⟨callee, args, at_⟩ := c
    cases callee with
    | builtin b => exact builtinA_loc h hs hz
    | value f =>
      simp only at h ⊢
      split at h
      · split at h
        · rename_i hf _ g hg
          first
            | (rw [hf]; simp only [hg]; exact pureCallA_loc h hs)
            | exact pureCallA_loc h hs
        · cases h
      · cases h
    | invoke r m => cases h
  | _ => exact h
end
end Go.Abs

namespace Go.Abs
open Go Go.RowKit

section
variable {P : Program} {H H' : AHeap}

/-- What is set was read, and is an object of the heap's; what is frozen was read. -/
def EffOK (H : AHeap) (e : Eff) : Prop := (∀ b o, e.set = some (b, o) → b ∈ e.rd ∧ b < H.objs.length) ∧ ∀ b, b ∈ e.frz → b ∈ e.rd

theorem EffOK.none {e : Eff} (h1 : e.set = Option.none) (h2 : e.frz = []) : EffOK H e :=
  ⟨(fun b o h => by rw [h1] at h; cases h), (fun b h => by rw [h2] at h; cases h)⟩

theorem EffOK.new {s : Nat} {o : AObj} {b : Nat} {e : Eff} (h : newA H (some s) o = .ok (b, e)) : EffOK H e := by
  obtain ⟨h1, h2, h3, h4, h5⟩ := newA_set h
  refine ⟨fun b o h => ?_, fun b h => by rw [h3] at h; cases h⟩
  rw [h2] at h
  cases h
  exact ⟨by rw [h1]; simp, (List.getElem?_eq_some_iff.1 h5).1⟩

theorem EffOK.add {e : Eff} (h : EffOK H e) {rd : List Nat} (hrd : ∀ b, b ∈ e.rd → b ∈ rd) : EffOK H { e with rd := rd } :=
  ⟨fun b o hb => ⟨hrd b (h.1 b o hb).1, (h.1 b o hb).2⟩, fun b hb => hrd b (h.2 b hb)⟩

theorem hcells_lt {b g : Nat} {cs : List AV} (h : hcells H b g = .ok cs) : b < H.objs.length :=
  (List.getElem?_eq_some_iff.1 (hcells_ok h)).1

theorem writeAt_eff {b g off : Nat} {new : List AV} {e : Eff} (h : writeAt H b g off new = .ok e) : EffOK H e := by
  unfold writeAt at h
  replace h := bind_ok h
  obtain ⟨cs, hc, h⟩ := h
  split at h
  · cases h
  · split at h
    · cases pure_ok h
      refine ⟨fun b o hb => ?_, fun b hb => by cases hb⟩
      cases hb
      exact ⟨by simp, hcells_lt hc⟩
    · cases h

theorem storeA_eff {t : TypeId} {p v : AV} {e : Eff} (h : storeA P H t p v = .ok e) : EffOK H e := by
  unfold storeA at h
  replace h := bind_ok h
  obtain ⟨n, hn, h⟩ := h
  split at h
  · split at h
    · exact writeAt_eff h
    · cases h
  · cases h

theorem boxA_eff {s : Nat} {t : TypeId} {x y : AV} {e : Eff} (h : boxA P H (some s) t x = .ok (y, e)) : EffOK H e := by
  unfold boxA at h
  replace h := bind_ok h
  obtain ⟨n, hn, h⟩ := h
  split at h
  · replace h := bind_ok h
    obtain ⟨⟨b, e'⟩, hb, h⟩ := h
    cases pure_ok h
    exact .new hb
  · cases h

theorem buildSliceA_eff {s : Nat} {t : TypeId} {n : Nat} {ps : List (Nat × AV)} {y : AV} {e : Eff} (h : buildSliceA P H (some s) t n ps = .ok (y, e)) : EffOK H e := by
  unfold buildSliceA at h
  replace h := bind_ok h
  obtain ⟨d, hd, h⟩ := h
  split at h
  · replace h := bind_ok h
    obtain ⟨k, hk, h⟩ := h
    dsimp only at h
    split at h
    · cases h
    · replace h := bind_ok h
      obtain ⟨z, hz, h⟩ := h
      replace h := bind_ok h
      obtain ⟨c, hc, h⟩ := h
      replace h := bind_ok h
      obtain ⟨⟨b, e'⟩, hb, h⟩ := h
      cases pure_ok h
      exact .new hb
  · cases h

theorem makeSliceA_eff {s : Nat} {t : TypeId} {l c y : AV} {e : Eff} (h : makeSliceA P H (some s) t l c = .ok (y, e)) : EffOK H e := by
  unfold makeSliceA at h
  replace h := bind_ok h
  obtain ⟨d, hd, h⟩ := h
  split at h
  · replace h := bind_ok h
    obtain ⟨l', hl, h⟩ := h
    replace h := bind_ok h
    obtain ⟨c', hc, h⟩ := h
    replace h := bind_ok h
    obtain ⟨i, hi, h⟩ := h
    dsimp only at h
    split at h
    · replace h := bind_ok h
      obtain ⟨z, hz, h⟩ := h
      replace h := bind_ok h
      obtain ⟨⟨b, e'⟩, hb, h⟩ := h
      replace h := bind_ok h
      obtain ⟨k, hk, h⟩ := h
      cases pure_ok h
      exact .new hb
    · cases h
  · cases h

theorem growA_ok {s k : Nat} {x y : AV} {len n : Nat} {new : List AV} {rd : List Nat} {e : Eff} (h : growA H (some s) k x len n new rd = .ok (y, e)) : EffOK H e := by
  unfold growA at h
  replace h := bind_ok h
  obtain ⟨⟨old, rd'⟩, h1, h⟩ := h
  replace h := bind_ok h
  obtain ⟨⟨b, e'⟩, h2, h⟩ := h
  cases pure_ok h
  exact (EffOK.new h2).add fun b hb => by simp [hb]

theorem appendA_eff {s : Nat} {ts : List TypeId} {x y z : AV} {e : Eff} (h : appendA P H (some s) ts x y = .ok (z, e)) : EffOK H e := by
  unfold appendA at h
  split at h
  · replace h := bind_ok h
    obtain ⟨d, hd, h⟩ := h
    split at h
    · replace h := bind_ok h
      obtain ⟨xd, h1, h⟩ := h
      replace h := bind_ok h
      obtain ⟨k, h2, h⟩ := h
      replace h := bind_ok h
      obtain ⟨i, h3, h⟩ := h
      replace h := bind_ok h
      obtain ⟨zz, h4, h⟩ := h
      replace h := bind_ok h
      obtain ⟨⟨n, new, rd⟩, h5, h⟩ := h
      replace h := bind_ok h
      obtain ⟨len, h6, h⟩ := h
      split at h
      · cases h
      · unfold appendB at h
        split at h
        · split at h
          · cases pure_ok h; exact .none rfl rfl
          · exact growA_ok h
        · split at h
          · cases pure_ok h; exact .none rfl rfl
          · split at h
            · exact growA_ok h
            · cases h
        · split at h
          · cases pure_ok h; exact .none rfl rfl
          split at h
          · cases h
          split at h
          · replace h := bind_ok h
            obtain ⟨e', he', h⟩ := h
            cases pure_ok h
            exact (writeAt_eff he').add fun b hb => by simp [hb]
          · split at h
            · exact growA_ok h
            · replace h := bind_ok h
              obtain ⟨cs, hcs, h⟩ := h
              split at h
              · cases h
              · split at h
                · cases pure_ok h
                  refine ⟨fun b o hb => ?_, fun b hb => by cases hb⟩
                  cases hb
                  exact ⟨by simp, hcells_lt hcs⟩
                · cases h
        · cases h
    · cases h
  · cases h

theorem lookupA_eff {t : TypeId} {x k y : AV} {ok : Bool} {e : Eff} (h : lookupA P H t x k ok = .ok (y, e)) : EffOK H e := by
  unfold lookupA at h
  replace h := bind_ok h
  obtain ⟨d, hd, h⟩ := h
  split at h
  · replace h := bind_ok h
    obtain ⟨kv, hkv, h⟩ := h
    replace h := bind_ok h
    obtain ⟨⟨es, rd⟩, hes, h⟩ := h
    replace h := bind_ok h
    obtain ⟨u, hu, h⟩ := h
    replace h := bind_ok h
    obtain ⟨r, hr, h⟩ := h
    split at h
    · cases pure_ok h; exact .none rfl rfl
    · replace h := bind_ok h
      obtain ⟨z, hz, h⟩ := h
      cases pure_ok h; exact .none rfl rfl
  · cases h

theorem mapUpdateA_eff {t : TypeId} {m k x : AV} {e : Eff} (h : mapUpdateA P H t m k x = .ok e) : EffOK H e := by
  unfold mapUpdateA at h
  replace h := bind_ok h
  obtain ⟨d, hd, h⟩ := h
  split at h
  · rename_i b
    replace h := bind_ok h
    obtain ⟨kv, hkv, h⟩ := h
    split at h
    · rename_i es hb
      have lt := (List.getElem?_eq_some_iff.1 hb).1
      replace h := bind_ok h
      obtain ⟨u, hu, h⟩ := h
      replace h := bind_ok h
      obtain ⟨r, hr, h⟩ := h
      have key : ∀ o, EffOK H { rd := [b], set := some (b, o) } := fun o => ⟨fun b' o' hb' => by cases hb'; exact ⟨by simp, lt⟩, fun b' hb' => by cases hb'⟩
      split at h
      · split at h
        · split at h
          · cases pure_ok h; exact key _
          · cases h
        · cases h
      · cases pure_ok h; exact key _
    · cases h
  · cases h

theorem nextA_eff {x y : AV} {e : Eff} (h : nextA H x = .ok (y, e)) : EffOK H e := by
  unfold nextA at h
  split at h
  · rename_i b
    split at h
    · rename_i s pos hb
      have lt := (List.getElem?_eq_some_iff.1 hb).1
      split at h
      · cases h
        exact ⟨fun b' o' hb' => by cases hb'; exact ⟨by simp, lt⟩, fun b' hb' => by cases hb'⟩
      · cases h; exact .none rfl rfl
    · cases h
  · cases h

theorem rangeA_eff {s : Nat} {t : TypeId} {x y : AV} {e : Eff} (h : rangeA P H (some s) t x = .ok (y, e)) : EffOK H e := by
  unfold rangeA at h
  replace h := bind_ok h
  obtain ⟨d, hd, h⟩ := h
  split at h
  · replace h := bind_ok h
    obtain ⟨⟨b, e'⟩, hb, h⟩ := h
    cases pure_ok h
    exact .new hb
  · cases h

theorem bytesStr_eff {t : TypeId} {x y : AV} {e : Eff} (h : bytesStr P H t x = .ok (y, e)) : EffOK H e := by
  unfold bytesStr at h
  replace h := bind_ok h
  obtain ⟨d, hd, h⟩ := h
  split at h
  · replace h := bind_ok h
    obtain ⟨n, hn, h⟩ := h
    replace h := bind_ok h
    obtain ⟨⟨cs, rd⟩, hc, h⟩ := h
    replace h := bind_ok h
    obtain ⟨bs, hbs, h⟩ := h
    cases pure_ok h
    exact .none rfl rfl
  · cases h

theorem convertA_eff {s : Nat} {src dst : TypeId} {x y : AV} {e : Eff} (h : convertA P H (some s) src dst x = .ok (y, e)) : EffOK H e := by
  unfold convertA at h
  replace h := bind_ok h
  obtain ⟨ds, hds, h⟩ := h
  replace h := bind_ok h
  obtain ⟨dd, hdd, h⟩ := h
  split at h
  · replace h := bind_ok h
    obtain ⟨de, hde, h⟩ := h
    split at h
    · replace h := bind_ok h
      obtain ⟨⟨b, e'⟩, hb, h⟩ := h
      cases pure_ok h
      exact .new hb
    · cases h
  · exact bytesStr_eff h
  · exact bytesStr_eff h
  · split at h
    · replace h := bind_ok h
      obtain ⟨v, hv, h⟩ := h
      cases pure_ok h
      exact .none rfl rfl
    · cases h

theorem v0_eff {x : R AV} {y : AV} {e : Eff} (h : v0 x = .ok (y, e)) : EffOK H e := by
  obtain ⟨_, rfl⟩ := v0_ok h
  exact .none rfl rfl

theorem v1_eff {x : R (AV × List Nat)} {y : AV} {e : Eff} (h : v1 x = .ok (y, e)) : EffOK H e := by
  obtain ⟨rd, _, rfl⟩ := v1_ok h
  exact .none rfl rfl

theorem pureCallA_eff {g : List AV → Go.Abs.R AV} {xs : List AV} {y : AV} {e : Eff} (h : pureCallA H g xs = .ok (y, e)) : EffOK H e := by
  unfold pureCallA at h
  replace h := bind_ok h
  obtain ⟨⟨xs', bs⟩, hm, h⟩ := h
  replace h := bind_ok h
  obtain ⟨r, hr, h⟩ := h
  cases pure_ok h
  exact ⟨(fun b o hb => by cases hb), fun b hb => hb⟩

theorem clearA_eff {ts : List TypeId} {x : AV} {e : Eff} (h : clearA P H ts x = .ok e) : EffOK H e := by
  unfold clearA at h
  split at h
  · replace h := bind_ok h
    obtain ⟨d, hd, h⟩ := h
    split at h
    · replace h := bind_ok h
      obtain ⟨size, hsz, h⟩ := h
      replace h := bind_ok h
      obtain ⟨z, hzz, h⟩ := h
      split at h
      · exact writeAt_eff h
      · cases h
    · cases h
  · cases h

theorem builtinB_eff {s : Nat} {b : Builtin} {at_ : List TypeId} {args : List AV} {x : AV} {e : Eff} (h : builtinB P H (some s) b at_ args = .ok (x, e)) : EffOK H e := by
  unfold builtinB at h
  split at h
  · exact appendA_eff h
  · exact v1_eff h
  · exact v0_eff h
  · exact v0_eff h
  · exact v0_eff h
  · cases h

theorem builtinA_eff {s : Nat} {b : Builtin} {at_ : List TypeId} {args : List AV} {x : AV} {e : Eff} (h : builtinA P H (some s) b at_ args = .ok (x, e)) : EffOK H e := by
  unfold builtinA at h
  split at h
  · unfold builtinC at h
    split at h
    · exact clearA_eff (u1_ok h).1
    · cases h
  · exact builtinB_eff h

theorem opE_eff {call : CallF} {s : Nat} {ts : List AV} {o : Op} {x : AV} {e : Eff} (h : opE P call (some s) ts H o = .ok (x, e)) : EffOK H e := by
  unfold opE at h
  cases o with
  | move x => cases h; exact .none rfl rfl
  | assign x => cases h; exact .none rfl rfl
  | pick c a b =>
    simp only at h
    split at h
    · cases h; exact .none rfl rfl
    · cases h
  | alloc t =>
    simp only at h
    replace h := bind_ok h
    obtain ⟨z, hz', h⟩ := h
    exact boxA_eff h
  | box t x => exact boxA_eff h
  | build t ps => exact v0_eff h
  | buildSlice t n ps => exact buildSliceA_eff h
  | load t a => exact v1_eff h
  | store t a x => exact storeA_eff (u1_ok h).1
  | nilCheck x => exact v0_eff h
  | binOp op t x y t' => exact v0_eff h
  | unOp op t x =>
    simp only at h
    split at h
    · exact v0_eff h
    · cases h
  | convert a d x => exact convertA_eff h
  | sliceToArrayPointer t x => exact v0_eff h
  | makeInterface t x => exact v0_eff h
  | makeFunc f a c =>
    simp only at h
    split at h
    · cases h; exact .none rfl rfl
    · cases h
  | makeMap t r =>
    cases r with
    | some r => cases h
    | none =>
      simp only at h
      replace h := bind_ok h
      obtain ⟨⟨b, e'⟩, hb, h⟩ := h
      cases pure_ok h
      exact .new hb
  | makeSlice t l c => exact makeSliceA_eff h
  | slice t x l hh m => exact v1_eff h
  | fieldAddr t x f => exact v0_eff h
  | indexAddr t x i => exact v0_eff h
  | index t x i => exact v0_eff h
  | lookup t x i ok => exact lookupA_eff h
  | mapUpdate t m k x => exact mapUpdateA_eff (u1_ok h).1
  | range t x => exact rangeA_eff h
  | next it b =>
    cases b with
    | false => cases h
    | true => exact nextA_eff h
  | extract t i =>
    simp only at h
    split at h
    · split at h
      · cases h; exact .none rfl rfl
      · cases h
    · cases h
  | call c =>
    obtain ⟨callee, args, at_⟩ := c
    cases callee with
    | builtin b => exact builtinA_eff h
    | value f =>
      simp only at h
      split at h
      · split at h
        · exact pureCallA_eff h
        · cases h
      · cases h
    | invoke r m => cases h
  | _ => cases h
end
end Go.Abs

namespace Go.Abs
open Go Go.RowKit

section
variable {P : Program} {H H' : AHeap}

/-- The temporaries that an operation looks at are as they were. -/
def Looks (ops : Array Oper) (o : Oper) (ts ts' : List AV) : Prop := ∀ d, d ∈ o.looksAt ops → ts'[d]? = ts[d]?

theorem Looks.eval {ops : Array Oper} {o : Oper} {ts ts' : List AV} (h : Looks ops o ts ts') : ∀ q, q ∈ o.op.operands → evalOp ts' q = evalOp ts q := by
  intro q hq
  cases q with
  | tmp t =>
    have := h t (List.mem_append_left _ (List.mem_filterMap.2 ⟨.tmp t, by simpa using hq, rfl⟩))
    simp only [evalOp, List.getD]
    rw [this]
  | const v => rfl
  | global g => rfl
  | func f => rfl

theorem Looks.wanted {ops : Array Oper} {o : Oper} {ts ts' : List AV} (h : Looks ops o ts ts') : wantedA ops.toList ts' o = wantedA ops.toList ts o := by
  unfold wantedA
  cases hg : o.guard with
  | none => rfl
  | some g =>
    obtain ⟨j, want⟩ := g
    simp only
    cases hd : (ops.toList[j]?).bind (·.dst) with
    | none => rfl
    | some d =>
      simp only
      rw [h d (List.mem_append_right _ (by
        rw [hg]
        simp only
        rw [Array.getElem?_toList] at hd
        rw [hd]
        simp))]

theorem Looks.put {ops : Array Oper} {o : Oper} {ts : List AV} {dst : Option Tmp} {v : AV} (h : ∀ d, dst = some d → d ∉ o.looksAt ops) : Looks ops o ts (putT ts dst v) := by
  intro d hd
  cases dst with
  | none => rfl
  | some c =>
    have hne : c ≠ d := fun e => h c rfl (e ▸ hd)
    simp only [putT]
    rw [List.getElem?_set_ne hne]

theorem Looks.back {ops : Array Oper} {o : Oper} {ts ts' : List AV} (h : Looks ops o ts ts') : Looks ops o ts' ts := fun d hd => (h d hd).symm

theorem putT_comm {ts : List AV} {d d' : Option Tmp} {v v' : AV} (h : ∀ c, d = some c → d' ≠ some c) : putT (putT ts d v) d' v' = putT (putT ts d' v') d v := by
  cases d with
  | none => rfl
  | some c =>
    cases d' with
    | none => rfl
    | some c' =>
      simp only [putT]
      exact List.set_comm _ _ (fun e => h c rfl (by rw [e]))

theorem apply_trivial {e : Eff} (h1 : e.set = none) (h2 : e.frz = []) : H.apply e = H := by
  unfold AHeap.apply
  rw [h1, h2]
  rfl

/-- A step with a small effect: what it hands back, and that it does so wherever what it reads is the same. -/
theorem small_step {call : CallF} {ex : ExecF} {s : Nat} {ops : Array Oper} {o : Oper} {ts ts1 : List AV} {H1 : AHeap} {e : Eff} (h : stepA P call ex (some s) ops.toList o ts H = .ok (ts1, H1, some e)) :
    ∃ v, ts1 = putT ts o.dst v ∧ H1 = H.apply e ∧ EffOK H e ∧ ∀ (ts' : List AV) (H' : AHeap), Looks ops o ts ts' → Same H H' e.rd → SetSame H H' e → stepA P call ex (some s) ops.toList o ts' H' = .ok (putT ts' o.dst v, H'.apply e, some e) := by
  unfold stepA at h
  split at h
  · cases h
  · rename_i hw
    split at h
    · replace h := bind_ok h
      obtain ⟨⟨v, H2⟩, hv, h⟩ := h
      cases pure_ok h
    · rename_i hb
      split at h
      · rename_i v e' hv
        cases h
        refine ⟨v, rfl, rfl, opE_eff hv, fun ts' H' hl hs hz => ?_⟩
        unfold stepA
        rw [hl.wanted, hw]
        simp only
        rw [bigCall_congr hl.eval, hb]
        simp only
        rw [opE_congr hl.eval, opE_loc hv hs hz]
      · cases h
  · rename_i hw
    cases h
    refine ⟨AV.undef, rfl, (apply_trivial rfl rfl).symm, .none rfl rfl, fun ts' H' hl hs hz => ?_⟩
    unfold stepA
    rw [hl.wanted, hw, apply_trivial rfl rfl]

theorem big_step {call : CallF} {ex : ExecF} {s : Nat} {ops : Array Oper} {o : Oper} {ts ts1 : List AV} {H1 : AHeap} (h : stepA P call ex (some s) ops.toList o ts H = .ok (ts1, H1, none)) :
    ∃ v, ts1 = putT ts o.dst v ∧ ∀ (ts' : List AV), Looks ops o ts ts' → stepA P call ex (some s) ops.toList o ts' H = .ok (putT ts' o.dst v, H1, none) := by
  unfold stepA at h
  split at h
  · cases h
  · rename_i hw
    split at h
    · rename_i f args hb
      replace h := bind_ok h
      obtain ⟨⟨v, H2⟩, hv, h⟩ := h
      cases pure_ok h
      refine ⟨v, rfl, fun ts' hl => ?_⟩
      unfold stepA
      rw [hl.wanted, hw]
      simp only
      rw [bigCall_congr hl.eval, hb]
      simp only [hv, bind, Except.bind]
      rfl
    · split at h
      · cases h
      · cases h
  · cases h

def Trivial (e : Option Eff) : Prop := ∃ x, e = some x ∧ x.rd = [] ∧ x.set = none ∧ x.frz = []

/-- Two effects that do not part by their order. -/
def Free (x y : Eff) : Prop := (∀ b o, x.set = some (b, o) → b ∉ y.rd) ∧ (∀ b o, y.set = some (b, o) → b ∉ x.rd) ∧ (x.frz = [] ∨ y.frz = [])

theorem Free.symm {x y : Eff} (h : Free x y) : Free y x := ⟨h.2.1, h.1, h.2.2.symm⟩

theorem apply_other {e : Eff} (he : EffOK H e) {c : Nat} (h : ∀ b o, e.set = some (b, o) → b ≠ c) : (H.apply e).objs[c]? = H.objs[c]? := by
  unfold AHeap.apply
  cases hs : e.set with
  | none => rfl
  | some p =>
    obtain ⟨b, o⟩ := p
    simp only
    unfold setObj
    rw [if_pos (he.1 b o hs).2, List.getElem?_set_ne (h b o hs)]

theorem apply_frz {e : Eff} {c : Nat} (h : c ∉ e.frz) : (H.apply e).frz.contains c = H.frz.contains c := by
  have : c ∈ (H.apply e).frz ↔ c ∈ H.frz := by
    show c ∈ addFrz H.frz e.frz ↔ _
    rw [mem_addFrz]
    exact ⟨fun x => x.resolve_right h, .inl⟩
  rw [Bool.eq_iff_iff]
  simpa using this

theorem apply_comm {x y : Eff} (hx : EffOK H x) (hy : EffOK (H.apply x) y) (hf : Free x y) : (H.apply x).apply y = (H.apply y).apply x := by
  have hlen : (H.apply x).objs.length = H.objs.length := by
    unfold AHeap.apply
    cases hs : x.set with
    | none => rfl
    | some p =>
      simp only
      unfold setObj
      rw [if_pos (hx.1 p.1 p.2 hs).2]
      simp
  have hfz : addFrz (addFrz H.frz x.frz) y.frz = addFrz (addFrz H.frz y.frz) x.frz := by
    rcases hf.2.2 with h | h
    · rw [h]; rfl
    · rw [h]; rfl
  have hob : ((H.apply x).apply y).objs = ((H.apply y).apply x).objs := by
    unfold AHeap.apply
    cases hs : x.set with
    | none => cases ht : y.set <;> rfl
    | some p =>
      cases ht : y.set with
      | none => rfl
      | some q =>
        obtain ⟨b, o⟩ := p
        obtain ⟨c, o'⟩ := q
        simp only
        have hb := (hx.1 b o hs).2
        have hc := (hy.1 c o' ht).2
        rw [hlen] at hc
        have hne : b ≠ c := fun e => hf.1 b o hs (e ▸ (hy.1 c o' ht).1)
        unfold setObj
        rw [if_pos hb, if_pos hc, if_pos (by simpa using hc), if_pos (by simpa using hb)]
        exact List.set_comm _ _ hne
  have : ∀ A B : AHeap, A.objs = B.objs → A.frz = B.frz → A = B := by
    intro A B h1 h2
    cases A; cases B; simp_all
  exact this _ _ hob hfz

theorem step_swap {call : CallF} {ex : ExecF} {s s' : Nat} {ops : Array Oper} {o o' : Oper} {ts ts1 ts2 : List AV} {H1 H2 : AHeap} {e e' : Option Eff}
    (h : stepA P call ex (some s) ops.toList o ts H = .ok (ts1, H1, e)) (h' : stepA P call ex (some s') ops.toList o' ts1 H1 = .ok (ts2, H2, e'))
    (hap : o.apart ops o' = true) (hf : Trivial e ∨ Trivial e' ∨ ∃ x y, e = some x ∧ e' = some y ∧ Free x y) :
    ∃ ts1' H1', stepA P call ex (some s') ops.toList o' ts H = .ok (ts1', H1', e') ∧ stepA P call ex (some s) ops.toList o ts1' H1' = .ok (ts2, H2, e) := by
  obtain ⟨a1, a2, a3⟩ := Oper.apart_spec hap
  have small : ∀ x y, e = some x → e' = some y → Free x y → ∃ ts1' H1', stepA P call ex (some s') ops.toList o' ts H = .ok (ts1', H1', e') ∧ stepA P call ex (some s) ops.toList o ts1' H1' = .ok (ts2, H2, e) := by
    rintro x y rfl rfl hxy
    obtain ⟨v, rfl, rfl, k1, k2⟩ := small_step h
    obtain ⟨v', rfl, rfl, k3, k4⟩ := small_step h'
    refine ⟨_, _, k4 ts H (Looks.put a1).back (fun b hb => (apply_other k1 (fun b' o' hs e => hxy.1 b' o' hs (e ▸ hb))).symm) (fun b o' hs => ⟨(k3.1 b o' hs).1, (apply_frz (fun hz => hxy.2.1 b o' hs (k1.2 b hz))).symm⟩), ?_⟩
    have hcomm := apply_comm k1 k3 hxy
    have k3' : EffOK H y := ⟨fun b o hs => ⟨(k3.1 b o hs).1, by
      have := (k3.1 b o hs).2
      have hlen : (H.apply x).objs.length = H.objs.length := by
        unfold AHeap.apply
        cases hs : x.set with
        | none => rfl
        | some p =>
          simp only
          unfold setObj
          rw [if_pos (k1.1 p.1 p.2 hs).2]
          simp
      rwa [hlen] at this⟩, k3.2⟩
    rw [k2 _ (H.apply y) (Looks.put a3) (fun b hb => apply_other k3' (fun b' o' hs e => hxy.2.1 b' o' hs (e ▸ hb))) (fun b o' hs => ⟨(k1.1 b o' hs).1, apply_frz (fun hz => hxy.1 b o' hs (k3.2 b hz))⟩)]
    rw [hcomm, putT_comm (d := o.dst) (d' := o'.dst) a2]
  rcases hf with ⟨x, rfl, t1, t2, t3⟩ | ⟨y, rfl, t1, t2, t3⟩ | ⟨x, y, h1, h2, hxy⟩
  · cases e' with
    | some y => exact small x y rfl rfl ⟨fun b o hs => by (rw [t2] at hs; cases hs), fun b o hs => by (rw [t1]; simp), .inl t3⟩
    | none =>
      obtain ⟨v, rfl, rfl, k1, k2⟩ := small_step h
      rw [apply_trivial t2 t3] at h'
      obtain ⟨v', rfl, k4⟩ := big_step h'
      refine ⟨_, _, k4 ts (Looks.put a1).back, ?_⟩
      rw [k2 _ H2 (Looks.put a3) (fun b hb => by rw [t1] at hb; cases hb) (fun b o' hs => by rw [t2] at hs; cases hs), apply_trivial t2 t3, putT_comm (d := o.dst) (d' := o'.dst) a2]
  · cases e with
    | some x => exact small x y rfl rfl ⟨fun b o hs => by (rw [t1]; simp), fun b o hs => by (rw [t2] at hs; cases hs), .inr t3⟩
    | none =>
      obtain ⟨v, rfl, k2⟩ := big_step h
      obtain ⟨v', rfl, rfl, k3, k4⟩ := small_step h'
      refine ⟨_, _, k4 ts H (Looks.put a1).back (fun b hb => by rw [t1] at hb; cases hb) (fun b o' hs => by rw [t2] at hs; cases hs), ?_⟩
      rw [apply_trivial t2 t3, k2 _ (Looks.put a3), apply_trivial t2 t3, putT_comm (d := o.dst) (d' := o'.dst) a2]
  · exact small x y h1 h2 hxy
end
end Go.Abs

namespace Go.Abs
open Go Go.RowKit

section
variable {P : Program} {H H' : AHeap}

theorem trivialO_ok {e : Option Eff} (h : trivialO e = true) : Trivial e := by
  cases e with
  | none => cases h
  | some x =>
    simp only [trivialO, Eff.trivial, Bool.and_eq_true, List.isEmpty_iff, Option.isNone_iff_eq_none] at h
    exact ⟨x, rfl, h.1.1, h.1.2, h.2⟩

theorem effOk_free {x y : Option Eff} (h : effOk x y = true) : ∃ a b, x = some a ∧ y = some b ∧ Free a b := by
  cases x with
  | none => cases h
  | some a =>
    cases y with
    | none => cases h
    | some b =>
      refine ⟨a, b, rfl, rfl, ?_⟩
      simp only [effOk, Bool.and_eq_true, Bool.or_eq_true, List.isEmpty_iff] at h
      obtain ⟨⟨h1, h2⟩, h3⟩ := h
      refine ⟨fun c o hs hc => ?_, fun c o hs hc => ?_, h3⟩
      · rw [hs] at h1
        simp only [Bool.and_eq_true, Bool.not_eq_true', List.contains_eq_mem, decide_eq_false_iff_not] at h1
        exact h1.1 hc
      · rw [hs] at h2
        simp only [Bool.not_eq_true', List.contains_eq_mem, decide_eq_false_iff_not] at h2
        exact h2 hc

/-- What drawA asks at its head. -/
theorem drawA_cons {call : CallF} {ex : ExecF} {bf : Nat → Nat → Bool} {base : Nat} {all : List Oper} {i : Nat} {o : Oper} {rest : List (Nat × Oper)} {ts ts' : List AV} {es : List (Nat × Option Eff)}
    (h : drawA P call ex bf base all ((i, o) :: rest) ts H = .ok (ts', H', es)) :
    ∃ ts1 H1 e es0, stepA P call ex (some (base + i)) all o ts H = .ok (ts1, H1, e) ∧ drawA P call ex bf base all rest ts1 H1 = .ok (ts', H', es0) ∧
      ((trivialO e = true ∧ es = es0) ∨ (trivialO e = false ∧ (es0.all fun p => effOk e p.2 || bf i p.1) = true ∧ es = (i, e) :: es0)) := by
  unfold drawA at h
  replace h := bind_ok h
  obtain ⟨⟨ts1, H1, e⟩, h1, h⟩ := h
  replace h := bind_ok h
  obtain ⟨⟨ts2, H2, es0⟩, h2, h⟩ := h
  refine ⟨ts1, H1, e, es0, h1, ?_⟩
  dsimp only at h
  split at h
  · rename_i ht
    cases pure_ok h
    exact ⟨h2, .inl ⟨ht, rfl⟩⟩
  · rename_i ht
    split at h
    · rename_i ha
      cases pure_ok h
      exact ⟨h2, .inr ⟨by simpa using ht, ha, rfl⟩⟩
    · cases h

theorem drawA_mk {call : CallF} {ex : ExecF} {bf : Nat → Nat → Bool} {base : Nat} {all : List Oper} {i : Nat} {o : Oper} {rest : List (Nat × Oper)} {ts ts1 ts' : List AV} {H1 : AHeap} {e : Option Eff} {es0 : List (Nat × Option Eff)}
    (h1 : stepA P call ex (some (base + i)) all o ts H = .ok (ts1, H1, e)) (h2 : drawA P call ex bf base all rest ts1 H1 = .ok (ts', H', es0))
    (hc : trivialO e = true ∨ (es0.all fun p => effOk e p.2 || bf i p.1) = true) :
    ∃ es, drawA P call ex bf base all ((i, o) :: rest) ts H = .ok (ts', H', es) ∧ ∀ p, p ∈ es → p ∈ es0 ∨ (trivialO e = false ∧ p = (i, e)) := by
  unfold drawA
  simp only [h1, h2, bind, Except.bind]
  by_cases ht : trivialO e = true
  · exact ⟨es0, by rw [if_pos ht]; rfl, fun p hp => .inl hp⟩
  · have ha := hc.resolve_left ht
    refine ⟨(i, e) :: es0, by rw [if_neg ht, if_pos ha]; rfl, fun p hp => ?_⟩
    rcases List.mem_cons.1 hp with h | h
    · exact .inr ⟨by simpa using ht, h⟩
    · exact .inl h

/-- An operation that nothing ahead of it binds may come first. -/
theorem drawA_front {call : CallF} {ex : ExecF} {bf : Nat → Nat → Bool} {base : Nat} {ops : Array Oper} {j : Nat} {oj : Oper} {L2 : List (Nat × Oper)} : ∀ (L1 : List (Nat × Oper)) {ts ts' : List AV} {H H' : AHeap} {es : List (Nat × Option Eff)},
    (∀ i oi, (i, oi) ∈ L1 → bf i j = false ∧ oi.apart ops oj = true) →
    drawA P call ex bf base ops.toList (L1 ++ (j, oj) :: L2) ts H = .ok (ts', H', es) →
    ∃ ts1 H1 e es', stepA P call ex (some (base + j)) ops.toList oj ts H = .ok (ts1, H1, e) ∧ drawA P call ex bf base ops.toList (L1 ++ L2) ts1 H1 = .ok (ts', H', es') ∧
      (∀ p, p ∈ es' → p ∈ es) ∧ (trivialO e = false → (j, e) ∈ es) := by
  intro L1
  induction L1 with
  | nil =>
    intro ts ts' H H' es _ h
    obtain ⟨ts1, H1, e, es0, h1, h2, h3⟩ := drawA_cons h
    refine ⟨ts1, H1, e, es0, h1, h2, ?_, ?_⟩
    · rcases h3 with ⟨_, rfl⟩ | ⟨_, _, rfl⟩
      · exact fun p hp => hp
      · exact fun p hp => List.mem_cons_of_mem _ hp
    · intro ht
      rcases h3 with ⟨ht', _⟩ | ⟨_, _, rfl⟩
      · rw [ht] at ht'; cases ht'
      · exact List.mem_cons_self
  | cons x L1 ih =>
    obtain ⟨i, oi⟩ := x
    intro ts ts' H H' es hb h
    obtain ⟨tsa, Ha, ei, es0, h1, h2, h3⟩ := drawA_cons h
    obtain ⟨tsb, Hb, ej, es0', k1, k2, k3, k4⟩ := ih (fun i' oi' hm => hb i' oi' (List.mem_cons_of_mem _ hm)) h2
    obtain ⟨b1, b2⟩ := hb i oi List.mem_cons_self
    have hfree : Trivial ei ∨ Trivial ej ∨ ∃ x y, ei = some x ∧ ej = some y ∧ Free x y := by
      rcases h3 with ⟨ht, _⟩ | ⟨_, ha, _⟩
      · exact .inl (trivialO_ok ht)
      · cases htj : trivialO ej with
        | true => exact .inr (.inl (trivialO_ok htj))
        | false =>
          have := List.all_eq_true.1 ha _ (k4 htj)
          simp only [Bool.or_eq_true] at this
          rcases this with h | h
          · exact .inr (.inr (effOk_free h))
          · rw [b1] at h; cases h
    obtain ⟨ts1', H1', q1, q2⟩ := step_swap h1 k1 b2 hfree
    obtain ⟨es2, r1, r2⟩ := drawA_mk q2 k2 (by
      rcases h3 with ⟨ht, _⟩ | ⟨_, ha, _⟩
      · exact .inl ht
      · exact .inr (List.all_eq_true.2 fun p hp => List.all_eq_true.1 ha p (k3 p hp)))
    refine ⟨ts1', H1', ej, es2, q1, r1, fun p hp => ?_, fun ht => ?_⟩
    · rcases r2 p hp with hp | ⟨ht, rfl⟩
      · rcases h3 with ⟨_, rfl⟩ | ⟨_, _, rfl⟩
        · exact k3 p hp
        · exact List.mem_cons_of_mem _ (k3 p hp)
      · rcases h3 with ⟨ht', _⟩ | ⟨_, _, rfl⟩
        · rw [ht] at ht'; cases ht'
        · exact List.mem_cons_self
    · rcases h3 with ⟨_, rfl⟩ | ⟨_, _, rfl⟩
      · exact k4 ht
      · exact List.mem_cons_of_mem _ (k4 ht)
end
end Go.Abs

namespace Go.Abs
open Go Go.RowKit

section
variable {P : Program} {w : World}
variable {n₀ : Nat} {w₀ : World} {S : Nat → Prop} {H : AHeap} {φ : Nat → Nat × Nat × Nat} {D : Nat → Prop}

/-- Slots kept free. -/
def slots (H : AHeap) (n : Nat) : AHeap := { H with objs := H.objs ++ List.replicate n .dead }

theorem ext_slots (n : Nat) : Ext n₀ w S H.objs φ D w S (slots H n).objs φ D := by
  refine ⟨fun _ h => h, fun _ h => .inl h, fun _ _ => rfl, fun b o h => ⟨o, ?_, OExt.refl _ _⟩, fun _ h => h⟩
  show (H.objs ++ List.replicate n .dead)[b]? = some o
  rw [List.getElem?_append_left (List.getElem?_eq_some_iff.1 h).1]
  exact h

theorem slots_live {n b : Nat} {o : AObj} (h : (slots H n).objs[b]? = some o) (hl : o.live = true) : H.objs[b]? = some o := by
  have h : (H.objs ++ List.replicate n .dead)[b]? = some o := h
  rw [List.getElem?_append] at h
  split at h
  · exact h
  · rw [List.getElem?_replicate] at h
    split at h
    · cases h; cases hl
    · cases h

theorem rel_slots (R : Rel n₀ w₀ w S H φ D) (n : Nat) : Rel n₀ w₀ w S (slots H n) φ D := by
  refine ⟨R.below, R.size, R.szS, fun b o h => ?_, fun b o h hl => R.place b o (slots_live h hl) hl, fun b b' o o' h h' hl hl' => R.inj b b' o o' (slots_live h hl) (slots_live h' hl') hl hl', R.dfr, fun b hb => ?_, R.glob⟩
  · cases hl : o.live with
    | false => cases o <;> simp [AObj.live] at hl; trivial
    | true => exact (R.obj b o (slots_live h hl)).ext (ext_slots (n₀ := n₀) n) rfl rfl Iff.rfl Iff.rfl
  · obtain ⟨cs, g, h⟩ := R.frzc b hb
    exact ⟨cs, g, by
      show (H.objs ++ List.replicate n .dead)[b]? = _
      rw [List.getElem?_append_left (List.getElem?_eq_some_iff.1 h).1]
      exact h⟩
end
end Go.Abs

namespace Go.Abs
open Go Go.RowKit

section
variable {P : Program}
variable {n₀ : Nat} {w₀ : World}

theorem apartA_eq (ops : Array Oper) (x y : Oper) : apartA ops x y = x.apart ops y := rfl

theorem okRegion_spec {ops : Array Oper} {bf : Nat → Nat → Bool} (h : okRegion ops bf = true) {j : Nat} {oj : Oper} (hj : ops[j]? = some oj) :
    (∀ e, e ∈ oj.after → Region.binds .any e = true → e.on < j) ∧ ∀ i, i < ops.size →
      (bf i j = true → ∃ e, e ∈ oj.after ∧ Region.binds .any e = true ∧ (e.on = i ∨ bf i e.on = true)) ∧
      (bf i j = false → i < j → ∀ oi, ops[i]? = some oi → oi.apart ops oj = true) := by
  unfold okRegion at h
  have h1 := List.all_eq_true.1 h j (List.mem_range.2 (Array.getElem?_eq_some_iff.1 hj).1)
  rw [hj] at h1
  simp only [Bool.and_eq_true] at h1
  obtain ⟨h1, h2⟩ := h1
  refine ⟨fun e he hb => ?_, fun i hi => ?_⟩
  · have := Array.all_eq_true'.1 h1 e he
    rw [hb] at this
    simpa using this
  · have h3 := List.all_eq_true.1 h2 i (List.mem_range.2 hi)
    refine ⟨fun hb => ?_, fun hb hne oi hoi => ?_⟩
    · rw [if_pos hb] at h3
      obtain ⟨e, he, h4⟩ := Array.any_eq_true'.1 h3
      simp only [Bool.and_eq_true, Bool.or_eq_true, beq_iff_eq] at h4
      exact ⟨e, he, h4.1, h4.2⟩
    · rw [if_neg (by simp [hb])] at h3
      have hnle : Nat.ble j i = false := by
        rw [Bool.eq_false_iff]; exact fun e => by have := Nat.le_of_ble_eq_true e; omega
      rw [hnle, Bool.false_or] at h3
      rw [hoi] at h3
      exact h3

/-- A region that draws its order, from any point on. -/
theorem drawA_sim {call : CallF} {ex : ExecF} (hp : PureOK P call) (hs : SharedOK P call) (hex : ExecOK P ex) {ops : Array Oper} {bf : Nat → Nat → Bool} {base : Nat} (hok : okRegion ops bf = true) {ro : Option Nat} {Q : Exit → Act → World → Prop} :
    ∀ (fuel : Nat) (L : List (Nat × Oper)) (listed : Array Bool) {w : World} {S : Nat → Prop} {H : AHeap} {φ : Nat → Nat × Nat × Nat} {D : Nat → Prop} {ts ts' : List AV} {H' : AHeap} {es : List (Nat × Option Eff)} {a : Act},
    L.length = fuel → listed.size = ops.size → (∀ i o, (i, o) ∈ L → ops[i]? = some o ∧ listed.getD i true = false) → (∀ i, listed.getD i true = false → ∃ o, (i, o) ∈ L) → L.Pairwise (fun p q => p.1 < q.1) →
    (∀ k, listed.getD k false = true → ∀ i, i < ops.size → bf i k = true → listed.getD i false = true) →
    drawA P call ex bf base ops.toList L ts H = .ok (ts', H', es) → Rel n₀ w₀ w S H φ D → VRL w S H.objs φ ts a.tmps → Cont n₀ w₀ w S H φ D ts' H' a.defers (Q .normal) →
    wpAnyIn (FW ro) 0 P .any ops Q fuel listed a w := by
  intro fuel
  induction fuel with
  | zero =>
    intro L listed w S H φ D ts ts' H' es a hL hsz hmem hall hsort hcl h R hts hK
    have : L = [] := List.length_eq_zero_iff.1 hL
    subst this
    cases h
    refine ⟨?_, hK _ _ S φ D R Ext.refl hts rfl⟩
    rw [List.eq_nil_iff_forall_not_mem]
    intro i hi
    obtain ⟨o, ho⟩ := hall i (mem_ready.1 hi).1
    cases ho
  | succ fuel ih =>
    intro L listed w S H φ D ts ts' H' es a hL hsz hmem hall hsort hcl h R hts hK
    have onL : ∀ k, k < ops.size → listed.getD k true ≠ false → listed.getD k false = true := by
      intro k hk hl
      have : k < listed.size := by rw [hsz]; exact hk
      simp only [Array.getD, this, dif_pos] at hl ⊢
      simpa using hl
    refine ⟨fun hr => ?_, fun j hj => ?_⟩
    · exfalso
      cases L with
      | nil => simp at hL
      | cons p L =>
        obtain ⟨i, o⟩ := p
        obtain ⟨ho, hl⟩ := hmem i o List.mem_cons_self
        have hi := (Array.getElem?_eq_some_iff.1 ho).1
        have : i ∈ Region.ready .any ops listed := by
          refine mem_ready.2 ⟨hl, o, ho, fun e he hb => ?_⟩
          have hlt := (okRegion_spec hok ho).1 e he hb
          refine onL e.on (by omega) (fun hf => ?_)
          obtain ⟨o', ho'⟩ := hall e.on hf
          rcases List.mem_cons.1 ho' with hq | hq
          · cases hq; omega
          · have := (List.pairwise_cons.1 hsort).1 _ hq
            simp only at this
            omega
        rw [hr] at this
        cases this
    · obtain ⟨hun, oj, hoj, hedges⟩ := mem_ready.1 hj
      obtain ⟨o', ho'⟩ := hall j hun
      have : o' = oj := by
        have := (hmem j o' ho').1
        rw [hoj] at this; cases this; rfl
      subst this
      obtain ⟨L1, L2, rfl⟩ := List.append_of_mem ho'
      have spec := okRegion_spec hok hoj
      have bfl : ∀ i, i < ops.size → bf i j = true → listed.getD i false = true := by
        intro i hi hb
        obtain ⟨e, he, hb', hq⟩ := (spec.2 i hi).1 hb
        have := hedges e he hb'
        rcases hq with rfl | hq
        · exact this
        · exact hcl e.on this i hi hq
      have hsort' := List.pairwise_append.1 hsort
      have hb : ∀ i oi, (i, oi) ∈ L1 → bf i j = false ∧ oi.apart ops o' = true := by
        intro i oi hm
        obtain ⟨hoi, hl⟩ := hmem i oi (List.mem_append_left _ hm)
        have hi := (Array.getElem?_eq_some_iff.1 hoi).1
        have hne : i < j := by
          have := hsort'.2.2 _ hm _ List.mem_cons_self
          simp only at this
          omega
        have hbf : bf i j = false := by
          cases hq : bf i j with
          | false => rfl
          | true =>
            have := bfl i hi hq
            have hlt : i < listed.size := by rw [hsz]; exact hi
            simp only [Array.getD, hlt, dif_pos] at hl this
            rw [hl] at this; cases this
        exact ⟨hbf, (spec.2 i hi).2 hbf hne oi hoi⟩
      obtain ⟨ts1, H1, e, es', h1, h2, _, _⟩ := drawA_front L1 hb h
      unfold wpOpIn
      rw [hoj]
      simp only
      refine stepA_sim R hp hs hex h1 hts ?_
      intro a1 w1 S1 φ1 D1 R1 E1 V1 hd
      have jlt : j < listed.size := by rw [hsz]; exact (Array.getElem?_eq_some_iff.1 hoj).1
      refine ih (L1 ++ L2) _ (by simp at hL ⊢; omega) (by simpa using hsz) ?_ ?_ ?_ ?_ h2 R1 V1 ?_
      · intro i oi hm
        have hm' : (i, oi) ∈ L1 ++ (j, o') :: L2 := by
          rcases List.mem_append.1 hm with h | h
          · exact List.mem_append_left _ h
          · exact List.mem_append_right _ (List.mem_cons_of_mem _ h)
        obtain ⟨k1, k2⟩ := hmem i oi hm'
        refine ⟨k1, ?_⟩
        have hne : j ≠ i := by
          rcases List.mem_append.1 hm with h | h
          · have := hsort'.2.2 _ h _ List.mem_cons_self
            simp only at this; omega
          · have := (List.pairwise_cons.1 hsort'.2.1).1 _ h
            simp only at this; omega
        rw [getD_set_ne true hne]
        exact k2
      · intro i hi
        have hne : j ≠ i := by
          intro e
          subst e
          simp [Array.getD, jlt] at hi
        rw [getD_set_ne true hne] at hi
        obtain ⟨oi, hm⟩ := hall i hi
        refine ⟨oi, ?_⟩
        rcases List.mem_append.1 hm with h | h
        · exact List.mem_append_left _ h
        · rcases List.mem_cons.1 h with h | h
          · cases h; exact absurd rfl hne
          · exact List.mem_append_right _ h
      · refine List.pairwise_append.2 ⟨hsort'.1, (List.pairwise_cons.1 hsort'.2.1).2, fun x hx y hy => hsort'.2.2 x hx y (List.mem_cons_of_mem _ hy)⟩
      · intro k hk i hi hbk
        by_cases hkj : j = k
        · subst hkj
          exact getD_set_true (bfl i hi hbk)
        · rw [getD_set_ne false hkj] at hk
          exact getD_set_true (hcl k hk i hi hbk)
      · intro a2 w2 S2 φ2 D2 R2 E2 V2 hd2
        exact hK a2 w2 S2 φ2 D2 R2 (E1.trans E2) V2 (hd2.trans hd)
end
end Go.Abs

namespace Go.Abs
open Go Go.RowKit

theorem enum_length {α : Type} : ∀ (k : Nat) (l : List α), (enum k l).length = l.length := by
  intro k l
  induction l generalizing k with
  | nil => rfl
  | cons a l ih => simp [enum, ih]

theorem mem_enum {α : Type} {i : Nat} {o : α} : ∀ {k : Nat} {l : List α}, (i, o) ∈ enum k l ↔ k ≤ i ∧ l[i - k]? = some o := by
  intro k l
  induction l generalizing k with
  | nil => simp [enum]
  | cons a l ih =>
    simp only [enum, List.mem_cons, Prod.mk.injEq, ih]
    constructor
    · rintro (⟨rfl, rfl⟩ | ⟨h1, h2⟩)
      · simp
      · refine ⟨by omega, ?_⟩
        rw [show i - k = (i - (k + 1)) + 1 by omega]
        simpa using h2
    · rintro ⟨h1, h2⟩
      by_cases e : i = k
      · subst e
        simp at h2
        exact .inl ⟨rfl, h2.symm⟩
      · refine .inr ⟨by omega, ?_⟩
        rw [show i - k = (i - (k + 1)) + 1 by omega] at h2
        simpa using h2

theorem enum_sorted {α : Type} : ∀ (k : Nat) (l : List α), (enum k l).Pairwise (fun p q => p.1 < q.1) := by
  intro k l
  induction l generalizing k with
  | nil => exact List.Pairwise.nil
  | cons a l ih =>
    refine List.pairwise_cons.2 ⟨fun p hp => ?_, ih (k + 1)⟩
    have := (mem_enum.1 (show (p.1, p.2) ∈ enum (k + 1) l from hp)).1
    simp only
    omega

section
variable {P : Program} {w : World}
variable {n₀ : Nat} {w₀ : World} {S : Nat → Prop} {H : AHeap} {φ : Nat → Nat × Nat × Nat} {D : Nat → Prop}

theorem region_draw_sim (hm : P.follows .mixedOrders = true) {call : CallF} {ex : ExecF} (hp : PureOK P call) (hs : SharedOK P call) (hex : ExecOK P ex) {id : Nat} {ops : Array Oper} {bf : Nat → Nat → Bool} (hok : okRegion ops bf = true) {ro : Option Nat} {Q : Exit → Act → World → Prop}
    {ts ts' : List AV} {H' : AHeap} {es : List (Nat × Option Eff)} {a : Act} (h : drawA P call ex bf H.objs.length ops.toList (enum 0 ops.toList) ts (slots H ops.size) = .ok (ts', H', es)) (R : Rel n₀ w₀ w S H φ D) (hts : VRL w S H.objs φ ts a.tmps)
    (hK : Cont n₀ w₀ w S H φ D ts' H' a.defers (Q .normal)) : (Code.region id ops true).wpIn (FW ro) 0 P Q a w := by
  refine wpIn_region_any hm ?_
  have E0 : Ext n₀ w S H.objs φ D { w with drawn := w.drawn + 1 } S (slots H ops.size).objs φ D := (Ext.drew (n₀ := n₀) (w := w) (S := S) (φ := φ) (D := D)).trans (ext_slots ops.size)
  refine drawA_sim hp hs hex hok ops.size _ _ (by rw [enum_length]; simp) (by simp) ?_ ?_ (enum_sorted _ _) ?_ h (rel_slots R.drew ops.size) (hts.ext E0) ?_
  · intro i o hi
    obtain ⟨_, h2⟩ := mem_enum.1 hi
    rw [Nat.sub_zero, Array.getElem?_toList] at h2
    refine ⟨h2, ?_⟩
    have := (Array.getElem?_eq_some_iff.1 h2).1
    simp [Array.getD, this]
  · intro i hi
    by_cases hlt : i < ops.size
    · exact ⟨ops[i], mem_enum.2 ⟨Nat.zero_le _, by simp [hlt]⟩⟩
    · simp [Array.getD, hlt] at hi
  · intro k hk
    exfalso
    by_cases hlt : k < ops.size
    · simp [Array.getD, hlt] at hk
    · simp [Array.getD, hlt] at hk
  · intro a2 w2 S2 φ2 D2 R2 E2 V2 hd2
    exact hK a2 w2 S2 φ2 D2 R2 (E0.trans E2) V2 hd2

theorem dropDead_spec : ∀ l : List AObj, ∃ k, l = dropDead l ++ List.replicate k .dead := by
  intro l
  induction l with
  | nil => exact ⟨0, rfl⟩
  | cons o l ih =>
    obtain ⟨k, hk⟩ := ih
    unfold dropDead
    cases hd : dropDead l with
    | nil =>
      rw [hd] at hk
      simp only [List.nil_append] at hk
      cases o with
      | dead => exact ⟨k + 1, by rw [hk]; rfl⟩
      | _ => exact ⟨k, by rw [hk]; rfl⟩
    | cons r rs =>
      rw [hd] at hk
      exact ⟨k, by rw [hk]; rfl⟩

theorem trimTo_spec : ∀ (n : Nat) (l : List AObj), (∃ k, l = trimTo n l ++ List.replicate k .dead) ∧ (n ≤ l.length → n ≤ (trimTo n l).length) := by
  intro n
  induction n with
  | zero => intro l; exact ⟨dropDead_spec l, fun _ => Nat.zero_le _⟩
  | succ n ih =>
    intro l
    cases l with
    | nil => exact ⟨⟨0, rfl⟩, fun h => h⟩
    | cons o l =>
      obtain ⟨⟨k, hk⟩, h2⟩ := ih l
      refine ⟨⟨k, ?_⟩, fun h => ?_⟩
      · unfold trimTo
        rw [List.cons_append, ← hk]
      · unfold trimTo
        simp only [List.length_cons] at h ⊢
        have := h2 (by omega)
        omega

theorem VR.live {H H' : List AObj} (hl : ∀ (b : Nat) (o : AObj), H[b]? = some o → o.live = true → H'[b]? = some o) {x : AV} {v : Value} (h : VR w S H φ x v) : VR w S H' φ x v := by
  induction h with
  | im h => exact .im h
  | agg hl' _ ih => exact .agg hl' ih
  | tup hl' _ ih => exact .tup hl' ih
  | fn ha hc _ _ ih1 ih2 => exact .fn ha hc ih1 ih2
  | ifc _ ih => exact .ifc ih
  | yield h =>
    obtain ⟨st, pend, ts, ps, as, bd, h⟩ := h
    exact .yield ⟨st, pend, ts, ps, as, bd, hl _ _ h rfl⟩
  | osl hb hg hlc hc he hp => exact .osl (hl _ _ hb rfl) hg hlc hc he hp
  | optr hb hg hp => exact .optr (hl _ _ hb rfl) hg hp
  | mp h =>
    obtain ⟨es, h⟩ := h
    exact .mp ⟨es, hl _ _ h rfl⟩
  | it h =>
    obtain ⟨s, pos, h⟩ := h
    exact .it ⟨s, pos, hl _ _ h rfl⟩
  | itr h =>
    obtain ⟨o, h⟩ := h
    exact .itr ⟨o, hl _ _ h rfl⟩

theorem VRL.live {H H' : List AObj} (hl : ∀ (b : Nat) (o : AObj), H[b]? = some o → o.live = true → H'[b]? = some o) {xs : List AV} {vs : Array Value} (h : VRL w S H φ xs vs) : VRL w S H' φ xs vs :=
  ⟨h.1, fun i x v a b => (h.2 i x v a b).live hl⟩

/-- Objects that are dead are forgotten. -/
theorem rel_live (R : Rel n₀ w₀ w S H φ D) {T : List AObj} (h1 : ∀ (b : Nat) (o : AObj), T[b]? = some o → H.objs[b]? = some o) (h2 : ∀ (b : Nat) (o : AObj), H.objs[b]? = some o → o.live = true → T[b]? = some o) :
    Rel n₀ w₀ w S { H with objs := T } φ D := by
  refine ⟨R.below, R.size, R.szS, fun b o h => ?_, fun b o h hl => R.place b o (h1 b o h) hl, fun b b' o o' h h' hl hl' hq => R.inj b b' o o' (h1 b o h) (h1 b' o' h') hl hl' hq, R.dfr, fun b hb => ?_, R.glob⟩
  · have hor := R.obj b o (h1 b o h)
    cases o with
    | dead => trivial
    | cells cs g =>
      obtain ⟨C, t, lo, hi, k1, k2, k3, k4, k5⟩ := hor
      exact ⟨C, t, lo, hi, k1, k2, k3, fun i x v a b => (k4 i x v a b).live h2, k5⟩
    | map es =>
      obtain ⟨E, c, k1, k2, k3, k4⟩ := hor
      exact ⟨E, c, k1, k2, fun i k v e' a b => ⟨(k3 i k v e' a b).1, (k3 i k v e' a b).2.live h2⟩, k4⟩
    | siter s pos => exact hor
    | raw y => exact hor
    | loop st pend ts ps as bd =>
      obtain ⟨fn, T', k1, k2, k3, k4⟩ := hor
      exact ⟨fn, T', k1, k2.live h2, k3, k4⟩
  · obtain ⟨cs, g, hc⟩ := R.frzc b hb
    exact ⟨cs, g, h2 b _ hc rfl⟩

theorem ext_length {w' : World} {S' : Nat → Prop} {H' : List AObj} {φ' : Nat → Nat × Nat × Nat} {D' : Nat → Prop} {H : List AObj} (E : Ext n₀ w S H φ D w' S' H' φ' D') : H.length ≤ H'.length := by
  cases hh : H.length with
  | zero => exact Nat.zero_le _
  | succ n =>
    obtain ⟨o', h1, _⟩ := E.obj n H[n] (List.getElem?_eq_getElem (by omega))
    have := (List.getElem?_eq_some_iff.1 h1).1
    omega

/-- The dead at the end of what a region has made are forgotten. -/
theorem trim_sim {H H1 : AHeap} {w' : World} {S' : Nat → Prop} {φ' : Nat → Nat × Nat × Nat} {D' : Nat → Prop} {ts : List AV} {T : Array Value} (R : Rel n₀ w₀ w' S' H1 φ' D') (E : Ext n₀ w S H.objs φ D w' S' H1.objs φ' D') (V : VRL w' S' H1.objs φ' ts T) :
    Rel n₀ w₀ w' S' { H1 with objs := trimTo H.objs.length H1.objs } φ' D' ∧ Ext n₀ w S H.objs φ D w' S' (trimTo H.objs.length H1.objs) φ' D' ∧ VRL w' S' (trimTo H.objs.length H1.objs) φ' ts T := by
  obtain ⟨⟨k, hk⟩, hlen⟩ := trimTo_spec H.objs.length H1.objs
  have hle := hlen (ext_length E)
  have h1 : ∀ (b : Nat) (o : AObj), (trimTo H.objs.length H1.objs)[b]? = some o → H1.objs[b]? = some o := by
    intro b o h
    rw [hk, List.getElem?_append_left (List.getElem?_eq_some_iff.1 h).1]
    exact h
  have h2 : ∀ (b : Nat) (o : AObj), H1.objs[b]? = some o → (o.live = true ∨ b < H.objs.length) → (trimTo H.objs.length H1.objs)[b]? = some o := by
    intro b o h hq
    rw [hk, List.getElem?_append] at h
    split at h
    · exact h
    · rename_i hb
      rcases hq with hq | hq
      · have := (List.mem_replicate.1 (List.mem_of_getElem? h)).2
        subst this
        cases hq
      · omega
  refine ⟨rel_live R h1 (fun b o h hl => h2 b o h (.inl hl)), ⟨E.stab, E.new, E.cell, fun b o h => ?_, E.dfr⟩, V.live (fun b o h hl => h2 b o h (.inl hl))⟩
  obtain ⟨o', k1, k2⟩ := E.obj b o h
  exact ⟨o', h2 b o' k1 (.inr (List.getElem?_eq_some_iff.1 h).1), k2⟩
end
end Go.Abs

namespace Go.Abs
open Go Go.RowKit

theorem Marks.same {d d' : List Deferred} (h : d' = d) (D D' : Nat → Prop) : Marks d d' D D' :=
  ⟨[], by rw [h]; rfl, List.nodup_nil, fun r hr => by cases hr⟩

section
variable {P : Program}

def ContX (n₀ : Nat) (w₀ w : World) (S : Nat → Prop) (H : AHeap) (φ : Nat → Nat × Nat × Nat) (D : Nat → Prop) (ts' : List AV) (H' : AHeap) (d : List Deferred) (e : Exit) (Q : Exit → Act → World → Prop) : Prop :=
  ∀ (a' : Act) (w' : World) (S' : Nat → Prop) (φ' : Nat → Nat × Nat × Nat) (D' : Nat → Prop), Rel n₀ w₀ w' S' H' φ' D' → Ext n₀ w S H.objs φ D w' S' H'.objs φ' D' → VRL w' S' H'.objs φ' ts' a'.tmps → Marks d a'.defers D D' → Q e a' w'

theorem ContX.cont {n₀ : Nat} {w₀ w : World} {S : Nat → Prop} {H : AHeap} {φ : Nat → Nat × Nat × Nat} {D : Nat → Prop} {ts' : List AV} {H' : AHeap} {d : List Deferred} {e : Exit} {Q : Exit → Act → World → Prop} (h : ContX n₀ w₀ w S H φ D ts' H' d e Q) : Cont n₀ w₀ w S H φ D ts' H' d (Q e) :=
  fun a' w' S' φ' D' R E V hd => h a' w' S' φ' D' R E V (.same hd D D')

def LoopOK (P : Program) (ex : ExecF) (n : Nat) : Prop :=
  ∀ (b : Code) (ts : List AV) (H : AHeap) (e : Exit) (ts' : List AV) (H' : AHeap), ex (.loop b) ts H = .ok (e, ts', H') → ∀ (ro : Option Nat) (n₀ : Nat) (w₀ w : World) (S : Nat → Prop) (φ : Nat → Nat × Nat × Nat) (D : Nat → Prop) (a : Act) (Q : Exit → Act → World → Prop),
    RoOK ro H φ D → Rel n₀ w₀ w S H φ D → VRL w S H.objs φ ts a.tmps → ContX n₀ w₀ w S H φ D ts' H' a.defers e Q → Code.roundsIn (FW ro) 0 P b Q n a w

theorem loop_step {call : CallF} {n : Nat} (ih : ExecOK P (exec P call n)) (il : LoopOK P (exec P call n) n) : LoopOK P (exec P call (n + 1)) (n + 1) := by
  intro b ts H e ts' H' h ro n₀ w₀ w S φ D a Q hro R hts hK
  unfold exec at h
  replace h := bind_ok h
  obtain ⟨⟨e1, ts1, H1⟩, h1, h⟩ := h
  rw [roundsIn_succ]
  refine ih b ts H e1 ts1 H1 h1 ro n₀ w₀ w S φ D a _ hro R hts ?_
  intro a1 w1 S1 φ1 D1 R1 E1 V1 M1
  have go : e1 ≠ .normal → Exit.then (Code.roundsIn (FW ro) 0 P b Q n) Q e1 a1 w1 := by
    intro hne
    have : pure (e1, ts1, H1) = (.ok (e, ts', H') : Go.Abs.R _) := by
      cases e1 <;> first | exact h | exact absurd rfl hne
    cases pure_ok this
    have := hK a1 w1 S1 φ1 D1 R1 E1 V1 M1
    cases e <;> first | exact this | exact absurd rfl hne
  cases e1 with
  | normal =>
    refine il b ts1 H1 e ts' H' h ro n₀ w₀ w1 S1 φ1 D1 a1 Q (hro.ext E1) R1 V1 ?_
    intro a2 w2 S2 φ2 D2 R2 E2 V2 M2
    exact hK a2 w2 S2 φ2 D2 R2 (E1.trans E2) V2 (M1.trans M2 E1.dfr E2.dfr)
  | _ => exact go (by simp)
end
end Go.Abs

namespace Go.Abs
open Go Go.RowKit

section
variable {P : Program}

/-- The statements but for the range over a function. -/
theorem exec_step (hm : P.follows .mixedOrders = true) {call : CallF} (hp : PureOK P call) (hs : SharedOK P call) {n : Nat} (ih : ExecOK P (exec P call n)) (il : LoopOK P (exec P call n) n)
    (hr : ∀ f ps as bd ts H e ts' H', exec P call (n + 1) (.rangeFunc f ps as bd) ts H = .ok (e, ts', H') → ∀ (ro : Option Nat) (n₀ : Nat) (w₀ w : World) (S : Nat → Prop) (φ : Nat → Nat × Nat × Nat) (D : Nat → Prop) (a : Act) (Q : Exit → Act → World → Prop),
      RoOK ro H φ D → Rel n₀ w₀ w S H φ D → VRL w S H.objs φ ts a.tmps → ContX n₀ w₀ w S H φ D ts' H' a.defers e Q → (Code.rangeFunc f ps as bd).wpIn (FW ro) 0 P Q a w) :
    ExecOK P (exec P call (n + 1)) := by
  intro c ts H e ts' H' h ro n₀ w₀ w S φ D a Q hro R hts hK
  have here : (.ok (e, ts', H') : Go.Abs.R _) = .ok (e, ts, H) → Q e a w := by
    intro hq
    cases hq
    exact hK a w S φ D R Ext.refl hts (.refl _ _)
  cases c with
  | skip => unfold exec at h; cases h; exact wpIn_skip (here rfl)
  | label l => unfold exec at h; cases h; exact wpIn_label (here rfl)
  | exit id => unfold exec at h; cases h; exact wpIn_exit (here rfl)
  | ret => unfold exec at h; cases h; exact wpIn_ret (here rfl)
  | region id ops draw =>
    unfold exec at h
    simp only at h
    split at h
    · rename_i hd
      split at h
      · rename_i hok
        replace h := bind_ok h
        obtain ⟨⟨ts1, H1, es⟩, h1, h⟩ := h
        cases pure_ok h
        subst hd
        refine region_draw_sim hm hp hs ih hok h1 R hts ?_
        intro a2 w2 S2 φ2 D2 R2 E2 V2 hd2
        obtain ⟨R3, E3, V3⟩ := trim_sim R2 E2 V2
        exact ContX.cont hK a2 w2 S2 φ2 D2 R3 E3 V3 hd2
      · cases h
    · rename_i hd
      replace h := bind_ok h
      obtain ⟨⟨ts1, H1⟩, h1, h⟩ := h
      cases pure_ok h
      have : draw = false := by simpa using hd
      subst this
      exact wpIn_region_list (seqA_sim hp hs ih ops.toList h1 R hts (ContX.cont hK))
  | seq x y =>
    unfold exec at h
    replace h := bind_ok h
    obtain ⟨⟨e1, ts1, H1⟩, h1, h⟩ := h
    refine wpIn_seq (ih x ts H e1 ts1 H1 h1 ro n₀ w₀ w S φ D a _ hro R hts ?_)
    intro a1 w1 S1 φ1 D1 R1 E1 V1 M1
    have go : e1 ≠ .normal → Exit.then (y.wpIn (FW ro) 0 P Q) Q e1 a1 w1 := by
      intro hne
      have : pure (e1, ts1, H1) = (.ok (e, ts', H') : Go.Abs.R _) := by
        cases e1 <;> first | exact h | exact absurd rfl hne
      cases pure_ok this
      have := hK a1 w1 S1 φ1 D1 R1 E1 V1 M1
      cases e <;> first | exact this | exact absurd rfl hne
    cases e1 with
    | normal =>
      refine ih y ts1 H1 e ts' H' h ro n₀ w₀ w1 S1 φ1 D1 a1 Q (RoOK.ext hro E1) R1 V1 ?_
      intro a2 w2 S2 φ2 D2 R2 E2 V2 M2
      exact hK a2 w2 S2 φ2 D2 R2 (E1.trans E2) V2 (M1.trans M2 E1.dfr E2.dfr)
    | _ => exact go (by simp)
  | cond c x y =>
    unfold exec at h
    simp only at h
    split at h
    · rename_i t ht
      have hc : a.eval c = .bool t := by
        have := evalOp_VR hts c
        rw [ht] at this
        exact this.sc_inv.1
      refine wpIn_cond hc ?_
      exact ih (if t then x else y) ts H e ts' H' h ro n₀ w₀ w S φ D a Q hro R hts hK
    · cases h
  | loop b =>
    refine wpIn_loop_rounds (n + 1) ?_
    exact loop_step ih il b ts H e ts' H' h ro n₀ w₀ w S φ D a Q hro R hts hK
  | rangeFunc f ps as bd => exact hr f ps as bd ts H e ts' H' h ro n₀ w₀ w S φ D a Q hro R hts hK
  | block id b =>
    unfold exec at h
    replace h := bind_ok h
    obtain ⟨⟨e1, ts1, H1⟩, h1, h⟩ := h
    refine wpIn_block (ih b ts H e1 ts1 H1 h1 ro n₀ w₀ w S φ D a _ hro R hts ?_)
    intro a1 w1 S1 φ1 D1 R1 E1 V1 M1
    cases e1 with
    | exit id' =>
      simp only at h
      split at h
      · rename_i hid
        cases pure_ok h
        have := hK a1 w1 S1 φ1 D1 R1 E1 V1 M1
        simp only [Exit.inBlock]
        rw [if_pos hid]
        exact this
      · rename_i hid
        cases pure_ok h
        have := hK a1 w1 S1 φ1 D1 R1 E1 V1 M1
        simp only [Exit.inBlock]
        rw [if_neg hid]
        exact this
    | _ =>
      cases pure_ok h
      exact hK a1 w1 S1 φ1 D1 R1 E1 V1 M1
  | scope b => unfold exec at h; cases h
  | goto l => unfold exec at h; cases h
  | refuse w => unfold exec at h; cases h
end
end Go.Abs

