/- dowel/meeting.Axes hands back its axes whatever the order of the map. -/
import Derived.Test.YtbndbhglmbjfgaaGreatDoorGrAxD
import Derived.Test.YtbndbhglmbjfgaaGreatDoorGrTab
import Derived.Test.YtbndbhglmbjfgaaGreatDoorProg
import Derived.KernelRfl
import Derived.Test.YtbndbhglmbjfgaaGreatDoorGrAxS
import Derived.Test.YtbndbhglmbjfgaaGreatDoorGrAxT0
import Derived.Test.YtbndbhglmbjfgaaGreatDoorGrAxT1
import Derived.Test.YtbndbhglmbjfgaaGreatDoorGrAxT2
import Derived.Test.YtbndbhglmbjfgaaGreatDoorGrAxP0
import Derived.Test.YtbndbhglmbjfgaaGreatDoorGrAxP1
set_option linter.all false
namespace Go.Abs
open Go Go.RowKit
variable {A : Ax} {P : Program} {call : CallF} {ex : ExecF} {X : List Nat → Obj}

theorem branch_one {n : Nat} {seen left : List Nat} {ts : List AV} {H : AHeap} (hne : left ≠ []) (h : ∀ i, i ∈ left → A.branch P call ex X (n + 1) [i] seen left ts H = true) : A.tree P call ex X (n + 1) seen left ts H = true := by
  cases left with
  | nil => exact absurd rfl hne
  | cons j js =>
    unfold Ax.tree
    have h0 := h j List.mem_cons_self
    unfold Ax.branch at h0
    simp only [Bool.and_eq_true] at h0
    rw [h0.1, Bool.true_and]
    rw [List.all_eq_true]
    intro i hi
    have h1 := h i hi
    unfold Ax.branch at h1
    simp only [Bool.and_eq_true] at h1
    have h1 := h1.2
    cases hv : A.vals[i]? with
    | none => rw [hv] at h1; cases h1
    | some v =>
      rw [hv] at h1
      simp only at h1 ⊢
      cases hit : A.iter P call ex (X (seen ++ [i])) v ts H with
      | error e => rw [hit] at h1; cases h1
      | ok r =>
        obtain ⟨ts', H'⟩ := r
        rw [hit] at h1
        simp only at h1 ⊢
        unfold Ax.branch at h1
        exact h1

theorem branch_two {n i : Nat} {seen left : List Nat} {ts : List AV} {H : AHeap} (hne : (left.filter fun k => !(Nat.beq k i)) ≠ []) (h : ∀ j, j ∈ (left.filter fun k => !(Nat.beq k i)) → A.branch P call ex X (n + 2) [i, j] seen left ts H = true) : A.branch P call ex X (n + 2) [i] seen left ts H = true := by
  obtain ⟨j0, hj0⟩ := List.exists_mem_of_ne_nil _ hne
  have h0 := h j0 hj0
  unfold Ax.branch at h0 ⊢
  simp only [Bool.and_eq_true] at h0 ⊢
  refine ⟨h0.1, ?_⟩
  have h0 := h0.2
  cases hv : A.vals[i]? with
  | none => rw [hv] at h0; cases h0
  | some v =>
    rw [hv] at h0
    simp only at h0 ⊢
    cases hit : A.iter P call ex (X (seen ++ [i])) v ts H with
    | error e => rw [hit] at h0; cases h0
    | ok r =>
      obtain ⟨ts', H'⟩ := r
      simp only
      have := branch_one (A := A) (P := P) (call := call) (ex := ex) (X := X) (n := n) (seen := seen ++ [i]) (ts := ts') (H := H') hne (fun j hj => by
        have h1 := h j hj
        unfold Ax.branch at h1
        simp only [Bool.and_eq_true] at h1
        have h1 := h1.2
        rw [hv] at h1
        simp only at h1
        rw [hit] at h1
        exact h1)
      unfold Ax.branch
      exact this
end Go.Abs

namespace Go.Abs.Known
open Go Go.Abs Go.Proofs

theorem mixed : Tryz.prog.follows .mixedOrders = true := by kernel_rfl
theorem nong' : (Tryz.prog.funcs.toList.all fun fn => !(fn.name == "runtime.NumGoroutine")) = true := by kernel_rfl
theorem nong : NoNG Tryz.prog := by
  intro k fn h
  have := List.all_eq_true.1 nong' fn (List.mem_of_getElem? (by rw [Array.getElem?_toList]; exact h))
  simpa using this

theorem sc_eq {w : World} {S' : Nat → Prop} {a v : Value} (h : IVR w S' (.sc a) v) : v = a := by
  cases h with
  | sc => rfl

theorem entry433 {s : List UInt8} {c r : Int} (h : ∀ w : World, (callFunc 433 #[.string ⟨s.toArray⟩, .int .u8 c]).run Tryz.prog w = .ok (.value (.int .i64 r)) w) : EntryOK Tryz.prog 433 [S s, C c] (I r) := by
  intro w S' vs hS hG hvs
  obtain ⟨hl, hi⟩ := hvs
  have h2 : vs.size = 2 := by rw [← hl]; rfl
  have e0 := hi 0 _ vs[0] rfl (by simp [h2])
  have e1 := hi 1 _ vs[1] rfl (by simp [h2])
  have hv : vs = #[.string ⟨s.toArray⟩, .int .u8 c] := by
    apply Array.ext
    · rw [h2]; rfl
    · intro i a b
      match i with
      | 0 => exact sc_eq e0
      | 1 => exact sc_eq e1
      | i + 2 => omega
  subst hv
  exact .inr ⟨_, w, h w, S', Go.RowKit.Below.refl _ _, fun _ h => h, fun _ h => .inl h, hS, .sc rfl⟩

def is433 (e : Entry) : Bool := match e with
  | (_, [.sc (.string s), .sc (.int .u8 47)], .sc (.int .i64 r)) =>
    (eqB s.data.toList [48] && decide (r = -1)) || (eqB s.data.toList [49] && decide (r = -1)) || (eqB s.data.toList [50] && decide (r = -1)) || (eqB s.data.toList [51] && decide (r = -1)) || (eqB s.data.toList [52] && decide (r = -1)) || (eqB s.data.toList [49, 47, 50] && decide (r = 1))
  | _ => false

theorem all433 : (tab.all fun p => p.2.all fun e => !(Nat.beq e.1 0) || (Nat.beq p.1 433 && is433 e)) = true := by kernel_rfl

theorem x48 (w : World) : (callFunc 433 #[.string ⟨[48].toArray⟩, .int .u8 47]).run Tryz.prog w = .ok (.value (.int .i64 (-1))) w := by kernel_rfl
theorem x49 (w : World) : (callFunc 433 #[.string ⟨[49].toArray⟩, .int .u8 47]).run Tryz.prog w = .ok (.value (.int .i64 (-1))) w := by kernel_rfl
theorem x50 (w : World) : (callFunc 433 #[.string ⟨[50].toArray⟩, .int .u8 47]).run Tryz.prog w = .ok (.value (.int .i64 (-1))) w := by kernel_rfl
theorem x51 (w : World) : (callFunc 433 #[.string ⟨[51].toArray⟩, .int .u8 47]).run Tryz.prog w = .ok (.value (.int .i64 (-1))) w := by kernel_rfl
theorem x52 (w : World) : (callFunc 433 #[.string ⟨[52].toArray⟩, .int .u8 47]).run Tryz.prog w = .ok (.value (.int .i64 (-1))) w := by kernel_rfl
theorem xhalf (w : World) : (callFunc 433 #[.string ⟨[49, 47, 50].toArray⟩, .int .u8 47]).run Tryz.prog w = .ok (.value (.int .i64 1)) w := by kernel_rfl

theorem step0 : StepOK Tryz.prog tab 0 := by
  intro _ k es e h1 h2 h3
  have := List.all_eq_true.1 (List.all_eq_true.1 all433 _ h1) e h2
  rw [h3] at this
  simp only [Nat.beq_refl, Bool.not_true, Bool.false_or, Bool.and_eq_true] at this
  obtain ⟨hk, he⟩ := this
  have hk := Nat.eq_of_beq_eq_true hk
  subst hk
  obtain ⟨t, args, r⟩ := e
  unfold is433 at he
  split at he
  · rename_i s r' heq
    cases heq
    have fin : ∀ (l : List UInt8) (q : Int), (∀ w : World, (callFunc 433 #[.string ⟨l.toArray⟩, .int .u8 47]).run Tryz.prog w = .ok (.value (.int .i64 q)) w) → (eqB s.data.toList l && decide (r' = q)) = true →
        EntryOK Tryz.prog 433 [.sc (.string s), .sc (.int .u8 47)] (.sc (.int .i64 r')) := by
      intro l q hx hh
      simp only [Bool.and_eq_true, decide_eq_true_eq] at hh
      obtain ⟨h1, rfl⟩ := hh
      have h1 := eqB_eq h1
      have hs : s = ⟨l.toArray⟩ := by
        obtain ⟨⟨s⟩⟩ := s
        simp only at h1
        rw [h1]
      rw [hs]
      exact entry433 hx
    simp only [Bool.or_eq_true] at he
    rcases he with ((((he | he) | he) | he) | he) | he
    · exact fin _ _ x48 he
    · exact fin _ _ x49 he
    · exact fin _ _ x50 he
    · exact fin _ _ x51 he
    · exact fin _ _ x52 he
    · exact fin _ _ xhalf he
  · cases he
end Go.Abs.Known

namespace Go.Abs.Known
open Go Go.Abs Go.Proofs

theorem pick36 {β : Type} {f g : Nat → β} (h : (List.range 36).map f = (List.range 36).map g) {x y : Nat} (hx : x < 6) (hy : y < 6) : f (6 * x + y) = g (6 * x + y) :=
  List.map_inj_left.1 h _ (List.mem_range.2 (by omega))

theorem el_ec : ∀ k, k < 6 → (insV Tryz.prog).el k = c4 (q4 ((insV Tryz.prog).el k) 0) ++ c4 (q4 ((insV Tryz.prog).el k) 1) ++ c4 (q4 ((insV Tryz.prog).el k) 2) := by
  intro k hk
  match k, hk with
  | 0, _ => rfl
  | 1, _ => rfl
  | 2, _ => rfl
  | 3, _ => rfl
  | 4, _ => rfl
  | 5, _ => rfl
  | k + 6, h => omega

theorem row6 {a b c d e f : Nat} (ha : a < 6) (hb : b < 6) (hc : c < 6) (hd : d < 6) (he : e < 6) (hf : f < 6) : ∃ u : Nat → Q4, (insV Tryz.prog).el a = ec u 0 ∧ (insV Tryz.prog).el b = ec u 1 ∧ (insV Tryz.prog).el c = ec u 2 ∧ (insV Tryz.prog).el d = ec u 3 ∧ (insV Tryz.prog).el e = ec u 4 ∧ (insV Tryz.prog).el f = ec u 5 :=
  ⟨fun m => q4 ((insV Tryz.prog).el ([a, b, c, d, e, f].getD (m / 3) 0)) (m % 3), el_ec a ha, el_ec b hb, el_ec c hc, el_ec d hd, el_ec e he, el_ec f hf⟩

theorem srtOK : (insV Tryz.prog).OK (exK Tryz.prog 105) where
  fn := rfl
  len := by
    intro k hk
    match k, hk with
    | 0, _ => exact ⟨rfl, rfl⟩
    | 1, _ => exact ⟨rfl, rfl⟩
    | 2, _ => exact ⟨rfl, rfl⟩
    | 3, _ => exact ⟨rfl, rfl⟩
    | 4, _ => exact ⟨rfl, rfl⟩
    | 5, _ => exact ⟨rfl, rfl⟩
    | k + 6, h => omega
  r0 := Srt.r0
  pA := by
    intro i h1 h2 D H
    match i, h1, h2 with
    | 1, _, _ => exact Srt.pA1 D H
    | 2, _, _ => exact Srt.pA2 D H
    | 3, _, _ => exact Srt.pA3 D H
    | 4, _, _ => exact Srt.pA4 D H
    | 5, _, _ => exact Srt.pA5 D H
    | 0, h, _ => omega
    | i + 6, _, h => omega
  pA6 := Srt.pA6
  r3 := by
    intro i h1 h2 D H
    match i, h1, h2 with
    | 1, _, _ => exact Srt.r3_1 D H
    | 2, _, _ => exact Srt.r3_2 D H
    | 3, _, _ => exact Srt.r3_3 D H
    | 4, _, _ => exact Srt.r3_4 D H
    | 5, _, _ => exact Srt.r3_5 D H
    | 0, h, _ => omega
    | i + 6, _, h => omega
  pB := by
    intro j h1 h2 x y hx hy ai
    have e1 : (6 * x + y) / 6 = x := by omega
    have e2 : (6 * x + y) % 6 = y := by omega
    match j, h1, h2 with
    | 1, _, _ => have := pick36 (Srt.pB1 ai) hx hy; simp only [e1, e2] at this; exact this
    | 2, _, _ => have := pick36 (Srt.pB2 ai) hx hy; simp only [e1, e2] at this; exact this
    | 3, _, _ => have := pick36 (Srt.pB3 ai) hx hy; simp only [e1, e2] at this; exact this
    | 4, _, _ => have := pick36 (Srt.pB4 ai) hx hy; simp only [e1, e2] at this; exact this
    | 5, _, _ => have := pick36 (Srt.pB5 ai) hx hy; simp only [e1, e2] at this; exact this
    | 0, h, _ => omega
    | j + 6, _, h => omega
  pB0 := Srt.pB0
  pC := by
    intro j h1 h2 p h6 hp ai
    match p, h6 with
    | [a, b, c, d, e, f], _ =>
      obtain ⟨u, ea, eb, ec', ed, ee, ef⟩ := row6 (hp a (by simp)) (hp b (by simp)) (hp c (by simp)) (hp d (by simp)) (hp e (by simp)) (hp f (by simp))
      have hr : ∀ {q0 q1 q2 q3 q4 q5 : Nat}, (insV Tryz.prog).row [q0, q1, q2, q3, q4, q5] = (insV Tryz.prog).el q0 ++ (insV Tryz.prog).el q1 ++ (insV Tryz.prog).el q2 ++ (insV Tryz.prog).el q3 ++ (insV Tryz.prog).el q4 ++ (insV Tryz.prog).el q5 := by
        intro q0 q1 q2 q3 q4 q5
        unfold Ins.row
        simp only [List.flatMap_cons, List.flatMap_nil, List.append_nil, List.append_assoc]
      match j, h1, h2 with
      | 1, _, _ =>
        show insRun _ = .ok (_, _, ⟨[.cells ((insV Tryz.prog).row [b, a, c, d, e, f]) 0], []⟩)
        rw [hr, hr, ea, eb, ec', ed, ee, ef]; exact Srt.pC1 u ai
      | 2, _, _ =>
        show insRun _ = .ok (_, _, ⟨[.cells ((insV Tryz.prog).row [a, c, b, d, e, f]) 0], []⟩)
        rw [hr, hr, ea, eb, ec', ed, ee, ef]; exact Srt.pC2 u ai
      | 3, _, _ =>
        show insRun _ = .ok (_, _, ⟨[.cells ((insV Tryz.prog).row [a, b, d, c, e, f]) 0], []⟩)
        rw [hr, hr, ea, eb, ec', ed, ee, ef]; exact Srt.pC3 u ai
      | 4, _, _ =>
        show insRun _ = .ok (_, _, ⟨[.cells ((insV Tryz.prog).row [a, b, c, e, d, f]) 0], []⟩)
        rw [hr, hr, ea, eb, ec', ed, ee, ef]; exact Srt.pC4 u ai
      | 5, _, _ =>
        show insRun _ = .ok (_, _, ⟨[.cells ((insV Tryz.prog).row [a, b, c, d, f, e]) 0], []⟩)
        rw [hr, hr, ea, eb, ec', ed, ee, ef]; exact Srt.pC5 u ai
      | 0, h, _ => omega
      | j + 6, _, h => omega
  r2 := by
    intro i h1 h2 D H
    match i, h1, h2 with
    | 1, _, _ => exact Srt.r2_1 D H
    | 2, _, _ => exact Srt.r2_2 D H
    | 3, _, _ => exact Srt.r2_3 D H
    | 4, _, _ => exact Srt.r2_4 D H
    | 5, _, _ => exact Srt.r2_5 D H
    | 0, h, _ => omega
    | i + 6, _, h => omega

theorem f225 : Tryz.prog.funcs[225]? = some (fn225 Tryz.prog) := by kernel_rfl
theorem n225 : (fn225 Tryz.prog).ntmps = 53 := by kernel_rfl
theorem res225 : (fn225 Tryz.prog).results = #[] := by kernel_rfl
theorem b225 : (fn225 Tryz.prog).body = some (.seq (insV Tryz.prog).r0 (.block (insV Tryz.prog).b0 (.loop (.seq (insV Tryz.prog).pA (.seq (.block (insV Tryz.prog).b1 (.seq (insV Tryz.prog).r3 (.block (insV Tryz.prog).b2 (.loop (.seq (insV Tryz.prog).pB (insV Tryz.prog).pC))))) (insV Tryz.prog).r2))))) := by kernel_rfl

theorem callS_ok (hT : TblOK Tryz.prog (tblOf tab 105)) : PureOK Tryz.prog (callS Tryz.prog 105) ∧ SharedOK Tryz.prog (callS Tryz.prog 105) := by
  have h1 := callT_ok mixed nong (M := mode) hT fuel
  have hex : ExecOK Tryz.prog (exK Tryz.prog 105) := (exec_sim mixed h1.1 h1.2 fuel).1
  exact callH_ok mixed nong hT (sortHook_ok hex nong srtOK f225 n225 res225 b225) fuel
end Go.Abs.Known

namespace Go.Abs.Known
open Go Go.Abs Go.Proofs

theorem tree137 (X : List Nat → Obj) : (axA Tryz.prog).tree Tryz.prog (callS Tryz.prog 105) (exS Tryz.prog 105) X 7 [] [0, 1, 2, 3, 4, 5] (ts137.set 58 (.it 0)) ⟨[.raw (X [])], []⟩ = true := by
  refine branch_one (by simp) (fun i hi => ?_)
  simp only [List.mem_cons, List.not_mem_nil, or_false] at hi
  rcases hi with rfl | rfl | rfl | rfl | rfl | rfl
  · refine branch_two (n := 5) (by decide) (fun j hj => ?_)
    have hj : j ∈ [1, 2, 3, 4, 5] := hj
    simp only [List.mem_cons, List.not_mem_nil, or_false] at hj
    rcases hj with rfl | rfl | rfl | rfl | rfl
    · exact Tre.br01 X
    · exact Tre.br02 X
    · exact Tre.br03 X
    · exact Tre.br04 X
    · exact Tre.br05 X
  · refine branch_two (n := 5) (by decide) (fun j hj => ?_)
    have hj : j ∈ [0, 2, 3, 4, 5] := hj
    simp only [List.mem_cons, List.not_mem_nil, or_false] at hj
    rcases hj with rfl | rfl | rfl | rfl | rfl
    · exact Tre.br10 X
    · exact Tre.br12 X
    · exact Tre.br13 X
    · exact Tre.br14 X
    · exact Tre.br15 X
  · refine branch_two (n := 5) (by decide) (fun j hj => ?_)
    have hj : j ∈ [0, 1, 3, 4, 5] := hj
    simp only [List.mem_cons, List.not_mem_nil, or_false] at hj
    rcases hj with rfl | rfl | rfl | rfl | rfl
    · exact Tre.br20 X
    · exact Tre.br21 X
    · exact Tre.br23 X
    · exact Tre.br24 X
    · exact Tre.br25 X
  · refine branch_two (n := 5) (by decide) (fun j hj => ?_)
    have hj : j ∈ [0, 1, 2, 4, 5] := hj
    simp only [List.mem_cons, List.not_mem_nil, or_false] at hj
    rcases hj with rfl | rfl | rfl | rfl | rfl
    · exact Tre.br30 X
    · exact Tre.br31 X
    · exact Tre.br32 X
    · exact Tre.br34 X
    · exact Tre.br35 X
  · refine branch_two (n := 5) (by decide) (fun j hj => ?_)
    have hj : j ∈ [0, 1, 2, 3, 5] := hj
    simp only [List.mem_cons, List.not_mem_nil, or_false] at hj
    rcases hj with rfl | rfl | rfl | rfl | rfl
    · exact Tre.br40 X
    · exact Tre.br41 X
    · exact Tre.br42 X
    · exact Tre.br43 X
    · exact Tre.br45 X
  · refine branch_two (n := 5) (by decide) (fun j hj => ?_)
    have hj : j ∈ [0, 1, 2, 3, 4] := hj
    simp only [List.mem_cons, List.not_mem_nil, or_false] at hj
    rcases hj with rfl | rfl | rfl | rfl | rfl
    · exact Tre.br50 X
    · exact Tre.br51 X
    · exact Tre.br52 X
    · exact Tre.br53 X
    · exact Tre.br54 X

theorem f137eq : Tryz.prog.funcs[137]? = some (fn137 Tryz.prog) := by kernel_rfl
theorem b137 : (fn137 Tryz.prog).body = some (seqs (pieces137 Tryz.prog) (.seq (.seq (.region 19 (ops19 Tryz.prog) false) (.block 6 (.loop (.seq (.region 20 (ops20 Tryz.prog) false) (.seq (.cond (c137 Tryz.prog) .skip (.exit 6)) (.block 7 (.seq (.region 21 (ops21 Tryz.prog) false) (r22 Tryz.prog)))))))) (tail137 Tryz.prog))) := by kernel_rfl
theorem h19 : (ops19 Tryz.prog).toList = [(ops19 Tryz.prog).getD 0 default, (ops19 Tryz.prog).getD 1 default] := by kernel_rfl
theorem g19 : ((ops19 Tryz.prog).getD 1 default).guard = none := by kernel_rfl
theorem p19 : ((ops19 Tryz.prog).getD 1 default).op = .range 314 (.tmp 57) := by kernel_rfl
theorem d19 : ((ops19 Tryz.prog).getD 1 default).dst = some 58 := by kernel_rfl
theorem t314 : Tryz.prog.underlying 314 = some (.map 37 44) := by kernel_rfl
theorem h20 : (ops20 Tryz.prog).toList = [(ops20 Tryz.prog).getD 0 default, (ops20 Tryz.prog).getD 1 default] := by kernel_rfl
theorem h21 : (ops21 Tryz.prog).toList = (ops21 Tryz.prog).getD 0 default :: rest21 Tryz.prog := by kernel_rfl
theorem g20 : ((ops20 Tryz.prog).getD 0 default).guard = none := by kernel_rfl
theorem p20 : ((ops20 Tryz.prog).getD 0 default).op = .next (.tmp 58) false := by kernel_rfl
theorem d20 : ((ops20 Tryz.prog).getD 0 default).dst = some 59 := by kernel_rfl
theorem g21 : ((ops21 Tryz.prog).getD 0 default).guard = none := by kernel_rfl
theorem p21 : ((ops21 Tryz.prog).getD 0 default).op = .entry (.tmp 58) := by kernel_rfl
theorem d21 : ((ops21 Tryz.prog).getD 0 default).dst = some 61 := by kernel_rfl
theorem clo : vals137.all closedA = true := by kernel_rfl

set_option maxRecDepth 100000 in
theorem axes_entry (hT : TblOK Tryz.prog (tblOf tab 105)) {args : List AV} (h : preOK Tryz.prog args = true) : EntryOK Tryz.prog 137 args a647 := by
  obtain ⟨hp, hs⟩ := callS_ok hT
  have hex : ExecOK Tryz.prog (exS Tryz.prog 105) := (exec_sim mixed hp hs fuel).1
  unfold preOK at h
  split at h
  · rename_i r hr
    obtain ⟨ts, H⟩ := r
    unfold preAt at h
    split at h
    · rename_i b hb
      split at h
      · rename_i es hes
        simp only [Bool.and_eq_true] at h
        obtain ⟨h1, h2⟩ := h
        exact ax_entry (A := axA Tryz.prog) hp hs hex nong f137eq b137 h19 g19 p19 d19 t314 h20 h21 g20 p20 d20 g21 p21 d21 hr hb hes (eqAs_eq (eqA_eq _) h1) clo h2 tree137
      · cases h
    · cases h
  · cases h

def args137 : List (List AV) := [[a327, a328], [a327, a330], [a328, a330], [a328, a327], [a330, a327], [a330, a328], [a327, a334], [a327, a624]]

set_option maxRecDepth 100000 in
theorem all137 : (tab.all fun p => p.2.all fun e => !(Nat.beq e.1 105) || (Nat.beq p.1 137 && args137.any (fun a => eqAs (eqA eqFuel) e.2.1 a) && eqA eqFuel e.2.2 a647)) = true := by kernel_rfl

theorem pre_all : ∀ a, a ∈ args137 → preOK Tryz.prog a = true := by
  intro a ha
  unfold args137 at ha
  simp only [List.mem_cons, List.not_mem_nil, or_false] at ha
  rcases ha with rfl | rfl | rfl | rfl | rfl | rfl | rfl | rfl
  · exact Pre.pre0
  · exact Pre.pre1
  · exact Pre.pre2
  · exact Pre.pre3
  · exact Pre.pre4
  · exact Pre.pre5
  · exact Pre.pre6
  · exact Pre.pre7

theorem step105 : StepOK Tryz.prog tab 105 := by
  intro hT k es e h1 h2 h3
  have := List.all_eq_true.1 (List.all_eq_true.1 all137 _ h1) e h2
  rw [h3] at this
  simp only [Nat.beq_refl, Bool.not_true, Bool.false_or, Bool.and_eq_true] at this
  obtain ⟨⟨hk, ha⟩, hr⟩ := this
  have hk := Nat.eq_of_beq_eq_true hk
  subst hk
  obtain ⟨a, ha, hq⟩ := List.any_eq_true.1 ha
  rw [eqAs_eq (eqA_eq _) hq, eqA_eq _ _ _ hr]
  exact axes_entry hT (pre_all a ha)
end Go.Abs.Known

