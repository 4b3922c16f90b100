/- The interpreter is sound: ranges over functions, functions, tables of calls; loops over maps in any order; an insertion sort. -/
import Derived.Test.YtbndbhglmbjfgaaGreatDoorGrAbsB
set_option linter.all false
namespace Go.Abs
open Go Go.RowKit

section
variable {P : Program} {w : World}
variable {n₀ : Nat} {w₀ : World} {S : Nat → Prop} {H : AHeap} {φ : Nat → Nat × Nat × Nat} {D : Nat → Prop}

theorem get_push {w : World} {k : Nat} (o : Obj) (h : k < w.heap.size) : ({ w with heap := w.heap.push o } : World).heap[k]? = w.heap[k]? := by
  simp only [Array.getElem?_push]
  rw [if_neg (by omega)]

/-- A block for the rounds' deferred calls is laid. -/
theorem rel_deferred (R : Rel n₀ w₀ w S H φ D) :
    Rel n₀ w₀ { w with heap := w.heap.push (.deferred (some [])) } S H φ (fun d => D d ∨ d = w.heap.size) ∧
    Ext n₀ w S H.objs φ D { w with heap := w.heap.push (.deferred (some [])) } S H.objs φ (fun d => D d ∨ d = w.heap.size) := by
  have E : Ext n₀ w S H.objs φ D { w with heap := w.heap.push (.deferred (some [])) } S H.objs φ (fun d => D d ∨ d = w.heap.size) :=
    ⟨fun _ h => h, fun _ h => .inl h, fun b hb => get_push _ (R.szS b hb), fun b o h => ⟨o, h, OExt.refl _ _⟩, fun _ h => .inl h⟩
  refine ⟨⟨R.below.trans (push_below _ R.size), ?_, fun b hb => ?_, fun b o h => ?_, R.place, R.inj, fun d hd => ?_, R.frzc, R.glob.below (push_below _ R.size)⟩, E⟩
  · have := R.size
    simp only [Array.size_push]; omega
  · have := R.szS b hb
    simp only [Array.size_push]; omega
  · cases hl : o.live with
    | false => cases o <;> simp [AObj.live] at hl; trivial
    | true => exact (R.obj b o h).ext E (get_push _ (R.lt h hl)) rfl Iff.rfl Iff.rfl
  · rcases hd with hd | rfl
    · obtain ⟨h1, h2, h3⟩ := R.dfr d hd
      exact ⟨h1, h2, (get_push _ (Array.getElem?_eq_some_iff.1 h3).1).trans h3⟩
    · exact ⟨R.size, fun hs => Nat.lt_irrefl _ (R.szS _ hs), by simp⟩

/-- A loop's record is laid. -/
theorem rel_loop (R : Rel n₀ w₀ w S H φ D) {ts : List AV} {T : Array Value} (hts : VRL w S H.objs φ ts T) {r : Nat} (hr : D r) (fn : FuncId) (ps : Array Tmp) (as bd : Code) :
    ∃ φ', φ' H.objs.length = (w.heap.size, 0, r) ∧
      Rel n₀ w₀ { w with heap := w.heap.push (.loop { state := .ready, pending := none, fn := fn, tmps := T, params := ps, assign := as, body := bd, defers := r }) } S { H with objs := H.objs ++ [.loop .ready none ts ps.toList as bd] } φ' D ∧
      Ext n₀ w S H.objs φ D { w with heap := w.heap.push (.loop { state := .ready, pending := none, fn := fn, tmps := T, params := ps, assign := as, body := bd, defers := r }) } S (H.objs ++ [.loop .ready none ts ps.toList as bd]) φ' D := by
  have hn : newA H none (.loop .ready none ts ps.toList as bd) = .ok (H.objs.length, { set := some (H.objs.length, .loop .ready none ts ps.toList as bd) }) := rfl
  have hap : H.apply { set := some (H.objs.length, .loop .ready none ts ps.toList as bd) } = { H with objs := H.objs ++ [.loop .ready none ts ps.toList as bd] } := by
    unfold AHeap.apply setObj
    simp only [Nat.lt_irrefl, if_false]
    rfl
  obtain ⟨φ', h1, h2, h3, _⟩ := new_sim R (e' := { set := some (H.objs.length, .loop .ready none ts ps.toList as bd) }) hn rfl rfl
    (ob := .loop { state := .ready, pending := none, fn := fn, tmps := T, params := ps, assign := as, body := bd, defers := r }) r (by
      intro H' X
      refine ⟨fn, T, ?_, hts.ext X, ?_, ?_⟩
      · rw [upd_same]; simp
      · rw [upd_same]; exact fun _ => hr
      · rw [upd_same]; exact fun hs => Nat.lt_irrefl _ (R.szS _ hs))
  rw [hap] at h2 h3
  exact ⟨φ', h1, h2, h3⟩

/-- How a loop over a function ends: by the jump that a round has left. -/
def Pending : Option Code → Exit → Prop
  | none, e => e = .normal
  | some .ret, e => e = .ret
  | some (.exit id), e => e = .exit id
  | some _, _ => False

/-- Behind the loop's record: the call, and the pending jump. -/
theorem range_tail {call : CallF} (hs : SharedOK P call) {k : FuncId} (hn : call.pure k = none) {l : Nat} {first captured : List AV} {f' c' : Array Value} {ts : List AV} {v : AV} {H H1 H2 : AHeap} {st : LoopState} {pend : Option Code} {ts0 : List AV} {ps0 : List Tmp} {as0 bd0 : Code}
    (hsh : call.shared k (first ++ [.fn (.yield l) [] []] ++ captured) H1 = .ok (v, H2)) (hl2 : H2.objs[l]? = some (.loop st pend ts0 ps0 as0 bd0)) (hst : st ≠ .busy)
    {w w1 : World} {S S1 : Nat → Prop} {φ φ1 : Nat → Nat × Nat × Nat} {D D1 : Nat → Prop} {L : Nat} {a a1 : Act} {ro : Option Nat} {e : Exit} {H' : AHeap} {Q : Exit → Act → World → Prop} {st1 : LoopState} {pend1 : Option Code} {ts1 : List AV} {ps1 : List Tmp} {as1 bd1 : Code}
    (R1 : Rel n₀ w₀ w1 S1 H1 φ1 D1) (E1 : Ext n₀ w S H.objs φ D w1 S1 H1.objs φ1 D1) (hl1 : H1.objs[l]? = some (.loop st1 pend1 ts1 ps1 as1 bd1)) (hL : (φ1 l).1 = L) (hvs : VRL w1 S1 H1.objs φ1 first f') (hvc : VRL w1 S1 H1.objs φ1 captured c')
    (hts : VRL w S H.objs φ ts a.tmps) (ha1 : a1.tmps = a.tmps) (hM : ∀ D3 : Nat → Prop, (∀ d, D1 d → D3 d) → Marks a.defers a1.defers D D3)
    (hj : Pending pend e)
    (hH : H' = { H2 with objs := H2.objs.set l (.loop .exhausted pend ts0 ps0 as0 bd0) })
    (hK : ContX n₀ w₀ w S H φ D ts H' a.defers e Q) :
    (callFunc k (f' ++ #[.func (.yield L) #[] #[]] ++ c')).run P w1 = .ok (.enter k (f' ++ #[.func (.yield L) #[] #[]] ++ c')) w1 ∧
      CallsIn (FW ro) 0 P k (f' ++ #[.func (.yield L) #[] #[]] ++ c') w1 (rangePost (FW ro) 0 P L Q a1) := by
  subst hL
  have hy : VRL w1 S1 H1.objs φ1 [.fn (.yield l) [] []] #[.func (.yield (φ1 l).1) #[] #[]] := by
    refine ⟨rfl, fun i x u h1 h2 => ?_⟩
    cases i with
    | zero =>
      cases h1; cases h2
      exact .yield ⟨_, _, _, _, _, _, hl1⟩
    | succ i => simp at h1
  obtain ⟨q1, q2⟩ := hs k _ H1 v H2 hn hsh n₀ w₀ w1 S1 φ1 D1 _ R1 ((hvs.append hy).append hvc)
  refine ⟨q1, callsIn_FW (Calls.mono' q2 ?_)⟩
  rintro _ w' ⟨u, S2, φ2, D2, rfl, R2, E2, V2⟩
  obtain ⟨o', k1, ⟨⟨_, _, _, _, _, _, ho, _⟩, hp⟩⟩ := E2.obj _ _ hl1
  obtain ⟨fn, T, g1, g2, φ3, hp3, R3, E3⟩ := loop_set R2 (st' := .exhausted) (pend' := pend) hl2 (fun h => absurd rfl h) (fun _ => rfl)
  have hend := endLoop_run (P := P) g1 hst
  rw [hp] at hend R3 E3
  subst hH
  have go : Q e a1 _ := hK a1 _ S2 φ3 D2 R3 ((E1.trans E2).trans E3) (by rw [ha1]; exact ((hts.ext E1).ext E2).ext E3) (hM D2 E2.dfr)
  refine ⟨pend, _, hend, ?_⟩
  cases pend with
  | none => cases hj; exact go
  | some c =>
    cases c with
    | ret => cases hj; exact wpIn_ret go
    | exit id => cases hj; exact wpIn_exit go
    | _ => exact hj.elim

theorem resolve_run {a : Act} {f : Operand} {L : Nat} {k : FuncId} {f' c' : Array Value} (hf : a.eval f = .func (.func k) f' c') :
    (resolve a.eval (rangeCall f L) 0).run P w = .ok { target := .fn (.func k) c', args := f' ++ #[.func (.yield L) #[] #[]] } w := by
  have e : (#[Operand.const (.func (.yield L) #[] #[])]).map a.eval = #[.func (.yield L) #[] #[]] := by rw [List.map_toArray]; rfl
  unfold resolve
  simp only [hf, e]
  rfl

theorem invoke_run {k : FuncId} {c' vs : Array Value} : (invoke (.fn (.func k) c') vs).run P w = (callFunc k (vs ++ c')).run P w := rfl

theorem enter_none {fn : FuncId} {T : Array Value} {ps : Array Tmp} {as bd : Code} :
    (Instr.enterLoop fn T ps as bd none).run P w = .ok ((w.heap.push (.deferred (some []))).size, [mark1 w.heap.size]) { w with heap := (w.heap.push (.deferred (some []))).push (.loop { state := .ready, pending := none, fn := fn, tmps := T, params := ps, assign := as, body := bd, defers := w.heap.size }) } := rfl

theorem enter_some {l0 : Nat} {r : Loop} (h : w.heap[l0]? = some (.loop r)) {fn : FuncId} {T : Array Value} {ps : Array Tmp} {as bd : Code} :
    (Instr.enterLoop fn T ps as bd (some l0)).run P w = .ok (w.heap.size, []) { w with heap := w.heap.push (.loop { state := .ready, pending := none, fn := fn, tmps := T, params := ps, assign := as, body := bd, defers := r.defers }) } := by
  unfold Instr.enterLoop
  simp only
  rw [run_bind_ok (getLoop_run h)]
  rfl

theorem rangeFunc_sim {call : CallF} (hs : SharedOK P call) {n : Nat} :
    ∀ f ps as bd ts H e ts' H', exec P call (n + 1) (.rangeFunc f ps as bd) ts H = .ok (e, ts', H') → ∀ (ro : Option Nat) (n₀ : Nat) (w₀ w : World) (S : Nat → Prop) (φ : Nat → Nat × Nat × Nat) (D : Nat → Prop) (a : Act) (Q : Exit → Act → World → Prop),
      RoOK ro H φ D → Rel n₀ w₀ w S H φ D → VRL w S H.objs φ ts a.tmps → ContX n₀ w₀ w S H φ D ts' H' a.defers e Q → (Code.rangeFunc f ps as bd).wpIn (FW ro) 0 P Q a w := by
  intro f ps as bd ts H e ts' H' h ro n₀ w₀ w S φ D a Q hro R hts hK
  unfold exec at h
  dsimp only at h
  split at h
  · rename_i k first captured hf
    replace h := bind_ok h
    obtain ⟨⟨v, H2⟩, h1, h⟩ := h
    split at h1
    · rename_i hn
      dsimp only at h
      split at h
      · rename_i st pend ts0 ps0 as0 bd0 hl2
        split at h
        · cases h
        · rename_i hst
          have hst : st ≠ .busy := fun e => hst (by rw [e]; rfl)
          have hjq : Pending pend e ∧ H' = { H2 with objs := H2.objs.set H.objs.length (.loop .exhausted pend ts0 ps0 as0 bd0) } ∧ ts' = ts := by
            split at h
            · cases pure_ok h; exact ⟨rfl, rfl, rfl⟩
            · cases pure_ok h; exact ⟨rfl, rfl, rfl⟩
            · cases pure_ok h; exact ⟨rfl, rfl, rfl⟩
            · cases h
          obtain ⟨hj, hH, rfl⟩ := hjq
          obtain ⟨f', c', hv, k1, k2⟩ := (hf ▸ evalOp_VR hts f).func_inv
          refine wpIn_rangeFunc (fun fn _ => ?_)
          have hlen : (H.objs ++ [AObj.loop .ready none ts' ps.toList as bd])[H.objs.length]? = some (AObj.loop .ready none ts' ps.toList as bd) := by simp
          cases ro with
          | none =>
            obtain ⟨Rd, Ed⟩ := rel_deferred R
            obtain ⟨φ1, hφ, R1, E1⟩ := rel_loop Rd (hts.ext Ed) (r := w.heap.size) (.inr rfl) fn ps as bd
            have E := Ed.trans E1
            obtain ⟨q1, q2⟩ := range_tail (a1 := { a with defers := [mark1 w.heap.size] ++ a.defers }) (ro := none) (Q := Q) hs hn h1 hl2 hst R1 E hlen rfl (k1.ext E) (k2.ext E) hts rfl (fun D3 hD => ⟨[w.heap.size], rfl, by simp, fun r hr => by
              simp at hr
              subst hr
              exact ⟨hD _ (.inr rfl), fun hd => by
                have := (Array.getElem?_eq_some_iff.1 (R.dfr _ hd).2.2).1
                omega⟩⟩) hj hH hK
            rw [hφ] at q1 q2
            exact ⟨_, _, _, _, _, k, _, _, enter_none, resolve_run hv, fun _ _ => trivial, invoke_run.trans q1, (fun h => by cases h), q2⟩
          | some l0 =>
            obtain ⟨b, st3, pend3, ts3, ps3, as3, bd3, g1, g2, g3⟩ := hro l0 rfl
            obtain ⟨fn0, T0, g4, _⟩ := R.obj b _ g1
            rw [g2] at g4
            obtain ⟨φ1, hφ, R1, E1⟩ := rel_loop R hts g3 fn ps as bd
            obtain ⟨q1, q2⟩ := range_tail (a1 := { a with defers := [] ++ a.defers }) (ro := some l0) (Q := Q) hs hn h1 hl2 hst R1 E1 hlen rfl (k1.ext E1) (k2.ext E1) hts rfl (fun D3 hD => .same rfl _ _) hj hH hK
            rw [hφ] at q1 q2
            exact ⟨_, _, _, _, _, k, _, _, enter_some g4, resolve_run hv, fun _ _ => trivial, invoke_run.trans q1, (fun h => by cases h), q2⟩
      · cases h
    · cases h1
  · cases h

theorem exec_sim (hm : P.follows .mixedOrders = true) {call : CallF} (hp : PureOK P call) (hs : SharedOK P call) : ∀ n, ExecOK P (exec P call n) ∧ LoopOK P (exec P call n) n := by
  intro n
  induction n with
  | zero =>
    refine ⟨fun c ts H e ts' H' h => ?_, fun b ts H e ts' H' h => ?_⟩
    · unfold exec at h; cases h
    · unfold exec at h; cases h
  | succ n ih => exact ⟨exec_step hm hp hs ih.1 ih.2 (rangeFunc_sim hs), loop_step ih.1 ih.2⟩
end
end Go.Abs

namespace Go.Abs
open Go Go.RowKit

section
variable {P : Program} {w : World}
variable {n₀ : Nat} {w₀ : World} {S : Nat → Prop} {H : AHeap} {φ : Nat → Nat × Nat × Nat} {D : Nat → Prop}

theorem Rel.notDef (R : Rel n₀ w₀ w S H φ D) {b : Nat} {o : AObj} (h : H.objs[b]? = some o) (hl : o.live = true) {x : Option (List Deferred)} : w.heap[(φ b).1]? ≠ some (.deferred x) := by
  intro hx
  have := R.obj b o h
  cases o with
  | dead => simp [AObj.live] at hl
  | cells cs g => obtain ⟨C, t, lo, hi, h1, _⟩ := this; rw [h1] at hx; cases hx
  | map es => obtain ⟨E, c, h1, _⟩ := this; rw [h1] at hx; cases hx
  | siter s pos => obtain ⟨h1, _⟩ := this; rw [h1] at hx; cases hx
  | raw y => obtain ⟨h1, h2, _⟩ := this; rw [h1] at hx; cases hx; cases h2
  | loop st pend ts ps as bd => obtain ⟨fn, T, h1, _⟩ := this; rw [h1] at hx; cases hx

theorem get_setIB {w : World} {k r : Nat} (o : Obj) (h : k ≠ r) : ({ w with heap := w.heap.setIfInBounds r o } : World).heap[k]? = w.heap[k]? := by
  simp only [Array.getElem?_setIfInBounds]
  rw [if_neg (fun e => h e.symm)]

/-- A mark's block is shut. -/
theorem shut_rel (R : Rel n₀ w₀ w S H φ D) {r : Nat} (hn : n₀ ≤ r) (hS : ¬ S r) (hr : w.heap[r]? = some (.deferred (some []))) (hD : ¬ D r) :
    Rel n₀ w₀ { w with heap := w.heap.setIfInBounds r (.deferred none) } S H φ D ∧ Ext n₀ w S H.objs φ D { w with heap := w.heap.setIfInBounds r (.deferred none) } S H.objs φ D := by
  have E : Ext n₀ w S H.objs φ D { w with heap := w.heap.setIfInBounds r (.deferred none) } S H.objs φ D :=
    ⟨fun _ h => h, fun _ h => .inl h, fun b hb => get_setIB _ (fun e => hS (e ▸ hb)), fun b o h => ⟨o, h, OExt.refl _ _⟩, fun _ h => h⟩
  have B : Below n₀ w { w with heap := w.heap.setIfInBounds r (.deferred none) } :=
    ⟨rfl, rfl, rfl, by simp, fun k hk => get_setIB _ (by omega)⟩
  refine ⟨⟨R.below.trans B, Nat.le_trans R.size B.size, fun b hb => Nat.lt_of_lt_of_le (R.szS b hb) B.size, fun b o h => ?_, R.place, R.inj, fun d hd => ?_, R.frzc, R.glob.below B⟩, E⟩
  · cases hl : o.live with
    | false => cases o <;> simp [AObj.live] at hl; trivial
    | true => exact (R.obj b o h).ext E (get_setIB _ (fun e => R.notDef h hl (e ▸ hr))) rfl Iff.rfl Iff.rfl
  · obtain ⟨h1, h2, h3⟩ := R.dfr d hd
    exact ⟨h1, h2, (get_setIB (k := d) (r := r) _ (fun e => hD (e ▸ hd))).trans h3⟩

theorem take_run {r : Nat} (hr : w.heap[r]? = some (.deferred (some []))) : (Instr.takeDeferred r).run P w = .ok [] { w with heap := w.heap.setIfInBounds r (.deferred none) } := by
  unfold Instr.takeDeferred
  rw [run_bind_ok (a := Obj.deferred (some [])) (w' := w) (by simp only [getObj, Sem.run, hr])]
  simp only
  rw [run_bind_ok (run_setObj hr (fun _ _ _ h => by cases h))]
  rfl

theorem leaves_marks {F : Fence} {n : Nat} {fn : Func} {T : Array Value} {Q : Ending → World → Prop} : ∀ (ms : List Nat) {w : World}, Rel n₀ w₀ w S H φ D → ms.Nodup → (∀ r, r ∈ ms → n₀ ≤ r ∧ ¬ S r ∧ w.heap[r]? = some (.deferred (some [])) ∧ ¬ D r) →
    (∀ w', Rel n₀ w₀ w' S H φ D → Ext n₀ w S H.objs φ D w' S H.objs φ D → ∃ v, (results fn T).run P w' = .ok v w' ∧ Q (.returned v) w') → LeavesInM F n P fn T Q (ms.map mark1) .returning w := by
  intro ms
  induction ms with
  | nil =>
    intro w R _ _ hq
    exact hq w R Ext.refl
  | cons r ms ih =>
    intro w R hnd hms hq
    obtain ⟨h1, h2, h3, h4⟩ := hms r List.mem_cons_self
    obtain ⟨R1, E1⟩ := shut_rel R h1 h2 h3 h4
    obtain ⟨hr, hnd⟩ := List.nodup_cons.1 hnd
    refine ⟨(fun h => by cases h), .inl ⟨r, _, rfl, take_run h3, ih R1 hnd (fun k hk => ?_) (fun w' R' E' => hq w' R' (E1.trans E'))⟩⟩
    obtain ⟨k1, k2, k3, k4⟩ := hms k (List.mem_cons_of_mem _ hk)
    exact ⟨k1, k2, (get_setIB (k := k) (r := r) _ (fun e => hr (e ▸ hk))).trans k3, k4⟩

/-- Fewer blocks are held. -/
theorem Rel.drop {D' : Nat → Prop} (R : Rel n₀ w₀ w S H φ D') (hs : ∀ d, D d → D' d) (hl : ∀ b st pend ts ps as bd, H.objs[b]? = some (.loop st pend ts ps as bd) → st ≠ .exhausted → D (φ b).2.2) : Rel n₀ w₀ w S H φ D := by
  refine ⟨R.below, R.size, R.szS, fun b o h => ?_, R.place, R.inj, fun d hd => R.dfr d (hs d hd), R.frzc, R.glob⟩
  have := R.obj b o h
  cases o with
  | loop st pend ts ps as bd =>
    obtain ⟨fn, T, h1, h2, h3, h4⟩ := this
    exact ⟨fn, T, h1, h2, hl b st pend ts ps as bd h, h4⟩
  | dead => trivial
  | cells cs g => exact this
  | map es => exact this
  | siter s pos => exact this
  | raw y => exact this

theorem spentIn_spec : ∀ {olds news : List AObj}, spentIn olds news = true → ∀ (b : Nat) (o' : AObj), news[b]? = some o' → spent o' = true ∨ ∃ o : AObj, olds[b]? = some o ∧ o.live = true := by
  intro olds
  induction olds with
  | nil =>
    intro news h b o' hb
    have h : news.all spent = true := by cases news <;> exact h
    exact .inl (List.all_eq_true.1 h o' (List.mem_of_getElem? hb))
  | cons o olds ih =>
    intro news h b o' hb
    cases news with
    | nil => simp at hb
    | cons x news =>
      have key : spentIn olds news = true ∧ (o.live = true ∨ spent x = true) := by
        cases o with
        | dead =>
          have h : (spent x && spentIn olds news) = true := h
          rw [Bool.and_eq_true] at h
          exact ⟨h.2, .inr h.1⟩
        | _ => exact ⟨h, .inl rfl⟩
      cases b with
      | zero =>
        simp at hb
        subst hb
        rcases key.2 with h | h
        · exact .inr ⟨o, rfl, h⟩
        · exact .inl h
      | succ b => exact ih key.1 b o' (by simpa using hb)

theorem VR.ptr_of {p x : AV} {v : Value} {t : TypeId} {rd : List Nat} (R : Rel n₀ w₀ w S H φ D) (h : loadA P H t p = .ok (x, rd)) (hv : VR w S H.objs φ p v) : ∃ ad, v = .pointer (some ad) := by
  have key : ∀ {n cs rd}, readAt H p n = .ok (cs, rd) → ∃ ad, v = .pointer (some ad) := fun h => by
    obtain ⟨b, o, rfl, _⟩ := readAt_sim R h hv
    exact ⟨_, rfl⟩
  unfold loadA at h
  obtain ⟨g, hg, h⟩ := bind_ok h
  cases g with
  | true =>
    simp only [if_true] at h
    obtain ⟨n, hn, h⟩ := bind_ok h
    obtain ⟨⟨cs, rd'⟩, hr, h⟩ := bind_ok h
    exact key hr
  | false =>
    simp only [Bool.false_eq_true, if_false] at h
    obtain ⟨⟨cs, rd'⟩, hr, h⟩ := bind_ok h
    exact key hr

/-- What a function hands back, variable for variable. -/
theorem resultsFrom_sim (R : Rel n₀ w₀ w S H φ D) {ts : List AV} {T : Array Value} (hts : VRL w S H.objs φ ts T) {f : ResultVar → Sem Value} (h1 : ∀ t, f (.tmp t) = pure (T.getD t undef)) (h2 : ∀ a t, f (.cell a t) = do loadVar t (← asAddr (T.getD a undef))) :
    ∀ (l : List ResultVar) (vs : List AV), resultsFrom P ts H l = .ok vs → ∃ us : List Value, (l.mapM f).run P w = .ok us w ∧ VRL w S H.objs φ vs us.toArray := by
  have at_ : ∀ t, VR w S H.objs φ (ts.getD t AV.undef) (T.getD t undef) := fun t => evalOp_VR (a := { tmps := T, defers := [] }) hts (.tmp t)
  have consV : ∀ {x : AV} {u : Value} {xs : List AV} {us : List Value}, VR w S H.objs φ x u → VRL w S H.objs φ xs us.toArray → VRL w S H.objs φ (x :: xs) (u :: us).toArray := by
    intro x u xs us h k
    refine ⟨by have := k.1; simpa using this, fun i y v a b => ?_⟩
    cases i with
    | zero => simp at a b; subst a; subst b; exact h
    | succ i => exact k.2 i y v (by simpa using a) (by simpa using b)
  intro l
  induction l with
  | nil => intro vs h; cases h; exact ⟨[], rfl, rfl, fun i x v a b => by simp at a⟩
  | cons r l ih =>
    intro vs h
    cases r with
    | tmp t =>
      unfold resultsFrom at h
      replace h := bind_ok h
      obtain ⟨vs', h3, h⟩ := h
      cases pure_ok h
      obtain ⟨us, k1, k2⟩ := ih vs' h3
      refine ⟨_ :: us, ?_, consV (at_ t) k2⟩
      rw [List.mapM_cons, h1]
      rw [run_bind_ok (a := T.getD t undef) (w' := w) rfl, run_bind_ok k1]
      rfl
    | cell a t =>
      unfold resultsFrom at h
      replace h := bind_ok h
      obtain ⟨⟨x, rd⟩, h3, h⟩ := h
      replace h := bind_ok h
      obtain ⟨vs', h4, h⟩ := h
      cases pure_ok h
      obtain ⟨us, k1, k2⟩ := ih vs' h4
      obtain ⟨ad, had⟩ := VR.ptr_of R h3 (at_ a)
      obtain ⟨u, k3, k4⟩ := loadA_sim (P := P) R h3 (at_ a)
      refine ⟨u :: us, ?_, consV k4 k2⟩
      rw [List.mapM_cons, h2]
      have : (do loadVar t (← asAddr (T.getD a undef)) : Sem Value).run P w = .ok u w := by
        rw [had] at k3 ⊢
        exact k3
      rw [run_bind_ok this, run_bind_ok k1]
      rfl

theorem results_sim (R : Rel n₀ w₀ w S H φ D) {fn : Func} {ts : List AV} {T : Array Value} {r : AV} (hts : VRL w S H.objs φ ts T) (h : resultsA P fn ts H = .ok r) : ∃ v, (results fn T).run P w = .ok v w ∧ VR w S H.objs φ r v := by
  unfold resultsA at h
  replace h := bind_ok h
  obtain ⟨vs, h1, h⟩ := h
  obtain ⟨us, k1, k2⟩ := resultsFrom_sim (f := fun
    | .tmp t => pure (T.getD t undef)
    | .cell a t => do loadVar t (← asAddr (T.getD a undef))) R hts (fun _ => rfl) (fun _ _ => rfl) _ _ h1
  have k3 : (fn.results.mapM (fun
    | .tmp t => pure (T.getD t undef)
    | .cell a t => do loadVar t (← asAddr (T.getD a undef)) : ResultVar → Sem Value)).run P w = .ok us.toArray w := by
    rw [Array.mapM_eq_mapM_toList, map_eq_pure_bind]
    exact (run_bind_ok k1).trans rfl
  have k4 : (results fn T).run P w = (pure (if h : us.toArray.size = 1 then us.toArray[0] else .tuple us.toArray) : Sem Value).run P w := run_bind_ok k3
  rw [k4]
  split at h
  · rename_i v
    cases pure_ok h
    match us, k2 with
    | [u], k2 => exact ⟨u, rfl, k2.2 0 _ _ rfl rfl⟩
    | [], k2 => have := k2.1; simp at this
    | _ :: _ :: _, k2 => have := k2.1; simp at this
  · rename_i hne
    cases pure_ok h
    refine ⟨.tuple us.toArray, ?_, .tup k2.1 k2.2⟩
    have : us.toArray.size ≠ 1 := by
      intro e
      rw [← k2.1] at e
      match vs, e with
      | [v], _ => exact hne v rfl
    rw [dif_neg this]
    rfl
end
end Go.Abs

namespace Go.Abs
open Go Go.RowKit

/-- What a pure function's entry says: at these arguments the call hands back what reads so. -/
def EntryOK (P : Program) (k : FuncId) (args : List AV) (r : AV) : Prop :=
  ∀ (w : World) (S : Nat → Prop) (vs : Array Value), (∀ b, S b → b < w.heap.size) → GK w.heap.size w → IVRL w S args vs →
    CallsV P k vs w fun v w' => ∃ S', Below w.heap.size w w' ∧ (∀ b, S b → S' b) ∧ (∀ b, S' b → S b ∨ w.heap.size ≤ b) ∧ (∀ b, S' b → b < w'.heap.size) ∧ IVR w' S' r v

def SharedFn (P : Program) (k : FuncId) (args : List AV) (H : AHeap) (r : AV) (H' : AHeap) : Prop :=
  ∀ (n₀ : Nat) (w₀ w : World) (S : Nat → Prop) (φ : Nat → Nat × Nat × Nat) (D : Nat → Prop) (vs : Array Value),
    Rel n₀ w₀ w S H φ D → VRL w S H.objs φ args vs →
    (callFunc k vs).run P w = .ok (.enter k vs) w ∧ Calls P k vs w fun e w' => ∃ v S' φ' D', e = .returned v ∧ Rel n₀ w₀ w' S' H' φ' D' ∧ Ext n₀ w S H.objs φ D w' S' H'.objs φ' D' ∧ VR w' S' H'.objs φ' r v

/-- How a function is called: by its body on the caller's heap; by its body on a heap of its own; by a table alone. -/
inductive Mode where
  | shared
  | pure
  | table

abbrev Tbl := FuncId → List AV → Option AV

def pureT (P : Program) (ex : ExecF) (T : Tbl) (k : FuncId) (args : List AV) : R AV :=
  match T k args with
  | some r => .ok r
  | none => do
    let (r, H2) ← bodyA P ex k args AHeap.empty
    let (r', _) ← imm H2 immFuel r
    .ok r'

def onlyT (T : Tbl) (k : FuncId) (args : List AV) : R AV :=
  match T k args with
  | some r => .ok r
  | none => fail "not in the table"

def callT (P : Program) (M : FuncId → Mode) (T : Tbl) : Nat → CallF
  | 0 => { pure := fun k => match M k with
             | .shared => none
             | _ => some (onlyT T k)
           shared := fun _ _ _ => fail "fuel of calls" }
  | n + 1 =>
    { pure := fun k => match M k with
        | .shared => none
        | .pure => some (pureT P (exec P (callT P M T n) n) T k)
        | .table => some (onlyT T k)
      shared := fun k args H => bodyA P (exec P (callT P M T n) n) k args H }

/-- No function is the one that counts goroutines. -/
def NoNG (P : Program) : Prop := ∀ (k : FuncId) (fn : Func), P.funcs[k]? = some fn → (fn.name == "runtime.NumGoroutine") = false

section
variable {P : Program} {w : World}
variable {n₀ : Nat} {w₀ : World} {S : Nat → Prop} {H : AHeap} {φ : Nat → Nat × Nat × Nat} {D : Nat → Prop}

theorem callFunc_enter {k : FuncId} {fn : Func} {c : Code} {vs : Array Value} (hf : P.funcs[k]? = some fn) (hn : (fn.name == "runtime.NumGoroutine") = false) (hb : fn.body = some c) : (callFunc k vs).run P w = .ok (.enter k vs) w := by
  unfold callFunc
  rw [run_bind_ok (a := P) (w' := w) rfl]
  rw [hf]
  simp only [hn, hb, Option.isNone_some, Bool.false_eq_true, if_false]
  rfl

theorem VRL.undefs (n : Nat) {H : List AObj} : VRL w S H φ (List.replicate n AV.undef) (Array.replicate n undef) := by
  refine ⟨by simp, fun i x v a b => ?_⟩
  have h1 : x = AV.undef := (List.mem_replicate.1 (List.mem_of_getElem? a)).2
  have h2 : v = undef := (Array.mem_replicate.1 (Array.mem_of_getElem? b)).2
  rw [h1, h2]
  exact VR.undef

/-- A function's body, on the caller's heap. -/
theorem body_sim {ex : ExecF} (hex : ExecOK P ex) (hng : NoNG P) {k : FuncId} {args : List AV} {H H' : AHeap} {r : AV} (h : bodyA P ex k args H = .ok (r, H'))
    {n₀ : Nat} {w₀ w : World} {S : Nat → Prop} {φ : Nat → Nat × Nat × Nat} {D : Nat → Prop} {vs : Array Value} (R : Rel n₀ w₀ w S H φ D) (hvs : VRL w S H.objs φ args vs) :
    (callFunc k vs).run P w = .ok (.enter k vs) w ∧ Calls P k vs w fun e w' => ∃ v S' φ', e = .returned v ∧ Rel n₀ w₀ w' S' H' φ' D ∧ Ext n₀ w S H.objs φ D w' S' H'.objs φ' D ∧ VR w' S' H'.objs φ' r v := by
  unfold bodyA at h
  split at h
  · rename_i fn hf
    split at h
    · rename_i c hb
      split at h
      · rename_i e ts1 H1 hx
        have key : (e = .normal ∨ e = .ret) ∧ spentIn H.objs H1.objs = true ∧ resultsA P fn ts1 H1 = .ok r ∧ H' = H1 := by
          have fin : ∀ {y : Go.Abs.R (AV × AHeap)}, (if spentIn H.objs H1.objs then do pure (← resultsA P fn ts1 H1, H1) else fail "a loop that goes on") = (.ok (r, H') : Go.Abs.R (AV × AHeap)) → spentIn H.objs H1.objs = true ∧ resultsA P fn ts1 H1 = .ok r ∧ H' = H1 := by
            intro _ h
            split at h
            · rename_i hs
              replace h := bind_ok h
              obtain ⟨x, hx, h⟩ := h
              cases pure_ok h
              exact ⟨hs, hx, rfl⟩
            · cases h
          split at h
          · exact ⟨.inl rfl, fin (y := fail "") h⟩
          · exact ⟨.inr rfl, fin (y := fail "") h⟩
          · cases h
        obtain ⟨he, hsp, hres, rfl⟩ := key
        refine ⟨callFunc_enter hf (hng k fn hf) hb, ?_⟩
        refine (callsIn_wide (n := 0)).1 (callsIn_of_wp_marks hf hb trivial ?_)
        have hts : VRL w S H.objs φ (args ++ List.replicate (fn.ntmps - args.length) AV.undef) (vs ++ Array.replicate (fn.ntmps - vs.size) undef) := by
          rw [hvs.1]
          exact hvs.append (VRL.undefs _)
        refine hex c _ H e ts1 H' hx none n₀ w₀ w S φ D { tmps := vs ++ Array.replicate (fn.ntmps - vs.size) undef, defers := [] } _ (fun l hl => by cases hl) R hts ?_
        intro a1 w1 S1 φ1 D1 R1 E1 V1 M1
        obtain ⟨ms, hms, hnd, hin⟩ := M1
        rw [List.append_nil] at hms
        have E1' : Ext n₀ w S H.objs φ D w1 S1 H'.objs φ1 D := ⟨E1.stab, E1.new, E1.cell, E1.obj, fun _ h => h⟩
        have R2 : Rel n₀ w₀ w1 S1 H' φ1 D := R1.drop E1.dfr (fun b st pend ts ps as bd hb hst => by
          rcases spentIn_spec hsp b _ hb with hq | ⟨o, ho, hl⟩
          · cases st <;> first | exact absurd rfl hst | cases hq
          · obtain ⟨o', k1, k2⟩ := E1.obj b o ho
            rw [hb] at k1
            cases k1
            cases o with
            | dead => cases hl
            | cells cs g => obtain ⟨cs', g', h, _⟩ := k2; cases h
            | map es => obtain ⟨⟨es', h⟩, _⟩ := k2; cases h
            | siter s pos => obtain ⟨⟨s', p', h⟩, _⟩ := k2; cases h
            | raw y => obtain ⟨h, _⟩ := k2; cases h
            | loop st0 pend0 ts0 ps0 as0 bd0 =>
              obtain ⟨⟨st', pend', ts', ps', as', bd', h, hex0⟩, hp⟩ := k2
              cases h
              obtain ⟨fn0, T0, _, _, hd, _⟩ := R.obj b _ ho
              rw [hp]
              exact hd (fun e => hst (hex0 e)))
        have goal : LeavesInM (FW none) 0 P fn a1.tmps (fun e w' => ∃ v S' φ', e = .returned v ∧ Rel n₀ w₀ w' S' H' φ' D ∧ Ext n₀ w S H.objs φ D w' S' H'.objs φ' D ∧ VR w' S' H'.objs φ' r v) a1.defers .returning w1 := by
          rw [hms]
          refine leaves_marks ms R2 hnd (fun q hq => ?_) (fun w2 Rf Ef => ?_)
          · obtain ⟨d1, d2⟩ := hin q hq
            obtain ⟨k1, k2, k3⟩ := R1.dfr q d1
            exact ⟨k1, k2, k3, d2⟩
          · obtain ⟨v, k1, k2⟩ := results_sim (P := P) Rf (V1.ext Ef) hres
            exact ⟨v, k1, v, S1, φ1, rfl, Rf, E1'.trans Ef, k2⟩
        rcases he with rfl | rfl
        · exact goal
        · exact goal
      · cases h
    · cases h
  · cases h

theorem rel_empty {w : World} {S : Nat → Prop} (hS : ∀ b, S b → b < w.heap.size) (hG : GK w.heap.size w) (φ : Nat → Nat × Nat × Nat) : Rel w.heap.size w w S AHeap.empty φ (fun _ => False) :=
  ⟨Below.refl _ _, Nat.le_refl _, hS, fun b o h => (by cases h), fun b o h => (by cases h), fun b b' o o' h => (by cases h), fun d h => h.elim, fun b h => (by cases h), hG⟩

theorem IVRL.vrl {args : List AV} {vs : Array Value} {H : List AObj} (h : IVRL w S args vs) : VRL w S H φ args vs := ⟨h.1, fun i x v a b => .im (h.2 i x v a b)⟩

/-- A function's body on a heap of its own. -/
theorem pure_sim {ex : ExecF} (hex : ExecOK P ex) (hng : NoNG P) {k : FuncId} {args : List AV} {H2 : AHeap} {r r' : AV} {bs : List Nat} (h : bodyA P ex k args AHeap.empty = .ok (r, H2))
    (hi : imm H2 immFuel r = .ok (r', bs)) : EntryOK P k args r' := by
  intro w S vs hS hG hvs
  obtain ⟨h1, h2⟩ := body_sim hex hng h (rel_empty hS hG (fun _ => (0, 0, 0))) (IVRL.vrl hvs)
  refine .inl ⟨h1, Calls.mono' h2 ?_⟩
  rintro _ w' ⟨v, S', φ', rfl, R', E', V'⟩
  obtain ⟨hb, hT⟩ := imm_sim R' immFuel r r' bs v hi V'
  obtain ⟨Rf, Ef⟩ := freeze_sim R' (e := { rd := bs, frz := bs }) rfl hb
  exact ⟨v, rfl, frzS S' φ' bs, R'.below, fun b h => .inl (E'.stab b h), fun b h => (Ef.new b h).elim (E'.new b) .inr, Rf.szS, hT _ (fun b h => .inl h) (fun c hc => .inr ⟨c, hc, rfl⟩)⟩

def TblOK (P : Program) (T : Tbl) : Prop := ∀ k args r, T k args = some r → EntryOK P k args r

theorem onlyT_ok {T : Tbl} (hT : TblOK P T) {k : FuncId} {args : List AV} {r : AV} (h : onlyT T k args = .ok r) : EntryOK P k args r := by
  unfold onlyT at h
  split at h
  · rename_i hq
    cases h
    exact hT _ _ _ hq
  · cases h

theorem pureT_ok {ex : ExecF} (hex : ExecOK P ex) (hng : NoNG P) {T : Tbl} (hT : TblOK P T) {k : FuncId} {args : List AV} {r : AV} (h : pureT P ex T k args = .ok r) : EntryOK P k args r := by
  unfold pureT at h
  split at h
  · rename_i hq
    cases h
    exact hT _ _ _ hq
  · replace h := bind_ok h
    obtain ⟨⟨r0, H2⟩, h1, h⟩ := h
    replace h := bind_ok h
    obtain ⟨⟨r1, bs⟩, h2, h⟩ := h
    cases h
    exact pure_sim hex hng h1 h2

theorem callT_ok (hm : P.follows .mixedOrders = true) (hng : NoNG P) {M : FuncId → Mode} {T : Tbl} (hT : TblOK P T) : ∀ n, PureOK P (callT P M T n) ∧ SharedOK P (callT P M T n) := by
  intro n
  induction n with
  | zero =>
    refine ⟨fun k g hg args r h => ?_, fun k args H r H' hn h => by cases h⟩
    unfold callT at hg
    simp only at hg
    split at hg
    · cases hg
    · cases hg
      exact onlyT_ok hT h
  | succ n ih =>
    have hex := (exec_sim hm ih.1 ih.2 n).1
    refine ⟨fun k g hg args r h => ?_, fun k args H r H' hn h => ?_⟩
    · unfold callT at hg
      simp only at hg
      split at hg
      · cases hg
      · cases hg
        exact pureT_ok hex hng hT h
      · cases hg
        exact onlyT_ok hT h
    · intro n₀ w₀ w S φ D vs R hvs
      have h : bodyA P (exec P (callT P M T n) n) k args H = .ok (r, H') := h
      obtain ⟨q1, q2⟩ := body_sim hex hng h R hvs
      refine ⟨q1, Calls.mono' q2 ?_⟩
      rintro _ w' ⟨v, S', φ', rfl, R', E', V'⟩
      exact ⟨v, S', φ', D, rfl, R', E', V'⟩

/-- An entry, evaluated over a table. -/
theorem entry_ok (hm : P.follows .mixedOrders = true) (hng : NoNG P) {M : FuncId → Mode} {T : Tbl} (hT : TblOK P T) {n : Nat} {k : FuncId} {args : List AV} {r : AV}
    (h : pureT P (exec P (callT P M T n) n) T k args = .ok r) : EntryOK P k args r :=
  pureT_ok (exec_sim hm (callT_ok hm hng hT n).1 (callT_ok hm hng hT n).2 n).1 hng hT h
end
end Go.Abs

namespace Go.Abs
open Go Go.RowKit

/-! Tables of pure calls, laid in chunks: each entry is evaluated over the chunks before it. -/

def eqB : List UInt8 → List UInt8 → Bool
  | [], [] => true
  | a :: as, b :: bs => Nat.beq a.toNat b.toNat && eqB as bs
  | _, _ => false

def eqV : Value → Value → Bool
  | .bool a, .bool b => a == b
  | .int k n, .int k' n' => decide (n = n') && decide (k = k')
  | .string a, .string b => eqB a.data.toList b.data.toList
  | .pointer none, .pointer none => true
  | .slice none a b, .slice none c d => Nat.beq a c && Nat.beq b d
  | .map none, .map none => true
  | .nilFunc, .nilFunc => true
  | .nilIface, .nilIface => true
  | _, _ => false

def eqAs (f : AV → AV → Bool) : List AV → List AV → Bool
  | [], [] => true
  | a :: as, b :: bs => f a b && eqAs f as bs
  | _, _ => false

def eqA : Nat → AV → AV → Bool
  | 0, _, _ => false
  | n + 1, x, y =>
    match x, y with
    | .any, .any => true
    | .sc a, .sc b => eqV a b
    | .agg a, .agg b => eqAs (eqA n) a b
    | .tup a, .tup b => eqAs (eqA n) a b
    | .isl a l c e, .isl a' l' c' e' => Nat.beq l l' && Nat.beq c c' && (e == e') && eqAs (eqA n) a a'
    | .iptr a, .iptr b => eqAs (eqA n) a b
    | .ifc t a, .ifc t' b => Nat.beq t t' && eqA n a b
    | .fn (.func k) a c, .fn (.func k') a' c' => Nat.beq k k' && eqAs (eqA n) a a' && eqAs (eqA n) c c'
    | _, _ => false

theorem eqB_eq : ∀ {a b : List UInt8}, eqB a b = true → a = b := by
  intro a
  induction a with
  | nil => intro b h; cases b with
    | nil => rfl
    | cons => cases h
  | cons x a ih =>
    intro b h
    cases b with
    | nil => cases h
    | cons y b =>
      simp only [eqB, Bool.and_eq_true] at h
      rw [ih h.2, UInt8.toNat_inj.1 (Nat.eq_of_beq_eq_true h.1)]

theorem eqV_eq {a b : Value} (h : eqV a b = true) : a = b := by
  unfold eqV at h
  split at h
  · rw [eq_of_beq h]
  · simp only [Bool.and_eq_true, decide_eq_true_eq] at h
    rw [h.1, h.2]
  · rename_i a b
    have := eqB_eq h
    obtain ⟨⟨a⟩⟩ := a
    obtain ⟨⟨b⟩⟩ := b
    simp only at this
    rw [this]
  · rfl
  · simp only [Bool.and_eq_true] at h
    rw [Nat.eq_of_beq_eq_true h.1, Nat.eq_of_beq_eq_true h.2]
  · rfl
  · rfl
  · rfl
  · cases h

theorem eqAs_eq {f : AV → AV → Bool} (hf : ∀ x y, f x y = true → x = y) : ∀ {a b : List AV}, eqAs f a b = true → a = b := by
  intro a
  induction a with
  | nil => intro b h; cases b with
    | nil => rfl
    | cons => cases h
  | cons x a ih =>
    intro b h
    cases b with
    | nil => cases h
    | cons y b =>
      simp only [eqAs, Bool.and_eq_true] at h
      rw [ih h.2, hf _ _ h.1]

theorem eqA_eq : ∀ (n : Nat) (x y : AV), eqA n x y = true → x = y := by
  intro n
  induction n with
  | zero => intro x y h; cases h
  | succ n ih =>
    intro x y h
    unfold eqA at h
    split at h
    · rfl
    · rw [eqV_eq h]
    · rw [eqAs_eq ih h]
    · rw [eqAs_eq ih h]
    · simp only [Bool.and_eq_true] at h
      rw [Nat.eq_of_beq_eq_true h.1.1.1, Nat.eq_of_beq_eq_true h.1.1.2, eq_of_beq h.1.2, eqAs_eq ih h.2]
    · rw [eqAs_eq ih h]
    · simp only [Bool.and_eq_true] at h
      rw [Nat.eq_of_beq_eq_true h.1, ih _ _ h.2]
    · simp only [Bool.and_eq_true] at h
      rw [Nat.eq_of_beq_eq_true h.1.1, eqAs_eq ih h.1.2, eqAs_eq ih h.2]
    · cases h

/-- The chunk, the arguments, what is handed back. -/
abbrev Entry := Nat × List AV × AV
abbrev Tab := List (FuncId × List Entry)

def eqFuel : Nat := 40

def findE (c : Nat) (args : List AV) : List Entry → Option AV
  | [] => none
  | (t, a, r) :: es => if Nat.blt t c && eqAs (eqA eqFuel) args a then some r else findE c args es

def assoc (k : FuncId) : Tab → List Entry
  | [] => []
  | (j, es) :: t => if Nat.beq j k then es else assoc k t

def tblOf (F : Tab) (c : Nat) : Tbl := fun k args => findE c args (assoc k F)

def evalT (P : Program) (M : FuncId → Mode) (T : Tbl) (N : Nat) (k : FuncId) (args : List AV) : R AV := pureT P (exec P (callT P M T N) N) T k args

def checkE (P : Program) (M : FuncId → Mode) (T : Tbl) (N : Nat) (k : FuncId) (e : Entry) : Bool :=
  match evalT P M T N k e.2.1 with
  | .ok r => eqA eqFuel r e.2.2
  | .error _ => false

def chunkOK (P : Program) (M : FuncId → Mode) (F : Tab) (N c : Nat) : Bool :=
  F.all fun p => p.2.all fun e => !(Nat.beq e.1 c) || checkE P M (tblOf F c) N p.1 e

theorem findE_ok {c : Nat} {args : List AV} {r : AV} : ∀ {es : List Entry}, findE c args es = some r → ∃ t, (t, args, r) ∈ es ∧ t < c := by
  intro es
  induction es with
  | nil => intro h; cases h
  | cons e es ih =>
    intro h
    obtain ⟨t, a, x⟩ := e
    unfold findE at h
    split at h
    · rename_i hq
      cases h
      simp only [Bool.and_eq_true] at hq
      have h1 : t < c := by
        have := hq.1
        unfold Nat.blt at this
        exact Nat.le_of_ble_eq_true this
      rw [eqAs_eq (eqA_eq _) hq.2]
      exact ⟨t, List.mem_cons_self, h1⟩
    · obtain ⟨t', h1, h2⟩ := ih h
      exact ⟨t', List.mem_cons_of_mem _ h1, h2⟩

theorem assoc_ok {k : FuncId} : ∀ {F : Tab} {e : Entry}, e ∈ assoc k F → ∃ es, (k, es) ∈ F ∧ e ∈ es := by
  intro F
  induction F with
  | nil => intro e h; cases h
  | cons p F ih =>
    intro e h
    obtain ⟨j, es⟩ := p
    unfold assoc at h
    split at h
    · rename_i hq
      rw [Nat.eq_of_beq_eq_true hq]
      exact ⟨es, List.mem_cons_self, h⟩
    · obtain ⟨es', h1, h2⟩ := ih h
      exact ⟨es', List.mem_cons_of_mem _ h1, h2⟩

section
variable {P : Program}

/-- The entries of a chunk stand, given those before it. -/
def StepOK (P : Program) (F : Tab) (c : Nat) : Prop :=
  TblOK P (tblOf F c) → ∀ k es e, (k, es) ∈ F → e ∈ es → e.1 = c → EntryOK P k e.2.1 e.2.2

theorem tbl_ok {F : Tab} : ∀ (n : Nat), (∀ c, c < n → StepOK P F c) → TblOK P (tblOf F n) := by
  have key : ∀ (n : Nat), (∀ c, c < n → TblOK P (tblOf F c) ∧ StepOK P F c) → TblOK P (tblOf F n) := by
    intro n h k args r hr
    obtain ⟨t, h1, h2⟩ := findE_ok hr
    obtain ⟨es, h3, h4⟩ := assoc_ok h1
    obtain ⟨h5, h6⟩ := h t h2
    exact h6 h5 k es _ h3 h4 rfl
  intro n
  induction n using Nat.strongRecOn with
  | ind n ih =>
    intro h
    exact key n (fun c hc => ⟨ih c hc (fun d hd => h d (Nat.lt_trans hd hc)), h c hc⟩)

theorem evalT_ok (hm : P.follows .mixedOrders = true) (hng : NoNG P) {M : FuncId → Mode} {T : Tbl} (hT : TblOK P T) {N : Nat} {k : FuncId} {args : List AV} {r : AV} (h : evalT P M T N k args = .ok r) : EntryOK P k args r :=
  entry_ok hm hng hT h

theorem chunk_step (hm : P.follows .mixedOrders = true) (hng : NoNG P) {M : FuncId → Mode} {F : Tab} {N c : Nat} (h : chunkOK P M F N c = true) : StepOK P F c := by
  intro hT k es e h1 h2 h3
  have := List.all_eq_true.1 (List.all_eq_true.1 h _ h1) e h2
  rw [h3] at this
  have hb : Nat.beq c c = true := Nat.beq_refl c
  rw [hb] at this
  have : checkE P M (tblOf F c) N k e = true := this
  unfold checkE at this
  split at this
  · rename_i r hr
    rw [← eqA_eq _ _ _ this]
    exact evalT_ok hm hng hT hr
  · cases this
end
end Go.Abs

namespace Go.Abs
open Go Go.RowKit

section
variable {P : Program} {w : World}
variable {n₀ : Nat} {w₀ : World} {S : Nat → Prop} {H : AHeap} {φ : Nat → Nat × Nat × Nat} {D : Nat → Prop}

/-! The pieces of a body ahead of a point. -/
def seqs : List Code → Code → Code
  | [], r => r
  | c :: cs, r => .seq c (seqs cs r)

def execL (ex : ExecF) : List Code → List AV → AHeap → R (List AV × AHeap)
  | [], ts, H => .ok (ts, H)
  | c :: cs, ts, H =>
    match ex c ts H with
    | .ok (.normal, ts1, H1) => execL ex cs ts1 H1
    | _ => fail "a piece"

theorem execL_sim {ex : ExecF} (hex : ExecOK P ex) {ro : Option Nat} {rest : Code} {Q : Exit → Act → World → Prop} : ∀ (l : List Code) {w : World} {S : Nat → Prop} {H : AHeap} {φ : Nat → Nat × Nat × Nat} {D : Nat → Prop} {ts ts' : List AV} {H' : AHeap} {a : Act},
    execL ex l ts H = .ok (ts', H') → RoOK ro H φ D → Rel n₀ w₀ w S H φ D → VRL w S H.objs φ ts a.tmps →
    ContX n₀ w₀ w S H φ D ts' H' a.defers .normal (fun _ a w => rest.wpIn (FW ro) 0 P Q a w) → (seqs l rest).wpIn (FW ro) 0 P Q a w := by
  intro l
  induction l with
  | nil =>
    intro w S H φ D ts ts' H' a h hro R hts hK
    cases h
    exact hK a w S φ D R Ext.refl hts (.refl _ _)
  | cons c l ih =>
    intro w S H φ D ts ts' H' a h hro R hts hK
    unfold execL at h
    split at h
    · rename_i ts1 H1 h1
      refine wpIn_seq (hex c ts H .normal ts1 H1 h1 ro n₀ w₀ w S φ D a _ hro R hts ?_)
      intro a1 w1 S1 φ1 D1 R1 E1 V1 M1
      refine ih h (RoOK.ext hro E1) R1 V1 ?_
      intro a2 w2 S2 φ2 D2 R2 E2 V2 M2
      exact hK a2 w2 S2 φ2 D2 R2 (E1.trans E2) V2 (M1.trans M2 E1.dfr E2.dfr)
    · cases h

/-- One operation, by hand. -/
theorem hand_step {ro : Option Nat} {all : Array Oper} {rest : List Oper} {Q : Exit → Act → World → Prop} {a : Act} {o : Oper} {v : Value} {w' : World} (hg : o.guard = none) (hd : ∀ c, o.op ≠ .defer c)
    (h : (execOp a.eval o).run P w = .ok (.value v) w') (hK : wpListIn (FW ro) 0 P all Q rest (a.put o.dst v) w') : wpListIn (FW ro) 0 P all Q (o :: rest) a w := by
  have hw : Region.wanted o (yielded all a.tmps) = true := by
    unfold Region.wanted
    rw [hg]
  unfold wpListIn
  rw [if_pos hw]
  unfold Oper.wpIn
  refine ⟨fun _ _ => trivial, ?_⟩
  rw [Oper.semAt_eq _ _ _ hd, h]
  exact hK

/-! What refers to no object. -/
def atomA : AV → Bool
  | .any | .sc _ | .isl _ _ _ _ | .iptr _ | .gp _ _ => true
  | _ => false

def closedA : AV → Bool
  | .agg cs => cs.all atomA
  | x => atomA x

theorem VR.atom {x : AV} {v : Value} {H : List AObj} (h : VR w S H φ x v) (ha : atomA x = true) : IVR w S x v := by
  cases h with
  | im h => exact h
  | _ => cases ha

theorem VR.closed {x : AV} {v : Value} {H : List AObj} (h : VR w S H φ x v) (ha : closedA x = true) : IVR w S x v := by
  cases h with
  | im h => exact h
  | agg hl h =>
    refine .agg hl (fun i y u a b => (h i y u a b).atom (List.all_eq_true.1 ha y (List.mem_of_getElem? a)))
  | _ => cases ha

/-- More blocks are held still; of the objects none is told any more. -/
theorem rel_forget (R : Rel n₀ w₀ w S H φ D) {m : Nat} (hm : m < w.heap.size) (hd : ¬ D m) (φ' : Nat → Nat × Nat × Nat) : Rel n₀ w₀ w (fun b => S b ∨ b = m) ⟨[], []⟩ φ' D :=
  ⟨R.below, R.size, fun b hb => hb.elim (R.szS b) (fun e => e ▸ hm), fun b o h => (by cases h), fun b o h => (by cases h), fun b b' o o' h => (by cases h),
    fun d h => ⟨(R.dfr d h).1, fun hs => hs.elim (R.dfr d h).2.1 (fun e => hd (e ▸ h)), (R.dfr d h).2.2⟩, fun b h => (by cases h), R.glob⟩

/-- A block that the interpreter does not look into is laid, at the front. -/
theorem rel_raw (R : Rel n₀ w₀ w S ⟨[], []⟩ φ D) {x : Obj} (hx : rawObj x = true) :
    Rel n₀ w₀ { w with heap := w.heap.push x } S ⟨[.raw x], []⟩ (fun _ => (w.heap.size, 0, 0)) D := by
  have hB := push_below (n₀ := n₀) (w := w) x R.size
  refine ⟨R.below.trans hB, Nat.le_trans R.size hB.size, fun b hb => Nat.lt_of_lt_of_le (R.szS b hb) hB.size, fun b o h => ?_, fun b o h _ => ?_, fun b b' o o' h h' _ _ _ => ?_, fun d hd => ?_, fun b h => (by cases h), R.glob.below hB⟩
  · cases b with
    | zero =>
      cases h
      exact ⟨by simp, hx, fun hs => Nat.lt_irrefl _ (R.szS _ hs)⟩
    | succ b => simp at h
  · exact R.size
  · cases b with
    | zero =>
      cases b' with
      | zero => rfl
      | succ b' => simp at h'
    | succ b => simp at h
  · obtain ⟨h1, h2, h3⟩ := R.dfr d hd
    exact ⟨h1, h2, (get_push _ (Array.getElem?_eq_some_iff.1 h3).1).trans h3⟩

/-- What a block holds that the interpreter does not look into is set anew. -/
theorem VR.setRaw {w' : World} {H : List AObj} {b0 : Nat} {x0 x1 : Obj} (hw : ∀ b, S b → w'.heap[b]? = w.heap[b]?) (hb : H[b0]? = some (.raw x0)) {x : AV} {v : Value} (h : VR w S H φ x v) : VR w' S (H.set b0 (.raw x1)) φ x v := by
  have get : ∀ {b : Nat} {o : AObj}, H[b]? = some o → (∀ y, o ≠ .raw y) → (H.set b0 (.raw x1))[b]? = some o := by
    intro b o h hn
    rw [List.getElem?_set_ne (fun e => by subst e; rw [hb] at h; cases h; exact hn _ rfl)]
    exact h
  induction h with
  | im h => exact .im (h.mono (fun _ h => h) (fun a ha => cell_of_heap (hw _ ha) a rfl))
  | agg hl _ ih => exact .agg hl ih
  | tup hl _ ih => exact .tup hl ih
  | fn ha hc _ _ ih1 ih2 => exact .fn ha hc ih1 ih2
  | ifc _ ih => exact .ifc ih
  | yield h =>
    obtain ⟨st, pend, ts, ps, as, bd, h⟩ := h
    exact .yield ⟨st, pend, ts, ps, as, bd, get h (fun y e => by cases e)⟩
  | osl hb hg hl hc he hp => exact .osl (get hb (fun y e => by cases e)) hg hl hc he hp
  | optr hb hg hp => exact .optr (get hb (fun y e => by cases e)) hg hp
  | mp h =>
    obtain ⟨es, h⟩ := h
    exact .mp ⟨es, get h (fun y e => by cases e)⟩
  | it h =>
    obtain ⟨s, pos, h⟩ := h
    exact .it ⟨s, pos, get h (fun y e => by cases e)⟩
  | itr h =>
    rename_i b
    obtain ⟨o, h⟩ := h
    by_cases e : b0 = b
    · subst e
      exact .itr ⟨x1, objs_set_get hb⟩
    · exact .itr ⟨o, by rw [List.getElem?_set_ne e]; exact h⟩

theorem rel_setRaw (R : Rel n₀ w₀ w S H φ D) {b0 : Nat} {x0 x1 : Obj} (hb : H.objs[b0]? = some (.raw x0)) (hx : rawObj x1 = true) :
    Rel n₀ w₀ { w with heap := w.heap.setIfInBounds (φ b0).1 x1 } S { H with objs := H.objs.set b0 (.raw x1) } φ D ∧
    ∀ {x : AV} {v : Value}, VR w S H.objs φ x v → VR { w with heap := w.heap.setIfInBounds (φ b0).1 x1 } S (H.objs.set b0 (.raw x1)) φ x v := by
  obtain ⟨h1, h2, h3⟩ := R.obj b0 _ hb
  have hp := R.place b0 _ hb rfl
  have hlt := R.lt hb rfl
  have hw : ∀ b, b ≠ (φ b0).1 → ({ w with heap := w.heap.setIfInBounds (φ b0).1 x1 } : World).heap[b]? = w.heap[b]? := fun b hn => get_setIB _ hn
  have hS : ∀ b, S b → ({ w with heap := w.heap.setIfInBounds (φ b0).1 x1 } : World).heap[b]? = w.heap[b]? := fun b hs => hw b (fun e => h3 (e ▸ hs))
  have hV : ∀ {x : AV} {v : Value}, VR w S H.objs φ x v → VR { w with heap := w.heap.setIfInBounds (φ b0).1 x1 } S (H.objs.set b0 (.raw x1)) φ x v := fun h => h.setRaw hS hb
  have hB : Below n₀ w { w with heap := w.heap.setIfInBounds (φ b0).1 x1 } := ⟨rfl, rfl, rfl, by simp, fun k hk => hw k (by omega)⟩
  have old : ∀ {b : Nat} {o : AObj}, (H.objs.set b0 (.raw x1))[b]? = some o → b ≠ b0 → H.objs[b]? = some o := by
    intro b o h hn
    rwa [List.getElem?_set_ne (Ne.symm hn)] at h
  have here : ∀ {b : Nat} {o : AObj}, (H.objs.set b0 (.raw x1))[b]? = some o → ∃ o', H.objs[b]? = some o' ∧ o'.live = o.live := by
    intro b o h
    by_cases e : b = b0
    · subst e
      rw [objs_set_get hb] at h
      cases h
      exact ⟨_, hb, rfl⟩
    · exact ⟨o, old h e, rfl⟩
  refine ⟨⟨R.below.trans hB, Nat.le_trans R.size hB.size, fun b h => Nat.lt_of_lt_of_le (R.szS b h) hB.size, fun b o h => ?_, fun b o h hl => ?_, fun b b' o o' h h' hl hl' hq => ?_, fun d hd => ?_, fun b h => ?_, R.glob.below hB⟩, hV⟩
  · by_cases e : b = b0
    · subst e
      have h : (H.objs.set b (.raw x1))[b]? = some o := h
      rw [objs_set_get hb] at h
      cases h
      exact ⟨set_here hlt, hx, h3⟩
    · have ho := old h e
      cases hl : o.live with
      | false => cases o <;> simp [AObj.live] at hl; trivial
      | true =>
        have hn : (φ b).1 ≠ (φ b0).1 := fun q => e (R.inj b b0 _ _ ho hb hl rfl q)
        have hor := R.obj b o ho
        cases o with
        | dead => trivial
        | cells cs g =>
          obtain ⟨C, t, lo, hi, k1, k2, k3, k4, k5⟩ := hor
          exact ⟨C, t, lo, hi, by rw [hw _ hn]; exact k1, k2, k3, fun i x v a b => hV (k4 i x v a b), k5⟩
        | map es =>
          obtain ⟨E, c, k1, k2, k3, k4⟩ := hor
          exact ⟨E, c, by rw [hw _ hn]; exact k1, k2, fun i k v e' a b => ⟨(k3 i k v e' a b).1, hV (k3 i k v e' a b).2⟩, k4⟩
        | siter s pos =>
          obtain ⟨k1, k2⟩ := hor
          exact ⟨by rw [hw _ hn]; exact k1, k2⟩
        | raw y =>
          obtain ⟨k1, k2, k3⟩ := hor
          exact ⟨by rw [hw _ hn]; exact k1, k2, k3⟩
        | loop st pend ts ps as bd =>
          obtain ⟨fn, T, k1, k2, k3, k4⟩ := hor
          exact ⟨fn, T, by rw [hw _ hn]; exact k1, ⟨k2.1, fun i x v a b => hV (k2.2 i x v a b)⟩, k3, k4⟩
  · obtain ⟨o', k1, k2⟩ := here h
    exact R.place b o' k1 (k2.trans hl)
  · obtain ⟨o1, k1, k2⟩ := here h
    obtain ⟨o2, k3, k4⟩ := here h'
    exact R.inj b b' o1 o2 k1 k3 (k2.trans hl) (k4.trans hl') hq
  · obtain ⟨k1, k2, k3⟩ := R.dfr d hd
    exact ⟨k1, k2, (hw d (fun e => R.notDef (b := b0) hb rfl (x := some []) (by rw [← e]; exact k3))).trans k3⟩
  · obtain ⟨cs, g, hc⟩ := R.frzc b h
    have hn : b ≠ b0 := fun e => by subst e; rw [hb] at hc; cases hc
    exact ⟨cs, g, by show (H.objs.set b0 (.raw x1))[b]? = _; rw [List.getElem?_set_ne (Ne.symm hn)]; exact hc⟩
end
end Go.Abs

namespace Go.Abs
open Go Go.RowKit

section
variable {P : Program} {w : World}

theorem choose_map (n : Nat) (hn : 0 < n) : ∃ j d, j < n ∧ (choose (.mapNext n)).run P w = .ok j { w with drawn := d } := by
  by_cases h : (Question.mapNext n).forced = true
  · refine ⟨0, w.drawn, hn, ?_⟩
    simp [choose, Sem.run, h]
  · refine ⟨(Question.mapNext n).cut (w.tape w.drawn (.mapNext n)), w.drawn + 1, ?_, run_choose (by simpa using h)⟩
    simp only [Question.cut]
    exact Nat.mod_lt _ hn

/-- A step over a map of which nothing was taken out. -/
theorem next_run {m n r : Nat} {seen : Array Nat} {E : Array MapEntry} (hr : w.heap[r]? = some (.mapIter (some m) n seen n)) (hm : w.heap[m]? = some (.map E n)) (hn : E.size = n)
    (hb : ∀ (i : Nat) (e : MapEntry), E[i]? = some e → e.born = i) (t : TypeId) :
    ((∀ i, i < n → seen.contains i = true) → ∃ d, (Instr.next (.pointer (some ⟨r, 0, none⟩)) false t).run P w = .ok (.tuple #[.bool false]) { w with drawn := d }) ∧
    ((∃ i, i < n ∧ seen.contains i = false) → ∃ d i e, E[i]? = some e ∧ i < n ∧ seen.contains i = false ∧
      (Instr.next (.pointer (some ⟨r, 0, none⟩)) false t).run P w = .ok (.tuple #[.bool true, e.key, e.val]) { w with drawn := d, heap := w.heap.setIfInBounds r (.mapIter (some m) n (seen.push i) n) }) := by
  have hmem : ∀ e, e ∈ E → ∃ i, E[i]? = some e ∧ i < n ∧ e.born = i := by
    intro e he
    obtain ⟨i, hi, rfl⟩ := Array.mem_iff_getElem.1 he
    exact ⟨i, by simp [hi], by omega, hb i _ (by simp [hi])⟩
  have hgr : (getObj r).run P w = .ok (.mapIter (some m) n seen n) w := run_getObj hr (by simp)
  have hgm : (getObj m).run P w = .ok (.map E n) w := run_getObj hm (by simp)
  have hall : (!seen.isEmpty && !E.isEmpty && E.all fun e => decide (e.born ≥ n)) = false := by
    by_cases he : E.isEmpty = true
    · simp [he]
    · have h0 : 0 < E.size := by
        rw [Array.isEmpty_iff_size_eq_zero] at he; omega
      have : E.all (fun e => decide (e.born ≥ n)) = false := by
        rw [Bool.eq_false_iff]
        intro h
        have := Array.all_eq_true'.1 h E[0] (Array.getElem_mem h0)
        rw [hb 0 _ (by simp [h0])] at this
        simp at this
        omega
      rw [this, Bool.and_false]
  have hold : (E.filter fun e => !seen.contains e.born).filter (fun e => decide (e.born < n)) = E.filter fun e => !seen.contains e.born := by
    rw [Array.filter_eq_self]
    intro e he
    obtain ⟨i, _, hi, hbi⟩ := hmem e (Array.mem_filter.1 he).1
    simp [hbi, hi]
  have hnew : (E.filter fun e => !seen.contains e.born).filter (fun e => decide (e.born ≥ n)) = #[] := by
    rw [Array.filter_eq_empty_iff]
    intro e he
    obtain ⟨i, _, hi, hbi⟩ := hmem e (Array.mem_filter.1 he).1
    simp [hbi]; omega
  have pre : ∀ {R : Result Value}, (∀ L, L = E.filter (fun e => !seen.contains e.born) → (do
      match ((if L.isEmpty then #[none] else #[]) ++ L.map some)[← choose (.mapNext ((if L.isEmpty then #[none] else #[]) ++ L.map some).size)]? with
      | some (some e) =>
        Go.setObj r (.mapIter (some m) n (seen.push e.born) n)
        pure (.tuple #[.bool true, e.key, e.val])
      | some none => pure (.tuple #[.bool false])
      | none => stuck "Next: no such candidate" : Sem Value).run P w = R) → (Instr.next (.pointer (some ⟨r, 0, none⟩)) false t).run P w = R := by
    intro R h
    have h := h _ rfl
    unfold Instr.next
    simp only
    rw [run_bind_ok hgr]
    simp only
    rw [run_bind_ok hgm]
    simp only [hall, Bool.false_eq_true, if_false]
    rw [hold, hnew, Array.append_empty]
    exact h
  constructor
  · intro h
    have hL : E.filter (fun e => !seen.contains e.born) = #[] := by
      rw [Array.filter_eq_empty_iff]
      intro e he
      obtain ⟨i, _, hi, hbi⟩ := hmem e he
      rw [hbi, h i hi]
      simp
    obtain ⟨j, d, hj, hc⟩ := choose_map (P := P) (w := w) 1 (by omega)
    refine ⟨d, pre (fun L hLe => ?_)⟩
    subst hLe
    rw [hL]
    have hz : ((if (#[] : Array MapEntry).isEmpty then #[(none : Option MapEntry)] else #[]) ++ (#[] : Array MapEntry).map some) = #[none] := by simp
    rw [hz]
    have hc : (choose (.mapNext (#[(none : Option MapEntry)]).size)).run P w = .ok j { w with drawn := d } := hc
    rw [run_bind_ok hc]
    have : j = 0 := by omega
    subst this
    rfl
  · intro ⟨i0, hi0, hs0⟩
    have hne : (E.filter (fun e => !seen.contains e.born)).isEmpty = false := by
      have hE : i0 < E.size := by omega
      have : E[i0] ∈ E.filter (fun e => !seen.contains e.born) := Array.mem_filter.2 ⟨Array.getElem_mem hE, by rw [hb i0 _ (by simp [hE]), hs0]; rfl⟩
      rw [Bool.eq_false_iff, ne_eq, Array.isEmpty_iff]
      intro e
      rw [e] at this
      simp at this
    have hpos : 0 < (E.filter (fun e => !seen.contains e.born)).size := by
      rw [Bool.eq_false_iff, ne_eq, Array.isEmpty_iff_size_eq_zero] at hne
      omega
    have hL : ((if (E.filter (fun e => !seen.contains e.born)).isEmpty then #[(none : Option MapEntry)] else #[]) ++ (E.filter (fun e => !seen.contains e.born)).map some) = (E.filter (fun e => !seen.contains e.born)).map some := by
      rw [hne]; simp
    obtain ⟨j, d, hj, hc⟩ := choose_map (P := P) (w := w) ((E.filter (fun e => !seen.contains e.born)).map some).size (by simpa using hpos)
    have hj' : j < (E.filter (fun e => !seen.contains e.born)).size := by simpa using hj
    have hin : (E.filter (fun e => !seen.contains e.born))[j] ∈ E.filter (fun e => !seen.contains e.born) := Array.getElem_mem hj'
    obtain ⟨hin1, hin2⟩ := Array.mem_filter.1 hin
    obtain ⟨i, hi1, hi2, hi3⟩ := hmem _ hin1
    refine ⟨d, i, _, hi1, hi2, by rw [← hi3]; simpa using hin2, pre (fun L hLe => ?_)⟩
    subst hLe
    rw [hL, run_bind_ok hc]
    have hq : ((E.filter (fun e => !seen.contains e.born)).map some)[j]? = some (some (E.filter (fun e => !seen.contains e.born))[j]) := by
      simp
    rw [hq]
    simp only
    rw [hi3]
    have hr' : ({ w with drawn := d } : World).heap[r]? = some (.mapIter (some m) n seen n) := hr
    rw [run_bind_ok (run_setObj hr' (fun _ _ _ h => by cases h))]
    rfl

theorem entry_run {m n r i : Nat} {seen : Array Nat} {E : Array MapEntry} {e : MapEntry} (hr : w.heap[r]? = some (.mapIter (some m) n (seen.push i) n)) (hm : w.heap[m]? = some (.map E n))
    (hb : ∀ (i : Nat) (e : MapEntry), E[i]? = some e → e.born = i) (he : E[i]? = some e) : (Instr.entry (.pointer (some ⟨r, 0, none⟩))).run P w = .ok (.tuple #[e.key, e.val]) w := by
  have hgr : (getObj r).run P w = .ok (.mapIter (some m) n (seen.push i) n) w := run_getObj hr (by simp)
  have hgm : (getObj m).run P w = .ok (.map E n) w := run_getObj hm (by simp)
  have hf : E.find? (fun e => e.born == i) = some e := by
    cases hq : E.find? (fun e => e.born == i) with
    | none =>
      exfalso
      have := Array.find?_eq_none.1 hq e (Array.mem_of_getElem? he)
      rw [hb i e he] at this
      simp at this
    | some e' =>
      have h1 := Array.find?_some hq
      have h2 := Array.mem_of_find?_eq_some hq
      obtain ⟨j, hj, rfl⟩ := Array.mem_iff_getElem.1 h2
      have : j = i := by
        have := hb j E[j] (Array.getElem?_eq_getElem hj)
        rw [this] at h1
        simpa using h1
      subst this
      rw [← he, Array.getElem?_eq_getElem hj]
  unfold Instr.entry
  simp only
  rw [run_bind_ok hgr]
  simp only [Array.back?_push]
  rw [run_bind_ok hgm]
  simp only [bne_self_eq_false, Bool.false_eq_true, if_false]
  rw [hf]
  rfl

theorem rangeMap_run {m c : Nat} {E : Array MapEntry} {t kt et : TypeId} (ht : P.underlying t = some (.map kt et)) (hm : w.heap[m]? = some (.map E c)) :
    (Instr.range t (.map (some m))).run P w = .ok (.pointer (some ⟨w.heap.size, 0, none⟩)) { w with heap := w.heap.push (.mapIter (some m) c #[] c) } := by
  have hu : (underlying t).run P w = .ok (.map kt et) w := tund_run (by unfold tund ofOpt; rw [ht])
  have hgm : (getObj m).run P w = .ok (.map E c) w := run_getObj hm (by simp)
  unfold Instr.range
  rw [run_bind_ok hu]
  simp only
  rw [run_bind_ok hgm]
  rfl
end
end Go.Abs

namespace Go.Abs
open Go Go.RowKit

/-- A loop 'for _, v := range m' over a map, cut into its parts; what the map holds; what the function hands back. -/
structure Ax where
  ops20 : Array Oper
  o4 : Oper
  c : Operand
  ops21 : Array Oper
  rest21 : List Oper
  r22 : Code
  tail : Code
  fn : Func
  vals : List AV
  t14 : Nat
  t58 : Nat
  t59 : Nat
  t61 : Nat
  r : AV

/-- One row alone, in the temporary t: all else is forgotten. -/
def lone (t : Nat) (ts : List AV) (H : AHeap) : Option (List AV × AHeap) :=
  match ts[t]? with
  | some (.osl b g 0 k l _ _) => (match H.objs[b]? with
    | some (.cells cs g') => if Nat.beq g g' && !(H.frz.contains b) && cs.all atomA then some ((ts.map fun _ => AV.any).set t (.osl 0 0 0 k l l false), ⟨[.cells cs 0], []⟩) else none
    | _ => none)
  | _ => none

namespace Ax
variable (A : Ax) (P : Program) (call : CallF) (ex : ExecF)

/-- The iterator stands in its temporary. -/
def atIt (ts : List AV) : Bool := match ts[A.t58]? with
  | some (.it b) => Nat.beq b 0
  | _ => false

/-- One round, at the entry v; x: the iterator behind the step. -/
def iter (x : Obj) (v : AV) (ts : List AV) (H : AHeap) : R (List AV × AHeap) := do
  let (ts2, H2) ← seqA P call ex A.ops20.toList [A.o4] (ts.set A.t59 (.tup [.sc (.bool true), .any, .any])) { H with objs := H.objs.set 0 (.raw x) }
  if !A.atIt ts2 then fail "iterator" else
  match evalOp ts2 A.c with
  | .sc (.bool true) => do
    let (ts3, H3) ← seqA P call ex A.ops21.toList A.rest21 (ts2.set A.t61 (.tup [.any, v])) H2
    match ex A.r22 ts3 H3 with
    | .ok (.normal, ts4, H4) => .ok (ts4, H4)
    | _ => fail "round"
  | _ => fail "round"

/-- Behind the loop. -/
def after (ts2 : List AV) (H2 : AHeap) : R AV :=
  match ex A.tail ts2 H2 with
  | .ok (.normal, ts3, H3) | .ok (.ret, ts3, H3) =>
    if H3.objs.all spent then do
      let r ← resultsA P A.fn ts3 H3
      let (r', _) ← imm H3 immFuel r
      pure r'
    else fail "a loop that goes on"
  | _ => fail "tail"

/-- The last step, and what follows. -/
def fin (ts : List AV) (H : AHeap) : R AV := do
  let (ts2, H2) ← seqA P call ex A.ops20.toList [A.o4] (ts.set A.t59 (.tup [.sc (.bool false)])) H
  match evalOp ts2 A.c with
  | .sc (.bool false) => (match lone A.t14 ts2 H2 with
    | some (ts3, H3) => A.after P ex ts3 H3
    | none => fail "row")
  | _ => fail "last"

/-- Whatever entry comes next: the function hands back r. -/
def tree (X : List Nat → Obj) : Nat → List Nat → List Nat → List AV → AHeap → Bool
  | 0, _, _, _, _ => false
  | n + 1, seen, left, ts, H =>
    A.atIt ts &&
    match left with
    | [] => (match A.fin P call ex ts H with
      | .ok r => eqA eqFuel r A.r
      | .error _ => false)
    | j :: js => (j :: js).all fun i => match A.vals[i]? with
      | some v => (match A.iter P call ex (X (seen ++ [i])) v ts H with
        | .ok (ts', H') => tree X n (seen ++ [i]) ((j :: js).filter fun k => !(Nat.beq k i)) ts' H'
        | .error _ => false)
      | none => false
end Ax

section
variable {P : Program} {w : World}
variable {n₀ : Nat} {w₀ : World} {S : Nat → Prop} {H : AHeap} {φ : Nat → Nat × Nat × Nat} {D : Nat → Prop}

/-- The map that is ranged over. -/
def MapAt (w : World) (S : Nat → Prop) (m : Nat) (vals : List AV) : Prop :=
  S m ∧ ∃ E : Array MapEntry, w.heap[m]? = some (.map E vals.length) ∧ E.size = vals.length ∧ (∀ (i : Nat) (e : MapEntry), E[i]? = some e → e.born = i) ∧
    ∀ (i : Nat) (e : MapEntry), E[i]? = some e → ∃ v, vals[i]? = some v ∧ IVR w S v e.val

theorem MapAt.mono {w' : World} {S' : Nat → Prop} {m : Nat} {vals : List AV} (h : MapAt w S m vals) (hS : ∀ b, S b → S' b) (hw : ∀ b, S b → w'.heap[b]? = w.heap[b]?) : MapAt w' S' m vals := by
  obtain ⟨h1, E, h2, h3, h4, h5⟩ := h
  refine ⟨hS m h1, E, (hw m h1).trans h2, h3, h4, fun i e he => ?_⟩
  obtain ⟨v, hv, hi⟩ := h5 i e he
  exact ⟨v, hv, hi.mono hS (fun a ha => cell_of_heap (hw _ ha) a rfl)⟩

theorem evalOp_tmp {ts : List AV} {t : Nat} {x : AV} (h : ts[t]? = some x) : evalOp ts (.tmp t) = x := by
  simp [evalOp, List.getD, h]

/-- What a pure call's end asks of the world. -/
def EndOK (n₀ : Nat) (w₀ : World) (Sw : Nat → Prop) (r : AV) : Ending → World → Prop := fun e w' =>
  ∃ v, e = .returned v ∧ ∃ S', Below n₀ w₀ w' ∧ (∀ b, Sw b → S' b) ∧ (∀ b, S' b → Sw b ∨ n₀ ≤ b) ∧ (∀ b, S' b → b < w'.heap.size) ∧ IVR w' S' r v

theorem leave_pure {Sw : Nat → Prop} {fn : Func} {ts : List AV} {a : Act} {r r' : AV} {bs : List Nat} (R : Rel n₀ w₀ w S H φ D) (hts : VRL w S H.objs φ ts a.tmps) (hM : Marks [] a.defers (fun _ => False) D) (hsp : H.objs.all spent = true)
    (h1 : ∀ b, Sw b → S b) (h2 : ∀ b, S b → Sw b ∨ n₀ ≤ b) (hres : resultsA P fn ts H = .ok r) (hi : imm H immFuel r = .ok (r', bs)) :
    LeavesInM (FW none) 0 P fn a.tmps (EndOK n₀ w₀ Sw r') a.defers .returning w := by
  obtain ⟨ms, hms, hnd, hin⟩ := hM
  rw [List.append_nil] at hms
  have R2 : Rel n₀ w₀ w S H φ (fun _ => False) := R.drop (fun _ h => h.elim) (fun b st pend ts ps as bd hb hst => by
    have := List.all_eq_true.1 hsp _ (List.mem_of_getElem? hb)
    cases st <;> first | exact absurd rfl hst | cases this)
  rw [hms]
  refine leaves_marks ms R2 hnd (fun q hq => ?_) (fun w2 Rf Ef => ?_)
  · obtain ⟨d1, d2⟩ := hin q hq
    obtain ⟨k1, k2, k3⟩ := R.dfr q d1
    exact ⟨k1, k2, k3, fun h => h.elim⟩
  · obtain ⟨v, k1, k2⟩ := results_sim (P := P) Rf (hts.ext Ef) hres
    obtain ⟨hb, hT⟩ := imm_sim Rf immFuel r r' bs v hi k2
    obtain ⟨Rg, Eg⟩ := freeze_sim Rf (e := { rd := bs, frz := bs }) rfl hb
    exact ⟨v, k1, v, rfl, frzS S φ bs, Rf.below, fun b h => .inl (h1 b h), fun b h => (Eg.new b h).elim (h2 b) .inr, Rg.szS, hT _ (fun b h => .inl h) (fun c hc => .inr ⟨c, hc, rfl⟩)⟩

theorem VR.it_inv {b : Nat} {v : Value} {H : List AObj} (h : VR w S H φ (.it b) v) : v = .pointer (some ⟨(φ b).1, 0, none⟩) := by
  cases h with
  | im h => cases h
  | it h => rfl
  | itr h => rfl

theorem atIt_eval {A : Ax} {ts : List AV} {H : List AObj} {a : Act} (h : A.atIt ts = true) (hts : VRL w S H φ ts a.tmps) : a.eval (.tmp A.t58) = .pointer (some ⟨(φ 0).1, 0, none⟩) := by
  unfold Ax.atIt at h
  split at h
  · rename_i b hb
    rw [Nat.eq_of_beq_eq_true h] at hb
    have := evalOp_VR hts (.tmp A.t58)
    rw [evalOp_tmp hb] at this
    exact this.it_inv
  · cases h

theorem lone_sim {t : Nat} {ts ts' : List AV} {H H' : AHeap} {T : Array Value} (h : lone t ts H = some (ts', H')) (R : Rel n₀ w₀ w S H φ D) (V : VRL w S H.objs φ ts T) :
    ∃ φ', Rel n₀ w₀ w S H' φ' D ∧ VRL w S H'.objs φ' ts' T := by
  unfold lone at h
  split at h
  · rename_i b g k l c ex ht
    split at h
    · rename_i cs g' hb
      split at h
      · rename_i hq
        cases h
        simp only [Bool.and_eq_true, Bool.not_eq_true'] at hq
        obtain ⟨⟨h1, h2⟩, h3⟩ := hq
        have h1 := Nat.eq_of_beq_eq_true h1
        subst h1
        have hz : b ∉ H.frz := by simpa using h2
        obtain ⟨C, ty, lo, hi, k1, k2, k3, k4, k5⟩ := R.obj b _ hb
        have hS : ¬ S (φ b).1 := fun hs => hz (k5.2 hs)
        refine ⟨fun _ => φ b, ⟨R.below, R.size, R.szS, fun b' o h => ?_, fun b' o h _ => ?_, fun b1 b2 o o' h h' _ _ _ => ?_, R.dfr, fun b h => (by cases h), R.glob⟩, ?_⟩
        · cases b' with
          | zero =>
            cases h
            exact ⟨C, ty, lo, hi, k1, k2, k3, fun i x v p q => .im ((k4 i x v p q).atom (List.all_eq_true.1 h3 x (List.mem_of_getElem? p))), ⟨fun h => (by cases h), fun h => absurd h hS⟩⟩
          | succ b' => simp at h
        · cases b' with
          | zero => exact R.place b _ hb rfl
          | succ b' => simp at h
        · cases b1 with
          | zero => cases b2 with
            | zero => rfl
            | succ b2 => simp at h'
          | succ b1 => simp at h
        · have hlt := (List.getElem?_eq_some_iff.1 ht).1
          refine ⟨by simpa using V.1, fun i x v p q => ?_⟩
          rw [List.getElem?_set] at p
          split at p
          · rename_i e
            subst e
            simp [hlt] at p
            subst p
            have := V.2 _ _ v ht q
            cases this with
            | im h => cases h
            | osl hb' hg hl hc he hp =>
              rw [hb] at hb'
              cases hb'
              exact .osl (cs := cs) (g' := 0) rfl (Nat.le_refl _) hl hl (fun e => by simp at e) (fun _ => hp rfl)
          · rw [List.getElem?_map, Option.map_eq_some_iff] at p
            obtain ⟨y, _, rfl⟩ := p
            exact .im .any
      · cases h
    · cases h
  · cases h

variable {A : Ax} {call : CallF} {ex : ExecF}

/-- The loop, from any point on, and what follows. -/
theorem ax_rounds (hp : PureOK P call) (hs : SharedOK P call) (hex : ExecOK P ex) {m r20 b6 b7 r21 : Nat} {o3 o5 : Oper} {X : List Nat → Obj} (hX : ∀ seen, X seen = .mapIter (some m) A.vals.length seen.toArray A.vals.length)
    (h20 : A.ops20.toList = [o3, A.o4]) (h21 : A.ops21.toList = o5 :: A.rest21) (g3 : o3.guard = none) (p3 : o3.op = .next (.tmp A.t58) false) (d3 : o3.dst = some A.t59)
    (g5 : o5.guard = none) (p5 : o5.op = .entry (.tmp A.t58)) (d5 : o5.dst = some A.t61) {Sw : Nat → Prop} :
    ∀ (n : Nat) (seen left : List Nat) (ts : List AV) (H : AHeap), A.tree P call ex X n seen left ts H = true →
      ∀ (w : World) (S : Nat → Prop) (φ : Nat → Nat × Nat × Nat) (D : Nat → Prop) (a : Act), Rel n₀ w₀ w S H φ D → VRL w S H.objs φ ts a.tmps → H.objs[0]? = some (.raw (X seen)) → MapAt w S m A.vals →
      (∀ i, i ∈ left ↔ i < A.vals.length ∧ i ∉ seen) → (∀ b, Sw b → S b) → (∀ b, S b → Sw b ∨ n₀ ≤ b) → Marks [] a.defers (fun _ => False) D →
      Code.roundsIn (FW none) 0 P (.seq (.region r20 A.ops20 false) (.seq (.cond A.c .skip (.exit b6)) (.block b7 (.seq (.region r21 A.ops21 false) A.r22))))
        (Exit.inBlock b6 (Exit.then (A.tail.wpIn (FW none) 0 P (bodyPostM (FW none) 0 P A.fn (EndOK n₀ w₀ Sw A.r))) (bodyPostM (FW none) 0 P A.fn (EndOK n₀ w₀ Sw A.r)))) n a w := by
  intro n
  induction n with
  | zero => intro seen left ts H h; cases h
  | succ n ih =>
    intro seen left ts H h w S φ D a R hts hraw hmap hleft hS1 hS2 hM
    unfold Ax.tree at h
    simp only [Bool.and_eq_true] at h
    obtain ⟨hit, h⟩ := h
    have hptr : a.eval (.tmp A.t58) = .pointer (some ⟨(φ 0).1, 0, none⟩) := atIt_eval hit hts
    obtain ⟨k1, k2, k3⟩ := R.obj 0 _ hraw
    obtain ⟨hSm, E, e1, e2, e3, e4⟩ := hmap
    rw [hX] at k1
    have hnx := next_run (P := P) k1 e1 e2 e3 o3.type
    have hd3 : ∀ c, o3.op ≠ .defer c := fun c hc => by rw [p3] at hc; cases hc
    have hd5 : ∀ c, o5.op ≠ .defer c := fun c hc => by rw [p5] at hc; cases hc
    have hmem : ∀ i, seen.toArray.contains i = decide (i ∈ seen) := by intro i; simp
    rw [roundsIn_succ]
    refine wpIn_seq (wpIn_region_list ?_)
    rw [h20]
    cases left with
    | nil =>
      simp only at h
      split at h
      · rename_i r0 hfin
        have hr0 := eqA_eq _ _ _ h
        subst hr0
        have hall : ∀ i, i < A.vals.length → seen.toArray.contains i = true := by
          intro i hi
          rw [hmem]
          by_cases hq : i ∈ seen
          · simp [hq]
          · have := (hleft i).2 ⟨hi, hq⟩
            cases this
        obtain ⟨d, hrun⟩ := hnx.1 hall
        have hex3 : (execOp a.eval o3).run P w = .ok (.value (.tuple #[.bool false])) { w with drawn := d } := by
          unfold execOp
          rw [p3]
          simp only
          rw [hptr]
          exact exec_v hrun
        refine hand_step g3 hd3 hex3 ?_
        unfold Ax.fin at hfin
        replace hfin := bind_ok hfin
        obtain ⟨⟨ts2, H2⟩, hq, hfin⟩ := hfin
        have R1 : Rel n₀ w₀ { w with drawn := d } S H φ D := rel_heap R rfl ⟨rfl, rfl, rfl, Nat.le_refl _, fun _ _ => rfl⟩
        have E1 : Ext n₀ w S H.objs φ D { w with drawn := d } S H.objs φ D := ext_heap rfl
        have V1 : VRL { w with drawn := d } S H.objs φ (ts.set A.t59 (.tup [.sc (.bool false)])) (a.put o3.dst (.tuple #[.bool false])).tmps := by
          rw [d3]
          refine (hts.ext E1).set A.t59 (.im (.tup rfl (fun i x v p q => ?_)))
          cases i with
          | zero => simp at p q; subst p; subst q; exact .sc rfl
          | succ i => simp at p
        refine seqA_sim hp hs hex [A.o4] hq R1 V1 ?_
        intro a2 w2 S2 φ2 D2 R2 E2 V2 hdf2
        simp only at hfin
        split at hfin
        · rename_i hc
          have hcv : a2.eval A.c = .bool false := by
            have := evalOp_VR V2 A.c
            rw [hc] at this
            exact this.sc_inv.1
          refine wpIn_seq (wpIn_cond hcv (wpIn_exit ?_))
          simp only [Exit.then, Exit.inBlock, if_true]
          have hM2 : Marks [] a2.defers (fun _ => False) D2 := by
            rw [hdf2, put_defers]
            obtain ⟨ms, q1, q2, q3⟩ := hM
            exact ⟨ms, q1, q2, fun r hr => ⟨E2.dfr _ (E1.dfr _ (q3 r hr).1), (q3 r hr).2⟩⟩
          split at hfin
          · rename_i ts2' H2' hlone
            obtain ⟨φ2', R2', V2'⟩ := lone_sim hlone R2 V2
            unfold Ax.after at hfin
            have key : ∀ e ts3 H3, ex A.tail ts2' H2' = .ok (e, ts3, H3) → (e = .normal ∨ e = .ret) → (if H3.objs.all spent then do
                let r ← resultsA P A.fn ts3 H3
                let (r', _) ← imm H3 immFuel r
                pure r'
              else fail "a loop that goes on") = (.ok A.r : Go.Abs.R AV) → A.tail.wpIn (FW none) 0 P (bodyPostM (FW none) 0 P A.fn (EndOK n₀ w₀ Sw A.r)) a2 w2 := by
              intro e ts3 H3 hx he hy
              split at hy
              · rename_i hsp
                replace hy := bind_ok hy
                obtain ⟨r1, hr1, hy⟩ := hy
                replace hy := bind_ok hy
                obtain ⟨⟨r2, bs⟩, hr2, hy⟩ := hy
                have hy := pure_ok hy
                subst hy
                refine hex A.tail ts2' H2' e ts3 H3 hx none n₀ w₀ w2 S2 φ2' D2 a2 _ (fun l hl => by cases hl) R2' V2' ?_
                intro a3 w3 S3 φ3 D3 R3 E3 V3 M3
                have hM3 : Marks [] a3.defers (fun _ => False) D3 := hM2.trans M3 (fun _ h => h.elim) E3.dfr
                have hq := leave_pure (Sw := Sw) R3 V3 hM3 hsp (fun b hb => E3.stab b (E2.stab b (E1.stab b (hS1 b hb))))
                  (fun b hb => (E3.new b hb).elim (fun hb => (E2.new b hb).elim (fun hb => (E1.new b hb).elim (hS2 b) .inr) .inr) .inr) hr1 hr2
                rcases he with rfl | rfl
                · exact hq
                · exact hq
              · cases hy
            split at hfin
            · rename_i ts3 H3 hx
              exact key _ ts3 H3 hx (.inl rfl) hfin
            · rename_i ts3 H3 hx
              exact key _ ts3 H3 hx (.inr rfl) hfin
            · cases hfin
          · cases hfin
        · cases hfin
      · cases h
    | cons j js =>
      simp only at h
      have hj := (hleft j).1 List.mem_cons_self
      obtain ⟨d, i, e, he, hi, hns, hrun⟩ := hnx.2 ⟨j, hj.1, by rw [hmem]; simp [hj.2]⟩
      have hns : i ∉ seen := by rw [hmem] at hns; simpa using hns
      have hil : i ∈ j :: js := (hleft i).2 ⟨hi, hns⟩
      have hstep := List.all_eq_true.1 h i hil
      obtain ⟨v, hv, hiv⟩ := e4 i e he
      rw [hv] at hstep
      simp only at hstep
      split at hstep
      · rename_i ts4 H4 hiter
        have hex3 : (execOp a.eval o3).run P w = .ok (.value (.tuple #[.bool true, e.key, e.val])) { w with drawn := d, heap := w.heap.setIfInBounds (φ 0).1 (X (seen ++ [i])) } := by
          unfold execOp
          rw [p3]
          simp only
          rw [hptr]
          rw [hX]
          have : (seen ++ [i]).toArray = seen.toArray.push i := by simp
          rw [this]
          exact exec_v hrun
        refine hand_step g3 hd3 hex3 ?_
        unfold Ax.iter at hiter
        replace hiter := bind_ok hiter
        obtain ⟨⟨ts2, H2⟩, hq, hiter⟩ := hiter
        have hrx : rawObj (X (seen ++ [i])) = true := by rw [hX]; rfl
        have R0 : Rel n₀ w₀ { w with drawn := d } S H φ D := rel_heap R rfl ⟨rfl, rfl, rfl, Nat.le_refl _, fun _ _ => rfl⟩
        have E0 : Ext n₀ w S H.objs φ D { w with drawn := d } S H.objs φ D := ext_heap rfl
        obtain ⟨R1, V1⟩ := rel_setRaw R0 hraw hrx
        have hw1 : ∀ b, S b → ({ w with drawn := d, heap := w.heap.setIfInBounds (φ 0).1 (X (seen ++ [i])) } : World).heap[b]? = w.heap[b]? :=
          fun b hb => get_setIB (w := w) _ (fun e => k3 (e ▸ hb))
        have hV1 : VRL { w with drawn := d, heap := w.heap.setIfInBounds (φ 0).1 (X (seen ++ [i])) } S (H.objs.set 0 (.raw (X (seen ++ [i])))) φ (ts.set A.t59 (.tup [.sc (.bool true), .any, .any])) (a.put o3.dst (.tuple #[.bool true, e.key, e.val])).tmps := by
          rw [d3]
          refine VRL.set ⟨hts.1, fun i x v p q => V1 ((hts.2 i x v p q).ext E0)⟩ A.t59 (.im (.tup rfl (fun i x v p q => ?_)))
          match i with
          | 0 => simp at p q; subst p; subst q; exact .sc rfl
          | 1 => simp at p; subst p; exact .any
          | 2 => simp at p; subst p; exact .any
          | i + 3 => simp at p
        have hmap1 : MapAt { w with drawn := d, heap := w.heap.setIfInBounds (φ 0).1 (X (seen ++ [i])) } S m A.vals := MapAt.mono ⟨hSm, E, e1, e2, e3, e4⟩ (fun _ h => h) hw1
        have hraw1 : (H.objs.set 0 (AObj.raw (X (seen ++ [i]))))[0]? = some (.raw (X (seen ++ [i]))) := objs_set_get hraw
        refine seqA_sim hp hs hex [A.o4] hq R1 hV1 ?_
        intro a2 w2 S2 φ2 D2 R2 E2 V2 hdf2
        simp only at hiter
        split at hiter
        · cases hiter
        rename_i hit2
        have hit2 : A.atIt ts2 = true := by simpa using hit2
        split at hiter
        · rename_i hc
          have hcv : a2.eval A.c = .bool true := by
            have := evalOp_VR V2 A.c
            rw [hc] at this
            exact this.sc_inv.1
          replace hiter := bind_ok hiter
          obtain ⟨⟨ts3, H3⟩, hq3, hiter⟩ := hiter
          refine wpIn_seq (wpIn_cond hcv (wpIn_skip ?_))
          simp only [Exit.then]
          refine wpIn_block (wpIn_seq (wpIn_region_list ?_))
          rw [h21]
          have hmap2 := hmap1.mono E2.stab E2.cell
          obtain ⟨o', q1, q2, q3⟩ := E2.obj 0 _ hraw1
          subst q2
          obtain ⟨l1, l2, l3⟩ := R2.obj 0 _ q1
          have hmap2' := hmap2
          obtain ⟨hSm2, E', f1, f2, f3, f4⟩ := hmap2
          have hlt : i < E'.size := by omega
          obtain ⟨v', hv', hiv'⟩ := f4 i E'[i] (Array.getElem?_eq_getElem hlt)
          rw [hv] at hv'
          cases hv'
          have l1' : w2.heap[(φ2 0).1]? = some (.mapIter (some m) A.vals.length (seen.toArray.push i) A.vals.length) := by
            rw [l1, hX]; simp
          have hen := entry_run (P := P) l1' f1 f3 (Array.getElem?_eq_getElem hlt)
          have hex5 : (execOp a2.eval o5).run P w2 = .ok (.value (.tuple #[E'[i].key, E'[i].val])) w2 := by
            unfold execOp
            rw [p5]
            simp only
            rw [atIt_eval hit2 V2]
            exact exec_v hen
          refine hand_step g5 hd5 hex5 ?_
          have V3 : VRL w2 S2 H2.objs φ2 (ts2.set A.t61 (.tup [.any, v])) (a2.put o5.dst (.tuple #[E'[i].key, E'[i].val])).tmps := by
            rw [d5]
            refine V2.set A.t61 (.im (.tup rfl (fun i x v p q => ?_)))
            match i with
            | 0 => simp at p; subst p; exact .any
            | 1 => simp at p q; subst p; subst q; exact hiv'
            | i + 2 => simp at p
          refine seqA_sim hp hs hex A.rest21 hq3 R2 V3 ?_
          intro a3 w3 S3 φ3 D3 R3 E3 V3' hdf3
          split at hiter
          · rename_i ts4' H4' hx
            cases hiter
            refine hex A.r22 ts3 H3 .normal ts4 H4 hx none n₀ w₀ w3 S3 φ3 D3 a3 _ (fun l hl => by cases hl) R3 V3' ?_
            intro a4 w4 S4 φ4 D4 R4 E4 V4 M4
            simp only [Exit.inBlock]
            have hM3 : Marks [] a3.defers (fun _ => False) D3 := by
              rw [hdf3, put_defers, hdf2, put_defers]
              obtain ⟨ms, q1, q2, q3⟩ := hM
              exact ⟨ms, q1, q2, fun r hr => ⟨E3.dfr _ (E2.dfr _ (q3 r hr).1), (q3 r hr).2⟩⟩
            have hraw4 : H4.objs[0]? = some (.raw (X (seen ++ [i]))) := by
              obtain ⟨o1, u1, u2, _⟩ := E3.obj 0 _ q1
              subst u2
              obtain ⟨o2, u3, u4, _⟩ := E4.obj 0 _ u1
              subst u4
              exact u3
            refine ih (seen ++ [i]) ((j :: js).filter fun k => !(Nat.beq k i)) ts4 H4 hstep w4 S4 φ4 D4 a4 R4 V4 hraw4 ((hmap2'.mono E3.stab E3.cell).mono E4.stab E4.cell) ?_
              (fun b hb => E4.stab b (E3.stab b (E2.stab b (hS1 b hb)))) (fun b hb => (E4.new b hb).elim (fun hb => (E3.new b hb).elim (fun hb => (E2.new b hb).elim (hS2 b) .inr) .inr) .inr)
              (hM3.trans M4 (fun _ h => h.elim) E4.dfr)
            intro k
            rw [List.mem_filter, hleft k]
            simp only [List.mem_append, List.mem_singleton, Bool.not_eq_true']
            constructor
            · rintro ⟨⟨h1, h2⟩, h3⟩
              refine ⟨h1, fun hq => hq.elim h2 (fun e => ?_)⟩
              subst e
              rw [Nat.beq_refl] at h3
              cases h3
            · rintro ⟨h1, h2⟩
              refine ⟨⟨h1, fun hq => h2 (.inl hq)⟩, ?_⟩
              rw [Bool.eq_false_iff]
              exact fun hq => h2 (.inr (Nat.eq_of_beq_eq_true hq))
          · cases hiter
        · cases hiter
      · cases hstep
end
end Go.Abs

namespace Go.Abs
open Go Go.RowKit

/-- Less is told of the temporaries. -/
def weak : List AV → List AV → Bool
  | [], [] => true
  | x :: xs, y :: ys => (match y with
      | .any => true
      | y => atomA y && eqA eqFuel x y) && weak xs ys
  | _, _ => false

def preA (P : Program) (call : CallF) (ex : ExecF) (fn : Func) (pieces : List Code) (ops19 : Array Oper) (o1 : Oper) (args : List AV) : R (List AV × AHeap) := do
  let (ts1, H1) ← execL ex pieces (args ++ List.replicate (fn.ntmps - args.length) AV.undef) AHeap.empty
  seqA P call ex ops19.toList [o1] ts1 H1

section
variable {P : Program} {w : World}
variable {n₀ : Nat} {w₀ : World} {S : Nat → Prop} {H : AHeap} {φ : Nat → Nat × Nat × Nat} {D : Nat → Prop}

theorem weak_length : ∀ {xs ys : List AV}, weak xs ys = true → xs.length = ys.length := by
  intro xs
  induction xs with
  | nil => intro ys h; cases ys with
    | nil => rfl
    | cons => cases h
  | cons x xs ih =>
    intro ys h
    cases ys with
    | nil => cases h
    | cons y ys =>
      simp only [weak, Bool.and_eq_true] at h
      simp [ih h.2]

theorem weak_get : ∀ {xs ys : List AV}, weak xs ys = true → ∀ (i : Nat) (y : AV), ys[i]? = some y → y = .any ∨ (atomA y = true ∧ xs[i]? = some y) := by
  intro xs
  induction xs with
  | nil => intro ys h; cases ys with
    | nil => intro i y hy; simp at hy
    | cons => cases h
  | cons x xs ih =>
    intro ys h i y hy
    cases ys with
    | nil => cases h
    | cons z ys =>
      simp only [weak, Bool.and_eq_true] at h
      cases i with
      | zero =>
        simp at hy
        subst hy
        have h := h.1
        split at h
        · exact .inl rfl
        · simp only [Bool.and_eq_true] at h
          exact .inr ⟨h.1, by simp [eqA_eq _ _ _ h.2]⟩
      | succ i => simpa using ih h.2 i y (by simpa using hy)

theorem weak_VRL {w' : World} {S' : Nat → Prop} {H' : List AObj} {φ' : Nat → Nat × Nat × Nat} {ts ts0 : List AV} {T : Array Value} {H : List AObj} (h : VRL w S H φ ts T) (hw : weak ts ts0 = true) (hS : ∀ b, S b → S' b) (hb : ∀ b, S b → w'.heap[b]? = w.heap[b]?) : VRL w' S' H' φ' ts0 T := by
  refine ⟨(weak_length hw).symm.trans h.1, fun i x v p q => ?_⟩
  rcases weak_get hw i x p with rfl | ⟨h1, h2⟩
  · exact .im .any
  · exact .im (((h.2 i x v h2 q).atom h1).mono hS (fun a ha => cell_of_heap (hb _ ha) a rfl))

theorem VR.mp_inv {b : Nat} {v : Value} {H : List AObj} (h : VR w S H φ (.mp b) v) : v = .map (some (φ b).1) := by
  cases h with
  | im h => cases h
  | mp h => rfl

theorem ax_entry {A : Ax} {call : CallF} {ex : ExecF} (hp : PureOK P call) (hs : SharedOK P call) (hex : ExecOK P ex) (hng : NoNG P) {k : FuncId} (hf : P.funcs[k]? = some A.fn)
    {pieces : List Code} {r19 b6 r20 b7 r21 : Nat} {ops19 : Array Oper} {o1 o2 o3 o5 : Oper} {tm kt et : TypeId} {t57 : Nat}
    (hbody : A.fn.body = some (seqs pieces (.seq (.seq (.region r19 ops19 false) (.block b6 (.loop (.seq (.region r20 A.ops20 false) (.seq (.cond A.c .skip (.exit b6)) (.block b7 (.seq (.region r21 A.ops21 false) A.r22))))))) A.tail)))
    (h19 : ops19.toList = [o1, o2]) (g2 : o2.guard = none) (p2 : o2.op = .range tm (.tmp t57)) (d2 : o2.dst = some A.t58) (htm : P.underlying tm = some (.map kt et))
    (h20 : A.ops20.toList = [o3, A.o4]) (h21 : A.ops21.toList = o5 :: A.rest21) (g3 : o3.guard = none) (p3 : o3.op = .next (.tmp A.t58) false) (d3 : o3.dst = some A.t59)
    (g5 : o5.guard = none) (p5 : o5.op = .entry (.tmp A.t58)) (d5 : o5.dst = some A.t61)
    {args ts : List AV} {H : AHeap} (hpre : preA P call ex A.fn pieces ops19 o1 args = .ok (ts, H))
    {b : Nat} {es : List (Value × AV)} (hb : ts[t57]? = some (.mp b)) (hes : H.objs[b]? = some (.map es)) (hvals : es.map (·.2) = A.vals) (hcl : A.vals.all closedA = true)
    {ts0 : List AV} (hts0 : weak ts ts0 = true) {n : Nat}
    (htree : ∀ X : List Nat → Obj, A.tree P call ex X n [] (List.range A.vals.length) (ts0.set A.t58 (.it 0)) ⟨[.raw (X [])], []⟩ = true) :
    EntryOK P k args A.r := by
  intro w S vs hS hG hvs
  refine .inl ⟨callFunc_enter hf (hng k _ hf) hbody, ?_⟩
  have main : Calls P k vs w (EndOK w.heap.size w S A.r) := by
    refine (callsIn_wide (n := 0)).1 (callsIn_of_wp_marks hf hbody trivial ?_)
    unfold preA at hpre
    replace hpre := bind_ok hpre
    obtain ⟨⟨ts1, H1⟩, hx1, hpre⟩ := hpre
    have hts : VRL w S AHeap.empty.objs (fun _ => (0, 0, 0)) (args ++ List.replicate (A.fn.ntmps - args.length) AV.undef) (vs ++ Array.replicate (A.fn.ntmps - vs.size) undef) := by
      rw [hvs.1]
      exact (IVRL.vrl hvs).append (VRL.undefs _)
    refine execL_sim (ro := none) hex pieces hx1 (fun l hl => by cases hl) (rel_empty hS hG (fun _ => (0, 0, 0))) hts ?_
    intro a1 w1 S1 φ1 D1 R1 E1 V1 M1
    refine wpIn_seq (wpIn_seq (wpIn_region_list ?_))
    rw [h19]
    unfold seqA at hpre
    simp only at hpre
    replace hpre := bind_ok hpre
    obtain ⟨⟨ts1', H1', eo⟩, hst, hpre⟩ := hpre
    unfold seqA at hpre
    cases hpre
    refine stepA_sim R1 hp hs hex hst V1 ?_
    intro a2 w2 S2 φ2 D2 R2 E2 V2 hdf2
    obtain ⟨E, c, k1, k2, k3, k4, k5, k6⟩ := R2.obj b _ hes
    have hlen : E.size = A.vals.length := by rw [← k2, ← hvals]; simp
    have hcn : c = A.vals.length := k5.trans hlen
    subst hcn
    have hev : a2.eval (.tmp t57) = .map (some (φ2 b).1) := by
      have := evalOp_VR V2 (.tmp t57)
      rw [evalOp_tmp hb] at this
      exact this.mp_inv
    have hex2 : (execOp a2.eval o2).run P w2 = .ok (.value (.pointer (some ⟨w2.heap.size, 0, none⟩))) { w2 with heap := w2.heap.push (.mapIter (some (φ2 b).1) A.vals.length #[] A.vals.length) } := by
      unfold execOp
      rw [p2]
      simp only
      rw [hev]
      exact exec_v (rangeMap_run htm k1)
    refine hand_step g2 (fun c hc => by rw [p2] at hc; cases hc) hex2 ?_
    have hlt := R2.lt hes rfl
    have hpl := R2.place b _ hes rfl
    have Rf := rel_forget R2 (m := (φ2 b).1) hlt (fun hd => R2.notDef hes rfl (R2.dfr _ hd).2.2) φ2
    have Rr := rel_raw Rf (x := .mapIter (some (φ2 b).1) A.vals.length #[] A.vals.length) rfl
    have hpush : ∀ k, S2 k → ({ w2 with heap := w2.heap.push (.mapIter (some (φ2 b).1) A.vals.length #[] A.vals.length) } : World).heap[k]? = w2.heap[k]? := fun k hk => get_push _ (R2.szS k hk)
    refine wpIn_block (wpIn_loop_rounds n ?_)
    have V3 : VRL { w2 with heap := w2.heap.push (.mapIter (some (φ2 b).1) A.vals.length #[] A.vals.length) } (fun k => S2 k ∨ k = (φ2 b).1) [.raw (.mapIter (some (φ2 b).1) A.vals.length #[] A.vals.length)] (fun _ => (w2.heap.size, 0, 0)) (ts0.set A.t58 (.it 0)) (a2.put o2.dst (.pointer (some ⟨w2.heap.size, 0, none⟩))).tmps := by
      rw [d2]
      refine VRL.set (weak_VRL V2 hts0 (fun _ h => .inl h) hpush) A.t58 ?_
      exact VR.itr (b := 0) ⟨_, rfl⟩
    refine ax_rounds (A := A) hp hs hex (m := (φ2 b).1) (X := fun seen => .mapIter (some (φ2 b).1) A.vals.length seen.toArray A.vals.length) (fun _ => rfl) h20 h21 g3 p3 d3 g5 p5 d5 (Sw := S) n [] (List.range A.vals.length) (ts0.set A.t58 (.it 0)) _ (htree _) _ _ _ D2 _ Rr V3 rfl ?_ ?_ ?_ ?_ ?_
    · refine ⟨.inr rfl, E, ?_, hlen, k6, fun i e he => ?_⟩
      · rw [get_push _ hlt, k1]
      · have hi : i < A.vals.length := by rw [← hlen]; exact (Array.getElem?_eq_some_iff.1 he).1
        have hi' : i < es.length := by rw [k2, hlen]; exact hi
        refine ⟨A.vals[i], by simp [hi], ?_⟩
        have hv := (k3 i es[i].1 es[i].2 e (by simp [hi']) he).2
        have hq : A.vals[i] = es[i].2 := by simp [← hvals]
        rw [hq]
        have hc : closedA es[i].2 = true := by
          rw [← hq]
          exact List.all_eq_true.1 hcl _ (List.getElem_mem hi)
        exact (hv.closed hc).mono (fun _ h => .inl h) (fun a ha => cell_of_heap (hpush _ ha) a rfl)
    · intro i; simp
    · exact fun b hb => .inl (E2.stab b (E1.stab b hb))
    · rintro k (hk | rfl)
      · exact (E2.new k hk).elim (fun h => E1.new k h) .inr
      · exact .inr hpl
    · rw [put_defers, hdf2]
      obtain ⟨ms, q1, q2, q3⟩ := M1
      exact ⟨ms, q1, q2, fun r hr => ⟨E2.dfr _ (q3 r hr).1, (q3 r hr).2⟩⟩
  exact main
end
end Go.Abs

namespace Go.Abs
open Go Go.RowKit

/-! An insertion sort over a row of six elements: its pieces, evaluated. -/

/-- What is told of the temporaries at the pieces' borders. -/
def insSlot (D fn ai aj : AV) : Nat → AV
  | 0 => D
  | 1 => .sc (.int .i64 0)
  | 2 => .sc (.int .i64 6)
  | 3 => fn
  | 8 => ai
  | 9 => aj
  | _ => .any

def insT (D fn ai aj : AV) : List AV := (List.range 53).map (insSlot D fn ai aj)

def insView (ts : List AV) : List (Option AV) × Nat := ([ts[0]?, ts[1]?, ts[2]?, ts[3]?, ts[8]?, ts[9]?], ts.length)

def insWant (D fn ai aj : AV) : List (Option AV) × Nat := ([some D, some (.sc (.int .i64 0)), some (.sc (.int .i64 6)), some fn, some ai, some aj], 53)

def insRun (x : R (Exit × List AV × AHeap)) : R (Exit × (List (Option AV) × Nat) × AHeap) :=
  match x with
  | .ok (e, ts, H) => .ok (e, insView ts, H)
  | .error e => .error e

/-- The row's slice. -/
def insD : AV := .osl 0 0 0 12 6 6 false

/-- What no object and no world is asked for. -/
def simpleA : AV → Bool
  | .any | .sc _ => true
  | .fn (.func _) [] [] => true
  | _ => false

section
variable {P : Program} {w w' : World}
variable {n₀ : Nat} {w₀ : World} {S S' : Nat → Prop} {H : AHeap} {φ φ' : Nat → Nat × Nat × Nat} {D : Nat → Prop}

theorem VR.simple {H H' : List AObj} {x : AV} {v : Value} (h : VR w S H φ x v) (hs : simpleA x = true) : VR w' S' H' φ' x v := by
  unfold simpleA at hs
  split at hs
  · exact .im .any
  · cases h with
    | im h => cases h with
      | sc h => exact .im (.sc h)
  · cases h with
    | im h => cases h with
      | fn ha hc h1 h2 => exact .fn ha hc (fun i x v h => by simp at h) (fun i x v h => by simp at h)
    | fn ha hc h1 h2 => exact .fn ha hc (fun i x v h => by simp at h) (fun i x v h => by simp at h)
  · cases hs

theorem insRun_ok {x : R (Exit × List AV × AHeap)} {e : Exit} {u : List (Option AV) × Nat} {H : AHeap} (h : insRun x = .ok (e, u, H)) : ∃ ts, x = .ok (e, ts, H) ∧ insView ts = u := by
  unfold insRun at h
  split at h
  · cases h
    exact ⟨_, rfl, rfl⟩
  · cases h

theorem insT_get {D fn ai aj : AV} {i : Nat} {x : AV} (h : (insT D fn ai aj)[i]? = some x) : i < 53 ∧ x = insSlot D fn ai aj i := by
  unfold insT at h
  rw [List.getElem?_map, Option.map_eq_some_iff] at h
  obtain ⟨j, hj, rfl⟩ := h
  have hlt : i < 53 := by
    have := (List.getElem?_eq_some_iff.1 hj).1
    simpa using this
  rw [List.getElem?_range hlt] at hj
  cases hj
  exact ⟨hlt, rfl⟩

/-- From what the interpreter tells to the border's form. -/
theorem insT_conv {D0 fn ai aj : AV} {ts : List AV} {T : Array Value} {H H' : List AObj} (h : VRL w S H φ ts T) (hv : insView ts = insWant D0 fn ai aj) (hD : ∀ v, VR w S H φ D0 v → VR w' S' H' φ' D0 v)
    (hf : simpleA fn = true) (hi : simpleA ai = true) (hj : simpleA aj = true) : VRL w' S' H' φ' (insT D0 fn ai aj) T := by
  unfold insView insWant at hv
  simp only [Prod.mk.injEq, List.cons.injEq, and_true] at hv
  obtain ⟨⟨h0, h1, h2, h3, h8, h9⟩, hl⟩ := hv
  refine ⟨by rw [← h.1, hl]; simp [insT], fun i x v a b => ?_⟩
  obtain ⟨hi53, rfl⟩ := insT_get a
  obtain ⟨y, hy, hr⟩ := h.get' b
  unfold insSlot
  split
  · rw [h0] at hy; cases hy; exact hD v hr
  · rw [h1] at hy; cases hy; exact hr.simple rfl
  · rw [h2] at hy; cases hy; exact hr.simple rfl
  · rw [h3] at hy; cases hy; exact hr.simple hf
  · rw [h8] at hy; cases hy; exact hr.simple hi
  · rw [h9] at hy; cases hy; exact hr.simple hj
  · exact .im .any
end
end Go.Abs

namespace Go.Abs
open Go Go.RowKit

/-- An insertion sort's pieces; its elements' cells; their order. -/
structure Ins where
  r0 : Code
  pA : Code
  r3 : Code
  pB : Code
  pC : Code
  r2 : Code
  b0 : Nat
  b1 : Nat
  b2 : Nat
  fn : AV
  el : Nat → List AV
  lt : Nat → Nat → Bool

def insI (n : Nat) : AV := .sc (.int .i64 n)

def swapAt (p : List Nat) (j : Nat) : List Nat := (p.set (j - 1) (p.getD j 0)).set j (p.getD (j - 1) 0)

namespace Ins
variable (I : Ins)

def row (p : List Nat) : List AV := p.flatMap I.el

def ins : Nat → List Nat → List Nat
  | 0, p => p
  | j + 1, p => if I.lt (p.getD (j + 1) 0) (p.getD j 0) then ins j (swapAt p (j + 1)) else p

def insAll : Nat → Nat → List Nat → List Nat
  | 0, _, p => p
  | m + 1, i, p => insAll m (i + 1) (I.ins i p)

def two (j x y : Nat) : List AV := List.replicate (12 * (j - 1)) .any ++ I.el y ++ I.el x ++ List.replicate (12 * (5 - j)) .any

/-- What the pieces do. -/
structure OK (ex : ExecF) : Prop where
  fn : simpleA I.fn = true
  len : ∀ k, k < 6 → (I.el k).length = 12 ∧ (I.el k).all atomA = true
  r0 : ∀ D H, insRun (ex I.r0 (insT D I.fn .any .any) H) = .ok (.normal, insWant D I.fn (insI 1) .any, H)
  pA : ∀ i, 1 ≤ i → i < 6 → ∀ D H, insRun (ex I.pA (insT D I.fn (insI i) .any) H) = .ok (.normal, insWant D I.fn (insI i) .any, H)
  pA6 : ∀ D H, insRun (ex I.pA (insT D I.fn (insI 6) .any) H) = .ok (.exit I.b0, insWant D I.fn (insI 6) .any, H)
  r3 : ∀ i, 1 ≤ i → i < 6 → ∀ D H, insRun (ex I.r3 (insT D I.fn (insI i) .any) H) = .ok (.normal, insWant D I.fn (insI i) (insI i), H)
  pB : ∀ j, 1 ≤ j → j < 6 → ∀ x y, x < 6 → y < 6 → ∀ ai, insRun (ex I.pB (insT insD I.fn ai (insI j)) ⟨[.cells (I.two j x y) 0], [0]⟩) =
    .ok (if I.lt x y then .normal else .exit I.b2, insWant insD I.fn ai (insI j), ⟨[.cells (I.two j x y) 0], [0]⟩)
  pB0 : ∀ ai, insRun (ex I.pB (insT insD I.fn ai (insI 0)) ⟨[.cells (List.replicate 72 .any) 0], [0]⟩) =
    .ok (.exit I.b2, insWant insD I.fn ai (insI 0), ⟨[.cells (List.replicate 72 .any) 0], [0]⟩)
  pC : ∀ j, 1 ≤ j → j < 6 → ∀ p : List Nat, p.length = 6 → (∀ k, k ∈ p → k < 6) → ∀ ai, insRun (ex I.pC (insT insD I.fn ai (insI j)) ⟨[.cells (I.row p) 0], []⟩) =
    .ok (.normal, insWant insD I.fn ai (insI (j - 1)), ⟨[.cells (I.row (swapAt p j)) 0], []⟩)
  r2 : ∀ i, 1 ≤ i → i < 6 → ∀ D H, insRun (ex I.r2 (insT D I.fn (insI i) .any) H) = .ok (.normal, insWant D I.fn (insI (i + 1)) .any, H)
end Ins

theorem swapAt_length (p : List Nat) (j : Nat) : (swapAt p j).length = p.length := by simp [swapAt]

theorem getD_mem6 {p : List Nat} (hp : ∀ k, k ∈ p → k < 6) (j : Nat) : p.getD j 0 < 6 := by
  simp only [List.getD]
  cases h : p[j]? with
  | none => simp
  | some k => exact hp k (List.mem_of_getElem? h)

theorem swapAt_mem {p : List Nat} (hp : ∀ k, k ∈ p → k < 6) (j : Nat) : ∀ k, k ∈ swapAt p j → k < 6 := by
  intro k hk
  unfold swapAt at hk
  rcases List.mem_or_eq_of_mem_set hk with hk | rfl
  · rcases List.mem_or_eq_of_mem_set hk with hk | rfl
    · exact hp k hk
    · exact getD_mem6 hp _
  · exact getD_mem6 hp _

theorem ins_ok (I : Ins) : ∀ (j : Nat) {p : List Nat}, p.length = 6 → (∀ k, k ∈ p → k < 6) → (I.ins j p).length = 6 ∧ ∀ k, k ∈ I.ins j p → k < 6 := by
  intro j
  induction j with
  | zero => intro p h1 h2; exact ⟨h1, h2⟩
  | succ j ih =>
    intro p h1 h2
    unfold Ins.ins
    split
    · exact ih ((swapAt_length p _).trans h1) (swapAt_mem h2 _)
    · exact ⟨h1, h2⟩

section
variable {P : Program} {w w' : World}
variable {n₀ : Nat} {w₀ : World} {S S' : Nat → Prop} {H : AHeap} {φ φ' : Nat → Nat × Nat × Nat} {D : Nat → Prop}

/-- A piece, from border to border. -/
theorem piece_sim {ex : ExecF} (hex : ExecOK P ex) {c : Code} {D0 fn ai aj D0' ai' aj' : AV} {H H' : AHeap} {e : Exit} (hx : insRun (ex c (insT D0 fn ai aj) H) = .ok (e, insWant D0' fn ai' aj', H')) (hf : simpleA fn = true) (hi : simpleA ai' = true) (hj : simpleA aj' = true)
    {a : Act} {Q : Exit → Act → World → Prop} (R : Rel n₀ w₀ w S H φ D) (V : VRL w S H.objs φ (insT D0 fn ai aj) a.tmps)
    (hK : ContX n₀ w₀ w S H φ D (insT D0' fn ai' aj') H' a.defers e Q) : c.wpIn (FW none) 0 P Q a w := by
  obtain ⟨ts, h1, h2⟩ := insRun_ok hx
  refine hex c _ H e ts H' h1 none n₀ w₀ w S φ D a Q (fun l hl => by cases hl) R V ?_
  intro a' w' S' φ' D' R' E' V' M'
  exact hK a' w' S' φ' D' R' E' (insT_conv V' h2 (fun v h => h) hf hi hj) M'

/-- The row's slice, whatever its cells are told to hold. -/
theorem insD_conv {cs cs' : List AV} (hp : φ' 0 = φ 0) {v : Value} (h : VR w S [.cells cs 0] φ insD v) : VR w' S' [.cells cs' 0] φ' insD v := by
  cases h with
  | im h => cases h
  | osl hb hg hl hc he hq =>
    cases hb
    refine .osl (cs := cs') (g' := 0) rfl (Nat.le_refl _) hl hc he (fun e => ?_)
    rw [hp]
    exact hq rfl

/-- The test of the inner loop: the row is only read. -/
theorem test_sim {ex : ExecF} (hex : ExecOK P ex) {c : Code} {cs cw : List AV} {fn ai aj : AV} {e : Exit} (hcs : cs.all atomA = true) (hlen : cw.length = cs.length) (hw : ∀ (i : Nat) (x : AV), cw[i]? = some x → x = .any ∨ cs[i]? = some x)
    (hx : insRun (ex c (insT insD fn ai aj) ⟨[.cells cw 0], [0]⟩) = .ok (e, insWant insD fn ai aj, ⟨[.cells cw 0], [0]⟩)) (hf : simpleA fn = true) (hi : simpleA ai = true) (hj : simpleA aj = true)
    {a : Act} {Q : Exit → Act → World → Prop} (R : Rel n₀ w₀ w S ⟨[.cells cs 0], []⟩ φ D) (V : VRL w S [.cells cs 0] φ (insT insD fn ai aj) a.tmps)
    (hK : ContX n₀ w₀ w S ⟨[.cells cs 0], []⟩ φ D (insT insD fn ai aj) ⟨[.cells cs 0], []⟩ a.defers e Q) : c.wpIn (FW none) 0 P Q a w := by
  obtain ⟨ts, h1, h2⟩ := insRun_ok hx
  have hview : insView (insT insD fn ai aj) = insWant insD fn ai aj := by
    unfold insView insWant insT
    simp [insSlot]
  obtain ⟨Rf, Ef⟩ := freeze_sim R (e := { frz := [0] }) rfl (fun c hc => by
    simp at hc; subst hc
    exact ⟨cs, 0, rfl⟩)
  have hap : (AHeap.apply ⟨[.cells cs 0], []⟩ { frz := [0] }) = ⟨[.cells cs 0], [0]⟩ := rfl
  rw [hap] at Rf Ef
  obtain ⟨C, t, lo, hi', k1, k2, k3, k4, k5⟩ := R.obj 0 _ rfl
  have hnS : ¬ S (φ 0).1 := fun h => by have := k5.2 h; simp at this
  have hSb : frzS S φ [0] (φ 0).1 := .inr ⟨0, by simp, rfl⟩
  have Rw : Rel n₀ w₀ w (frzS S φ [0]) ⟨[.cells cw 0], [0]⟩ φ D := by
    refine ⟨Rf.below, Rf.size, Rf.szS, fun b o h => ?_, fun b o h _ => ?_, fun b b' o o' h h' _ _ _ => ?_, Rf.dfr, fun b h => ?_, Rf.glob⟩
    · cases b with
      | zero =>
        cases h
        obtain ⟨C, t, lo, hi', l1, l2, l3, l4, l5⟩ := Rf.obj 0 _ rfl
        refine ⟨C, t, lo, hi', l1, l2, by rw [hlen]; exact l3, fun i x v p q => ?_, l5⟩
        rcases hw i x p with rfl | hq
        · exact .im .any
        · exact .im ((l4 i x v hq q).atom (List.all_eq_true.1 hcs x (List.mem_of_getElem? hq)))
      | succ b => simp at h
    · cases b with
      | zero => exact R.place 0 _ rfl rfl
      | succ b => simp at h
    · cases b with
      | zero => cases b' with
        | zero => rfl
        | succ b' => simp at h'
      | succ b => simp at h
    · simp at h; subst h; exact ⟨cw, 0, rfl⟩
  have Vw : VRL w (frzS S φ [0]) [.cells cw 0] φ (insT insD fn ai aj) a.tmps := insT_conv V hview (fun v h => insD_conv rfl h) hf hi hj
  refine hex c _ _ e ts _ h1 none n₀ w₀ w _ φ D a Q (fun l hl => by cases hl) Rw Vw ?_
  intro a' w' S1 φ1 D1 R1 E1 V1 M1
  obtain ⟨o', q1, cs', g', q2, q3, q4⟩ := E1.obj 0 _ rfl
  cases q1
  cases q2
  have hφ : φ1 0 = φ 0 := (q4 rfl).1
  have hcell : ∀ b, S b → w'.heap[b]? = w.heap[b]? := fun b hb => E1.cell b (.inl hb)
  have R2 : Rel n₀ w₀ w' S ⟨[.cells cs 0], []⟩ φ1 D1 := by
    refine ⟨R1.below, R1.size, fun b hb => R1.szS b (E1.stab b (.inl hb)), fun b o h => ?_, fun b o h _ => ?_, fun b b' o o' h h' _ _ _ => ?_, fun d hd => ?_, fun b h => (by cases h), R1.glob⟩
    · cases b with
      | zero =>
        cases h
        refine ⟨C, t, lo, hi', ?_, k2, ?_, fun i x v p q => ?_, ?_⟩
        · rw [hφ, E1.cell _ hSb]; exact k1
        · rw [hφ]; exact k3
        · rw [hφ] at q
          exact .im (((k4 i x v p q).atom (List.all_eq_true.1 hcs x (List.mem_of_getElem? p))).mono (fun _ h => h) (fun a ha => cell_of_heap (hcell _ ha) a rfl))
        · rw [hφ]; exact k5
      | succ b => simp at h
    · cases b with
      | zero => rw [hφ]; exact R.place 0 _ rfl rfl
      | succ b => simp at h
    · cases b with
      | zero => cases b' with
        | zero => rfl
        | succ b' => simp at h'
      | succ b => simp at h
    · obtain ⟨l1, l2, l3⟩ := R1.dfr d hd
      exact ⟨l1, fun hs => l2 (E1.stab d (.inl hs)), l3⟩
  have E2 : Ext n₀ w S [.cells cs 0] φ D w' S [.cells cs 0] φ1 D1 := by
    refine ⟨fun _ h => h, fun _ h => .inl h, hcell, fun b o h => ?_, E1.dfr⟩
    cases b with
    | zero => cases h; exact ⟨_, rfl, by rw [hφ]; exact OExt.refl _ _⟩
    | succ b => simp at h
  exact hK a' w' S φ1 D1 R2 E2 (insT_conv V1 h2 (fun v h => insD_conv rfl h) hf hi hj) M1
end
end Go.Abs

namespace Go.Abs
open Go Go.RowKit

section
variable {P : Program} {w w' : World}
variable {n₀ : Nat} {w₀ : World} {S S' : Nat → Prop} {H : AHeap} {φ φ' : Nat → Nat × Nat × Nat} {D : Nat → Prop}

theorem row_atoms {I : Ins} {ex : ExecF} (ok : I.OK ex) {p : List Nat} (hp : ∀ k, k ∈ p → k < 6) : (I.row p).all atomA = true := by
  rw [List.all_eq_true]
  intro x hx
  obtain ⟨k, hk, hx⟩ := List.mem_flatMap.1 hx
  exact List.all_eq_true.1 (ok.len k (hp k hk)).2 x hx

theorem row_length {I : Ins} {ex : ExecF} (ok : I.OK ex) : ∀ {p : List Nat}, (∀ k, k ∈ p → k < 6) → (I.row p).length = 12 * p.length := by
  intro p
  induction p with
  | nil => intro _; rfl
  | cons k p ih =>
    intro hp
    unfold Ins.row at ih ⊢
    rw [List.flatMap_cons, List.length_append, ih (fun q hq => hp q (List.mem_cons_of_mem _ hq)), (ok.len k (hp k List.mem_cons_self)).1, List.length_cons]
    omega

/-- The cells of one element of a row. -/
theorem row_get {I : Ins} {ex : ExecF} (ok : I.OK ex) : ∀ {p : List Nat}, (∀ k, k ∈ p → k < 6) → ∀ (j i k : Nat), p[j]? = some k → i < 12 → (I.row p)[12 * j + i]? = (I.el k)[i]? := by
  intro p
  induction p with
  | nil => intro _ j i k h; simp at h
  | cons q p ih =>
    intro hp j i k h hi
    have hl := (ok.len q (hp q List.mem_cons_self)).1
    unfold Ins.row at ih ⊢
    rw [List.flatMap_cons]
    cases j with
    | zero =>
      simp at h
      subst h
      rw [List.getElem?_append_left (by omega)]
      simp
    | succ j =>
      rw [List.getElem?_append_right (by omega), show 12 * (j + 1) + i - (I.el q).length = 12 * j + i by omega]
      exact ih (fun k hk => hp k (List.mem_cons_of_mem _ hk)) j i k (by simpa using h) hi

theorem two_weak {I : Ins} {ex : ExecF} (ok : I.OK ex) {p : List Nat} (h6 : p.length = 6) (hp : ∀ k, k ∈ p → k < 6) {j : Nat} (h1 : 1 ≤ j) (h2 : j < 6) :
    (I.two j (p.getD j 0) (p.getD (j - 1) 0)).length = (I.row p).length ∧ ∀ (i : Nat) (x : AV), (I.two j (p.getD j 0) (p.getD (j - 1) 0))[i]? = some x → x = .any ∨ (I.row p)[i]? = some x := by
  have lx := (ok.len _ (getD_mem6 hp j)).1
  have ly := (ok.len _ (getD_mem6 hp (j - 1))).1
  have ex_ : p[j]? = some (p.getD j 0) := by simp [List.getD, List.getElem?_eq_getElem (show j < p.length by omega)]
  have ey_ : p[j - 1]? = some (p.getD (j - 1) 0) := by simp [List.getD, List.getElem?_eq_getElem (show j - 1 < p.length by omega)]
  refine ⟨?_, fun i x h => ?_⟩
  · rw [row_length ok hp, h6]
    unfold Ins.two
    simp only [List.length_append, List.length_replicate, lx, ly]
    omega
  · unfold Ins.two at h
    rw [List.append_assoc, List.append_assoc, List.getElem?_append] at h
    split at h
    · exact .inl (List.mem_replicate.1 (List.mem_of_getElem? h)).2
    · rename_i g1
      simp only [List.length_replicate] at g1 h
      rw [List.getElem?_append] at h
      split at h
      · rename_i g2
        have := row_get ok hp (j - 1) (i - 12 * (j - 1)) _ ey_ (by omega)
        rw [show 12 * (j - 1) + (i - 12 * (j - 1)) = i by omega] at this
        exact .inr (this.trans h)
      · rename_i g2
        rw [List.getElem?_append] at h
        split at h
        · rename_i g3
          rw [ly] at g2 h g3
          have := row_get ok hp j (i - 12 * (j - 1) - 12) _ ex_ (by omega)
          rw [show 12 * j + (i - 12 * (j - 1) - 12) = i by omega] at this
          exact .inr (this.trans h)
        · exact .inl (List.mem_replicate.1 (List.mem_of_getElem? h)).2

theorem insI_simple (n : Nat) : simpleA (insI n) = true := rfl

/-- The inner loop. -/
theorem ins_inner {ex : ExecF} (hex : ExecOK P ex) {I : Ins} (ok : I.OK ex) {i : Nat} {Q : Exit → Act → World → Prop} : ∀ (j : Nat), j < 6 → ∀ (p : List Nat), p.length = 6 → (∀ k, k ∈ p → k < 6) →
    ∀ (w : World) (S : Nat → Prop) (φ : Nat → Nat × Nat × Nat) (D : Nat → Prop) (a : Act), Rel n₀ w₀ w S ⟨[.cells (I.row p) 0], []⟩ φ D → VRL w S [.cells (I.row p) 0] φ (insT insD I.fn (insI i) (insI j)) a.tmps →
      ContX n₀ w₀ w S ⟨[.cells (I.row p) 0], []⟩ φ D (insT insD I.fn (insI i) .any) ⟨[.cells (I.row (I.ins j p)) 0], []⟩ a.defers (.exit I.b2) Q →
      Code.roundsIn (FW none) 0 P (.seq I.pB I.pC) Q (j + 1) a w := by
  have hweak : ∀ {w : World} {S : Nat → Prop} {φ : Nat → Nat × Nat × Nat} {cs : List AV} {aj : AV} {T : Array Value}, VRL w S [.cells cs 0] φ (insT insD I.fn (insI i) aj) T → VRL w S [.cells cs 0] φ (insT insD I.fn (insI i) .any) T := by
    intro w S φ cs aj T h
    refine ⟨h.1.symm ▸ (by simp), fun k x v a b => ?_⟩
    obtain ⟨hk, rfl⟩ := insT_get a
    have ha : (insT insD I.fn (insI i) aj)[k]? = some (insSlot insD I.fn (insI i) aj k) := by
      unfold insT
      rw [List.getElem?_map, List.getElem?_range hk]
      rfl
    have := h.2 k _ v ha b
    by_cases h9 : k = 9
    · subst h9; exact .im .any
    · have : insSlot insD I.fn (insI i) .any k = insSlot insD I.fn (insI i) aj k := by
        unfold insSlot
        split <;> first | rfl | exact absurd rfl h9
      rw [this]
      assumption
  intro j
  induction j with
  | zero =>
    intro _ p h6 hp w S φ D a R V hK
    rw [roundsIn_succ]
    refine wpIn_seq (test_sim hex (cs := I.row p) (cw := List.replicate 72 .any) (row_atoms ok hp) (by rw [row_length ok hp, h6]; simp) (fun i x h => .inl (List.mem_replicate.1 (List.mem_of_getElem? h)).2) (ok.pB0 (insI i)) ok.fn rfl rfl R V ?_)
    intro a1 w1 S1 φ1 D1 R1 E1 V1 M1
    exact hK a1 w1 S1 φ1 D1 R1 E1 (hweak V1) M1
  | succ j ih =>
    intro hj p h6 hp w S φ D a R V hK
    rw [roundsIn_succ]
    obtain ⟨hl, hw⟩ := two_weak ok h6 hp (j := j + 1) (by omega) hj
    refine wpIn_seq (test_sim hex (cs := I.row p) (row_atoms ok hp) hl hw (ok.pB (j + 1) (by omega) hj _ _ (getD_mem6 hp _) (getD_mem6 hp _) (insI i)) ok.fn rfl rfl R V ?_)
    intro a1 w1 S1 φ1 D1 R1 E1 V1 M1
    have hlt : I.lt (p.getD (j + 1) 0) (p.getD (j + 1 - 1) 0) = I.lt (p.getD (j + 1) 0) (p.getD j 0) := rfl
    rw [hlt]
    unfold Ins.ins at hK
    by_cases hc : I.lt (p.getD (j + 1) 0) (p.getD j 0) = true
    · rw [if_pos hc] at hK ⊢
      simp only [Exit.then]
      refine piece_sim hex (ok.pC (j + 1) (by omega) hj p h6 hp (insI i)) ok.fn rfl rfl R1 V1 ?_
      intro a2 w2 S2 φ2 D2 R2 E2 V2 M2
      refine ih (by omega) (swapAt p (j + 1)) ((swapAt_length _ _).trans h6) (swapAt_mem hp _) w2 S2 φ2 D2 a2 R2 V2 ?_
      intro a3 w3 S3 φ3 D3 R3 E3 V3 M3
      exact hK a3 w3 S3 φ3 D3 R3 ((E1.trans E2).trans E3) V3 ((M1.trans M2 E1.dfr E2.dfr).trans M3 (fun d h => E2.dfr d (E1.dfr d h)) E3.dfr)
    · rw [if_neg hc] at hK ⊢
      exact hK a1 w1 S1 φ1 D1 R1 E1 (hweak V1) M1

/-- The outer loop. -/
theorem ins_outer {ex : ExecF} (hex : ExecOK P ex) {I : Ins} (ok : I.OK ex) {Q : Exit → Act → World → Prop} : ∀ (m i : Nat), i + m = 6 → 1 ≤ i → ∀ (p : List Nat), p.length = 6 → (∀ k, k ∈ p → k < 6) →
    ∀ (w : World) (S : Nat → Prop) (φ : Nat → Nat × Nat × Nat) (D : Nat → Prop) (a : Act), Rel n₀ w₀ w S ⟨[.cells (I.row p) 0], []⟩ φ D → VRL w S [.cells (I.row p) 0] φ (insT insD I.fn (insI i) .any) a.tmps →
      ContX n₀ w₀ w S ⟨[.cells (I.row p) 0], []⟩ φ D (insT insD I.fn (insI 6) .any) ⟨[.cells (I.row (I.insAll m i p)) 0], []⟩ a.defers (.exit I.b0) Q →
      Code.roundsIn (FW none) 0 P (.seq I.pA (.seq (.block I.b1 (.seq I.r3 (.block I.b2 (.loop (.seq I.pB I.pC))))) I.r2)) Q (m + 1) a w := by
  intro m
  induction m with
  | zero =>
    intro i hi h1 p h6 hp w S φ D a R V hK
    have : i = 6 := by omega
    subst this
    rw [roundsIn_succ]
    refine wpIn_seq (piece_sim hex (ok.pA6 insD _) ok.fn rfl rfl R V ?_)
    intro a1 w1 S1 φ1 D1 R1 E1 V1 M1
    exact hK a1 w1 S1 φ1 D1 R1 E1 V1 M1
  | succ m ih =>
    intro i hi h1 p h6 hp w S φ D a R V hK
    rw [roundsIn_succ]
    refine wpIn_seq (piece_sim hex (ok.pA i h1 (by omega) insD _) ok.fn rfl rfl R V ?_)
    intro a1 w1 S1 φ1 D1 R1 E1 V1 M1
    simp only [Exit.then]
    refine wpIn_seq (wpIn_block (wpIn_seq (piece_sim hex (ok.r3 i h1 (by omega) insD _) ok.fn rfl rfl R1 V1 ?_)))
    intro a2 w2 S2 φ2 D2 R2 E2 V2 M2
    simp only [Exit.then]
    refine wpIn_block (wpIn_loop_rounds (i + 1) (ins_inner hex ok i (by omega) p h6 hp w2 S2 φ2 D2 a2 R2 V2 ?_))
    intro a3 w3 S3 φ3 D3 R3 E3 V3 M3
    simp only [Exit.inBlock, if_true, Exit.then]
    refine piece_sim hex (ok.r2 i h1 (by omega) insD _) ok.fn rfl rfl R3 V3 ?_
    intro a4 w4 S4 φ4 D4 R4 E4 V4 M4
    simp only [Exit.then]
    obtain ⟨q1, q2⟩ := ins_ok I i h6 hp
    refine ih (i + 1) (by omega) (by omega) (I.ins i p) q1 q2 w4 S4 φ4 D4 a4 R4 V4 ?_
    intro a5 w5 S5 φ5 D5 R5 E5 V5 M5
    have E14 := ((E1.trans E2).trans E3).trans E4
    have M14 := ((M1.trans M2 E1.dfr E2.dfr).trans M3 (E1.trans E2).dfr E3.dfr).trans M4 ((E1.trans E2).trans E3).dfr E4.dfr
    exact hK a5 w5 S5 φ5 D5 R5 (E14.trans E5) V5 (M14.trans M5 E14.dfr E5.dfr)

/-- The sort, called over a heap of one row. -/
theorem ins_call {ex : ExecF} (hex : ExecOK P ex) (hng : NoNG P) {I : Ins} (ok : I.OK ex) {k : FuncId} {fn : Func} (hf : P.funcs[k]? = some fn) (hn : fn.ntmps = 53) (hres : fn.results = #[])
    (hbody : fn.body = some (.seq I.r0 (.block I.b0 (.loop (.seq I.pA (.seq (.block I.b1 (.seq I.r3 (.block I.b2 (.loop (.seq I.pB I.pC))))) I.r2)))))) {p : List Nat} (h6 : p.length = 6) (hp : ∀ k, k ∈ p → k < 6) :
    SharedFn P k [insD, insI 0, insI 6, I.fn] ⟨[.cells (I.row p) 0], []⟩ AV.undef ⟨[.cells (I.row (I.insAll 5 1 p)) 0], []⟩ := by
  intro n₀ w₀ w S φ D vs R hvs
  refine ⟨callFunc_enter hf (hng k fn hf) hbody, ?_⟩
  refine (callsIn_wide (n := 0)).1 (callsIn_of_wp_marks hf hbody trivial ?_)
  have hsz : vs.size = 4 := by rw [← hvs.1]; rfl
  have V0 : VRL w S [.cells (I.row p) 0] φ (insT insD I.fn .any .any) (vs ++ Array.replicate (fn.ntmps - vs.size) undef) := by
    refine ⟨by simp [insT, hn, hsz], fun i x v a b => ?_⟩
    obtain ⟨hi, rfl⟩ := insT_get a
    by_cases h4 : i < 4
    · have b : vs[i]? = some v := by
        rw [Array.getElem?_append_left (by omega)] at b
        exact b
      match i, h4 with
      | 0, _ => exact hvs.2 0 _ v rfl b
      | 1, _ => exact hvs.2 1 _ v rfl b
      | 2, _ => exact hvs.2 2 _ v rfl b
      | 3, _ => exact hvs.2 3 _ v rfl b
    · have : insSlot insD I.fn .any .any i = .any := by
        unfold insSlot
        split <;> first | rfl | omega
      rw [this]
      exact .im .any
  refine wpIn_seq (piece_sim hex (ok.r0 insD _) ok.fn rfl rfl R V0 ?_)
  intro a1 w1 S1 φ1 D1 R1 E1 V1 M1
  simp only [Exit.then]
  refine wpIn_block (wpIn_loop_rounds 6 (ins_outer hex ok 5 1 (by omega) (by omega) p h6 hp w1 S1 φ1 D1 a1 R1 V1 ?_))
  intro a2 w2 S2 φ2 D2 R2 E2 V2 M2
  simp only [Exit.inBlock, if_true]
  have E := E1.trans E2
  obtain ⟨ms, hms, hnd, hin⟩ := M1.trans M2 E1.dfr E2.dfr
  have hms : a2.defers = ms.map mark1 := by simpa using hms
  have R3 : Rel n₀ w₀ w2 S2 ⟨[.cells (I.row (I.insAll 5 1 p)) 0], []⟩ φ2 D := R2.drop E.dfr (fun b st pend ts ps as bd hb _ => by
    cases b with
    | zero => cases hb
    | succ b => simp at hb)
  have E3 : Ext n₀ w S [.cells (I.row p) 0] φ D w2 S2 [.cells (I.row (I.insAll 5 1 p)) 0] φ2 D := ⟨E.stab, E.new, E.cell, E.obj, fun _ h => h⟩
  show LeavesInM (FW none) 0 P fn a2.tmps _ a2.defers .returning w2
  rw [hms]
  refine leaves_marks ms R3 hnd (fun q hq => ?_) (fun w3 Rf Ef => ?_)
  · obtain ⟨d1, d2⟩ := hin q hq
    obtain ⟨k1, k2, k3⟩ := R2.dfr q d1
    exact ⟨k1, k2, k3, d2⟩
  · have hr : resultsA P fn (insT insD I.fn (insI 6) .any) ⟨[.cells (I.row (I.insAll 5 1 p)) 0], []⟩ = .ok AV.undef := by
      unfold resultsA
      rw [hres]
      rfl
    obtain ⟨v, k1, k2⟩ := results_sim (P := P) Rf (V2.ext Ef) hr
    exact ⟨v, k1, v, S2, φ2, D, rfl, Rf, E3.trans Ef, k2⟩
end
end Go.Abs

namespace Go.Abs
open Go Go.RowKit

abbrev Hook := FuncId → List AV → AHeap → Option (AV × AHeap)

/-- The call table with some calls on their caller's objects answered by a law. -/
def callH (P : Program) (M : FuncId → Mode) (T : Tbl) (hk : Hook) : Nat → CallF
  | 0 => { pure := fun k => match M k with
             | .shared => none
             | _ => some (onlyT T k)
           shared := fun _ _ _ => fail "fuel of calls" }
  | n + 1 =>
    { pure := fun k => match M k with
        | .shared => none
        | .pure => some (pureT P (exec P (callH P M T hk n) n) T k)
        | .table => some (onlyT T k)
      shared := fun k args H => match hk k args H with
        | some r => .ok r
        | none => bodyA P (exec P (callH P M T hk n) n) k args H }

def HookOK (P : Program) (hk : Hook) : Prop := ∀ k args H r H', hk k args H = some (r, H') → SharedFn P k args H r H'

/-- A row, as the elements' numbers. -/
def idxOf (el : Nat → List AV) (c : List AV) : List Nat → Option Nat
  | [] => none
  | k :: ks => if eqAs (eqA eqFuel) c (el k) then some k else idxOf el c ks

def rowOf (el : Nat → List AV) : Nat → List AV → Option (List Nat)
  | 0, _ => some []
  | n + 1, cs => match idxOf el (cs.take 12) [0, 1, 2, 3, 4, 5] with
    | some k => (match rowOf el n (cs.drop 12) with
      | some p => some (k :: p)
      | none => none)
    | none => none

def sortHook (I : Ins) (k0 : FuncId) : Hook := fun k args H =>
  if Nat.beq k k0 then
    match args, H with
    | [.osl 0 0 0 12 6 6 false, a, b, f], ⟨[.cells cs 0], []⟩ =>
      if eqA eqFuel a (insI 0) && eqA eqFuel b (insI 6) && eqA eqFuel f I.fn then
        match rowOf I.el 6 cs with
        | some p => if Nat.beq p.length 6 && p.all (fun k => Nat.blt k 6) && eqAs (eqA eqFuel) cs (I.row p) then some (AV.undef, ⟨[.cells (I.row (I.insAll 5 1 p)) 0], []⟩) else none
        | none => none
      else none
    | _, _ => none
  else none

section
variable {P : Program}

theorem callH_ok (hm : P.follows .mixedOrders = true) (hng : NoNG P) {M : FuncId → Mode} {T : Tbl} (hT : TblOK P T) {hk : Hook} (hh : HookOK P hk) : ∀ n, PureOK P (callH P M T hk n) ∧ SharedOK P (callH P M T hk n) := by
  intro n
  induction n with
  | zero =>
    refine ⟨fun k g hg args r h => ?_, fun k args H r H' hn h => by cases h⟩
    unfold callH at hg
    simp only at hg
    split at hg
    · cases hg
    · cases hg
      exact onlyT_ok hT h
  | succ n ih =>
    have hex := (exec_sim hm ih.1 ih.2 n).1
    refine ⟨fun k g hg args r h => ?_, fun k args H r H' hn h => ?_⟩
    · unfold callH at hg
      simp only at hg
      split at hg
      · cases hg
      · cases hg
        exact pureT_ok hex hng hT h
      · cases hg
        exact onlyT_ok hT h
    · intro n₀ w₀ w S φ D vs R hvs
      unfold callH at h
      simp only at h
      split at h
      · rename_i r0 hq
        cases h
        exact hh k args H r H' hq n₀ w₀ w S φ D vs R hvs
      · obtain ⟨q1, q2⟩ := body_sim hex hng h R hvs
        refine ⟨q1, Calls.mono' q2 ?_⟩
        rintro _ w' ⟨v, S', φ', rfl, R', E', V'⟩
        exact ⟨v, S', φ', D, rfl, R', E', V'⟩

theorem sortHook_ok {ex : ExecF} (hex : ExecOK P ex) (hng : NoNG P) {I : Ins} (ok : I.OK ex) {k : FuncId} {fn : Func} (hf : P.funcs[k]? = some fn) (hn : fn.ntmps = 53) (hres : fn.results = #[])
    (hbody : fn.body = some (.seq I.r0 (.block I.b0 (.loop (.seq I.pA (.seq (.block I.b1 (.seq I.r3 (.block I.b2 (.loop (.seq I.pB I.pC))))) I.r2)))))) : HookOK P (sortHook I k) := by
  intro k' args H r H' h
  unfold sortHook at h
  split at h
  · rename_i hk
    rw [Nat.eq_of_beq_eq_true hk]
    split at h
    · rename_i a b f cs
      split at h
      · rename_i hq
        simp only [Bool.and_eq_true] at hq
        obtain ⟨⟨q1, q2⟩, q3⟩ := hq
        have q1 := eqA_eq _ _ _ q1
        have q2 := eqA_eq _ _ _ q2
        have q3 := eqA_eq _ _ _ q3
        subst q1 q2 q3
        split at h
        · rename_i p hp
          split at h
          · rename_i hz
            cases h
            simp only [Bool.and_eq_true] at hz
            obtain ⟨⟨z1, z2⟩, z3⟩ := hz
            have z3 := eqAs_eq (eqA_eq _) z3
            subst z3
            refine ins_call hex hng ok hf hn hres hbody (Nat.eq_of_beq_eq_true z1) (fun q hq => ?_)
            have := List.all_eq_true.1 z2 q hq
            unfold Nat.blt at this
            exact Nat.le_of_ble_eq_true this
          · cases h
        · cases h
      · cases h
    · cases h
  · cases h
end
end Go.Abs

