/- Known() of layer 21 hands back true; so does BlockingNil. -/
import Derived.Test.YtbndbhglmbjfgaaGreatDoorAxK
import Derived.Test.YtbndbhglmbjfgaaGreatDoorCk00
import Derived.Test.YtbndbhglmbjfgaaGreatDoorCk01
import Derived.Test.YtbndbhglmbjfgaaGreatDoorCk02
import Derived.Test.YtbndbhglmbjfgaaGreatDoorCk03
import Derived.Test.YtbndbhglmbjfgaaGreatDoorCk04
import Derived.Test.YtbndbhglmbjfgaaGreatDoorCk05
import Derived.Test.YtbndbhglmbjfgaaGreatDoorCk06
import Derived.Test.YtbndbhglmbjfgaaGreatDoorCk07
import Derived.Test.YtbndbhglmbjfgaaGreatDoorCk08
import Derived.Test.YtbndbhglmbjfgaaGreatDoorCk09
import Derived.Test.YtbndbhglmbjfgaaGreatDoorCk10
import Derived.Test.YtbndbhglmbjfgaaGreatDoorCk11
import Derived.Test.YtbndbhglmbjfgaaGreatDoorCk12
import Derived.Test.YtbndbhglmbjfgaaGreatDoorCk13
import Derived.Test.YtbndbhglmbjfgaaGreatDoorCk14
import Derived.Test.YtbndbhglmbjfgaaGreatDoorCk15
import Derived.Test.YtbndbhglmbjfgaaGreatDoorCk16
import Derived.Test.YtbndbhglmbjfgaaGreatDoorCk17
import Derived.Test.YtbndbhglmbjfgaaGreatDoorCk18
import Derived.Test.YtbndbhglmbjfgaaGreatDoorCk19
import Derived.Test.YtbndbhglmbjfgaaGreatDoorCk20
import Derived.Test.YtbndbhglmbjfgaaGreatDoorCk21
import Derived.Test.YtbndbhglmbjfgaaGreatDoorCk22
import Derived.Test.YtbndbhglmbjfgaaGreatDoorCk23
set_option linter.all false
namespace Go.Abs
open Go
theorem allLt_zero (Q : Nat → Prop) : ∀ c, c < 0 → Q c := fun c h => absurd h (Nat.not_lt_zero c)
theorem allLt_succ {n : Nat} {Q : Nat → Prop} (h : ∀ c, c < n → Q c) (k : Q n) : ∀ c, c < n + 1 → Q c := fun c hc =>
  (Nat.lt_succ_iff_lt_or_eq.1 hc).elim (h c) (fun e => e ▸ k)
end Go.Abs
namespace Go.Abs.Known
open Go Go.Abs Go.Proofs
theorem tblOK : TblOK Tryz.prog (tblOf tab 120) := by
  have a0 := allLt_zero (StepOK Tryz.prog tab)
  have a1 := allLt_succ a0 step0
  have a2 := allLt_succ a1 (chunk_step mixed nong chunk1)
  have a3 := allLt_succ a2 (chunk_step mixed nong chunk2)
  have a4 := allLt_succ a3 (chunk_step mixed nong chunk3)
  have a5 := allLt_succ a4 (chunk_step mixed nong chunk4)
  have a6 := allLt_succ a5 (chunk_step mixed nong chunk5)
  have a7 := allLt_succ a6 (chunk_step mixed nong chunk6)
  have a8 := allLt_succ a7 (chunk_step mixed nong chunk7)
  have a9 := allLt_succ a8 (chunk_step mixed nong chunk8)
  have a10 := allLt_succ a9 (chunk_step mixed nong chunk9)
  have a11 := allLt_succ a10 (chunk_step mixed nong chunk10)
  have a12 := allLt_succ a11 (chunk_step mixed nong chunk11)
  have a13 := allLt_succ a12 (chunk_step mixed nong chunk12)
  have a14 := allLt_succ a13 (chunk_step mixed nong chunk13)
  have a15 := allLt_succ a14 (chunk_step mixed nong chunk14)
  have a16 := allLt_succ a15 (chunk_step mixed nong chunk15)
  have a17 := allLt_succ a16 (chunk_step mixed nong chunk16)
  have a18 := allLt_succ a17 (chunk_step mixed nong chunk17)
  have a19 := allLt_succ a18 (chunk_step mixed nong chunk18)
  have a20 := allLt_succ a19 (chunk_step mixed nong chunk19)
  have a21 := allLt_succ a20 (chunk_step mixed nong chunk20)
  have a22 := allLt_succ a21 (chunk_step mixed nong chunk21)
  have a23 := allLt_succ a22 (chunk_step mixed nong chunk22)
  have a24 := allLt_succ a23 (chunk_step mixed nong chunk23)
  have a25 := allLt_succ a24 (chunk_step mixed nong chunk24)
  have a26 := allLt_succ a25 (chunk_step mixed nong chunk25)
  have a27 := allLt_succ a26 (chunk_step mixed nong chunk26)
  have a28 := allLt_succ a27 (chunk_step mixed nong chunk27)
  have a29 := allLt_succ a28 (chunk_step mixed nong chunk28)
  have a30 := allLt_succ a29 (chunk_step mixed nong chunk29)
  have a31 := allLt_succ a30 (chunk_step mixed nong chunk30)
  have a32 := allLt_succ a31 (chunk_step mixed nong chunk31)
  have a33 := allLt_succ a32 (chunk_step mixed nong chunk32)
  have a34 := allLt_succ a33 (chunk_step mixed nong chunk33)
  have a35 := allLt_succ a34 (chunk_step mixed nong chunk34)
  have a36 := allLt_succ a35 (chunk_step mixed nong chunk35)
  have a37 := allLt_succ a36 (chunk_step mixed nong chunk36)
  have a38 := allLt_succ a37 (chunk_step mixed nong chunk37)
  have a39 := allLt_succ a38 (chunk_step mixed nong chunk38)
  have a40 := allLt_succ a39 (chunk_step mixed nong chunk39)
  have a41 := allLt_succ a40 (chunk_step mixed nong chunk40)
  have a42 := allLt_succ a41 (chunk_step mixed nong chunk41)
  have a43 := allLt_succ a42 (chunk_step mixed nong chunk42)
  have a44 := allLt_succ a43 (chunk_step mixed nong chunk43)
  have a45 := allLt_succ a44 (chunk_step mixed nong chunk44)
  have a46 := allLt_succ a45 (chunk_step mixed nong chunk45)
  have a47 := allLt_succ a46 (chunk_step mixed nong chunk46)
  have a48 := allLt_succ a47 (chunk_step mixed nong chunk47)
  have a49 := allLt_succ a48 (chunk_step mixed nong chunk48)
  have a50 := allLt_succ a49 (chunk_step mixed nong chunk49)
  have a51 := allLt_succ a50 (chunk_step mixed nong chunk50)
  have a52 := allLt_succ a51 (chunk_step mixed nong chunk51)
  have a53 := allLt_succ a52 (chunk_step mixed nong chunk52)
  have a54 := allLt_succ a53 (chunk_step mixed nong chunk53)
  have a55 := allLt_succ a54 (chunk_step mixed nong chunk54)
  have a56 := allLt_succ a55 (chunk_step mixed nong chunk55)
  have a57 := allLt_succ a56 (chunk_step mixed nong chunk56)
  have a58 := allLt_succ a57 (chunk_step mixed nong chunk57)
  have a59 := allLt_succ a58 (chunk_step mixed nong chunk58)
  have a60 := allLt_succ a59 (chunk_step mixed nong chunk59)
  have a61 := allLt_succ a60 (chunk_step mixed nong chunk60)
  have a62 := allLt_succ a61 (chunk_step mixed nong chunk61)
  have a63 := allLt_succ a62 (chunk_step mixed nong chunk62)
  have a64 := allLt_succ a63 (chunk_step mixed nong chunk63)
  have a65 := allLt_succ a64 (chunk_step mixed nong chunk64)
  have a66 := allLt_succ a65 (chunk_step mixed nong chunk65)
  have a67 := allLt_succ a66 (chunk_step mixed nong chunk66)
  have a68 := allLt_succ a67 (chunk_step mixed nong chunk67)
  have a69 := allLt_succ a68 (chunk_step mixed nong chunk68)
  have a70 := allLt_succ a69 (chunk_step mixed nong chunk69)
  have a71 := allLt_succ a70 (chunk_step mixed nong chunk70)
  have a72 := allLt_succ a71 (chunk_step mixed nong chunk71)
  have a73 := allLt_succ a72 (chunk_step mixed nong chunk72)
  have a74 := allLt_succ a73 (chunk_step mixed nong chunk73)
  have a75 := allLt_succ a74 (chunk_step mixed nong chunk74)
  have a76 := allLt_succ a75 (chunk_step mixed nong chunk75)
  have a77 := allLt_succ a76 (chunk_step mixed nong chunk76)
  have a78 := allLt_succ a77 (chunk_step mixed nong chunk77)
  have a79 := allLt_succ a78 (chunk_step mixed nong chunk78)
  have a80 := allLt_succ a79 (chunk_step mixed nong chunk79)
  have a81 := allLt_succ a80 (chunk_step mixed nong chunk80)
  have a82 := allLt_succ a81 (chunk_step mixed nong chunk81)
  have a83 := allLt_succ a82 (chunk_step mixed nong chunk82)
  have a84 := allLt_succ a83 (chunk_step mixed nong chunk83)
  have a85 := allLt_succ a84 (chunk_step mixed nong chunk84)
  have a86 := allLt_succ a85 (chunk_step mixed nong chunk85)
  have a87 := allLt_succ a86 (chunk_step mixed nong chunk86)
  have a88 := allLt_succ a87 (chunk_step mixed nong chunk87)
  have a89 := allLt_succ a88 (chunk_step mixed nong chunk88)
  have a90 := allLt_succ a89 (chunk_step mixed nong chunk89)
  have a91 := allLt_succ a90 (chunk_step mixed nong chunk90)
  have a92 := allLt_succ a91 (chunk_step mixed nong chunk91)
  have a93 := allLt_succ a92 (chunk_step mixed nong chunk92)
  have a94 := allLt_succ a93 (chunk_step mixed nong chunk93)
  have a95 := allLt_succ a94 (chunk_step mixed nong chunk94)
  have a96 := allLt_succ a95 (chunk_step mixed nong chunk95)
  have a97 := allLt_succ a96 (chunk_step mixed nong chunk96)
  have a98 := allLt_succ a97 (chunk_step mixed nong chunk97)
  have a99 := allLt_succ a98 (chunk_step mixed nong chunk98)
  have a100 := allLt_succ a99 (chunk_step mixed nong chunk99)
  have a101 := allLt_succ a100 (chunk_step mixed nong chunk100)
  have a102 := allLt_succ a101 (chunk_step mixed nong chunk101)
  have a103 := allLt_succ a102 (chunk_step mixed nong chunk102)
  have a104 := allLt_succ a103 (chunk_step mixed nong chunk103)
  have a105 := allLt_succ a104 (chunk_step mixed nong chunk104)
  have a106 := allLt_succ a105 step105
  have a107 := allLt_succ a106 (chunk_step mixed nong chunk106)
  have a108 := allLt_succ a107 (chunk_step mixed nong chunk107)
  have a109 := allLt_succ a108 (chunk_step mixed nong chunk108)
  have a110 := allLt_succ a109 (chunk_step mixed nong chunk109)
  have a111 := allLt_succ a110 (chunk_step mixed nong chunk110)
  have a112 := allLt_succ a111 (chunk_step mixed nong chunk111)
  have a113 := allLt_succ a112 (chunk_step mixed nong chunk112)
  have a114 := allLt_succ a113 (chunk_step mixed nong chunk113)
  have a115 := allLt_succ a114 (chunk_step mixed nong chunk114)
  have a116 := allLt_succ a115 (chunk_step mixed nong chunk115)
  have a117 := allLt_succ a116 (chunk_step mixed nong chunk116)
  have a118 := allLt_succ a117 (chunk_step mixed nong chunk117)
  have a119 := allLt_succ a118 (chunk_step mixed nong chunk118)
  have a120 := allLt_succ a119 (chunk_step mixed nong chunk119)
  exact tbl_ok 120 a120
theorem known_entry : EntryOK Tryz.prog 13 [] T := tblOK 13 [] T (by kernel_rfl)
end Go.Abs.Known

namespace Go.Abs
open Go Go.RowKit

/-- A pure call's last piece. -/
def finA (P : Program) (fn : Func) (x : R (Exit × List AV × AHeap)) : R AV :=
  match x with
  | .ok (.normal, ts, H) | .ok (.ret, ts, H) =>
    if H.objs.all spent then do
      let r ← resultsA P fn ts H
      let (r', _) ← imm H immFuel r
      pure r'
    else fail "a loop that goes on"
  | _ => fail "the end"

section
variable {P : Program} {w : World}
variable {n₀ : Nat} {w₀ : World} {S : Nat → Prop} {H : AHeap} {φ : Nat → Nat × Nat × Nat} {D : Nat → Prop}

theorem finA_sim {ex : ExecF} (hex : ExecOK P ex) {fn : Func} {c : Code} {ts : List AV} {r : AV} (h : finA P fn (ex c ts H) = .ok r) {Sw : Nat → Prop} {a : Act} (R : Rel n₀ w₀ w S H φ D) (V : VRL w S H.objs φ ts a.tmps)
    (hM : Marks [] a.defers (fun _ => False) D) (h1 : ∀ b, Sw b → S b) (h2 : ∀ b, S b → Sw b ∨ n₀ ≤ b) : c.wpIn (FW none) 0 P (bodyPostM (FW none) 0 P fn (EndOK n₀ w₀ Sw r)) a w := by
  have key : ∀ e ts3 H3, ex c ts H = .ok (e, ts3, H3) → (e = .normal ∨ e = .ret) → (if H3.objs.all spent then do
      let r ← resultsA P fn ts3 H3
      let (r', _) ← imm H3 immFuel r
      pure r'
    else fail "a loop that goes on") = (.ok r : Go.Abs.R AV) → c.wpIn (FW none) 0 P (bodyPostM (FW none) 0 P fn (EndOK n₀ w₀ Sw r)) a w := by
    intro e ts3 H3 hx he hy
    split at hy
    · rename_i hsp
      replace hy := bind_ok hy
      obtain ⟨r1, hr1, hy⟩ := hy
      replace hy := bind_ok hy
      obtain ⟨⟨r2, bs⟩, hr2, hy⟩ := hy
      have hy := pure_ok hy
      subst hy
      refine hex c ts H e ts3 H3 hx none n₀ w₀ w S φ D a _ (fun l hl => by cases hl) R V ?_
      intro a3 w3 S3 φ3 D3 R3 E3 V3 M3
      have hM3 : Marks [] a3.defers (fun _ => False) D3 := hM.trans M3 (fun _ h => h.elim) E3.dfr
      have hq := leave_pure (Sw := Sw) R3 V3 hM3 hsp (fun b hb => E3.stab b (h1 b hb)) (fun b hb => (E3.new b hb).elim (h2 b) .inr) hr1 hr2
      rcases he with rfl | rfl
      · exact hq
      · exact hq
    · cases hy
  unfold finA at h
  split at h
  · rename_i ts3 H3 hx
    exact key _ ts3 H3 hx (.inl rfl) h
  · rename_i ts3 H3 hx
    exact key _ ts3 H3 hx (.inr rfl) h
  · cases h

/-- A body that parts once: ahead of the test, the test, and both ways. -/
theorem parts_entry {ex : ExecF} (hex : ExecOK P ex) (hng : NoNG P) {k : FuncId} {fn : Func} (hf : P.funcs[k]? = some fn) {p0 p1 x rest : Code} {c : Operand} (hbody : fn.body = some (.seq p0 (.seq (.seq p1 (.cond c x .skip)) rest)))
    {args ts0 ts : List AV} {H0 H : AHeap} {r : AV} {t : Bool} (hp0 : ex p0 (args ++ List.replicate (fn.ntmps - args.length) AV.undef) AHeap.empty = .ok (.normal, ts0, H0)) (hp1 : ex p1 ts0 H0 = .ok (.normal, ts, H)) (hc : evalOp ts c = .sc (.bool t))
    (hx : t = true → ∃ ts', finA P fn (ex x ts H) = .ok r ∧ ex x ts H = .ok ts' ∧ ts'.1 = .ret) (hr : t = false → finA P fn (ex rest ts H) = .ok r) : EntryOK P k args r := by
  intro w S vs hS hG hvs
  refine .inl ⟨callFunc_enter hf (hng k _ hf) hbody, ?_⟩
  have main : Calls P k vs w (EndOK w.heap.size w S r) := by
    refine (callsIn_wide (n := 0)).1 (callsIn_of_wp_marks hf hbody trivial ?_)
    have hts : VRL w S AHeap.empty.objs (fun _ => (0, 0, 0)) (args ++ List.replicate (fn.ntmps - args.length) AV.undef) (vs ++ Array.replicate (fn.ntmps - vs.size) undef) := by
      rw [hvs.1]
      exact (IVRL.vrl hvs).append (VRL.undefs _)
    refine wpIn_seq (hex p0 _ _ .normal ts0 H0 hp0 none _ _ w S _ _ { tmps := vs ++ Array.replicate (fn.ntmps - vs.size) undef, defers := [] } _ (fun l hl => by cases hl) (rel_empty hS hG (fun _ => (0, 0, 0))) hts ?_)
    intro a1 w1 S1 φ1 D1 R1 E1 V1 M1
    simp only [Exit.then]
    refine wpIn_seq (wpIn_seq (hex p1 _ _ .normal ts H hp1 none _ _ w1 S1 φ1 D1 a1 _ (fun l hl => by cases hl) R1 V1 ?_))
    intro a2 w2 S2 φ2 D2 R2 E2 V2 M2
    simp only [Exit.then]
    have hcv : a2.eval c = .bool t := by
      have := evalOp_VR V2 c
      rw [hc] at this
      exact this.sc_inv.1
    have hM : Marks [] a2.defers (fun _ => False) D2 := M1.trans M2 (fun _ h => h.elim) E2.dfr
    have h1 : ∀ b, S b → S2 b := fun b hb => E2.stab b (E1.stab b hb)
    have h2 : ∀ b, S2 b → S b ∨ w.heap.size ≤ b := fun b hb => (E2.new b hb).elim (E1.new b) .inr
    refine wpIn_cond hcv ?_
    cases t with
    | true =>
      obtain ⟨⟨e, ts', H'⟩, g1, g2, g3⟩ := hx rfl
      simp only at g3
      subst g3
      rw [if_pos rfl]
      refine hex x ts H .ret ts' H' g2 none _ _ w2 S2 φ2 D2 a2 _ (fun l hl => by cases hl) R2 V2 ?_
      intro a3 w3 S3 φ3 D3 R3 E3 V3 M3
      unfold finA at g1
      rw [g2] at g1
      simp only at g1
      split at g1
      · rename_i hsp
        replace g1 := bind_ok g1
        obtain ⟨r1, hr1, g1⟩ := g1
        replace g1 := bind_ok g1
        obtain ⟨⟨r2, bs⟩, hr2, g1⟩ := g1
        have g1 := pure_ok g1
        subst g1
        exact leave_pure (Sw := S) R3 V3 (hM.trans M3 (fun _ h => h.elim) E3.dfr) hsp (fun b hb => E3.stab b (h1 b hb)) (fun b hb => (E3.new b hb).elim (h2 b) .inr) hr1 hr2
      · cases g1
    | false =>
      rw [if_neg (by simp)]
      refine wpIn_skip ?_
      exact finA_sim hex (hr rfl) R2 V2 hM h1 h2
  exact main
end
end Go.Abs

namespace Go.Abs.Known
open Go Go.Abs Go.Proofs
section
variable (P : Program)
def fnN : Func := (P.funcs[12]?).getD default
def bodyN : Code := (fnN P).body.getD .skip
def pN0 : Code := match bodyN P with | .seq a _ => a | _ => .skip
def pN1 : Code := match bodyN P with | .seq _ (.seq (.seq a _) _) => a | _ => .skip
def cN : Operand := match bodyN P with | .seq _ (.seq (.seq _ (.cond c _ _)) _) => c | _ => .tmp 0
def xN : Code := match bodyN P with | .seq _ (.seq (.seq _ (.cond _ x _)) _) => x | _ => .skip
def restN : Code := match bodyN P with | .seq _ (.seq _ r) => r | _ => .skip
def exA : ExecF := exec P (callT P mode (tblOf tab 120) fuel) fuel
def state (x : Go.Abs.R (Exit × List AV × AHeap)) : List AV × AHeap := match x with | .ok (_, s) => s | .error _ => ([], AHeap.empty)
def argsN (n : Nat) : List AV := [.isl [] n n false, .any]
def stN0 (n : Nat) : List AV × AHeap := state (exA P (pN0 P) (argsN n ++ List.replicate ((fnN P).ntmps - (argsN n).length) AV.undef) AHeap.empty)
def stN1 (n : Nat) : List AV × AHeap := state (exA P (pN1 P) (stN0 P n).1 (stN0 P n).2)
def exitOf (x : Go.Abs.R (Exit × List AV × AHeap)) : Option Exit := match x with | .ok (e, _) => some e | .error _ => none
end

theorem fN : Tryz.prog.funcs[12]? = some (fnN Tryz.prog) := by kernel_rfl
theorem bN : (fnN Tryz.prog).body = some (.seq (pN0 Tryz.prog) (.seq (.seq (pN1 Tryz.prog) (.cond (cN Tryz.prog) (xN Tryz.prog) .skip)) (restN Tryz.prog))) := by kernel_rfl
theorem kN0 (n : Nat) : exA Tryz.prog (pN0 Tryz.prog) (argsN n ++ List.replicate ((fnN Tryz.prog).ntmps - (argsN n).length) AV.undef) AHeap.empty = .ok (.normal, (stN0 Tryz.prog n).1, (stN0 Tryz.prog n).2) := by kernel_rfl
theorem kN1 (n : Nat) : exA Tryz.prog (pN1 Tryz.prog) (stN0 Tryz.prog n).1 (stN0 Tryz.prog n).2 = .ok (.normal, (stN1 Tryz.prog n).1, (stN1 Tryz.prog n).2) := by kernel_rfl
theorem kNc (n : Nat) : evalOp (stN1 Tryz.prog n).1 (cN Tryz.prog) = .sc (.bool (decide ((n : Int) > 10))) := by kernel_rfl
theorem kNx (n : Nat) : finA Tryz.prog (fnN Tryz.prog) (exA Tryz.prog (xN Tryz.prog) (stN1 Tryz.prog n).1 (stN1 Tryz.prog n).2) = .ok T := by kernel_rfl
theorem kNe (n : Nat) : exitOf (exA Tryz.prog (xN Tryz.prog) (stN1 Tryz.prog n).1 (stN1 Tryz.prog n).2) = some .ret := by kernel_rfl
theorem kNr (n : Nat) : finA Tryz.prog (fnN Tryz.prog) (exA Tryz.prog (restN Tryz.prog) (stN1 Tryz.prog n).1 (stN1 Tryz.prog n).2) = .ok T := by kernel_rfl

theorem exA_ok : ExecOK Tryz.prog (exA Tryz.prog) := by
  have h := callT_ok mixed nong (M := mode) tblOK fuel
  exact (exec_sim mixed h.1 h.2 fuel).1

theorem nil_entry (n : Nat) : EntryOK Tryz.prog 12 (argsN n) T := by
  refine parts_entry exA_ok nong fN bN (kN0 n) (kN1 n) (kNc n) (fun _ => ?_) (fun _ => kNr n)
  have he := kNe n
  cases hx : exA Tryz.prog (xN Tryz.prog) (stN1 Tryz.prog n).1 (stN1 Tryz.prog n).2 with
  | error s => rw [hx] at he; cases he
  | ok q =>
    rw [hx] at he
    refine ⟨q, by rw [← hx]; exact kNx n, rfl, ?_⟩
    obtain ⟨e, s⟩ := q
    simp only [exitOf, Option.some.injEq] at he
    exact he

theorem nil_entry0 : EntryOK Tryz.prog 12 [N, .any] T := evalT_ok mixed nong (M := mode) tblOK (N := fuel) (by kernel_rfl)
end Go.Abs.Known

