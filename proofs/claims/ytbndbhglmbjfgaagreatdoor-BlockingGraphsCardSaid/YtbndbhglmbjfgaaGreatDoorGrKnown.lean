/- Known() of layer 21 hands back true. -/
import Derived.Test.YtbndbhglmbjfgaaGreatDoorGrAxK
import Derived.Test.YtbndbhglmbjfgaaGreatDoorGrCk00
import Derived.Test.YtbndbhglmbjfgaaGreatDoorGrCk01
import Derived.Test.YtbndbhglmbjfgaaGreatDoorGrCk02
import Derived.Test.YtbndbhglmbjfgaaGreatDoorGrCk03
import Derived.Test.YtbndbhglmbjfgaaGreatDoorGrCk04
import Derived.Test.YtbndbhglmbjfgaaGreatDoorGrCk05
import Derived.Test.YtbndbhglmbjfgaaGreatDoorGrCk06
import Derived.Test.YtbndbhglmbjfgaaGreatDoorGrCk07
import Derived.Test.YtbndbhglmbjfgaaGreatDoorGrCk08
import Derived.Test.YtbndbhglmbjfgaaGreatDoorGrCk09
import Derived.Test.YtbndbhglmbjfgaaGreatDoorGrCk10
import Derived.Test.YtbndbhglmbjfgaaGreatDoorGrCk11
import Derived.Test.YtbndbhglmbjfgaaGreatDoorGrCk12
import Derived.Test.YtbndbhglmbjfgaaGreatDoorGrCk13
import Derived.Test.YtbndbhglmbjfgaaGreatDoorGrCk14
import Derived.Test.YtbndbhglmbjfgaaGreatDoorGrCk15
import Derived.Test.YtbndbhglmbjfgaaGreatDoorGrCk16
import Derived.Test.YtbndbhglmbjfgaaGreatDoorGrCk17
import Derived.Test.YtbndbhglmbjfgaaGreatDoorGrCk18
import Derived.Test.YtbndbhglmbjfgaaGreatDoorGrCk19
import Derived.Test.YtbndbhglmbjfgaaGreatDoorGrCk20
import Derived.Test.YtbndbhglmbjfgaaGreatDoorGrCk21
import Derived.Test.YtbndbhglmbjfgaaGreatDoorGrCk22
import Derived.Test.YtbndbhglmbjfgaaGreatDoorGrCk23
set_option linter.all false
namespace Go.Abs
open Go
theorem allLt_zero (Q : Nat → Prop) : ∀ c, c < 0 → Q c := fun c h => absurd h (Nat.not_lt_zero c)
theorem allLt_succ {n : Nat} {Q : Nat → Prop} (h : ∀ c, c < n → Q c) (k : Q n) : ∀ c, c < n + 1 → Q c := fun c hc =>
  (Nat.lt_succ_iff_lt_or_eq.1 hc).elim (h c) (fun e => e ▸ k)
end Go.Abs
namespace Go.Abs.Known
open Go Go.Abs Go.Proofs
theorem tblOK : TblOK Tryz.prog (tblOf tab 120) := by
  have a0 := allLt_zero (StepOK Tryz.prog tab)
  have a1 := allLt_succ a0 step0
  have a2 := allLt_succ a1 (chunk_step mixed nong chunk1)
  have a3 := allLt_succ a2 (chunk_step mixed nong chunk2)
  have a4 := allLt_succ a3 (chunk_step mixed nong chunk3)
  have a5 := allLt_succ a4 (chunk_step mixed nong chunk4)
  have a6 := allLt_succ a5 (chunk_step mixed nong chunk5)
  have a7 := allLt_succ a6 (chunk_step mixed nong chunk6)
  have a8 := allLt_succ a7 (chunk_step mixed nong chunk7)
  have a9 := allLt_succ a8 (chunk_step mixed nong chunk8)
  have a10 := allLt_succ a9 (chunk_step mixed nong chunk9)
  have a11 := allLt_succ a10 (chunk_step mixed nong chunk10)
  have a12 := allLt_succ a11 (chunk_step mixed nong chunk11)
  have a13 := allLt_succ a12 (chunk_step mixed nong chunk12)
  have a14 := allLt_succ a13 (chunk_step mixed nong chunk13)
  have a15 := allLt_succ a14 (chunk_step mixed nong chunk14)
  have a16 := allLt_succ a15 (chunk_step mixed nong chunk15)
  have a17 := allLt_succ a16 (chunk_step mixed nong chunk16)
  have a18 := allLt_succ a17 (chunk_step mixed nong chunk17)
  have a19 := allLt_succ a18 (chunk_step mixed nong chunk18)
  have a20 := allLt_succ a19 (chunk_step mixed nong chunk19)
  have a21 := allLt_succ a20 (chunk_step mixed nong chunk20)
  have a22 := allLt_succ a21 (chunk_step mixed nong chunk21)
  have a23 := allLt_succ a22 (chunk_step mixed nong chunk22)
  have a24 := allLt_succ a23 (chunk_step mixed nong chunk23)
  have a25 := allLt_succ a24 (chunk_step mixed nong chunk24)
  have a26 := allLt_succ a25 (chunk_step mixed nong chunk25)
  have a27 := allLt_succ a26 (chunk_step mixed nong chunk26)
  have a28 := allLt_succ a27 (chunk_step mixed nong chunk27)
  have a29 := allLt_succ a28 (chunk_step mixed nong chunk28)
  have a30 := allLt_succ a29 (chunk_step mixed nong chunk29)
  have a31 := allLt_succ a30 (chunk_step mixed nong chunk30)
  have a32 := allLt_succ a31 (chunk_step mixed nong chunk31)
  have a33 := allLt_succ a32 (chunk_step mixed nong chunk32)
  have a34 := allLt_succ a33 (chunk_step mixed nong chunk33)
  have a35 := allLt_succ a34 (chunk_step mixed nong chunk34)
  have a36 := allLt_succ a35 (chunk_step mixed nong chunk35)
  have a37 := allLt_succ a36 (chunk_step mixed nong chunk36)
  have a38 := allLt_succ a37 (chunk_step mixed nong chunk37)
  have a39 := allLt_succ a38 (chunk_step mixed nong chunk38)
  have a40 := allLt_succ a39 (chunk_step mixed nong chunk39)
  have a41 := allLt_succ a40 (chunk_step mixed nong chunk40)
  have a42 := allLt_succ a41 (chunk_step mixed nong chunk41)
  have a43 := allLt_succ a42 (chunk_step mixed nong chunk42)
  have a44 := allLt_succ a43 (chunk_step mixed nong chunk43)
  have a45 := allLt_succ a44 (chunk_step mixed nong chunk44)
  have a46 := allLt_succ a45 (chunk_step mixed nong chunk45)
  have a47 := allLt_succ a46 (chunk_step mixed nong chunk46)
  have a48 := allLt_succ a47 (chunk_step mixed nong chunk47)
  have a49 := allLt_succ a48 (chunk_step mixed nong chunk48)
  have a50 := allLt_succ a49 (chunk_step mixed nong chunk49)
  have a51 := allLt_succ a50 (chunk_step mixed nong chunk50)
  have a52 := allLt_succ a51 (chunk_step mixed nong chunk51)
  have a53 := allLt_succ a52 (chunk_step mixed nong chunk52)
  have a54 := allLt_succ a53 (chunk_step mixed nong chunk53)
  have a55 := allLt_succ a54 (chunk_step mixed nong chunk54)
  have a56 := allLt_succ a55 (chunk_step mixed nong chunk55)
  have a57 := allLt_succ a56 (chunk_step mixed nong chunk56)
  have a58 := allLt_succ a57 (chunk_step mixed nong chunk57)
  have a59 := allLt_succ a58 (chunk_step mixed nong chunk58)
  have a60 := allLt_succ a59 (chunk_step mixed nong chunk59)
  have a61 := allLt_succ a60 (chunk_step mixed nong chunk60)
  have a62 := allLt_succ a61 (chunk_step mixed nong chunk61)
  have a63 := allLt_succ a62 (chunk_step mixed nong chunk62)
  have a64 := allLt_succ a63 (chunk_step mixed nong chunk63)
  have a65 := allLt_succ a64 (chunk_step mixed nong chunk64)
  have a66 := allLt_succ a65 (chunk_step mixed nong chunk65)
  have a67 := allLt_succ a66 (chunk_step mixed nong chunk66)
  have a68 := allLt_succ a67 (chunk_step mixed nong chunk67)
  have a69 := allLt_succ a68 (chunk_step mixed nong chunk68)
  have a70 := allLt_succ a69 (chunk_step mixed nong chunk69)
  have a71 := allLt_succ a70 (chunk_step mixed nong chunk70)
  have a72 := allLt_succ a71 (chunk_step mixed nong chunk71)
  have a73 := allLt_succ a72 (chunk_step mixed nong chunk72)
  have a74 := allLt_succ a73 (chunk_step mixed nong chunk73)
  have a75 := allLt_succ a74 (chunk_step mixed nong chunk74)
  have a76 := allLt_succ a75 (chunk_step mixed nong chunk75)
  have a77 := allLt_succ a76 (chunk_step mixed nong chunk76)
  have a78 := allLt_succ a77 (chunk_step mixed nong chunk77)
  have a79 := allLt_succ a78 (chunk_step mixed nong chunk78)
  have a80 := allLt_succ a79 (chunk_step mixed nong chunk79)
  have a81 := allLt_succ a80 (chunk_step mixed nong chunk80)
  have a82 := allLt_succ a81 (chunk_step mixed nong chunk81)
  have a83 := allLt_succ a82 (chunk_step mixed nong chunk82)
  have a84 := allLt_succ a83 (chunk_step mixed nong chunk83)
  have a85 := allLt_succ a84 (chunk_step mixed nong chunk84)
  have a86 := allLt_succ a85 (chunk_step mixed nong chunk85)
  have a87 := allLt_succ a86 (chunk_step mixed nong chunk86)
  have a88 := allLt_succ a87 (chunk_step mixed nong chunk87)
  have a89 := allLt_succ a88 (chunk_step mixed nong chunk88)
  have a90 := allLt_succ a89 (chunk_step mixed nong chunk89)
  have a91 := allLt_succ a90 (chunk_step mixed nong chunk90)
  have a92 := allLt_succ a91 (chunk_step mixed nong chunk91)
  have a93 := allLt_succ a92 (chunk_step mixed nong chunk92)
  have a94 := allLt_succ a93 (chunk_step mixed nong chunk93)
  have a95 := allLt_succ a94 (chunk_step mixed nong chunk94)
  have a96 := allLt_succ a95 (chunk_step mixed nong chunk95)
  have a97 := allLt_succ a96 (chunk_step mixed nong chunk96)
  have a98 := allLt_succ a97 (chunk_step mixed nong chunk97)
  have a99 := allLt_succ a98 (chunk_step mixed nong chunk98)
  have a100 := allLt_succ a99 (chunk_step mixed nong chunk99)
  have a101 := allLt_succ a100 (chunk_step mixed nong chunk100)
  have a102 := allLt_succ a101 (chunk_step mixed nong chunk101)
  have a103 := allLt_succ a102 (chunk_step mixed nong chunk102)
  have a104 := allLt_succ a103 (chunk_step mixed nong chunk103)
  have a105 := allLt_succ a104 (chunk_step mixed nong chunk104)
  have a106 := allLt_succ a105 step105
  have a107 := allLt_succ a106 (chunk_step mixed nong chunk106)
  have a108 := allLt_succ a107 (chunk_step mixed nong chunk107)
  have a109 := allLt_succ a108 (chunk_step mixed nong chunk108)
  have a110 := allLt_succ a109 (chunk_step mixed nong chunk109)
  have a111 := allLt_succ a110 (chunk_step mixed nong chunk110)
  have a112 := allLt_succ a111 (chunk_step mixed nong chunk111)
  have a113 := allLt_succ a112 (chunk_step mixed nong chunk112)
  have a114 := allLt_succ a113 (chunk_step mixed nong chunk113)
  have a115 := allLt_succ a114 (chunk_step mixed nong chunk114)
  have a116 := allLt_succ a115 (chunk_step mixed nong chunk115)
  have a117 := allLt_succ a116 (chunk_step mixed nong chunk116)
  have a118 := allLt_succ a117 (chunk_step mixed nong chunk117)
  have a119 := allLt_succ a118 (chunk_step mixed nong chunk118)
  have a120 := allLt_succ a119 (chunk_step mixed nong chunk119)
  exact tbl_ok 120 a120
theorem known_entry : EntryOK Tryz.prog 13 [] T := tblOK 13 [] T (by kernel_rfl)
end Go.Abs.Known

