/- The table of the pure calls that Known() makes. -/
import Derived.Test.YtbndbhglmbjfgaaGreatDoorGrAbsC
set_option linter.all false
namespace Go.Abs.Known
open Go Go.Abs
/-- The functions that act on their caller's objects. -/
def sharedIds : List Nat := [59, 77, 79, 80, 82, 88, 114, 115, 123, 128, 139, 143, 144, 149, 154, 157, 164, 182, 189, 202, 203, 209, 210, 211, 212, 213, 214, 215, 216, 218, 223, 225, 226, 227, 228, 229, 230, 231, 232, 243, 244, 248, 256, 258, 262, 263, 264, 279, 280, 281, 282, 283, 285, 286, 294, 295, 296, 303, 306, 309, 314, 322, 324, 326, 328, 338, 339, 340, 342, 344, 349, 357, 359, 366, 371, 372, 373, 388, 389, 400, 406, 407, 408, 409, 410, 411, 412, 413, 416, 417, 418, 419, 420, 421, 422, 423, 424, 425, 426, 427, 428, 429, 430, 431, 432, 439, 445, 447, 448, 450, 451, 452, 453, 455, 456, 457, 458, 459, 460, 461, 464, 465, 466, 467, 468, 469, 470, 471, 472, 473, 474, 478, 479, 480, 481]
def mode : FuncId → Mode := fun k => if sharedIds.contains k then .shared else if Nat.beq k 137 || Nat.beq k 433 then .table else .pure
def fuel : Nat := 300
def I (n : Int) : AV := .sc (.int .i64 n)
def J (n : Int) : AV := .sc (.int .i8 n)
def X (n : Int) : AV := .sc (.int .i16 n)
def R (n : Int) : AV := .sc (.int .i32 n)
def C (n : Int) : AV := .sc (.int .u8 n)
def V (n : Int) : AV := .sc (.int .u16 n)
def U (n : Int) : AV := .sc (.int .u32 n)
def W (n : Int) : AV := .sc (.int .u64 n)
def T : AV := .sc (.bool true)
def F : AV := .sc (.bool false)
def PN : AV := .sc (.pointer none)
def MN : AV := .sc (.map none)
def FN : AV := .sc .nilFunc
def IN : AV := .sc .nilIface
def N : AV := .sc (.slice none 0 0)
def S (l : List UInt8) : AV := .sc (.string ⟨l.toArray⟩)
def a0 : AV := .isl [(U 1)] 1 2 true
def a1 : AV := .isl [] 0 1 true
def a2 : AV := .agg [T, a0, F, N, F, a1, F, N, F, a1, F, N]
def a3 : AV := .agg [(S [45,49]), (S [48]), (S [48])]
def a4 : AV := .agg [F, a0, F, N, F, a1, F, N, F, a1, F, N]
def a5 : AV := .agg [(S [49]), (S [48]), (S [48])]
def a6 : AV := .agg [F, a1, F, N, F, a1, F, N, T, a0, F, N]
def a7 : AV := .agg [(S [48]), (S [48]), (S [45,49])]
def a8 : AV := .agg [F, a1, F, N, F, a1, F, N, F, a0, F, N]
def a9 : AV := .agg [(S [48]), (S [48]), (S [49])]
def a10 : AV := .agg [F, a1, F, N, T, a0, F, N, F, a1, F, N]
def a11 : AV := .agg [(S [48]), (S [45,49]), (S [48])]
def a12 : AV := .agg [F, a1, F, N, F, a0, F, N, F, a1, F, N]
def a13 : AV := .agg [(S [48]), (S [49]), (S [48])]
def a14 : AV := .isl [(U 1)] 1 1 true
def a15 : AV := .agg [F, a1, F, N, F, a1, F, N, T, a14, F, N]
def a16 : AV := .agg [F, a1, F, N, T, a14, F, N, F, a1, F, N]
def a17 : AV := .agg [T, a14, F, N, F, a1, F, N, F, a1, F, N]
def a18 : AV := .isl [(U 2)] 1 1 true
def a19 : AV := .isl [(U 2)] 1 2 true
def a20 : AV := .agg [F, a18, F, a14, F, a0, F, a19, F, a0, F, a19]
def a21 : AV := .agg [(S [50]), (S [49,47,50]), (S [49,47,50])]
def a22 : AV := .isl [F, a1, F, N, F, a1, F, N, F, a1, F, N, F, a1, F, N, F, a1, F, N, F, a0, F, N, F, a1, F, N, F, a0, F, N, F, a1, F, N, F, a1, F, N, F, a0, F, N, F, a0, F, N, F, a0, F, N, F, a1, F, N, F, a1, F, N, F, a0, F, N, F, a1, F, N, F, a0, F, N, F, a0, F, N, F, a0, F, N, F, a1, F, N, F, a0, F, N, F, a0, F, N, F, a0, F, N] 8 8 false
def a23 : AV := .isl [(I 0), (I 1), (I 3), (I 2)] 4 4 false
def a24 : AV := .isl [(I 0), (I 2), (I 6), (I 4)] 4 4 false
def a25 : AV := .isl [(I 0), (I 4), (I 5), (I 1)] 4 4 false
def a26 : AV := .isl [(I 1), (I 5), (I 7), (I 3)] 4 4 false
def a27 : AV := .isl [(I 2), (I 3), (I 7), (I 6)] 4 4 false
def a28 : AV := .isl [(I 4), (I 6), (I 7), (I 5)] 4 4 false
def a29 : AV := .isl [T, a0, F, N, F, a1, F, N, F, a1, F, N, F, a1, F, N, a23, F, a1, F, N, F, a1, F, N, T, a0, F, N, F, a1, F, N, a24, F, a1, F, N, T, a0, F, N, F, a1, F, N, F, a1, F, N, a25, F, a1, F, N, F, a1, F, N, F, a0, F, N, F, a0, F, N, a26, F, a1, F, N, F, a0, F, N, F, a1, F, N, F, a0, F, N, a27, F, a0, F, N, F, a1, F, N, F, a1, F, N, F, a0, F, N, a28] 6 6 false
def a30 : AV := .isl [(I 0), (I 1), (I 0), (I 2), (I 0), (I 2), (I 0), (I 1), (I 0), (I 4), (I 1), (I 2), (I 1), (I 3), (I 0), (I 3), (I 1), (I 5), (I 2), (I 3), (I 2), (I 3), (I 0), (I 4), (I 2), (I 6), (I 1), (I 4), (I 3), (I 7), (I 3), (I 4), (I 4), (I 5), (I 2), (I 5), (I 4), (I 6), (I 1), (I 5), (I 5), (I 7), (I 3), (I 5), (I 6), (I 7), (I 4), (I 5)] 12 12 false
def a31 : AV := .isl [a22, a29, a30] 1 1 false
def a32 : AV := .isl [F, a0, F, N, F, a1, F, N, F, a1, F, N, F, a0, F, N, F, a1, F, N, F, a0, F, N, F, a0, F, N, F, a0, F, N, F, a1, F, N, F, a0, F, N, F, a0, F, N, F, a0, F, N, F, a19, F, N, F, a1, F, N, F, a1, F, N, F, a19, F, N, F, a1, F, N, F, a0, F, N, F, a19, F, N, F, a0, F, N, F, a1, F, N, F, a19, F, N, F, a0, F, N, F, a0, F, N] 8 8 false
def a33 : AV := .isl [T, a0, F, N, F, a1, F, N, F, a1, F, N, T, a14, F, N, a23, F, a1, F, N, F, a1, F, N, T, a0, F, N, F, a1, F, N, a24, F, a1, F, N, T, a0, F, N, F, a1, F, N, F, a1, F, N, a25, F, a1, F, N, F, a1, F, N, F, a0, F, N, F, a0, F, N, a26, F, a1, F, N, F, a0, F, N, F, a1, F, N, F, a0, F, N, a27, F, a0, F, N, F, a1, F, N, F, a1, F, N, F, a19, F, N, a28] 6 6 false
def a34 : AV := .isl [a32, a33, a30] 1 1 false
def a35 : AV := .isl [(U 3)] 1 2 true
def a36 : AV := .isl [F, a19, F, N, F, a1, F, N, F, a1, F, N, F, a19, F, N, F, a1, F, N, F, a0, F, N, F, a19, F, N, F, a0, F, N, F, a1, F, N, F, a19, F, N, F, a0, F, N, F, a0, F, N, F, a35, F, N, F, a1, F, N, F, a1, F, N, F, a35, F, N, F, a1, F, N, F, a0, F, N, F, a35, F, N, F, a0, F, N, F, a1, F, N, F, a35, F, N, F, a0, F, N, F, a0, F, N] 8 8 false
def a37 : AV := .isl [T, a0, F, N, F, a1, F, N, F, a1, F, N, T, a18, F, N, a23, F, a1, F, N, F, a1, F, N, T, a0, F, N, F, a1, F, N, a24, F, a1, F, N, T, a0, F, N, F, a1, F, N, F, a1, F, N, a25, F, a1, F, N, F, a1, F, N, F, a0, F, N, F, a0, F, N, a26, F, a1, F, N, F, a0, F, N, F, a1, F, N, F, a0, F, N, a27, F, a0, F, N, F, a1, F, N, F, a1, F, N, F, a35, F, N, a28] 6 6 false
def a38 : AV := .isl [a36, a37, a30] 1 1 false
def a39 : AV := .isl [(I 1), a31, (I 1), a34, (I 1), a38] 3 3 false
def a40 : AV := .iptr [a39]
def a41 : AV := .isl [(I 0), (I 1), (I 2)] 3 3 true
def a42 : AV := .isl [(I 1), (I 2)] 2 2 true
def a43 : AV := .tup [T, (I 0)]
def a44 : AV := .isl [(I 0)] 1 1 true
def a45 : AV := .tup [F, (I 0)]
def a46 : AV := .isl [(I 0), (I 0), (I 0), (I 0), (I 0), (I 1), (I 0), (I 1), (I 0), (I 0), (I 1), (I 1), (I 1), (I 0), (I 0), (I 1), (I 0), (I 1), (I 1), (I 1), (I 0), (I 1), (I 1), (I 1)] 8 8 false
def a47 : AV := .isl [a46] 1 1 true
def a48 : AV := .isl [(S [99,117,98,101]), (I 1), a47] 1 1 true
def a49 : AV := .isl [(S [97]), (S [99,117,98,101]), (I 1), (I 0), (I 0), (I 0), (S [48]), (S [48]), (S [48]), (S [98]), (S [99,117,98,101]), (I 1), (I 0), (I 0), (I 0), (S [49]), (S [48]), (S [48]), (S [99]), (S [99,117,98,101]), (I 1), (I 0), (I 0), (I 0), (S [50]), (S [48]), (S [48])] 3 3 false
def a50 : AV := .agg [a48, a49]
def a51 : AV := .tup [a40, (I 0)]
def a52 : AV := .tup [a39, (I 0)]
def a53 : AV := .isl [(I 0), (I 0), (I 0), (I 0), (I 0), (I 1), (I 0), (I 1), (I 0), (I 0), (I 1), (I 1), (I 1), (I 0), (I 0), (I 1), (I 0), (I 1), (I 1), (I 1), (I 0), (I 1), (I 1), (I 1)] 8 8 true
def a54 : AV := .isl [a53] 1 1 true
def a55 : AV := .isl [(S [99,117,98,101]), (I 1), a54] 1 1 true
def a56 : AV := .isl [(S [97]), (S [99,117,98,101]), (I 1), (I 0), (I 0), (I 0), (S [48]), (S [48]), (S [48]), (S [98]), (S [99,117,98,101]), (I 1), (I 0), (I 0), (I 0), (S [49]), (S [48]), (S [48])] 2 2 true
def a57 : AV := .agg [a55, a56]
def a58 : AV := .isl [(I 1), a31, (I 1), a34] 2 2 false
def a59 : AV := .tup [a58, (I 0)]
def a60 : AV := .isl [(S [97]), (S [99,117,98,101]), (I 1), (I 0), (I 0), (I 0), (S [48]), (S [48]), (S [48]), (S [98]), (S [99,117,98,101]), (I 1), (I 0), (I 0), (I 0), (S [49,47,50]), (S [48]), (S [48])] 2 2 true
def a61 : AV := .agg [a55, a60]
def a62 : AV := .isl [F, a0, F, a19, F, a1, F, N, F, a1, F, N, F, a0, F, a19, F, a1, F, N, F, a0, F, N, F, a0, F, a19, F, a0, F, N, F, a1, F, N, F, a0, F, a19, F, a0, F, N, F, a0, F, N, F, a35, F, a19, F, a1, F, N, F, a1, F, N, F, a35, F, a19, F, a1, F, N, F, a0, F, N, F, a35, F, a19, F, a0, F, N, F, a1, F, N, F, a35, F, a19, F, a0, F, N, F, a0, F, N] 8 8 false
def a63 : AV := .isl [T, a0, F, N, F, a1, F, N, F, a1, F, N, T, a14, F, a19, a23, F, a1, F, N, F, a1, F, N, T, a0, F, N, F, a1, F, N, a24, F, a1, F, N, T, a0, F, N, F, a1, F, N, F, a1, F, N, a25, F, a1, F, N, F, a1, F, N, F, a0, F, N, F, a0, F, N, a26, F, a1, F, N, F, a0, F, N, F, a1, F, N, F, a0, F, N, a27, F, a0, F, N, F, a1, F, N, F, a1, F, N, F, a35, F, a19, a28] 6 6 false
def a64 : AV := .isl [a62, a63, a30] 1 1 false
def a65 : AV := .isl [(I 1), a31, (I 1), a64] 2 2 false
def a66 : AV := .tup [a65, (I 0)]
def a67 : AV := .isl [(S [97]), (S [99,117,98,101]), (I 1), (I 0), (I 0), (I 0), (S [48]), (S [48]), (S [48]), (S [98]), (S [99,117,98,101]), (I 1), (I 0), (I 0), (I 0), (S [51]), (S [48]), (S [48])] 2 2 true
def a68 : AV := .agg [a55, a67]
def a69 : AV := .isl [(U 4)] 1 2 true
def a70 : AV := .isl [F, a35, F, N, F, a1, F, N, F, a1, F, N, F, a35, F, N, F, a1, F, N, F, a0, F, N, F, a35, F, N, F, a0, F, N, F, a1, F, N, F, a35, F, N, F, a0, F, N, F, a0, F, N, F, a69, F, N, F, a1, F, N, F, a1, F, N, F, a69, F, N, F, a1, F, N, F, a0, F, N, F, a69, F, N, F, a0, F, N, F, a1, F, N, F, a69, F, N, F, a0, F, N, F, a0, F, N] 8 8 false
def a71 : AV := .isl [(U 3)] 1 1 true
def a72 : AV := .isl [T, a0, F, N, F, a1, F, N, F, a1, F, N, T, a71, F, N, a23, F, a1, F, N, F, a1, F, N, T, a0, F, N, F, a1, F, N, a24, F, a1, F, N, T, a0, F, N, F, a1, F, N, F, a1, F, N, a25, F, a1, F, N, F, a1, F, N, F, a0, F, N, F, a0, F, N, a26, F, a1, F, N, F, a0, F, N, F, a1, F, N, F, a0, F, N, a27, F, a0, F, N, F, a1, F, N, F, a1, F, N, F, a69, F, N, a28] 6 6 false
def a73 : AV := .isl [a70, a72, a30] 1 1 false
def a74 : AV := .isl [(I 1), a31, (I 1), a73] 2 2 false
def a75 : AV := .tup [a74, (I 0)]
def a76 : AV := .tup [(I 0), (I 0), (I 0)]
def a77 : AV := .tup [(I 0), (I 1), (I 25)]
def a78 : AV := .isl [(I 0), (I 1), (I 0), (I 0), (S []), (I 1), (I 2), (I 0), (I 0), (S [])] 2 2 false
def a79 : AV := .tup [a78, (I 0)]
def a80 : AV := .isl [(I 0), (I 1), (I 0), (I 0), (S [49]), (I 0), (I 2), (I 0), (I 0), (S [50]), (I 1), (I 2), (I 0), (I 0), (S [49])] 3 3 false
def a81 : AV := .tup [a80, (I 0)]
def a82 : AV := .agg [(S [48]), (S [48]), (S [48])]
def a83 : AV := .agg [F, a1, F, N, F, a1, F, N, F, a1, F, N]
def a84 : AV := .tup [a83, (I 0)]
def a85 : AV := .agg [F, a14, F, N, F, a1, F, N, F, a1, F, N]
def a86 : AV := .tup [a85, (I 0)]
def a87 : AV := .agg [(S [50]), (S [48]), (S [48])]
def a88 : AV := .agg [F, a18, F, N, F, a1, F, N, F, a1, F, N]
def a89 : AV := .tup [a88, (I 0)]
def a90 : AV := .agg [(S [49,47,50]), (S [48]), (S [48])]
def a91 : AV := .agg [F, a14, F, a18, F, a1, F, N, F, a1, F, N]
def a92 : AV := .tup [a91, (I 0)]
def a93 : AV := .agg [(S [51]), (S [48]), (S [48])]
def a94 : AV := .agg [F, a71, F, N, F, a1, F, N, F, a1, F, N]
def a95 : AV := .tup [a94, (I 0)]
def a96 : AV := .isl [] 0 2 true
def a97 : AV := .agg [F, a96, F, N, F, a96, F, N, F, a96, F, N]
def a98 : AV := .agg [F, a1, F, N]
def a99 : AV := .agg [F, a96, F, N, F, a96, F, N, F, a0, F, N]
def a100 : AV := .agg [F, a0, F, N]
def a101 : AV := .agg [F, a96, F, N, F, a0, F, N, F, a96, F, N]
def a102 : AV := .agg [F, a0, F, N, F, a96, F, N, F, a96, F, N]
def a103 : AV := .agg [F, a96, F, N, F, a0, F, N, F, a0, F, N]
def a104 : AV := .agg [F, a0, F, N, F, a96, F, N, F, a0, F, N]
def a105 : AV := .agg [F, a0, F, N, F, a0, F, N, F, a96, F, N]
def a106 : AV := .agg [F, a0, F, N, F, a0, F, N, F, a0, F, N]
def a107 : AV := .agg [T, a14, F, N]
def a108 : AV := .agg [F, a0, F, N, F, a1, F, N, F, a0, F, N]
def a109 : AV := .agg [F, a0, F, N, F, a0, F, N, F, a1, F, N]
def a110 : AV := .agg [F, a19, F, N, F, a1, F, N, F, a1, F, N]
def a111 : AV := .agg [F, a19, F, N]
def a112 : AV := .agg [T, a18, F, N]
def a113 : AV := .agg [F, a19, F, N, F, a1, F, N, F, a0, F, N]
def a114 : AV := .agg [F, a19, F, N, F, a0, F, N, F, a1, F, N]
def a115 : AV := .agg [F, a35, F, N, F, a1, F, N, F, a1, F, N]
def a116 : AV := .agg [F, a35, F, N]
def a117 : AV := .agg [F, a1, F, N, F, a0, F, N, F, a0, F, N]
def a118 : AV := .agg [F, a19, F, N, F, a0, F, N, F, a0, F, N]
def a119 : AV := .agg [T, a71, F, N]
def a120 : AV := .agg [F, a35, F, N, F, a1, F, N, F, a0, F, N]
def a121 : AV := .agg [F, a35, F, N, F, a0, F, N, F, a1, F, N]
def a122 : AV := .agg [F, a35, F, N, F, a0, F, N, F, a0, F, N]
def a123 : AV := .agg [F, a35, F, N, F, a96, F, N, F, a96, F, N]
def a124 : AV := .agg [F, a35, F, N, F, a96, F, N, F, a0, F, N]
def a125 : AV := .agg [F, a35, F, N, F, a0, F, N, F, a96, F, N]
def a126 : AV := .agg [F, a69, F, N, F, a96, F, N, F, a96, F, N]
def a127 : AV := .agg [F, a69, F, N]
def a128 : AV := .agg [F, a69, F, N, F, a96, F, N, F, a0, F, N]
def a129 : AV := .agg [F, a69, F, N, F, a0, F, N, F, a96, F, N]
def a130 : AV := .agg [F, a69, F, N, F, a0, F, N, F, a0, F, N]
def a131 : AV := .agg [F, a69, F, N, F, a1, F, N, F, a1, F, N]
def a132 : AV := .isl [(U 4)] 1 1 true
def a133 : AV := .agg [T, a132, F, N]
def a134 : AV := .agg [F, a69, F, N, F, a1, F, N, F, a0, F, N]
def a135 : AV := .agg [F, a69, F, N, F, a0, F, N, F, a1, F, N]
def a136 : AV := .agg [T, a14, F, N, F, a1, F, N, F, a0, F, N]
def a137 : AV := .agg [F, a1, F, N, T, a14, F, N, F, a0, F, N]
def a138 : AV := .agg [F, a1, F, N, F, a0, F, N, T, a14, F, N]
def a139 : AV := .agg [T, a14, F, N, F, a0, F, N, F, a1, F, N]
def a140 : AV := .agg [F, a0, F, N, T, a14, F, N, F, a1, F, N]
def a141 : AV := .agg [F, a0, F, N, F, a1, F, N, T, a14, F, N]
def a142 : AV := .agg [F, a0, F, a19, F, a1, F, N, F, a1, F, N]
def a143 : AV := .agg [T, a14, F, a19]
def a144 : AV := .agg [F, a0, F, a19, F, a1, F, N, F, a0, F, N]
def a145 : AV := .agg [F, a0, F, a19, F, a0, F, N, F, a1, F, N]
def a146 : AV := .agg [F, a35, F, a19, F, a1, F, N, F, a1, F, N]
def a147 : AV := .agg [F, a35, F, a19]
def a148 : AV := .agg [F, a0, F, a19, F, a0, F, N, F, a0, F, N]
def a149 : AV := .agg [T, a71, F, a19]
def a150 : AV := .agg [F, a35, F, a19, F, a1, F, N, F, a0, F, N]
def a151 : AV := .agg [F, a35, F, a19, F, a0, F, N, F, a1, F, N]
def a152 : AV := .agg [F, a35, F, a19, F, a0, F, N, F, a0, F, N]
def a153 : AV := .agg [F, a0, F, a19]
def a154 : AV := .agg [F, a14, F, N]
def a155 : AV := .agg [F, a1, F, a0]
def a156 : AV := .agg [F, a19, F, a0]
def a157 : AV := .agg [F, a0, F, a0]
def a158 : AV := .agg [T, a19, F, a0]
def a159 : AV := .agg [T, a35, F, a0]
def a160 : AV := .agg [T, a0, F, a0]
def a161 : AV := .agg [F, a35, F, a0]
def a162 : AV := .agg [F, a69, F, a0]
def a163 : AV := .agg [F, a18, F, N]
def a164 : AV := .isl [(U 6)] 1 2 true
def a165 : AV := .agg [F, a164, F, N]
def a166 : AV := .isl [(U 24)] 1 2 true
def a167 : AV := .agg [F, a166, F, N]
def a168 : AV := .agg [F, N, F, N, F, N, F, N, F, N, F, N]
def a169 : AV := .tup [a168, (I 19)]
def a170 : AV := .agg [T, a0, F, N, F, a96, F, N, F, a96, F, N]
def a171 : AV := .tup [a2, (I 0)]
def a172 : AV := .agg [F, a96, F, N, F, a96, F, N, T, a0, F, N]
def a173 : AV := .tup [a6, (I 0)]
def a174 : AV := .agg [F, a96, F, N, T, a0, F, N, F, a96, F, N]
def a175 : AV := .tup [a10, (I 0)]
def a176 : AV := .tup [a8, (I 0)]
def a177 : AV := .tup [a12, (I 0)]
def a178 : AV := .tup [a4, (I 0)]
def a179 : AV := .agg [F, N, F, a14, F, a1, F, N, F, a0, F, N]
def a180 : AV := .agg [F, N, F, a14, F, a0, F, N, F, a1, F, N]
def a181 : AV := .agg [F, a14, F, a14, F, a1, F, N, F, a1, F, N]
def a182 : AV := .agg [(I 0), (I 0), (I 0)]
def a183 : AV := .agg [(I 0), (I 0), (I 1)]
def a184 : AV := .agg [(I 0), (I 1), (I 0)]
def a185 : AV := .agg [(I 0), (I 1), (I 1)]
def a186 : AV := .agg [(I 1), (I 0), (I 0)]
def a187 : AV := .agg [(I 1), (I 0), (I 1)]
def a188 : AV := .agg [(I 1), (I 1), (I 0)]
def a189 : AV := .agg [(I 1), (I 1), (I 1)]
def a190 : AV := .agg [(I (-1)), (I 0), (I 0)]
def a191 : AV := .agg [(I 0), (I 0), (I (-1))]
def a192 : AV := .agg [(I 0), (I (-1)), (I 0)]
def a193 : AV := .agg [(I 3), (I 0), (I 0)]
def a194 : AV := .agg [(I 3), (I 0), (I 1)]
def a195 : AV := .agg [(I 3), (I 1), (I 0)]
def a196 : AV := .agg [(I 3), (I 1), (I 1)]
def a197 : AV := .agg [(I 4), (I 0), (I 0)]
def a198 : AV := .agg [(I 4), (I 0), (I 1)]
def a199 : AV := .agg [(I 4), (I 1), (I 0)]
def a200 : AV := .agg [(I 4), (I 1), (I 1)]
def a201 : AV := .agg [F, a96, F, N]
def a202 : AV := .agg [T, a0, F, N]
def a203 : AV := .agg [F, a14, F, a14]
def a204 : AV := .agg [F, a18, F, a14]
def a205 : AV := .agg [F, a71, F, a14]
def a206 : AV := .isl [a41] 1 1 true
def a207 : AV := .isl [a41, a42] 2 2 true
def a208 : AV := .isl [a41, a44] 2 2 true
def a209 : AV := .iptr [a41]
def a210 : AV := .fn (.func 115) [] [a209, a209]
def a211 : AV := .isl [(I 0)] 1 1 false
def a212 : AV := .iptr [a42]
def a213 : AV := .iptr [a211]
def a214 : AV := .fn (.func 115) [] [a212, a213]
def a215 : AV := .isl [(I 1), (I 2)] 2 2 false
def a216 : AV := .iptr [a44]
def a217 : AV := .iptr [a215]
def a218 : AV := .fn (.func 115) [] [a216, a217]
def a219 : AV := .agg [(I 0), (I 1), (I 0), (I 0), (S [])]
def a220 : AV := .tup [a219, T]
def a221 : AV := .agg [(I 0), (I 0), (I 0), (I 0), (S [])]
def a222 : AV := .tup [a221, F]
def a223 : AV := .agg [(I 1), (I 2), (I 0), (I 0), (S [])]
def a224 : AV := .tup [a223, T]
def a225 : AV := .agg [(I 0), (I 1), (I 0), (I 0), (S [49])]
def a226 : AV := .tup [a225, T]
def a227 : AV := .agg [(I 0), (I 2), (I 0), (I 0), (S [50])]
def a228 : AV := .tup [a227, T]
def a229 : AV := .agg [(I 1), (I 2), (I 0), (I 0), (S [49])]
def a230 : AV := .tup [a229, T]
def a231 : AV := .isl [a46] 1 1 false
def a232 : AV := .agg [(S [99,117,98,101]), (I 1), a231]
def a233 : AV := .agg [(I 1), (I 0), (I 0), (I 0), (S [48]), (S [48]), (S [48])]
def a234 : AV := .agg [(I 1), a31]
def a235 : AV := .tup [a234, (I 0)]
def a236 : AV := .agg [(I 1), (I 0), (I 0), (I 0), (S [49]), (S [48]), (S [48])]
def a237 : AV := .agg [(I 1), a34]
def a238 : AV := .tup [a237, (I 0)]
def a239 : AV := .agg [(I 1), (I 0), (I 0), (I 0), (S [50]), (S [48]), (S [48])]
def a240 : AV := .agg [(I 1), a38]
def a241 : AV := .tup [a240, (I 0)]
def a242 : AV := .agg [(S [97]), (I 1), a47]
def a243 : AV := .isl [(I 3), (I 0), (I 0), (I 3), (I 0), (I 1), (I 3), (I 1), (I 0), (I 3), (I 1), (I 1), (I 4), (I 0), (I 0), (I 4), (I 0), (I 1), (I 4), (I 1), (I 0), (I 4), (I 1), (I 1)] 8 8 false
def a244 : AV := .isl [a243] 1 1 true
def a245 : AV := .agg [(S [98]), (I 1), a244]
def a246 : AV := .agg [(I 1), a73]
def a247 : AV := .tup [a246, (I 0)]
def a248 : AV := .agg [(I 1), (I 0), (I 0), (I 0), (S [49,47,50]), (S [48]), (S [48])]
def a249 : AV := .agg [(I 1), a64]
def a250 : AV := .tup [a249, (I 0)]
def a251 : AV := .agg [(I 1), (I 0), (I 0), (I 0), (S [51]), (S [48]), (S [48])]
def a252 : AV := .fn (.func 128) [] [a40]
def a253 : AV := .iptr [a58]
def a254 : AV := .fn (.func 128) [] [a253]
def a255 : AV := .iptr [a65]
def a256 : AV := .fn (.func 128) [] [a255]
def a257 : AV := .iptr [a74]
def a258 : AV := .fn (.func 128) [] [a257]
def a259 : AV := .tup [a221, T, (I 0)]
def a260 : AV := .tup [a221, F, (I 0)]
def a261 : AV := .agg [(I 0), (I 0), (I 0), (I 0), (S [49])]
def a262 : AV := .tup [a261, T, (I 0)]
def a263 : AV := .agg [(I 0), (I 0), (I 0), (I 0), (S [50])]
def a264 : AV := .tup [a263, T, (I 0)]
def a265 : AV := .agg [(I 0), (I 0), (I 0), (I 0), (S [51])]
def a266 : AV := .tup [a265, T, (I 0)]
def a267 : AV := .tup [a163, (I 0)]
def a268 : AV := .agg [F, a132, F, N]
def a269 : AV := .tup [a268, (I 0)]
def a270 : AV := .tup [a157, (I 0)]
def a271 : AV := .tup [a156, (I 0)]
def a272 : AV := .tup [a155, (I 0)]
def a273 : AV := .tup [a161, (I 0)]
def a274 : AV := .tup [a158, (I 0)]
def a275 : AV := .tup [a160, (I 0)]
def a276 : AV := .tup [a159, (I 0)]
def a277 : AV := .tup [a203, (I 0)]
def a278 : AV := .tup [a204, (I 0)]
def a279 : AV := .tup [a162, (I 0)]
def a280 : AV := .tup [a205, (I 0)]
def a281 : AV := .agg [F, a0, F, a166]
def a282 : AV := .tup [a281, (I 0)]
def a283 : AV := .tup [a153, (I 0)]
def a284 : AV := .agg [F, N, F, N]
def a285 : AV := .isl [] 0 0 true
def a286 : AV := .agg [F, a285, F, N]
def a287 : AV := .agg [T, a19, F, N]
def a288 : AV := .agg [T, a35, F, N]
def a289 : AV := .agg [T, a69, F, N]
def a290 : AV := .agg [F, a71, F, N]
def a291 : AV := .isl [(U 5)] 1 2 true
def a292 : AV := .agg [F, a291, F, N]
def a293 : AV := .isl [(U 8)] 1 2 true
def a294 : AV := .agg [F, a293, F, N]
def a295 : AV := .isl [(U 9)] 1 2 true
def a296 : AV := .agg [F, a295, F, N]
def a297 : AV := .isl [(U 11)] 1 2 true
def a298 : AV := .agg [F, a297, F, N]
def a299 : AV := .isl [(U 10)] 1 2 true
def a300 : AV := .agg [F, a299, F, N]
def a301 : AV := .isl [(U 12)] 1 2 true
def a302 : AV := .agg [F, a301, F, N]
def a303 : AV := .isl [(U 7)] 1 2 true
def a304 : AV := .agg [F, a303, F, N]
def a305 : AV := .isl [(U 13)] 1 2 true
def a306 : AV := .agg [F, a305, F, N]
def a307 : AV := .isl [(U 14)] 1 2 true
def a308 : AV := .agg [F, a307, F, N]
def a309 : AV := .isl [(U 15)] 1 2 true
def a310 : AV := .agg [F, a309, F, N]
def a311 : AV := .isl [(U 27)] 1 2 true
def a312 : AV := .agg [F, a311, F, N]
def a313 : AV := .isl [(U 40)] 1 2 true
def a314 : AV := .agg [F, a313, F, N]
def a315 : AV := .isl [(U 54)] 1 2 true
def a316 : AV := .agg [F, a315, F, N]
def a317 : AV := .isl [(U 69)] 1 2 true
def a318 : AV := .agg [F, a317, F, N]
def a319 : AV := .isl [(U 84)] 1 2 true
def a320 : AV := .agg [F, a319, F, N]
def a321 : AV := .agg [F, a14, F, a18]
def a322 : AV := .agg [T, a0, F, a19]
def a323 : AV := .agg [F, N, F, a14]
def a324 : AV := .agg [T, a35, F, a19]
def a325 : AV := .agg [F, a303, F, a19]
def a326 : AV := .agg [F, a132, F, a14]
def a327 : AV := .agg [a22, a29, a30]
def a328 : AV := .agg [a32, a33, a30]
def a329 : AV := .tup [a155, a156, T, (I 0)]
def a330 : AV := .agg [a36, a37, a30]
def a331 : AV := .tup [a157, a161, T, (I 0)]
def a332 : AV := .tup [a158, a155, T, (I 0)]
def a333 : AV := .tup [a159, a160, T, (I 0)]
def a334 : AV := .agg [a70, a72, a30]
def a335 : AV := .tup [a156, a162, T, (I 0)]
def a336 : AV := .fn (.func 90) [] []
def a337 : AV := .tup [a98, (I 0)]
def a338 : AV := .tup [a154, (I 0)]
def a339 : AV := .tup [a321, (I 0)]
def a340 : AV := .tup [a290, (I 0)]
def a341 : AV := .fn (.func 92) [] []
def a342 : AV := .agg [F, a1, F, N, F, a285, F, N, F, a285, F, N]
def a343 : AV := .agg [F, a285, F, N, F, a285, F, N, F, a1, F, N]
def a344 : AV := .agg [F, a285, F, N, F, a1, F, N, F, a285, F, N]
def a345 : AV := .agg [F, a285, F, N, F, a285, F, N, F, a0, F, N]
def a346 : AV := .agg [F, a285, F, N, F, a0, F, N, F, a285, F, N]
def a347 : AV := .agg [F, a0, F, N, F, a285, F, N, F, a285, F, N]
def a348 : AV := .fn (.func 74) [] []
def a349 : AV := .agg [F, a1, F, N, F, a285, F, N, F, a1, F, N]
def a350 : AV := .agg [F, a285, F, N, F, a1, F, N, F, a1, F, N]
def a351 : AV := .agg [F, a1, F, N, F, a1, F, N, F, a285, F, N]
def a352 : AV := .agg [F, a285, F, N, F, a0, F, N, F, a1, F, N]
def a353 : AV := .agg [F, a285, F, N, F, a1, F, N, F, a0, F, N]
def a354 : AV := .agg [F, a0, F, N, F, a285, F, N, F, a1, F, N]
def a355 : AV := .agg [F, a1, F, N, F, a285, F, N, F, a0, F, N]
def a356 : AV := .agg [F, a0, F, N, F, a1, F, N, F, a285, F, N]
def a357 : AV := .agg [F, a1, F, N, F, a0, F, N, F, a285, F, N]
def a358 : AV := .agg [T, a0, F, N, F, a285, F, N, F, a285, F, N]
def a359 : AV := .agg [F, a285, F, N, F, a285, F, N, T, a0, F, N]
def a360 : AV := .agg [F, a285, F, N, T, a0, F, N, F, a285, F, N]
def a361 : AV := .agg [F, a19, F, N, F, a285, F, N, F, a285, F, N]
def a362 : AV := .agg [T, a19, F, N, F, a285, F, N, F, a285, F, N]
def a363 : AV := .agg [F, a35, F, N, F, a285, F, N, F, a285, F, N]
def a364 : AV := .agg [T, a0, F, N, F, a285, F, N, F, a1, F, N]
def a365 : AV := .agg [T, a0, F, N, F, a1, F, N, F, a285, F, N]
def a366 : AV := .agg [T, a19, F, N, F, a285, F, N, F, a1, F, N]
def a367 : AV := .agg [T, a19, F, N, F, a1, F, N, F, a285, F, N]
def a368 : AV := .agg [T, a19, F, N, F, a1, F, N, F, a1, F, N]
def a369 : AV := .agg [F, a285, F, N, T, a0, F, N, F, a1, F, N]
def a370 : AV := .agg [F, a1, F, N, T, a0, F, N, F, a285, F, N]
def a371 : AV := .agg [F, a285, F, N, F, a1, F, N, T, a0, F, N]
def a372 : AV := .agg [F, a1, F, N, F, a285, F, N, T, a0, F, N]
def a373 : AV := .agg [F, a19, F, N, F, a285, F, N, F, a1, F, N]
def a374 : AV := .agg [F, a19, F, N, F, a1, F, N, F, a285, F, N]
def a375 : AV := .agg [T, a35, F, N, F, a285, F, N, F, a285, F, N]
def a376 : AV := .agg [T, a35, F, N, F, a285, F, N, F, a1, F, N]
def a377 : AV := .agg [T, a35, F, N, F, a1, F, N, F, a285, F, N]
def a378 : AV := .agg [T, a35, F, N, F, a1, F, N, F, a1, F, N]
def a379 : AV := .agg [F, a35, F, N, F, a285, F, N, F, a1, F, N]
def a380 : AV := .agg [F, a35, F, N, F, a1, F, N, F, a285, F, N]
def a381 : AV := .agg [F, a69, F, N, F, a285, F, N, F, a285, F, N]
def a382 : AV := .agg [F, a69, F, N, F, a285, F, N, F, a1, F, N]
def a383 : AV := .agg [F, a69, F, N, F, a1, F, N, F, a285, F, N]
def a384 : AV := .agg [T, a69, F, N, F, a285, F, N, F, a285, F, N]
def a385 : AV := .agg [T, a69, F, N, F, a285, F, N, F, a1, F, N]
def a386 : AV := .agg [T, a69, F, N, F, a1, F, N, F, a285, F, N]
def a387 : AV := .agg [T, a69, F, N, F, a1, F, N, F, a1, F, N]
def a388 : AV := .agg [F, a1, F, N, F, a0, F, N, F, a19, F, N]
def a389 : AV := .agg [F, a1, F, N, F, a19, F, N, F, a0, F, N]
def a390 : AV := .agg [F, a0, F, N, F, a19, F, N, F, a1, F, N]
def a391 : AV := .agg [F, a0, F, N, F, a1, F, N, F, a19, F, N]
def a392 : AV := .agg [F, a19, F, N, F, a0, F, N, F, a35, F, N]
def a393 : AV := .agg [F, a0, F, N, F, a0, F, N, F, a19, F, N]
def a394 : AV := .agg [F, a0, F, N, F, a19, F, N, F, a35, F, N]
def a395 : AV := .agg [F, a0, F, N, F, a35, F, N, F, a19, F, N]
def a396 : AV := .agg [F, a0, F, N, F, a19, F, N, F, a0, F, N]
def a397 : AV := .agg [F, a19, F, N, F, a35, F, N, F, a0, F, N]
def a398 : AV := .agg [F, a35, F, N, F, a19, F, N, F, a0, F, N]
def a399 : AV := .agg [F, a35, F, N, F, a0, F, N, F, a19, F, N]
def a400 : AV := .agg [F, a35, F, N, F, a35, F, N, F, a164, F, N]
def a401 : AV := .agg [F, a69, F, N, F, a164, F, N, F, a293, F, N]
def a402 : AV := .agg [F, a164, F, N, F, a295, F, N, F, a295, F, N]
def a403 : AV := .agg [F, a295, F, N, F, a297, F, N, F, a299, F, N]
def a404 : AV := .agg [F, a301, F, N, F, a301, F, N, F, a301, F, N]
def a405 : AV := .agg [F, a164, F, N, F, a1, F, N, F, a0, F, N]
def a406 : AV := .agg [F, a164, F, N, F, a0, F, N, F, a0, F, N]
def a407 : AV := .agg [F, a301, F, N, F, a0, F, N, F, a19, F, N]
def a408 : AV := .agg [F, a164, F, N, F, a0, F, N, F, a1, F, N]
def a409 : AV := .agg [F, a301, F, N, F, a19, F, N, F, a0, F, N]
def a410 : AV := .agg [F, a303, F, N, F, a0, F, N, F, a1, F, N]
def a411 : AV := .agg [F, a305, F, N, F, a19, F, N, F, a1, F, N]
def a412 : AV := .agg [F, a303, F, N, F, a1, F, N, F, a1, F, N]
def a413 : AV := .agg [F, a307, F, N, F, a0, F, N, F, a1, F, N]
def a414 : AV := .agg [F, a303, F, N, F, a1, F, N, F, a0, F, N]
def a415 : AV := .agg [F, a307, F, N, F, a1, F, N, F, a0, F, N]
def a416 : AV := .agg [F, a305, F, N, F, a1, F, N, F, a19, F, N]
def a417 : AV := .agg [F, a303, F, N, F, a1, F, N, F, a19, F, N]
def a418 : AV := .agg [F, a303, F, N, F, a0, F, N, F, a0, F, N]
def a419 : AV := .agg [F, a307, F, N, F, a0, F, N, F, a35, F, N]
def a420 : AV := .agg [F, a303, F, N, F, a0, F, N, F, a19, F, N]
def a421 : AV := .agg [F, a305, F, N, F, a19, F, N, F, a35, F, N]
def a422 : AV := .agg [F, a164, F, N, F, a19, F, N, F, a0, F, N]
def a423 : AV := .agg [F, a305, F, N, F, a35, F, N, F, a19, F, N]
def a424 : AV := .agg [F, a303, F, N, F, a19, F, N, F, a0, F, N]
def a425 : AV := .agg [F, a307, F, N, F, a35, F, N, F, a0, F, N]
def a426 : AV := .agg [F, a293, F, N, F, a0, F, N, F, a1, F, N]
def a427 : AV := .agg [F, a309, F, N, F, a19, F, N, F, a0, F, N]
def a428 : AV := .agg [F, a293, F, N, F, a0, F, N, F, a0, F, N]
def a429 : AV := .agg [F, a309, F, N, F, a0, F, N, F, a19, F, N]
def a430 : AV := .agg [F, a311, F, N, F, a35, F, N, F, a164, F, N]
def a431 : AV := .agg [F, a313, F, N, F, a164, F, N, F, a293, F, N]
def a432 : AV := .agg [F, a315, F, N, F, a295, F, N, F, a295, F, N]
def a433 : AV := .agg [F, a317, F, N, F, a297, F, N, F, a299, F, N]
def a434 : AV := .agg [F, a319, F, N, F, a301, F, N, F, a301, F, N]
def a435 : AV := .fn (.func 156) [] []
def a436 : AV := .iptr [F, a1, F, N]
def a437 : AV := .fn (.func 177) [] [a436]
def a438 : AV := .iptr [F, a0, F, N]
def a439 : AV := .fn (.func 177) [] [a438]
def a440 : AV := .agg [F, a14, F, N, F, a0, F, N, F, a1, F, N]
def a441 : AV := .agg [F, a14, F, N, F, a1, F, N, F, a0, F, N]
def a442 : AV := .agg [F, a14, F, N, F, a0, F, N, F, a0, F, N]
def a443 : AV := .agg [T, a0, F, a19, F, a285, F, N, F, a285, F, N]
def a444 : AV := .agg [F, N, F, a14, F, a285, F, N, F, a1, F, N]
def a445 : AV := .agg [F, N, F, a14, F, a1, F, N, F, a285, F, N]
def a446 : AV := .agg [F, N, F, a14, F, a285, F, N, F, a0, F, N]
def a447 : AV := .agg [F, N, F, a14, F, a0, F, N, F, a285, F, N]
def a448 : AV := .agg [F, a35, F, a19, F, a285, F, N, F, a285, F, N]
def a449 : AV := .agg [T, a0, F, a19, F, a285, F, N, F, a1, F, N]
def a450 : AV := .agg [T, a0, F, a19, F, a1, F, N, F, a285, F, N]
def a451 : AV := .agg [T, a0, F, a19, F, a1, F, N, F, a1, F, N]
def a452 : AV := .agg [T, a35, F, a19, F, a285, F, N, F, a285, F, N]
def a453 : AV := .agg [T, a35, F, a19, F, a285, F, N, F, a1, F, N]
def a454 : AV := .agg [T, a35, F, a19, F, a1, F, N, F, a285, F, N]
def a455 : AV := .agg [T, a35, F, a19, F, a1, F, N, F, a1, F, N]
def a456 : AV := .agg [F, N, F, a14, F, a1, F, N, F, a1, F, N]
def a457 : AV := .agg [F, N, F, a14, T, a0, F, N, F, a285, F, N]
def a458 : AV := .agg [F, N, F, a14, T, a0, F, N, F, a1, F, N]
def a459 : AV := .agg [F, N, F, a14, F, a285, F, N, T, a0, F, N]
def a460 : AV := .agg [F, N, F, a14, F, a1, F, N, T, a0, F, N]
def a461 : AV := .agg [F, a0, F, a19, F, a285, F, N, F, a285, F, N]
def a462 : AV := .agg [F, a0, F, a19, F, a285, F, N, F, a1, F, N]
def a463 : AV := .agg [F, a0, F, a19, F, a1, F, N, F, a285, F, N]
def a464 : AV := .agg [F, a35, F, a19, F, a285, F, N, F, a1, F, N]
def a465 : AV := .agg [F, a35, F, a19, F, a1, F, N, F, a285, F, N]
def a466 : AV := .agg [F, a0, F, a19, F, a0, F, a19, F, a0, F, a19]
def a467 : AV := .agg [F, a303, F, a19, F, a0, F, a19, F, a0, F, a19]
def a468 : AV := .agg [F, a132, F, a14, F, a14, F, a14, F, a14, F, a14]
def a469 : AV := .iptr [F, a0, F, a0]
def a470 : AV := .fn (.func 177) [] [a469]
def a471 : AV := .iptr [F, a0, F, a166]
def a472 : AV := .fn (.func 177) [] [a471]
def a473 : AV := .agg [F, a14, F, a18, F, a14, F, a18, F, a14, F, a18]
def a474 : AV := .iptr [F, a14, F, a14]
def a475 : AV := .fn (.func 177) [] [a474]
def a476 : AV := .isl [(U 7)] 1 1 true
def a477 : AV := .agg [F, a476, F, a18, F, a14, F, a18, F, a14, F, a18]
def a478 : AV := .iptr [F, a0, F, a19]
def a479 : AV := .fn (.func 177) [] [a478]
def a480 : AV := .agg [F, a476, F, a18]
def a481 : AV := .isl [F, a1, F, N, F, a285, F, N, F, a285, F, N] 3 3 true
def a482 : AV := .isl [F, a285, F, N, F, a285, F, N, F, a1, F, N] 3 3 true
def a483 : AV := .isl [F, a285, F, N, F, a1, F, N, F, a285, F, N] 3 3 true
def a484 : AV := .isl [F, a285, F, N, F, a285, F, N, F, a0, F, N] 3 3 true
def a485 : AV := .isl [F, a285, F, N, F, a0, F, N, F, a285, F, N] 3 3 true
def a486 : AV := .isl [F, a0, F, N, F, a285, F, N, F, a285, F, N] 3 3 true
def a487 : AV := .isl [F, a1, F, N, F, a285, F, N, F, a1, F, N] 3 3 true
def a488 : AV := .isl [F, a285, F, N, F, a1, F, N, F, a1, F, N] 3 3 true
def a489 : AV := .isl [F, a1, F, N, F, a1, F, N, F, a285, F, N] 3 3 true
def a490 : AV := .isl [F, a1, F, N, F, a1, F, N, F, a1, F, N] 3 3 true
def a491 : AV := .isl [F, a285, F, N, F, a0, F, N, F, a1, F, N] 3 3 true
def a492 : AV := .isl [F, a285, F, N, F, a1, F, N, F, a0, F, N] 3 3 true
def a493 : AV := .isl [F, a0, F, N, F, a285, F, N, F, a1, F, N] 3 3 true
def a494 : AV := .isl [F, a1, F, N, F, a285, F, N, F, a0, F, N] 3 3 true
def a495 : AV := .isl [F, a0, F, N, F, a1, F, N, F, a285, F, N] 3 3 true
def a496 : AV := .isl [F, a1, F, N, F, a0, F, N, F, a285, F, N] 3 3 true
def a497 : AV := .isl [F, a0, F, N, F, a1, F, N, F, a1, F, N] 3 3 true
def a498 : AV := .isl [F, a1, F, N, F, a0, F, N, F, a1, F, N] 3 3 true
def a499 : AV := .isl [F, a1, F, N, F, a1, F, N, F, a0, F, N] 3 3 true
def a500 : AV := .isl [T, a0, F, N, F, a285, F, N, F, a285, F, N] 3 3 true
def a501 : AV := .isl [F, a285, F, N, F, a285, F, N, T, a0, F, N] 3 3 true
def a502 : AV := .isl [F, a285, F, N, T, a0, F, N, F, a285, F, N] 3 3 true
def a503 : AV := .isl [F, a19, F, N, F, a285, F, N, F, a285, F, N] 3 3 true
def a504 : AV := .isl [T, a19, F, N, F, a285, F, N, F, a285, F, N] 3 3 true
def a505 : AV := .isl [F, a35, F, N, F, a285, F, N, F, a285, F, N] 3 3 true
def a506 : AV := .isl [T, a0, F, N, F, a285, F, N, F, a1, F, N] 3 3 true
def a507 : AV := .isl [T, a0, F, N, F, a1, F, N, F, a285, F, N] 3 3 true
def a508 : AV := .isl [T, a0, F, N, F, a1, F, N, F, a1, F, N] 3 3 true
def a509 : AV := .isl [T, a19, F, N, F, a285, F, N, F, a1, F, N] 3 3 true
def a510 : AV := .isl [T, a19, F, N, F, a1, F, N, F, a285, F, N] 3 3 true
def a511 : AV := .isl [T, a19, F, N, F, a1, F, N, F, a1, F, N] 3 3 true
def a512 : AV := .isl [F, a285, F, N, T, a0, F, N, F, a1, F, N] 3 3 true
def a513 : AV := .isl [F, a1, F, N, T, a0, F, N, F, a285, F, N] 3 3 true
def a514 : AV := .isl [F, a1, F, N, T, a0, F, N, F, a1, F, N] 3 3 true
def a515 : AV := .isl [F, a285, F, N, F, a1, F, N, T, a0, F, N] 3 3 true
def a516 : AV := .isl [F, a1, F, N, F, a285, F, N, T, a0, F, N] 3 3 true
def a517 : AV := .isl [F, a1, F, N, F, a1, F, N, T, a0, F, N] 3 3 true
def a518 : AV := .isl [F, a19, F, N, F, a285, F, N, F, a1, F, N] 3 3 true
def a519 : AV := .isl [F, a19, F, N, F, a1, F, N, F, a285, F, N] 3 3 true
def a520 : AV := .isl [F, a19, F, N, F, a1, F, N, F, a1, F, N] 3 3 true
def a521 : AV := .isl [T, a35, F, N, F, a285, F, N, F, a285, F, N] 3 3 true
def a522 : AV := .isl [T, a35, F, N, F, a285, F, N, F, a1, F, N] 3 3 true
def a523 : AV := .isl [T, a35, F, N, F, a1, F, N, F, a285, F, N] 3 3 true
def a524 : AV := .isl [T, a35, F, N, F, a1, F, N, F, a1, F, N] 3 3 true
def a525 : AV := .isl [F, a35, F, N, F, a285, F, N, F, a1, F, N] 3 3 true
def a526 : AV := .isl [F, a35, F, N, F, a1, F, N, F, a285, F, N] 3 3 true
def a527 : AV := .isl [F, a35, F, N, F, a1, F, N, F, a1, F, N] 3 3 true
def a528 : AV := .isl [F, a69, F, N, F, a285, F, N, F, a285, F, N] 3 3 true
def a529 : AV := .isl [F, a69, F, N, F, a285, F, N, F, a1, F, N] 3 3 true
def a530 : AV := .isl [F, a69, F, N, F, a1, F, N, F, a285, F, N] 3 3 true
def a531 : AV := .isl [F, a69, F, N, F, a1, F, N, F, a1, F, N] 3 3 true
def a532 : AV := .isl [T, a69, F, N, F, a285, F, N, F, a285, F, N] 3 3 true
def a533 : AV := .isl [T, a69, F, N, F, a285, F, N, F, a1, F, N] 3 3 true
def a534 : AV := .isl [T, a69, F, N, F, a1, F, N, F, a285, F, N] 3 3 true
def a535 : AV := .isl [T, a69, F, N, F, a1, F, N, F, a1, F, N] 3 3 true
def a536 : AV := .isl [T, a0, F, a19, F, a285, F, N, F, a285, F, N] 3 3 true
def a537 : AV := .isl [F, N, F, a14, F, a285, F, N, F, a1, F, N] 3 3 true
def a538 : AV := .isl [F, N, F, a14, F, a1, F, N, F, a285, F, N] 3 3 true
def a539 : AV := .isl [F, N, F, a14, F, a285, F, N, F, a0, F, N] 3 3 true
def a540 : AV := .isl [F, N, F, a14, F, a0, F, N, F, a285, F, N] 3 3 true
def a541 : AV := .isl [F, a35, F, a19, F, a285, F, N, F, a285, F, N] 3 3 true
def a542 : AV := .isl [T, a0, F, a19, F, a285, F, N, F, a1, F, N] 3 3 true
def a543 : AV := .isl [T, a0, F, a19, F, a1, F, N, F, a285, F, N] 3 3 true
def a544 : AV := .isl [T, a0, F, a19, F, a1, F, N, F, a1, F, N] 3 3 true
def a545 : AV := .isl [T, a35, F, a19, F, a285, F, N, F, a285, F, N] 3 3 true
def a546 : AV := .isl [T, a35, F, a19, F, a285, F, N, F, a1, F, N] 3 3 true
def a547 : AV := .isl [T, a35, F, a19, F, a1, F, N, F, a285, F, N] 3 3 true
def a548 : AV := .isl [T, a35, F, a19, F, a1, F, N, F, a1, F, N] 3 3 true
def a549 : AV := .isl [F, N, F, a14, F, a1, F, N, F, a1, F, N] 3 3 true
def a550 : AV := .isl [F, N, F, a14, T, a0, F, N, F, a285, F, N] 3 3 true
def a551 : AV := .isl [F, N, F, a14, T, a0, F, N, F, a1, F, N] 3 3 true
def a552 : AV := .isl [F, N, F, a14, F, a285, F, N, T, a0, F, N] 3 3 true
def a553 : AV := .isl [F, N, F, a14, F, a1, F, N, T, a0, F, N] 3 3 true
def a554 : AV := .isl [F, N, F, a14, F, a1, F, N, F, a0, F, N] 3 3 true
def a555 : AV := .isl [F, N, F, a14, F, a0, F, N, F, a1, F, N] 3 3 true
def a556 : AV := .isl [F, a0, F, a19, F, a285, F, N, F, a285, F, N] 3 3 true
def a557 : AV := .isl [F, a0, F, a19, F, a285, F, N, F, a1, F, N] 3 3 true
def a558 : AV := .isl [F, a0, F, a19, F, a1, F, N, F, a285, F, N] 3 3 true
def a559 : AV := .isl [F, a0, F, a19, F, a1, F, N, F, a1, F, N] 3 3 true
def a560 : AV := .isl [F, a35, F, a19, F, a285, F, N, F, a1, F, N] 3 3 true
def a561 : AV := .isl [F, a35, F, a19, F, a1, F, N, F, a285, F, N] 3 3 true
def a562 : AV := .isl [F, a35, F, a19, F, a1, F, N, F, a1, F, N] 3 3 true
def a563 : AV := .isl [F, a14, F, a14] 1 1 false
def a564 : AV := .agg [F, N]
def a565 : AV := .agg [F, a0]
def a566 : AV := .agg [F, a1]
def a567 : AV := .agg [T, a18]
def a568 : AV := .agg [T, a14]
def a569 : AV := .agg [T, a71]
def a570 : AV := .agg [F, a14]
def a571 : AV := .agg [T, a0]
def a572 : AV := .agg [F, a19]
def a573 : AV := .agg [T, a19]
def a574 : AV := .agg [T, a35]
def a575 : AV := .agg [F, a35]
def a576 : AV := .agg [F, a69]
def a577 : AV := .agg [F, a18]
def a578 : AV := .agg [T, a132]
def a579 : AV := .agg [F, a164]
def a580 : AV := .agg [F, a166]
def a581 : AV := .agg [F, a301]
def a582 : AV := .isl [(U 12)] 1 1 true
def a583 : AV := .agg [F, a582]
def a584 : AV := .agg [F, a96]
def a585 : AV := .agg [F, a71]
def a586 : AV := .agg [F, a132]
def a587 : AV := .agg [F, a319]
def a588 : AV := .agg [F, a303]
def a589 : AV := .isl [(U 16)] 1 2 true
def a590 : AV := .agg [F, a589]
def a591 : AV := .tup [a564, a566, (I 0)]
def a592 : AV := .tup [a570, a566, (I 0)]
def a593 : AV := .tup [a577, a566, (I 0)]
def a594 : AV := .tup [a585, a566, (I 0)]
def a595 : AV := .agg [F, a476]
def a596 : AV := .tup [a595, a566, (I 0)]
def a597 : AV := .tup [a586, a566, (I 0)]
def a598 : AV := .agg [F, a285]
def a599 : AV := .agg [T, a69]
def a600 : AV := .agg [T, a164]
def a601 : AV := .agg [F, a305]
def a602 : AV := .agg [F, a307]
def a603 : AV := .agg [F, a309]
def a604 : AV := .agg [(S [99,117,98,101]), (I 1), a47]
def a605 : AV := .isl [F, a96, F, N, F, a96, F, N, F, a96, F, N, F, a96, F, N, F, a96, F, N, F, a0, F, N, F, a96, F, N, F, a0, F, N, F, a96, F, N, F, a96, F, N, F, a0, F, N, F, a0, F, N, F, a0, F, N, F, a96, F, N, F, a96, F, N, F, a0, F, N, F, a96, F, N, F, a0, F, N, F, a0, F, N, F, a0, F, N, F, a96, F, N, F, a0, F, N, F, a0, F, N, F, a0, F, N] 8 8 false
def a606 : AV := .isl [a605, a29, a30] 1 1 false
def a607 : AV := .tup [a606, (I 0)]
def a608 : AV := .isl [F, a35, F, N, F, a96, F, N, F, a96, F, N, F, a35, F, N, F, a96, F, N, F, a0, F, N, F, a35, F, N, F, a0, F, N, F, a96, F, N, F, a35, F, N, F, a0, F, N, F, a0, F, N, F, a69, F, N, F, a96, F, N, F, a96, F, N, F, a69, F, N, F, a96, F, N, F, a0, F, N, F, a69, F, N, F, a0, F, N, F, a96, F, N, F, a69, F, N, F, a0, F, N, F, a0, F, N] 8 8 false
def a609 : AV := .isl [a608, a72, a30] 1 1 false
def a610 : AV := .tup [a609, (I 0)]
def a611 : AV := .agg [(S [99,117,98,101]), (I 1), a54]
def a612 : AV := .agg [F, a0, F, N, F, a1, F, N, F, a1, F, N, F, a1, F, N, F, a0, F, N, F, a1, F, N, F, a1, F, N, F, a1, F, N, F, a0, F, N, F, a1, F, N, F, a1, F, N, F, a1, F, N]
def a613 : AV := .tup [a612, (I 0)]
def a614 : AV := .agg [F, a0, F, N, F, a1, F, N, F, a1, F, N, F, a1, F, N, F, a0, F, N, F, a1, F, N, F, a1, F, N, F, a1, F, N, F, a0, F, N, F, a14, F, N, F, a1, F, N, F, a1, F, N]
def a615 : AV := .tup [a614, (I 0)]
def a616 : AV := .agg [F, a0, F, N, F, a1, F, N, F, a1, F, N, F, a1, F, N, F, a0, F, N, F, a1, F, N, F, a1, F, N, F, a1, F, N, F, a0, F, N, F, a18, F, N, F, a1, F, N, F, a1, F, N]
def a617 : AV := .tup [a616, (I 0)]
def a618 : AV := .agg [F, a0, F, N, F, a1, F, N, F, a1, F, N, F, a1, F, N, F, a0, F, N, F, a1, F, N, F, a1, F, N, F, a1, F, N, F, a0, F, N, F, a14, F, a18, F, a1, F, N, F, a1, F, N]
def a619 : AV := .tup [a618, (I 0)]
def a620 : AV := .agg [F, a0, F, N, F, a1, F, N, F, a1, F, N, F, a1, F, N, F, a0, F, N, F, a1, F, N, F, a1, F, N, F, a1, F, N, F, a0, F, N, F, a71, F, N, F, a1, F, N, F, a1, F, N]
def a621 : AV := .tup [a620, (I 0)]
def a622 : AV := .agg [(I 1), a606]
def a623 : AV := .agg [(I 1), a609]
def a624 : AV := .agg [a62, a63, a30]
def a625 : AV := .tup [a232, T]
def a626 : AV := .agg [(I 0), (I 0), F, a1, F, a0, F, a19, F, a0]
def a627 : AV := .agg [(I 0), (I 0), F, a0, F, a0, F, a35, F, a0]
def a628 : AV := .agg [(I 0), (I 0), T, a19, F, a0, F, a1, F, a0]
def a629 : AV := .agg [(I 0), (I 0), T, a35, F, a0, T, a0, F, a0]
def a630 : AV := .agg [(I 0), (I 0), F, a19, F, a0, F, a69, F, a0]
def a631 : AV := .fn (.func 131) [] []
def a632 : AV := .tup [a626, T]
def a633 : AV := .agg [(I 0), (I 0), F, N, F, N, F, N, F, N]
def a634 : AV := .tup [a633, F]
def a635 : AV := .fn (.func 130) [] []
def a636 : AV := .tup [a627, T]
def a637 : AV := .tup [a630, T]
def a638 : AV := .agg [F, a291]
def a639 : AV := .agg [F, a293]
def a640 : AV := .agg [F, a295]
def a641 : AV := .agg [F, a297]
def a642 : AV := .agg [F, a299]
def a643 : AV := .agg [F, a311]
def a644 : AV := .agg [F, a313]
def a645 : AV := .agg [F, a315]
def a646 : AV := .agg [F, a317]
def a647 : AV := .isl [T, a14, F, N, F, a1, F, N, F, a1, F, N, F, a1, F, N, T, a0, F, N, F, a1, F, N, F, a1, F, N, F, a1, F, N, T, a14, F, N, F, a1, F, N, F, a1, F, N, F, a0, F, N, F, a1, F, N, F, a0, F, N, F, a1, F, N, F, a0, F, N, F, a1, F, N, F, a1, F, N] 6 6 false
def a648 : AV := .isl [(I 1), (I 1)] 2 2 true
def a649 : AV := .isl [(I 1), (I 0)] 2 2 true
def a650 : AV := .isl [(I (-1)), (I (-1))] 2 2 true
def a651 : AV := .isl [(I 0), (I 1)] 2 2 true
def a652 : AV := .isl [(I (-1)), (I 1)] 2 2 true
def a653 : AV := .isl [(I 0), (I (-1))] 2 2 true
def a654 : AV := .isl [(I 1), (I (-1))] 2 2 true
def a655 : AV := .isl [(I (-1)), (I 0)] 2 2 true
def a656 : AV := .isl [(I 0), (I (-1)), (I 1)] 3 3 true
def a657 : AV := .tup [a1, (U 1)]
def a658 : AV := .tup [a1, (U 2)]
def a659 : AV := .tup [a14, (U 0)]
def a660 : AV := .tup [a18, (U 0)]
def a661 : AV := .tup [a71, (U 0)]
def a662 : AV := .tup [a132, (U 0)]
def a663 : AV := .tup [a1, (U 4)]
def a664 : AV := .tup [a1, (U 3)]
def a665 : AV := .tup [a14, (U 1)]
def a666 : AV := .isl [(U 24)] 1 1 true
def a667 : AV := .tup [a666, (U 0)]
def a668 : AV := .tup [a71, (U 12)]
def a669 : AV := .tup [a476, (U 0)]
def a670 : AV := .tup [a71, (U 1)]
def a671 : AV := .isl [(S [49])] 1 1 false
def a672 : AV := .isl [(S [50])] 1 1 false
def a673 : AV := .isl [(S [52])] 1 1 false
def a674 : AV := .isl [(S [51])] 1 1 false
def a675 : AV := .tup [N, N]
def a676 : AV := .tup [N, a1]
def a677 : AV := .tup [N, a14]
def a678 : AV := .tup [N, a0]
def a679 : AV := .tup [N, a301]
def a680 : AV := .tup [a14, a1]
def a681 : AV := .tup [a18, a1]
def a682 : AV := .tup [a71, a1]
def a683 : AV := .tup [a132, a1]
def a684 : AV := .tup [a14, a14]
def a685 : AV := .tup [a666, a1]
def a686 : AV := .tup [a71, a582]
def a687 : AV := .tup [a476, a1]
def a688 : AV := .tup [a71, a14]
def a689 : AV := .agg [a46]
def a690 : AV := .agg [a243]
def a691 : AV := .isl [(S [50]), (S [52]), (I 0), (I 0)] 1 1 false
def a692 : AV := .tup [a691, (I 0)]
def a693 : AV := .tup [a156, T, (I 0)]
def a694 : AV := .isl [(S [50]), (S [52]), (I 0), (I 0)] 1 1 true
def a695 : AV := .isl [(U 0), (U 0)] 2 2 true
def a696 : AV := .isl [(U 1), (U 0)] 2 2 true
def a697 : AV := .isl [(U 2), (U 0)] 2 2 true
def a698 : AV := .isl [(U 0)] 1 1 true
def a699 : AV := .isl [(U 3), (U 0)] 2 2 true
def a700 : AV := .isl [(U 4), (U 0)] 2 2 true
def a701 : AV := .isl [(U 6), (U 0)] 2 2 true
def a702 : AV := .isl [(U 5), (U 0)] 2 2 true
def a703 : AV := .isl [(U 8), (U 0)] 2 2 true
def a704 : AV := .isl [(U 9), (U 0)] 2 2 true
def a705 : AV := .isl [(U 11), (U 0)] 2 2 true
def a706 : AV := .isl [(U 10), (U 0)] 2 2 true
def a707 : AV := .isl [(U 12), (U 0)] 2 2 true
def a708 : AV := .isl [(U 24), (U 0)] 2 2 true
def a709 : AV := .isl [(U 7), (U 0)] 2 2 true
def a710 : AV := .isl [(U 13), (U 0)] 2 2 true
def a711 : AV := .isl [(U 14), (U 0)] 2 2 true
def a712 : AV := .isl [(U 15), (U 0)] 2 2 true
def a713 : AV := .isl [(U 27), (U 0)] 2 2 true
def a714 : AV := .isl [(U 40), (U 0)] 2 2 true
def a715 : AV := .isl [(U 54), (U 0)] 2 2 true
def a716 : AV := .isl [(U 69), (U 0)] 2 2 true
def a717 : AV := .isl [(U 84), (U 0)] 2 2 true
def a718 : AV := .isl [(U 16), (U 0)] 2 2 true
def a719 : AV := .agg [a605, a29, a30]
def a720 : AV := .tup [a719, (I 0)]
def a721 : AV := .agg [a608, a72, a30]
def a722 : AV := .tup [a721, (I 0)]
def a723 : AV := .agg [a53]
def a724 : AV := .iptr [F, a0, F, N, F, a1, F, N, F, a1, F, N, F, a1, F, N, F, a0, F, N, F, a1, F, N, F, a1, F, N, F, a1, F, N, F, a0, F, N, F, a1, F, N, F, a1, F, N, F, a1, F, N]
def a725 : AV := .fn (.func 186) [] [a724]
def a726 : AV := .iptr [F, a0, F, N, F, a1, F, N, F, a1, F, N, F, a1, F, N, F, a0, F, N, F, a1, F, N, F, a1, F, N, F, a1, F, N, F, a0, F, N, F, a14, F, N, F, a1, F, N, F, a1, F, N]
def a727 : AV := .fn (.func 186) [] [a726]
def a728 : AV := .iptr [F, a0, F, N, F, a1, F, N, F, a1, F, N, F, a1, F, N, F, a0, F, N, F, a1, F, N, F, a1, F, N, F, a1, F, N, F, a0, F, N, F, a18, F, N, F, a1, F, N, F, a1, F, N]
def a729 : AV := .fn (.func 186) [] [a728]
def a730 : AV := .iptr [F, a0, F, N, F, a1, F, N, F, a1, F, N, F, a1, F, N, F, a0, F, N, F, a1, F, N, F, a1, F, N, F, a1, F, N, F, a0, F, N, F, a14, F, a18, F, a1, F, N, F, a1, F, N]
def a731 : AV := .fn (.func 186) [] [a730]
def a732 : AV := .iptr [F, a0, F, N, F, a1, F, N, F, a1, F, N, F, a1, F, N, F, a0, F, N, F, a1, F, N, F, a1, F, N, F, a1, F, N, F, a0, F, N, F, a71, F, N, F, a1, F, N, F, a1, F, N]
def a733 : AV := .fn (.func 186) [] [a732]
def a734 : AV := .iptr [(S [99,117,98,101])]
def a735 : AV := .iptr [(I 1), a31]
def a736 : AV := .iptr [(I 1), a34]
def a737 : AV := .iptr [F, a14, F, N, F, a1, F, N, F, a1, F, N]
def a738 : AV := .fn (.func 264) [] [a735, a736, a737]
def a739 : AV := .iptr [(I 1), a38]
def a740 : AV := .fn (.func 264) [] [a735, a739, a737]
def a741 : AV := .fn (.func 264) [] [a736, a735, a737]
def a742 : AV := .fn (.func 264) [] [a736, a739, a737]
def a743 : AV := .fn (.func 264) [] [a739, a735, a737]
def a744 : AV := .fn (.func 264) [] [a739, a736, a737]
def a745 : AV := .iptr [(I 1), a73]
def a746 : AV := .iptr [F, a0, F, N, F, a96, F, N, F, a96, F, N]
def a747 : AV := .fn (.func 264) [] [a735, a745, a746]
def a748 : AV := .tup [(S [48]), (S []), F]
def a749 : AV := .tup [(S [49]), (S []), F]
def a750 : AV := .tup [(S [50]), (S []), F]
def a751 : AV := .tup [(S [52]), (S []), F]
def a752 : AV := .tup [(S [49]), (S [50]), T]
def a753 : AV := .tup [(S [51]), (S []), F]
def a754 : AV := .tup [a566, (I 0)]
def a755 : AV := .tup [a570, (I 0)]
def a756 : AV := .tup [a577, (I 0)]
def a757 : AV := .tup [a586, (I 0)]
def a758 : AV := .tup [a585, (I 0)]
def a759 : AV := .isl [F, a1, F, N, F, a1, F, N, F, a0, F, N, F, a1, F, N, F, a0, F, N, F, a1, F, N, F, a0, F, N, F, a1, F, N, F, a1, F, N] 3 3 false
def a760 : AV := .tup [a107, a98]
def a761 : AV := .tup [a112, a107]
def a762 : AV := .tup [a98, a100]
def a763 : AV := .tup [a100, a111]
def a764 : AV := .tup [a119, a112]
def a765 : AV := .tup [a111, a116]
def a766 : AV := .tup [a133, a119]
def a767 : AV := .tup [a116, a127]
def a768 : AV := .tup [a149, a143]
def a769 : AV := .tup [a153, a147]
def a770 : AV := .isl [(I 0), (I 1), (I 2)] 1 1 false
def a771 : AV := .tup [a770, (I 0)]
def a772 : AV := .tup [N, (I 0)]
def a773 : AV := .tup [(S [50]), a21, (I 0)]
def a774 : AV := .tup [(I 1), T]
def a775 : AV := .isl [(I (-1)), (I 0), (I 0), (W 15), (I 0), (I 0), (I (-1)), (W 85), (I 0), (I (-1)), (I 0), (W 51), (I 0), (I 0), (I 1), (W 170), (I 0), (I 1), (I 0), (W 204), (I 1), (I 0), (I 0), (W 240)] 6 6 false
def a776 : AV := .isl [a23, a24, a25, a26, a27, a28] 6 6 false
def a777 : AV := .tup [a775, a776, (W 255)]
def a778 : AV := .agg [F, F, F, F, F, F, F, F, F, F, F, F, F, F, F, F, F, F, F, F, F, F, F, F, F, F, F, F, F, F, F, F, F, F, F, F, F, F, F, F, F, F, F, F, F, F, F, F, T, T, T, T, T, T, T, T, T, T, F, F, F, F, F, F, F, F, F, F, F, F, F, F, F, F, F, F, F, F, F, F, F, F, F, F, F, F, F, F, F, F, F, F, F, F, F, F, F, F, F, F, F, F, F, F, F, F, F, F, F, F, F, F, F, F, F, F, F, F, F, F, F, F, F, F, F, F, F, F, F, F, F, F, F, F, F, F, F, F, F, F, F, F, F, F, F, F, F, F, F, F, F, F, F, F, F, F, F, F, F, F, F, F, F, F, F, F, F, F, F, F, F, F, F, F, F, F, F, F, F, F, F, F, F, F, F, F, F, F, F, F, F, F, F, F, F, F, F, F, F, F, F, F, F, F, F, F, F, F, F, F, F, F, F, F, F, F, F, F, F, F, F, F, F, F, F, F, F, F, F, F, F, F, F, F, F, F, F, F, F, F, F, F, F, F, F, F, F, F, F, F, F, F, F, F, F, F]
def a779 : AV := .tup [a778, T]
def a780 : AV := .iptr [F, F, F, F, F, F, F, F, F, F, F, F, F, F, F, F, F, F, F, F, F, F, F, F, F, F, F, F, F, F, F, F, F, F, F, F, F, F, F, F, F, F, F, F, F, F, F, F, T, T, T, T, T, T, T, T, T, T, F, F, F, F, F, F, F, F, F, F, F, F, F, F, F, F, F, F, F, F, F, F, F, F, F, F, F, F, F, F, F, F, F, F, F, F, F, F, F, F, F, F, F, F, F, F, F, F, F, F, F, F, F, F, F, F, F, F, F, F, F, F, F, F, F, F, F, F, F, F, F, F, F, F, F, F, F, F, F, F, F, F, F, F, F, F, F, F, F, F, F, F, F, F, F, F, F, F, F, F, F, F, F, F, F, F, F, F, F, F, F, F, F, F, F, F, F, F, F, F, F, F, F, F, F, F, F, F, F, F, F, F, F, F, F, F, F, F, F, F, F, F, F, F, F, F, F, F, F, F, F, F, F, F, F, F, F, F, F, F, F, F, F, F, F, F, F, F, F, F, F, F, F, F, F, F, F, F, F, F, F, F, F, F, F, F, F, F, F, F, F, F, F, F, F, F, F, F]
def a781 : AV := .tup [(S [48]), F]
def a782 : AV := .tup [(S [49]), F]
def a783 : AV := .tup [(S [50]), F]
def a784 : AV := .tup [(S [52]), F]
def a785 : AV := .tup [(S [51]), F]
def a786 : AV := .fn (.func 276) [] []
def a787 : AV := .tup [(W 0), IN]
def a788 : AV := .tup [(W 1), IN]
def a789 : AV := .tup [(W 2), IN]
def a790 : AV := .tup [(W 4), IN]
def a791 : AV := .tup [(W 3), IN]
def a792 : AV := .agg [(S [50]), (S [52]), (I 0), (I 0)]
def a793 : AV := .agg [(I 0), (S [50]), (I 1), F, a18, F, N, (I 0), (S [52]), (I (-1)), F, a132, F, N]
def a794 : AV := .tup [a793, (I 0)]
def a795 : AV := .agg [(I 0), (S [50]), (I 1), F, a18, F, N]
def a796 : AV := .agg [(I 0), (S [52]), (I (-1)), F, a132, F, N]
def a797 : AV := .isl [(I 0), (S [50]), (I 1), F, a18, F, N, (I 0), (S [52]), (I (-1)), F, a132, F, N] 1 1 false
def a798 : AV := .agg [(S [97]), (S [99,117,98,101]), (I 1), (I 0), (I 0), (I 0), (S [48]), (S [48]), (S [48])]
def a799 : AV := .iptr [(S [98])]
def a800 : AV := .agg [(S [98]), (S [99,117,98,101]), (I 1), (I 0), (I 0), (I 0), (S [51]), (S [48]), (S [48])]
def a801 : AV := .isl [(I (-1)), (I 0), (I 0), (W 15), (I 0), (I (-1)), (I 0), (W 51), (I 0), (I 0), (I (-1)), (W 85), (I 0), (I 0), (I 1), (W 170), (I 0), (I 1), (I 0), (W 204), (I 1), (I 0), (I 0), (W 240)] 6 6 false
def a802 : AV := .agg [(I (-1)), (I 0), (I 0), (W 15)]
def a803 : AV := .agg [(I 0), (I (-1)), (I 0), (W 51)]
def a804 : AV := .agg [(I 0), (I 0), (I (-1)), (W 85)]
def a805 : AV := .agg [(I 0), (I 0), (I 1), (W 170)]
def a806 : AV := .agg [(I 0), (I 1), (I 0), (W 204)]
def a807 : AV := .agg [(I 1), (I 0), (I 0), (W 240)]
def a808 : AV := .agg [(I 0), (I (-1)), (I 0), (W 51), a25]
def a809 : AV := .agg [(I (-1)), (I 0), (I 0), (W 15), a23]
def a810 : AV := .agg [(I 0), (I 0), (I (-1)), (W 85), a24]
def a811 : AV := .agg [(I 0), (I 0), (I 1), (W 170), a26]
def a812 : AV := .agg [(I 0), (I 1), (I 0), (W 204), a27]
def a813 : AV := .agg [(I 1), (I 0), (I 0), (W 240), a28]
def a814 : AV := .iptr [a23]
def a815 : AV := .fn (.func 372) [] [a814]
def a816 : AV := .iptr [a24]
def a817 : AV := .fn (.func 372) [] [a816]
def a818 : AV := .iptr [a25]
def a819 : AV := .fn (.func 372) [] [a818]
def a820 : AV := .iptr [a26]
def a821 : AV := .fn (.func 372) [] [a820]
def a822 : AV := .iptr [a27]
def a823 : AV := .fn (.func 372) [] [a822]
def a824 : AV := .iptr [a28]
def a825 : AV := .fn (.func 372) [] [a824]
def a826 : AV := .agg [(I 1), (I 3), (I 0), (I 3)]
def a827 : AV := .agg [(I 0), (I 1), (I 0), (I 2)]
def a828 : AV := .agg [(I 2), (I 3), (I 0), (I 4)]
def a829 : AV := .agg [(I 0), (I 2), (I 0), (I 1)]
def a830 : AV := .agg [(I 2), (I 6), (I 1), (I 4)]
def a831 : AV := .agg [(I 4), (I 6), (I 1), (I 5)]
def a832 : AV := .agg [(I 0), (I 4), (I 1), (I 2)]
def a833 : AV := .agg [(I 4), (I 5), (I 2), (I 5)]
def a834 : AV := .agg [(I 1), (I 5), (I 2), (I 3)]
def a835 : AV := .agg [(I 5), (I 7), (I 3), (I 5)]
def a836 : AV := .agg [(I 3), (I 7), (I 3), (I 4)]
def a837 : AV := .agg [(I 6), (I 7), (I 4), (I 5)]
def a838 : AV := .tup [a795, (I 0)]
def a839 : AV := .tup [a796, (I 0)]
def a840 : AV := .agg [(I 0), (I (-1)), (I 1)]
def a841 : AV := .agg [(I 0), (I (-1)), (I (-1))]
def a842 : AV := .agg [(I (-1)), (I 0), (I 1)]
def a843 : AV := .agg [(I (-1)), (I 1), (I 0)]
def a844 : AV := .agg [(I (-1)), (I 1), (I 1)]
def a845 : AV := .agg [(I (-1)), (I (-1)), (I 0)]
def a846 : AV := .agg [(I (-1)), (I 0), (I (-1))]
def a847 : AV := .agg [(I (-1)), (I 1), (I (-1))]
def a848 : AV := .agg [(I (-1)), (I (-1)), (I 1)]
def a849 : AV := .agg [(I 1), (I (-1)), (I 0)]
def a850 : AV := .agg [(I 1), (I (-1)), (I 1)]
def a851 : AV := .agg [(I 1), (I (-1)), (I (-1))]
def a852 : AV := .agg [(I (-1)), (I (-1)), (I (-1))]
def a853 : AV := .agg [(I 0), (I 1), (I (-1))]
def a854 : AV := .agg [(I 1), (I 1), (I (-1))]
def a855 : AV := .agg [(I 1), (I 0), (I (-1))]
def a856 : AV := .iptr [(I 1), (I 0), (I 0)]
def a857 : AV := .iptr [a46]
def a858 : AV := .iptr [(I 2)]
def a859 : AV := .iptr [a243]
def a860 : AV := .iptr [a53]
def a861 : AV := .tup [a802, T]
def a862 : AV := .tup [a803, T]
def a863 : AV := .tup [a804, T]
def a864 : AV := .agg [(I (-1)), (I (-1)), (I (-1)), (W 22)]
def a865 : AV := .tup [a864, F]
def a866 : AV := .agg [(I 0), (I 1), (I (-1)), (W 153)]
def a867 : AV := .tup [a866, F]
def a868 : AV := .agg [(I (-1)), (I 0), (I (-1)), (W 90)]
def a869 : AV := .tup [a868, F]
def a870 : AV := .agg [(I 1), (I 1), (I 0), (W 60)]
def a871 : AV := .tup [a870, F]
def a872 : AV := .agg [(I 1), (I 0), (I (-1)), (W 165)]
def a873 : AV := .tup [a872, F]
def a874 : AV := .agg [(I 0), (I (-1)), (I (-1)), (W 102)]
def a875 : AV := .tup [a874, F]
def a876 : AV := .agg [(I 1), (I 1), (I (-1)), (W 41)]
def a877 : AV := .tup [a876, F]
def a878 : AV := .tup [a805, T]
def a879 : AV := .agg [(I (-1)), (I (-1)), (I 0), (W 60)]
def a880 : AV := .tup [a879, F]
def a881 : AV := .agg [(I (-1)), (I 1), (I 0), (W 195)]
def a882 : AV := .tup [a881, F]
def a883 : AV := .agg [(I (-1)), (I 1), (I (-1)), (W 73)]
def a884 : AV := .tup [a883, F]
def a885 : AV := .tup [a806, T]
def a886 : AV := .agg [(I 1), (I 0), (I 1), (W 90)]
def a887 : AV := .tup [a886, F]
def a888 : AV := .agg [(I (-1)), (I 1), (I 1), (W 97)]
def a889 : AV := .tup [a888, F]
def a890 : AV := .agg [(I 0), (I 1), (I 1), (W 102)]
def a891 : AV := .tup [a890, F]
def a892 : AV := .agg [(I 1), (I 1), (I 1), (W 104)]
def a893 : AV := .tup [a892, F]
def a894 : AV := .tup [a807, T]
def a895 : AV := .agg [(I 1), (I (-1)), (I (-1)), (W 134)]
def a896 : AV := .tup [a895, F]
def a897 : AV := .agg [(I 0), (I (-1)), (I 1), (W 153)]
def a898 : AV := .tup [a897, F]
def a899 : AV := .agg [(I 1), (I (-1)), (I 1), (W 146)]
def a900 : AV := .tup [a899, F]
def a901 : AV := .agg [(I (-1)), (I (-1)), (I 1), (W 148)]
def a902 : AV := .tup [a901, F]
def a903 : AV := .agg [(I (-1)), (I 0), (I 1), (W 165)]
def a904 : AV := .tup [a903, F]
def a905 : AV := .agg [(I 1), (I (-1)), (I 0), (W 195)]
def a906 : AV := .tup [a905, F]
def a907 : AV := .fn (.func 362) [] []
def a908 : AV := .iptr [a22, a29, a30]
def a909 : AV := .fn (.func 453) [] [a908]
def a910 : AV := .iptr [a70, a72, a30]
def a911 : AV := .fn (.func 453) [] [a910]
def f13 : List Entry := [
  (119, [], T)]
def f17 : List Entry := [
  (82, [a2], a3),
  (82, [a4], a5),
  (82, [a6], a7),
  (82, [a8], a9),
  (82, [a10], a11),
  (82, [a12], a13),
  (82, [a15], a7),
  (82, [a16], a11),
  (82, [a17], a3),
  (89, [a20], a21)]
def f20 : List Entry := [
  (113, [a40, a41, a42, a5, (I 1)], a43),
  (113, [a40, a41, a44, a5, (I 2)], a45)]
def f22 : List Entry := [
  (115, [a50], a51)]
def f23 : List Entry := [
  (113, [a50], a52),
  (113, [a57], a59),
  (113, [a61], a66),
  (113, [a68], a75)]
def f24 : List Entry := [
  (9, [a40], (I 3))]
def f26 : List Entry := [
  (114, [a50], a76),
  (114, [a61], a77),
  (114, [a57], a76)]
def f31 : List Entry := [
  (113, [a40, a41, a5, (I 2)], a79),
  (113, [a40, a41, a5, (I 1)], a81)]
def f41 : List Entry := [
  (94, [a82], a84),
  (94, [a5], a86),
  (94, [a87], a89),
  (94, [a90], a92),
  (95, [a93], a95)]
def f42 : List Entry := [
  (73, [a2, a97], a98),
  (73, [a6, a97], a98),
  (73, [a10, a97], a98),
  (73, [a8, a99], a100),
  (73, [a12, a101], a100),
  (73, [a4, a102], a100),
  (73, [a4, a97], a98),
  (73, [a12, a97], a98),
  (73, [a8, a97], a98),
  (73, [a4, a99], a98),
  (73, [a12, a99], a98),
  (73, [a4, a101], a98),
  (73, [a8, a101], a98),
  (73, [a4, a103], a98),
  (73, [a12, a103], a100),
  (73, [a8, a103], a100),
  (73, [a12, a102], a98),
  (73, [a8, a102], a98),
  (73, [a4, a104], a100),
  (73, [a12, a104], a98),
  (73, [a8, a104], a100),
  (73, [a4, a105], a100),
  (73, [a12, a105], a100),
  (73, [a8, a105], a98),
  (73, [a4, a106], a100),
  (73, [a12, a106], a100),
  (73, [a8, a106], a100),
  (73, [a4, a2], a107),
  (73, [a12, a2], a98),
  (73, [a8, a2], a98),
  (73, [a2, a83], a98),
  (73, [a4, a6], a98),
  (73, [a12, a6], a98),
  (73, [a8, a6], a107),
  (73, [a6, a83], a98),
  (73, [a4, a10], a98),
  (73, [a12, a10], a107),
  (73, [a8, a10], a98),
  (73, [a10, a83], a98),
  (73, [a4, a8], a98),
  (73, [a12, a8], a98),
  (73, [a8, a8], a100),
  (73, [a4, a12], a98),
  (73, [a12, a12], a100),
  (73, [a8, a12], a98),
  (73, [a4, a4], a100),
  (73, [a12, a4], a98),
  (73, [a8, a4], a98),
  (73, [a2, a4], a107),
  (73, [a6, a4], a98),
  (73, [a10, a4], a98),
  (73, [a8, a108], a100),
  (73, [a12, a109], a100),
  (73, [a4, a110], a111),
  (73, [a2, a110], a112),
  (73, [a6, a110], a98),
  (73, [a10, a110], a98),
  (73, [a8, a113], a100),
  (73, [a12, a114], a100),
  (73, [a4, a115], a116),
  (75, [a17, a83], a98),
  (75, [a17, a8], a98),
  (75, [a17, a12], a98),
  (75, [a17, a117], a98),
  (75, [a17, a4], a107),
  (75, [a17, a108], a107),
  (75, [a17, a109], a107),
  (75, [a17, a106], a107),
  (75, [a17, a110], a112),
  (75, [a17, a113], a112),
  (75, [a17, a114], a112),
  (75, [a17, a118], a112),
  (75, [a10, a8], a98),
  (75, [a10, a12], a107),
  (75, [a10, a117], a107),
  (75, [a10, a108], a98),
  (75, [a10, a109], a107),
  (75, [a10, a106], a107),
  (75, [a10, a113], a98),
  (75, [a10, a114], a107),
  (75, [a10, a118], a107),
  (75, [a15, a83], a98),
  (75, [a15, a8], a107),
  (75, [a15, a12], a98),
  (75, [a15, a117], a107),
  (75, [a15, a4], a98),
  (75, [a15, a108], a107),
  (75, [a15, a109], a98),
  (75, [a15, a106], a107),
  (75, [a15, a110], a98),
  (75, [a15, a113], a107),
  (75, [a15, a114], a98),
  (75, [a15, a118], a107),
  (75, [a8, a83], a98),
  (75, [a8, a117], a100),
  (75, [a8, a109], a98),
  (75, [a8, a110], a98),
  (75, [a8, a114], a98),
  (75, [a8, a118], a100),
  (75, [a12, a83], a98),
  (75, [a12, a117], a100),
  (75, [a12, a108], a98),
  (75, [a12, a110], a98),
  (75, [a12, a113], a98),
  (75, [a12, a118], a100),
  (75, [a4, a83], a98),
  (75, [a4, a117], a98),
  (75, [a4, a108], a100),
  (75, [a4, a109], a100),
  (75, [a4, a113], a111),
  (75, [a4, a114], a111),
  (75, [a4, a118], a111),
  (75, [a17, a115], a119),
  (75, [a17, a120], a119),
  (75, [a17, a121], a119),
  (75, [a17, a122], a119),
  (75, [a10, a115], a98),
  (75, [a10, a120], a98),
  (75, [a10, a121], a107),
  (75, [a10, a122], a107),
  (75, [a15, a115], a98),
  (75, [a15, a120], a107),
  (75, [a15, a121], a98),
  (75, [a15, a122], a107),
  (75, [a8, a115], a98),
  (75, [a8, a120], a100),
  (75, [a8, a121], a98),
  (75, [a8, a122], a100),
  (75, [a12, a115], a98),
  (75, [a12, a120], a98),
  (75, [a12, a121], a100),
  (75, [a12, a122], a100),
  (75, [a4, a120], a116),
  (75, [a4, a121], a116),
  (75, [a4, a122], a116),
  (75, [a17, a85], a107),
  (75, [a10, a85], a98),
  (75, [a15, a85], a98),
  (75, [a8, a85], a98),
  (75, [a12, a85], a98),
  (75, [a4, a85], a100),
  (76, [a2, a123], a119),
  (76, [a6, a123], a98),
  (76, [a10, a123], a98),
  (76, [a8, a124], a100),
  (76, [a12, a125], a100),
  (76, [a4, a126], a127),
  (76, [a4, a123], a116),
  (76, [a12, a123], a98),
  (76, [a8, a123], a98),
  (76, [a4, a124], a116),
  (76, [a12, a124], a98),
  (76, [a4, a125], a116),
  (76, [a8, a125], a98),
  (76, [a12, a126], a98),
  (76, [a8, a126], a98),
  (76, [a4, a128], a127),
  (76, [a12, a128], a98),
  (76, [a8, a128], a100),
  (76, [a4, a129], a127),
  (76, [a12, a129], a100),
  (76, [a8, a129], a98),
  (76, [a4, a130], a127),
  (76, [a12, a130], a100),
  (76, [a8, a130], a100),
  (76, [a2, a115], a119),
  (76, [a6, a115], a98),
  (76, [a4, a131], a127),
  (76, [a17, a131], a133),
  (76, [a17, a134], a133),
  (76, [a17, a135], a133),
  (76, [a17, a130], a133),
  (76, [a17, a102], a107),
  (76, [a10, a131], a98),
  (76, [a10, a134], a98),
  (76, [a10, a135], a107),
  (76, [a10, a130], a107),
  (76, [a10, a102], a98),
  (76, [a15, a131], a98),
  (76, [a15, a134], a107),
  (76, [a15, a135], a98),
  (76, [a15, a130], a107),
  (76, [a15, a102], a98),
  (76, [a8, a131], a98),
  (76, [a8, a134], a100),
  (76, [a8, a135], a98),
  (76, [a12, a131], a98),
  (76, [a12, a134], a98),
  (76, [a12, a135], a100),
  (76, [a4, a134], a127),
  (76, [a4, a135], a127),
  (77, [a83, a17], a98),
  (77, [a83, a15], a98),
  (78, [a83, a16], a98),
  (78, [a8, a136], a100),
  (78, [a8, a137], a100),
  (78, [a12, a138], a100),
  (78, [a12, a139], a100),
  (78, [a4, a140], a100),
  (78, [a4, a141], a100),
  (79, [a85, a140], a100),
  (79, [a85, a141], a100),
  (91, [a2, a142], a143),
  (91, [a6, a142], a98),
  (91, [a10, a142], a98),
  (91, [a8, a144], a100),
  (91, [a12, a145], a100),
  (91, [a4, a146], a147),
  (92, [a17, a142], a143),
  (92, [a17, a144], a143),
  (92, [a17, a145], a143),
  (92, [a17, a148], a143),
  (92, [a17, a146], a149),
  (92, [a17, a150], a149),
  (92, [a17, a151], a149),
  (92, [a17, a152], a149),
  (92, [a10, a144], a98),
  (92, [a10, a145], a107),
  (92, [a10, a148], a107),
  (92, [a10, a146], a98),
  (92, [a10, a150], a98),
  (92, [a10, a151], a107),
  (92, [a10, a152], a107),
  (92, [a15, a142], a98),
  (92, [a15, a144], a107),
  (92, [a15, a145], a98),
  (92, [a15, a148], a107),
  (92, [a15, a146], a98),
  (92, [a15, a150], a107),
  (92, [a15, a151], a98),
  (92, [a15, a152], a107),
  (92, [a8, a142], a98),
  (92, [a8, a145], a98),
  (92, [a8, a148], a100),
  (92, [a8, a146], a98),
  (92, [a8, a150], a100),
  (92, [a8, a151], a98),
  (92, [a8, a152], a100),
  (92, [a12, a142], a98),
  (92, [a12, a144], a98),
  (92, [a12, a148], a100),
  (92, [a12, a146], a98),
  (92, [a12, a150], a98),
  (92, [a12, a151], a100),
  (92, [a12, a152], a100),
  (92, [a4, a142], a153),
  (92, [a4, a144], a153),
  (92, [a4, a145], a153),
  (92, [a4, a148], a153),
  (92, [a4, a150], a147),
  (92, [a4, a151], a147),
  (92, [a4, a152], a147)]
def f43 : List Entry := [
  (25, [a100], (I 1)),
  (25, [a112], (I (-1))),
  (25, [a107], (I (-1))),
  (25, [a98], (I 0)),
  (25, [a119], (I (-1))),
  (25, [a154], (I 1)),
  (25, [a155], (I 0)),
  (25, [a156], (I 1)),
  (25, [a157], (I 1)),
  (25, [a158], (I (-1))),
  (25, [a159], (I (-1))),
  (25, [a160], (I (-1))),
  (25, [a111], (I 1)),
  (25, [a161], (I 1)),
  (35, [a162], (I 1)),
  (44, [a149], (I (-1))),
  (44, [a143], (I (-1))),
  (44, [a133], (I (-1))),
  (44, [a163], (I 1)),
  (44, [a165], (I 1)),
  (44, [a167], (I 1))]
def f49 : List Entry := [
  (9, [a40, a41], (I 0)),
  (10, [a40, a42], (I 0)),
  (10, [a40, a44], (I 0))]
def f50 : List Entry := [
  (97, [a5], (I 0))]
def f52 : List Entry := [
  (116, [], T)]
def f53 : List Entry := [
  (118, [], T)]
def f54 : List Entry := [
  (74, [a83], a169),
  (96, [a170], a171),
  (96, [a172], a173),
  (96, [a174], a175),
  (96, [a99], a176),
  (96, [a101], a177),
  (96, [a102], a178),
  (96, [a17], a171),
  (96, [a15], a173),
  (96, [a16], a175),
  (96, [a8], a176),
  (97, [a12], a177),
  (97, [a4], a178),
  (97, [a2], a171),
  (97, [a6], a173),
  (97, [a10], a175),
  (97, [a85], a178),
  (97, [a179], a176),
  (97, [a180], a177),
  (97, [a181], a178)]
def f56 : List Entry := [
  (59, [a182], a97),
  (59, [a183], a99),
  (59, [a184], a101),
  (59, [a185], a103),
  (59, [a186], a102),
  (59, [a187], a104),
  (59, [a188], a105),
  (59, [a189], a106),
  (59, [a190], a170),
  (59, [a191], a172),
  (59, [a192], a174),
  (66, [a193], a123),
  (66, [a194], a124),
  (66, [a195], a125),
  (66, [a196], a122),
  (66, [a197], a126),
  (66, [a198], a128),
  (66, [a199], a129),
  (66, [a200], a130)]
def f57 : List Entry := [
  (46, [a201], (S [48])),
  (48, [a98], (S [48])),
  (73, [a100], (S [49])),
  (73, [a111], (S [50])),
  (73, [a202], (S [45,49])),
  (73, [a107], (S [45,49])),
  (76, [a203], (S [49])),
  (76, [a204], (S [50])),
  (76, [a156], (S [50])),
  (76, [a162], (S [52])),
  (77, [a205], (S [51])),
  (80, [a153], (S [49,47,50]))]
def f58 : List Entry := [
  (101, [a40, a5, (I 2), a206], a86),
  (101, [a40, a5, (I 1), a206], a86),
  (101, [a40, a5, (I 1), a207], a86),
  (101, [a40, a5, (I 2), a208], a86)]
def f60 : List Entry := [
  (10, [a41, a41], a210),
  (10, [a42, a211], a214),
  (10, [a44, a215], a218)]
def f61 : List Entry := [
  (112, [a40, (I 0), (I 1), a85, (I 2)], a220),
  (112, [a40, (I 0), (I 2), a85, (I 2)], a222),
  (112, [a40, (I 1), (I 0), a85, (I 2)], a222),
  (112, [a40, (I 1), (I 2), a85, (I 2)], a224),
  (112, [a40, (I 2), (I 0), a85, (I 2)], a222),
  (112, [a40, (I 2), (I 1), a85, (I 2)], a222),
  (112, [a40, (I 0), (I 1), a85, (I 1)], a226),
  (112, [a40, (I 0), (I 2), a85, (I 1)], a228),
  (112, [a40, (I 1), (I 0), a85, (I 1)], a222),
  (112, [a40, (I 1), (I 2), a85, (I 1)], a230),
  (112, [a40, (I 2), (I 0), a85, (I 1)], a222),
  (112, [a40, (I 2), (I 1), a85, (I 1)], a222)]
def f64 : List Entry := [
  (111, [a232, a233], a235),
  (111, [a232, a236], a238),
  (111, [a232, a239], a241),
  (111, [a242, a233], a235),
  (111, [a245, a233], a247),
  (111, [a232, a248], a250),
  (111, [a232, a251], a247)]
def f66 : List Entry := [
  (109, [a50], (I 0)),
  (109, [a57], (I 0)),
  (109, [a61], (I 0)),
  (109, [a68], (I 0))]
def f67 : List Entry := [
  (112, [a50], a39),
  (112, [a57], a58),
  (112, [a61], a65),
  (112, [a68], a74)]
def f69 : List Entry := [
  (9, [a39], a252),
  (12, [a58], a254),
  (12, [a65], a256),
  (12, [a74], a258)]
def f70 : List Entry := [
  (111, [a234, a237, a85, (I 2)], a259),
  (111, [a234, a240, a85, (I 2)], a260),
  (111, [a237, a234, a85, (I 2)], a260),
  (111, [a237, a240, a85, (I 2)], a259),
  (111, [a240, a234, a85, (I 2)], a260),
  (111, [a240, a237, a85, (I 2)], a260),
  (111, [a234, a237, a85, (I 1)], a262),
  (111, [a234, a240, a85, (I 1)], a264),
  (111, [a237, a234, a85, (I 1)], a260),
  (111, [a237, a240, a85, (I 1)], a262),
  (111, [a240, a234, a85, (I 1)], a260),
  (111, [a240, a237, a85, (I 1)], a260),
  (111, [a234, a246, a102, (I 1)], a266)]
def f71 : List Entry := [
  (86, [(S [50])], a267),
  (86, [(S [52])], a269)]
def f72 : List Entry := [
  (73, [a100, a100], a270),
  (75, [a112, a107], a271),
  (75, [a98, a100], a272),
  (75, [a119, a107], a273),
  (75, [a154, a100], a270),
  (76, [a98, a107], a272),
  (76, [a112, a100], a274),
  (76, [a154, a107], a275),
  (76, [a119, a100], a276),
  (76, [a111, a111], a277),
  (76, [a127, a111], a278),
  (76, [a133, a107], a279),
  (76, [a163, a100], a271),
  (76, [a165, a111], a280),
  (78, [a165, a165], a277),
  (79, [a100, a167], a282),
  (80, [a100, a111], a283)]
def f73 : List Entry := [
  (54, [(I 0)], a201),
  (54, [(I 1)], a100),
  (54, [(I 2)], a111),
  (54, [(I (-1))], a202),
  (56, [(I 3)], a116),
  (56, [(I 4)], a127),
  (57, [(I 6)], a165)]
def f74 : List Entry := [
  (54, [a284, a98], a98),
  (54, [a98, a286], a98),
  (54, [a284, a286], a98),
  (54, [a98, a98], a98),
  (54, [a98, a100], a100),
  (54, [a100, a286], a100),
  (54, [a284, a100], a100),
  (55, [a100, a98], a100),
  (55, [a284, a202], a107),
  (55, [a107, a286], a107),
  (55, [a98, a202], a107),
  (55, [a98, a154], a100),
  (55, [a100, a154], a111),
  (55, [a284, a111], a111),
  (55, [a111, a286], a111),
  (55, [a98, a163], a111),
  (55, [a100, a163], a116),
  (55, [a284, a287], a112),
  (55, [a112, a286], a112),
  (55, [a284, a116], a116),
  (55, [a116, a286], a116),
  (55, [a100, a202], a98),
  (55, [a111, a202], a154),
  (55, [a111, a287], a98),
  (55, [a286, a286], a98),
  (55, [a286, a202], a107),
  (55, [a286, a98], a98),
  (55, [a107, a98], a107),
  (55, [a112, a98], a112),
  (55, [a111, a98], a111),
  (55, [a116, a287], a154),
  (55, [a116, a288], a98),
  (55, [a284, a288], a119),
  (55, [a119, a286], a119),
  (56, [a119, a98], a119),
  (56, [a116, a98], a116),
  (56, [a119, a154], a112),
  (56, [a107, a154], a98),
  (56, [a98, a287], a112),
  (56, [a107, a163], a154),
  (56, [a98, a288], a119),
  (56, [a112, a163], a98),
  (56, [a100, a288], a112),
  (56, [a284, a127], a127),
  (56, [a127, a286], a127),
  (57, [a127, a98], a127),
  (57, [a127, a288], a154),
  (57, [a127, a289], a98),
  (57, [a284, a289], a133),
  (57, [a133, a286], a133),
  (57, [a133, a98], a133),
  (57, [a116, a202], a163),
  (57, [a98, a290], a116),
  (57, [a100, a290], a127),
  (57, [a100, a100], a111),
  (57, [a111, a100], a116),
  (57, [a116, a100], a127),
  (57, [a127, a100], a292),
  (57, [a292, a100], a165),
  (58, [a98, a111], a111),
  (58, [a98, a116], a116),
  (58, [a100, a111], a116),
  (58, [a116, a116], a165),
  (58, [a165, a111], a294),
  (58, [a127, a111], a165),
  (58, [a165, a116], a296),
  (58, [a294, a100], a296),
  (58, [a296, a111], a298),
  (58, [a296, a100], a300),
  (58, [a296, a116], a302),
  (58, [a298, a100], a302),
  (58, [a300, a111], a302),
  (58, [a165, a165], a302),
  (58, [a127, a116], a304),
  (58, [a165, a304], a306),
  (58, [a116, a127], a304),
  (58, [a304, a304], a308),
  (58, [a304, a165], a306),
  (58, [a127, a127], a294),
  (58, [a294, a304], a310),
  (58, [a98, a308], a308),
  (58, [a308, a306], a312),
  (58, [a312, a306], a314),
  (58, [a314, a308], a316),
  (58, [a316, a310], a318),
  (58, [a318, a310], a320),
  (76, [a155, a156], a111),
  (76, [a157, a161], a127),
  (76, [a156, a162], a165),
  (77, [a98, a321], a153),
  (77, [a100, a321], a147),
  (77, [a284, a322], a143),
  (77, [a143, a286], a143),
  (77, [a284, a323], a98),
  (77, [a284, a147], a147),
  (77, [a147, a286], a147),
  (77, [a153, a322], a323),
  (77, [a147, a322], a203),
  (77, [a147, a324], a323),
  (77, [a143, a98], a143),
  (77, [a284, a324], a149),
  (77, [a149, a286], a149),
  (77, [a149, a98], a149),
  (77, [a284, a153], a153),
  (77, [a153, a286], a153),
  (77, [a153, a98], a153),
  (77, [a147, a98], a147),
  (77, [a153, a202], a143),
  (78, [a284, a203], a100),
  (80, [a284, a325], a325),
  (80, [a153, a325], a326),
  (80, [a153, a153], a203)]
def f75 : List Entry := [
  (107, [a327, a328, a85], a329),
  (107, [a327, a330, a85], a331),
  (107, [a328, a327, a85], a332),
  (107, [a328, a330, a85], a329),
  (107, [a330, a327, a85], a333),
  (107, [a330, a328, a85], a332),
  (107, [a327, a334, a102], a335)]
def f76 : List Entry := [
  (47, [a202, a284], (I (-1))),
  (47, [a201, a284], (I 0)),
  (47, [a100, a284], (I 1)),
  (48, [a107, a284], (I (-1))),
  (48, [a98, a284], (I 0)),
  (48, [a98, a98], (I 0)),
  (48, [a98, a100], (I (-1))),
  (48, [a154, a284], (I 1)),
  (48, [a100, a100], (I 0)),
  (48, [a100, a98], (I 1)),
  (48, [a100, a107], (I 1)),
  (48, [a98, a107], (I 1)),
  (48, [a202, a98], (I (-1))),
  (48, [a107, a98], (I (-1))),
  (48, [a107, a107], (I 0)),
  (48, [a112, a107], (I (-1))),
  (48, [a112, a112], (I 0)),
  (48, [a111, a100], (I 1)),
  (48, [a111, a111], (I 0)),
  (49, [a119, a112], (I (-1))),
  (49, [a119, a119], (I 0)),
  (49, [a116, a111], (I 1)),
  (49, [a116, a116], (I 0)),
  (50, [a133, a119], (I (-1))),
  (50, [a133, a133], (I 0)),
  (50, [a127, a116], (I 1)),
  (50, [a127, a127], (I 0)),
  (50, [a163, a268], (I (-1))),
  (75, [a155, a156], (I (-1))),
  (76, [a157, a161], (I (-1))),
  (76, [a158, a155], (I (-1))),
  (76, [a159, a160], (I (-1))),
  (76, [a201, a155], (I 0)),
  (76, [a201, a157], (I (-1))),
  (76, [a156, a162], (I (-1))),
  (76, [a156, a201], (I 1)),
  (76, [a201, a156], (I (-1))),
  (77, [a323, a284], (I 0)),
  (77, [a203, a284], (I 1)),
  (77, [a143, a143], (I 0)),
  (77, [a149, a143], (I (-1))),
  (77, [a149, a149], (I 0)),
  (77, [a153, a153], (I 0)),
  (77, [a147, a153], (I 1)),
  (77, [a147, a147], (I 0))]
def f86 : List Entry := [
  (54, [a170, a168], (I (-1))),
  (54, [a172, a168], (I (-1))),
  (54, [a174, a168], (I (-1))),
  (54, [a99, a168], (I 1)),
  (54, [a101, a168], (I 1)),
  (54, [a102, a168], (I 1)),
  (55, [a17, a168], (I (-1))),
  (55, [a15, a168], (I (-1))),
  (55, [a16, a168], (I (-1))),
  (55, [a8, a168], (I 1)),
  (55, [a12, a168], (I 1)),
  (55, [a4, a168], (I 1)),
  (55, [a2, a168], (I (-1))),
  (55, [a6, a168], (I (-1))),
  (55, [a10, a168], (I (-1))),
  (55, [a8, a12], (I (-1))),
  (55, [a85, a168], (I 1)),
  (55, [a12, a4], (I (-1))),
  (55, [a12, a12], (I 0)),
  (55, [a4, a4], (I 0)),
  (55, [a12, a8], (I 1)),
  (55, [a8, a8], (I 0)),
  (55, [a83, a168], (I 0)),
  (55, [a4, a17], (I 1)),
  (55, [a15, a4], (I (-1))),
  (55, [a15, a17], (I 1)),
  (55, [a8, a4], (I (-1))),
  (55, [a8, a15], (I 1)),
  (55, [a10, a4], (I (-1))),
  (55, [a10, a8], (I (-1))),
  (55, [a10, a15], (I (-1))),
  (55, [a10, a17], (I 1)),
  (87, [a179, a168], (I 1)),
  (87, [a180, a168], (I 1)),
  (87, [a181, a168], (I 1))]
def f87 : List Entry := [
  (82, [a2], a4),
  (82, [a6], a8),
  (82, [a10], a12),
  (82, [a8], a15),
  (82, [a12], a16),
  (82, [a4], a17)]
def f89 : List Entry := [
  (90, [a82, a336], a84),
  (90, [a5, a336], a86),
  (90, [a87, a336], a89),
  (91, [a90, a336], a92),
  (92, [a93, a336], a95)]
def f90 : List Entry := [
  (81, [(S [48])], a337),
  (81, [(S [49])], a338),
  (81, [(S [50])], a267),
  (86, [(S [49,47,50])], a339),
  (88, [(S [51])], a340)]
def f91 : List Entry := [
  (59, [a2, a97, a341], a342),
  (59, [a6, a97, a341], a343),
  (59, [a10, a97, a341], a344),
  (59, [a8, a99, a341], a345),
  (59, [a12, a101, a341], a346),
  (59, [a4, a102, a341], a347),
  (59, [a4, a97, a341], a342),
  (60, [a12, a97, a341], a344),
  (60, [a8, a97, a341], a343),
  (60, [a83, a83, a348], a83),
  (60, [a4, a99, a341], a349),
  (60, [a12, a99, a341], a350),
  (60, [a8, a83, a348], a8),
  (60, [a4, a101, a341], a351),
  (60, [a8, a101, a341], a350),
  (60, [a12, a83, a348], a12),
  (60, [a4, a103, a341], a83),
  (60, [a12, a103, a341], a352),
  (60, [a8, a103, a341], a353),
  (60, [a117, a83, a348], a117),
  (60, [a12, a102, a341], a351),
  (60, [a8, a102, a341], a349),
  (60, [a4, a83, a348], a4),
  (60, [a4, a104, a341], a354),
  (60, [a12, a104, a341], a83),
  (60, [a8, a104, a341], a355),
  (60, [a108, a83, a348], a108),
  (60, [a4, a105, a341], a356),
  (60, [a12, a105, a341], a357),
  (60, [a8, a105, a341], a83),
  (60, [a109, a83, a348], a109),
  (60, [a4, a106, a341], a4),
  (61, [a12, a106, a341], a12),
  (61, [a8, a106, a341], a8),
  (61, [a106, a83, a348], a106),
  (61, [a4, a2, a341], a358),
  (61, [a12, a2, a341], a351),
  (61, [a8, a2, a341], a349),
  (61, [a2, a83, a341], a342),
  (61, [a4, a6, a341], a349),
  (61, [a12, a6, a341], a350),
  (61, [a8, a6, a341], a359),
  (61, [a6, a83, a341], a343),
  (61, [a4, a10, a341], a351),
  (61, [a12, a10, a341], a360),
  (61, [a8, a10, a341], a350),
  (61, [a10, a83, a341], a344),
  (61, [a4, a8, a341], a349),
  (61, [a12, a8, a341], a350),
  (61, [a8, a8, a341], a345),
  (61, [a4, a12, a341], a351),
  (61, [a12, a12, a341], a346),
  (61, [a8, a12, a341], a350),
  (61, [a4, a4, a341], a347),
  (61, [a12, a4, a341], a351),
  (61, [a8, a4, a341], a349),
  (61, [a83, a85, a348], a4),
  (61, [a8, a85, a348], a108),
  (61, [a12, a85, a348], a109),
  (61, [a117, a85, a348], a106),
  (62, [a4, a85, a348], a110),
  (62, [a108, a85, a348], a113),
  (62, [a109, a85, a348], a114),
  (62, [a106, a85, a348], a118),
  (62, [a2, a4, a341], a358),
  (62, [a6, a4, a341], a349),
  (62, [a10, a4, a341], a351),
  (62, [a8, a108, a341], a355),
  (62, [a12, a109, a341], a357),
  (62, [a4, a110, a341], a361),
  (62, [a83, a88, a348], a110),
  (62, [a8, a88, a348], a113),
  (62, [a12, a88, a348], a114),
  (62, [a117, a88, a348], a118),
  (62, [a4, a88, a348], a115),
  (62, [a108, a88, a348], a120),
  (62, [a109, a88, a348], a121),
  (62, [a106, a88, a348], a122),
  (62, [a2, a110, a341], a362),
  (62, [a6, a110, a341], a349),
  (62, [a10, a110, a341], a351),
  (62, [a8, a113, a341], a355),
  (62, [a12, a114, a341], a357),
  (62, [a4, a115, a341], a363),
  (63, [a17, a83, a341], a342),
  (63, [a17, a8, a341], a349),
  (63, [a17, a12, a341], a351),
  (63, [a17, a117, a341], a83),
  (63, [a17, a4, a341], a358),
  (63, [a17, a108, a341], a364),
  (63, [a17, a109, a341], a365),
  (63, [a17, a106, a341], a2),
  (63, [a17, a110, a341], a362),
  (63, [a17, a113, a341], a366),
  (63, [a17, a114, a341], a367),
  (63, [a17, a118, a341], a368),
  (63, [a10, a8, a341], a350),
  (63, [a10, a12, a341], a360),
  (63, [a10, a117, a341], a369),
  (63, [a10, a108, a341], a83),
  (63, [a10, a109, a341], a370),
  (63, [a10, a106, a341], a10),
  (63, [a10, a113, a341], a83),
  (63, [a10, a114, a341], a370),
  (63, [a10, a118, a341], a10),
  (63, [a15, a83, a341], a343),
  (63, [a15, a8, a341], a359),
  (63, [a15, a12, a341], a350),
  (63, [a15, a117, a341], a371),
  (64, [a15, a4, a341], a349),
  (64, [a15, a108, a341], a372),
  (64, [a15, a109, a341], a83),
  (64, [a15, a106, a341], a6),
  (64, [a15, a110, a341], a349),
  (64, [a15, a113, a341], a372),
  (64, [a15, a114, a341], a83),
  (64, [a15, a118, a341], a6),
  (64, [a8, a83, a341], a343),
  (64, [a8, a117, a341], a353),
  (64, [a8, a109, a341], a83),
  (64, [a8, a110, a341], a349),
  (64, [a8, a114, a341], a83),
  (64, [a8, a118, a341], a8),
  (64, [a12, a83, a341], a344),
  (64, [a12, a117, a341], a352),
  (64, [a12, a108, a341], a83),
  (64, [a12, a110, a341], a351),
  (64, [a12, a113, a341], a83),
  (64, [a12, a118, a341], a12),
  (64, [a4, a83, a341], a342),
  (64, [a4, a117, a341], a83),
  (64, [a4, a108, a341], a354),
  (64, [a4, a109, a341], a356),
  (64, [a4, a113, a341], a373),
  (64, [a4, a114, a341], a374),
  (64, [a4, a118, a341], a110),
  (64, [a17, a115, a341], a375),
  (65, [a17, a120, a341], a376),
  (65, [a17, a121, a341], a377),
  (65, [a17, a122, a341], a378),
  (65, [a10, a115, a341], a351),
  (65, [a10, a120, a341], a83),
  (65, [a10, a121, a341], a370),
  (65, [a10, a122, a341], a10),
  (65, [a15, a115, a341], a349),
  (65, [a15, a120, a341], a372),
  (65, [a15, a121, a341], a83),
  (65, [a15, a122, a341], a6),
  (65, [a8, a115, a341], a349),
  (65, [a8, a120, a341], a355),
  (65, [a8, a121, a341], a83),
  (65, [a8, a122, a341], a8),
  (65, [a12, a115, a341], a351),
  (65, [a12, a120, a341], a83),
  (65, [a12, a121, a341], a357),
  (65, [a12, a122, a341], a12),
  (65, [a4, a120, a341], a379),
  (65, [a4, a121, a341], a380),
  (65, [a4, a122, a341], a115),
  (65, [a17, a85, a341], a358),
  (65, [a10, a85, a341], a351),
  (65, [a15, a85, a341], a349),
  (65, [a8, a85, a341], a349),
  (65, [a12, a85, a341], a351),
  (66, [a4, a85, a341], a347),
  (66, [a2, a123, a341], a375),
  (66, [a6, a123, a341], a349),
  (66, [a10, a123, a341], a351),
  (66, [a8, a124, a341], a355),
  (66, [a12, a125, a341], a357),
  (66, [a4, a126, a341], a381),
  (66, [a4, a123, a341], a363),
  (66, [a12, a123, a341], a351),
  (66, [a8, a123, a341], a349),
  (66, [a115, a83, a348], a115),
  (66, [a4, a124, a341], a379),
  (67, [a12, a124, a341], a83),
  (67, [a120, a83, a348], a120),
  (67, [a4, a125, a341], a380),
  (67, [a8, a125, a341], a83),
  (67, [a121, a83, a348], a121),
  (67, [a122, a83, a348], a122),
  (67, [a12, a126, a341], a351),
  (67, [a8, a126, a341], a349),
  (67, [a131, a83, a348], a131),
  (67, [a4, a128, a341], a382),
  (67, [a12, a128, a341], a83),
  (67, [a8, a128, a341], a355),
  (67, [a134, a83, a348], a134),
  (67, [a4, a129, a341], a383),
  (67, [a12, a129, a341], a357),
  (67, [a8, a129, a341], a83),
  (67, [a135, a83, a348], a135),
  (67, [a4, a130, a341], a131),
  (67, [a12, a130, a341], a12),
  (67, [a8, a130, a341], a8),
  (67, [a130, a83, a348], a130),
  (67, [a2, a115, a341], a375),
  (67, [a6, a115, a341], a349),
  (67, [a4, a131, a341], a381),
  (67, [a17, a131, a341], a384),
  (67, [a17, a134, a341], a385),
  (67, [a17, a135, a341], a386),
  (67, [a17, a130, a341], a387),
  (68, [a17, a102, a341], a358),
  (68, [a10, a131, a341], a351),
  (68, [a10, a134, a341], a83),
  (68, [a10, a135, a341], a370),
  (68, [a10, a130, a341], a10),
  (68, [a10, a102, a341], a351),
  (68, [a15, a131, a341], a349),
  (68, [a15, a134, a341], a372),
  (68, [a15, a135, a341], a83),
  (68, [a15, a130, a341], a6),
  (68, [a15, a102, a341], a349),
  (68, [a8, a131, a341], a349),
  (68, [a8, a134, a341], a355),
  (68, [a8, a135, a341], a83),
  (68, [a12, a131, a341], a351),
  (68, [a12, a134, a341], a83),
  (68, [a12, a135, a341], a357),
  (68, [a4, a134, a341], a382),
  (68, [a4, a135, a341], a383),
  (69, [a83, a94, a348], a115),
  (69, [a8, a94, a348], a120),
  (69, [a12, a94, a348], a121),
  (69, [a117, a94, a348], a122),
  (69, [a4, a94, a348], a131),
  (69, [a108, a94, a348], a134),
  (69, [a109, a94, a348], a135),
  (69, [a106, a94, a348], a130),
  (69, [a83, a17, a341], a342),
  (69, [a83, a8, a348], a8),
  (69, [a8, a117, a348], a388),
  (69, [a83, a117, a348], a117),
  (69, [a117, a12, a348], a389),
  (69, [a83, a15, a341], a343),
  (69, [a83, a12, a348], a12),
  (69, [a12, a109, a348], a390),
  (69, [a83, a109, a348], a109),
  (69, [a109, a4, a348], a114),
  (69, [a83, a16, a341], a344),
  (69, [a83, a4, a348], a4),
  (69, [a4, a108, a348], a113),
  (69, [a83, a108, a348], a108),
  (69, [a108, a8, a348], a391),
  (69, [a8, a136, a341], a355),
  (69, [a8, a108, a348], a391),
  (69, [a391, a106, a348], a392),
  (69, [a8, a137, a341], a353),
  (70, [a8, a106, a348], a393),
  (70, [a393, a117, a348], a394),
  (70, [a12, a138, a341], a352),
  (70, [a12, a117, a348], a389),
  (70, [a389, a106, a348], a395),
  (70, [a12, a139, a341], a357),
  (70, [a12, a106, a348], a396),
  (70, [a396, a109, a348], a397),
  (70, [a4, a140, a341], a356),
  (70, [a4, a109, a348], a114),
  (70, [a114, a106, a348], a398),
  (70, [a4, a141, a341], a354),
  (70, [a4, a106, a348], a118),
  (70, [a118, a108, a348], a399),
  (70, [a168, a350, a348], a83),
  (70, [a83, a350, a348], a83),
  (70, [a83, a351, a348], a83),
  (70, [a83, a349, a348], a83),
  (70, [a83, a392, a348], a392),
  (70, [a392, a394, a348], a400),
  (70, [a400, a395, a348], a401),
  (70, [a401, a397, a348], a402),
  (70, [a402, a398, a348], a403),
  (70, [a403, a399, a348], a404),
  (70, [a115, a120, a348], a405),
  (70, [a122, a115, a348], a406),
  (70, [a405, a406, a348], a407),
  (70, [a115, a122, a348], a406),
  (70, [a121, a115, a348], a408),
  (70, [a406, a408, a348], a409),
  (71, [a115, a121, a348], a408),
  (71, [a135, a115, a348], a410),
  (71, [a408, a410, a348], a411),
  (71, [a115, a135, a348], a410),
  (71, [a131, a115, a348], a412),
  (71, [a410, a412, a348], a413),
  (71, [a115, a131, a348], a412),
  (71, [a134, a115, a348], a414),
  (71, [a412, a414, a348], a415),
  (71, [a115, a134, a348], a414),
  (71, [a120, a115, a348], a405),
  (71, [a414, a405, a348], a416),
  (71, [a120, a134, a348], a417),
  (71, [a130, a115, a348], a418),
  (71, [a417, a418, a348], a419),
  (71, [a120, a130, a348], a420),
  (71, [a420, a406, a348], a421),
  (71, [a121, a122, a348], a422),
  (71, [a422, a418, a348], a423),
  (71, [a121, a130, a348], a424),
  (71, [a424, a410, a348], a425),
  (71, [a85, a140, a341], a356),
  (71, [a131, a135, a348], a426),
  (71, [a426, a418, a348], a427),
  (71, [a85, a141, a341], a354),
  (71, [a131, a130, a348], a428),
  (71, [a428, a414, a348], a429),
  (71, [a168, a83, a348], a83),
  (71, [a83, a419, a348], a419),
  (71, [a419, a421, a348], a430),
  (71, [a430, a423, a348], a431),
  (71, [a431, a425, a348], a432),
  (72, [a432, a427, a348], a433),
  (72, [a433, a429, a348], a434),
  (73, [a168, a2, a435], a4),
  (73, [a168, a6, a435], a8),
  (73, [a168, a10, a435], a12),
  (73, [a168, a8, a435], a15),
  (73, [a168, a12, a435], a16),
  (73, [a168, a4, a435], a17),
  (73, [a108, a4, a435], a8),
  (74, [a109, a4, a435], a12),
  (74, [a110, a4, a435], a85),
  (74, [a106, a108, a435], a12),
  (74, [a113, a108, a435], a85),
  (74, [a106, a109, a435], a8),
  (74, [a114, a109, a435], a85),
  (74, [a118, a106, a435], a85),
  (74, [a113, a110, a435], a8),
  (74, [a114, a110, a435], a12),
  (74, [a118, a113, a435], a12),
  (74, [a118, a114, a435], a8),
  (74, [a8, a83, a435], a8),
  (74, [a12, a83, a435], a12),
  (74, [a4, a83, a435], a4),
  (74, [a117, a8, a435], a12),
  (74, [a108, a8, a435], a4),
  (74, [a117, a12, a435], a8),
  (74, [a109, a12, a435], a4),
  (74, [a106, a117, a435], a4),
  (75, [a115, a110, a435], a85),
  (75, [a120, a113, a435], a85),
  (75, [a121, a114, a435], a85),
  (75, [a122, a118, a435], a85),
  (75, [a120, a115, a435], a8),
  (75, [a121, a115, a435], a12),
  (75, [a122, a120, a435], a12),
  (75, [a122, a121, a435], a8),
  (76, [a131, a115, a435], a85),
  (76, [a134, a120, a435], a85),
  (76, [a135, a121, a435], a85),
  (76, [a130, a122, a435], a85),
  (76, [a134, a131, a435], a8),
  (76, [a135, a131, a435], a12),
  (76, [a130, a134, a435], a12),
  (76, [a130, a135, a435], a8),
  (77, [a83, a83, a435], a83),
  (77, [a117, a83, a435], a117),
  (77, [a109, a83, a435], a109),
  (78, [a108, a83, a435], a108),
  (78, [a106, a83, a435], a106),
  (78, [a388, a388, a437], a350),
  (78, [a389, a389, a437], a350),
  (78, [a390, a390, a437], a351),
  (78, [a114, a114, a437], a351),
  (78, [a113, a113, a437], a349),
  (78, [a391, a391, a437], a349),
  (78, [a392, a392, a439], a392),
  (78, [a394, a394, a439], a394),
  (78, [a395, a395, a439], a395),
  (78, [a397, a397, a439], a397),
  (79, [a398, a398, a439], a398),
  (79, [a399, a399, a439], a399),
  (79, [a115, a115, a435], a83),
  (79, [a122, a115, a435], a117),
  (79, [a135, a115, a435], a440),
  (79, [a134, a115, a435], a441),
  (79, [a130, a115, a435], a442),
  (80, [a407, a407, a437], a83),
  (80, [a409, a409, a437], a83),
  (80, [a411, a411, a437], a351),
  (80, [a413, a413, a437], a351),
  (80, [a415, a415, a437], a349),
  (80, [a416, a416, a437], a349),
  (80, [a419, a419, a439], a419),
  (80, [a421, a421, a439], a421),
  (80, [a423, a423, a439], a423),
  (80, [a425, a425, a439], a425),
  (80, [a427, a427, a439], a427),
  (80, [a429, a429, a439], a429),
  (86, [a83, a91, a348], a142),
  (86, [a8, a91, a348], a144),
  (86, [a12, a91, a348], a145),
  (86, [a117, a91, a348], a148),
  (86, [a4, a91, a348], a146),
  (86, [a108, a91, a348], a150),
  (86, [a109, a91, a348], a151),
  (86, [a106, a91, a348], a152),
  (86, [a2, a142, a341], a443),
  (86, [a6, a142, a341], a444),
  (86, [a10, a142, a341], a445),
  (86, [a8, a144, a341], a446),
  (86, [a12, a145, a341], a447),
  (86, [a4, a146, a341], a448),
  (87, [a17, a142, a341], a443),
  (87, [a17, a144, a341], a449),
  (87, [a17, a145, a341], a450),
  (87, [a17, a148, a341], a451),
  (87, [a17, a146, a341], a452),
  (87, [a17, a150, a341], a453),
  (87, [a17, a151, a341], a454),
  (87, [a17, a152, a341], a455),
  (87, [a10, a144, a341], a456),
  (87, [a10, a145, a341], a457),
  (87, [a10, a148, a341], a458),
  (87, [a10, a146, a341], a445),
  (87, [a10, a150, a341], a456),
  (87, [a10, a151, a341], a457),
  (87, [a10, a152, a341], a458),
  (87, [a15, a142, a341], a444),
  (87, [a15, a144, a341], a459),
  (87, [a15, a145, a341], a456),
  (87, [a15, a148, a341], a460),
  (87, [a15, a146, a341], a444),
  (87, [a15, a150, a341], a459),
  (88, [a15, a151, a341], a456),
  (88, [a15, a152, a341], a460),
  (88, [a8, a142, a341], a444),
  (88, [a8, a145, a341], a456),
  (88, [a8, a148, a341], a179),
  (88, [a8, a146, a341], a444),
  (88, [a8, a150, a341], a446),
  (88, [a8, a151, a341], a456),
  (88, [a8, a152, a341], a179),
  (88, [a12, a142, a341], a445),
  (88, [a12, a144, a341], a456),
  (88, [a12, a148, a341], a180),
  (88, [a12, a146, a341], a445),
  (88, [a12, a150, a341], a456),
  (88, [a12, a151, a341], a447),
  (88, [a12, a152, a341], a180),
  (88, [a4, a142, a341], a461),
  (88, [a4, a144, a341], a462),
  (88, [a4, a145, a341], a463),
  (88, [a4, a148, a341], a142),
  (88, [a4, a150, a341], a464),
  (88, [a4, a151, a341], a465),
  (88, [a4, a152, a341], a146),
  (89, [a168, a466, a348], a466),
  (89, [a168, a467, a348], a467),
  (89, [a466, a467, a348], a468),
  (90, [a170, a170, a470], a2),
  (90, [a2, a2, a470], a2),
  (90, [a172, a172, a470], a6),
  (90, [a6, a6, a470], a6),
  (90, [a174, a174, a470], a10),
  (90, [a10, a10, a470], a10),
  (90, [a99, a99, a470], a8),
  (90, [a8, a8, a470], a8),
  (90, [a101, a101, a470], a12),
  (90, [a12, a12, a470], a12),
  (90, [a102, a102, a470], a4),
  (90, [a4, a4, a470], a4),
  (90, [a17, a17, a470], a2),
  (90, [a15, a15, a470], a6),
  (90, [a16, a16, a470], a10),
  (90, [a85, a85, a470], a4),
  (91, [a144, a142, a435], a179),
  (91, [a179, a179, a470], a8),
  (91, [a145, a142, a435], a180),
  (91, [a180, a180, a470], a12),
  (91, [a146, a142, a435], a181),
  (91, [a181, a181, a470], a4),
  (91, [a148, a144, a435], a180),
  (91, [a150, a144, a435], a181),
  (91, [a148, a145, a435], a179),
  (91, [a151, a145, a435], a181),
  (92, [a152, a148, a435], a181),
  (92, [a150, a146, a435], a179),
  (92, [a151, a146, a435], a180),
  (92, [a152, a150, a435], a180),
  (92, [a152, a151, a435], a179),
  (93, [a404, a404, a472], a473),
  (93, [a473, a473, a475], a466),
  (93, [a466, a466, a470], a466),
  (93, [a466, a466, a439], a466),
  (93, [a434, a434, a472], a477),
  (93, [a477, a477, a475], a467),
  (93, [a467, a467, a470], a467),
  (93, [a467, a467, a439], a467),
  (93, [a468, a468, a479], a20)]
def f92 : List Entry := [
  (54, [a202, a201], a98),
  (54, [a98, a201], a286),
  (54, [a100, a100], a100),
  (55, [a100, a201], a98),
  (55, [a98, a100], a98),
  (55, [a100, a202], a202),
  (55, [a98, a98], a286),
  (55, [a98, a202], a98),
  (55, [a100, a98], a98),
  (55, [a202, a98], a98),
  (55, [a202, a100], a202),
  (55, [a100, a111], a111),
  (55, [a202, a111], a287),
  (55, [a98, a111], a98),
  (55, [a100, a116], a116),
  (55, [a107, a98], a98),
  (55, [a107, a100], a202),
  (55, [a107, a111], a287),
  (55, [a107, a116], a288),
  (56, [a98, a116], a98),
  (56, [a107, a154], a202),
  (56, [a98, a154], a98),
  (56, [a100, a154], a100),
  (56, [a202, a116], a288),
  (56, [a100, a127], a127),
  (57, [a98, a127], a98),
  (57, [a107, a127], a289),
  (57, [a107, a201], a98),
  (57, [a98, a107], a98),
  (58, [a127, a165], a167),
  (58, [a154, a98], a98),
  (58, [a154, a100], a100),
  (58, [a98, a302], a98),
  (58, [a98, a306], a98),
  (58, [a98, a308], a98),
  (58, [a100, a308], a308),
  (58, [a100, a306], a306),
  (58, [a100, a310], a310),
  (73, [a157, a202], a202),
  (73, [a157, a201], a98),
  (73, [a157, a98], a98),
  (73, [a157, a100], a100),
  (73, [a157, a107], a202),
  (74, [a157, a154], a100),
  (77, [a202, a153], a322),
  (77, [a98, a153], a323),
  (77, [a100, a147], a147),
  (77, [a157, a323], a98),
  (77, [a157, a203], a100),
  (77, [a107, a153], a322),
  (77, [a107, a147], a324),
  (77, [a98, a147], a323),
  (77, [a100, a153], a153),
  (79, [a281, a302], a321),
  (79, [a203, a321], a153),
  (79, [a157, a153], a153),
  (80, [a281, a320], a480),
  (80, [a203, a480], a325),
  (80, [a157, a325], a325),
  (80, [a100, a325], a325),
  (80, [a153, a326], a204),
  (80, [a153, a203], a153)]
def f93 : List Entry := [
  (59, [a481], a98),
  (59, [a482], a98),
  (59, [a483], a98),
  (59, [a484], a100),
  (59, [a485], a100),
  (59, [a486], a100),
  (60, [a487], a98),
  (60, [a488], a98),
  (60, [a489], a98),
  (60, [a490], a98),
  (60, [a491], a100),
  (60, [a492], a100),
  (60, [a493], a100),
  (60, [a494], a100),
  (60, [a495], a100),
  (60, [a496], a100),
  (60, [a497], a100),
  (61, [a498], a100),
  (61, [a499], a100),
  (61, [a500], a107),
  (61, [a501], a107),
  (61, [a502], a107),
  (62, [a503], a111),
  (62, [a504], a112),
  (62, [a505], a116),
  (63, [a506], a107),
  (63, [a507], a107),
  (63, [a508], a107),
  (63, [a509], a112),
  (63, [a510], a112),
  (63, [a511], a112),
  (63, [a512], a107),
  (63, [a513], a107),
  (63, [a514], a107),
  (64, [a515], a107),
  (64, [a516], a107),
  (64, [a517], a107),
  (64, [a518], a111),
  (64, [a519], a111),
  (64, [a520], a111),
  (65, [a521], a119),
  (65, [a522], a119),
  (65, [a523], a119),
  (65, [a524], a119),
  (65, [a525], a116),
  (65, [a526], a116),
  (65, [a527], a116),
  (66, [a528], a127),
  (67, [a529], a127),
  (67, [a530], a127),
  (67, [a531], a127),
  (67, [a532], a133),
  (67, [a533], a133),
  (67, [a534], a133),
  (68, [a535], a133),
  (86, [a536], a143),
  (86, [a537], a98),
  (86, [a538], a98),
  (86, [a539], a100),
  (86, [a540], a100),
  (86, [a541], a147),
  (87, [a542], a143),
  (87, [a543], a143),
  (87, [a544], a143),
  (87, [a545], a149),
  (87, [a546], a149),
  (87, [a547], a149),
  (87, [a548], a149),
  (87, [a549], a98),
  (87, [a550], a107),
  (87, [a551], a107),
  (87, [a552], a107),
  (87, [a553], a107),
  (88, [a554], a100),
  (88, [a555], a100),
  (88, [a556], a153),
  (88, [a557], a153),
  (88, [a558], a153),
  (88, [a559], a153),
  (88, [a560], a147),
  (88, [a561], a147),
  (88, [a562], a147),
  (89, [a563], a100)]
def f94 : List Entry := [
  (1, [a564], (I 0)),
  (7, [a565], (I 1)),
  (7, [a566], (I 0)),
  (9, [a567], (I (-1))),
  (9, [a568], (I (-1))),
  (9, [a569], (I (-1))),
  (9, [a570], (I 1)),
  (10, [a571], (I (-1))),
  (10, [a572], (I 1)),
  (10, [a573], (I (-1))),
  (10, [a574], (I (-1))),
  (10, [a575], (I 1)),
  (12, [a576], (I 1)),
  (12, [a577], (I 1)),
  (12, [a578], (I (-1))),
  (13, [a579], (I 1)),
  (13, [a580], (I 1)),
  (13, [a581], (I 1)),
  (14, [a583], (I 1))]
def f98 : List Entry := [
  (44, [a321], a577),
  (44, [a153], a572),
  (44, [a322], a572),
  (44, [a143], a572),
  (44, [a147], a572),
  (44, [a323], a570),
  (44, [a203], a570),
  (44, [a324], a572),
  (44, [a149], a572),
  (44, [a281], a580),
  (44, [a157], a565),
  (45, [a480], a577),
  (45, [a325], a572),
  (45, [a326], a570),
  (59, [a202], a565),
  (59, [a201], a565),
  (59, [a100], a565),
  (61, [a107], a565),
  (61, [a98], a565),
  (62, [a154], a565),
  (65, [a112], a565),
  (66, [a119], a565),
  (66, [a111], a565),
  (66, [a127], a565),
  (68, [a133], a565),
  (68, [a163], a565),
  (68, [a165], a565),
  (68, [a284], a565),
  (69, [a286], a565),
  (70, [a167], a565),
  (70, [a302], a565),
  (72, [a320], a565)]
def f99 : List Entry := [
  (1, [a584], (S [48])),
  (9, [a566], (S [48])),
  (59, [a565], (S [49])),
  (59, [a572], (S [50])),
  (62, [a571], (S [45,49])),
  (62, [a568], (S [45,49])),
  (66, [a570], (S [49])),
  (66, [a577], (S [50])),
  (68, [a576], (S [52])),
  (68, [a585], (S [51]))]
def f100 : List Entry := [
  (7, [a565, a566], a565),
  (7, [a564, a566], a564),
  (9, [a570, a566], a570),
  (47, [a564, a571], a565),
  (47, [a564, a565], a565),
  (49, [a564, a570], a570),
  (49, [a566, a565], a565),
  (51, [a566, a572], a572),
  (51, [a566, a576], a576),
  (54, [a565, a565], a565),
  (56, [a572, a565], a565),
  (56, [a575, a565], a565),
  (56, [a573, a565], a565),
  (56, [a571, a565], a565),
  (56, [a574, a565], a565),
  (56, [a572, a572], a572),
  (56, [a576, a572], a572),
  (57, [a576, a565], a565),
  (57, [a579, a572], a572),
  (57, [a570, a577], a570),
  (57, [a565, a572], a565),
  (57, [a575, a572], a570),
  (57, [a571, a572], a565),
  (57, [a568, a572], a570),
  (57, [a565, a570], a570),
  (57, [a586, a576], a576),
  (57, [a574, a572], a570),
  (57, [a569, a572], a570),
  (57, [a579, a579], a579),
  (58, [a565, a580], a565),
  (58, [a581, a580], a581),
  (58, [a587, a580], a583),
  (58, [a588, a572], a570),
  (58, [a590, a576], a576),
  (58, [a576, a576], a576)]
def f101 : List Entry := [
  (7, [a202], a571),
  (7, [a98], a566),
  (8, [a100], a565),
  (9, [a154], a570)]
def f102 : List Entry := [
  (25, [a565], (I 1)),
  (25, [a570], (I 1))]
def f103 : List Entry := [
  (81, [], a50)]
def f104 : List Entry := [
  (112, [], T)]
def f105 : List Entry := [
  (117, [], T)]
def f106 : List Entry := [
  (59, [a170], F),
  (59, [a172], F),
  (59, [a174], F),
  (59, [a99], F),
  (59, [a101], F),
  (59, [a102], F),
  (61, [a17], F),
  (61, [a15], F),
  (61, [a16], F),
  (61, [a8], F),
  (61, [a12], F),
  (61, [a4], F),
  (62, [a2], F),
  (62, [a6], F),
  (62, [a10], F),
  (62, [a85], F),
  (62, [a83], T),
  (91, [a179], F),
  (91, [a180], F),
  (91, [a181], F)]
def f107 : List Entry := [
  (46, [(I 0)], a584),
  (46, [(I 1)], a565),
  (46, [(I 2)], a572),
  (47, [(I (-1))], a571),
  (50, [(I 3)], a575),
  (50, [(I 4)], a576),
  (51, [(I 6)], a579)]
def f108 : List Entry := [
  (51, [a566, a572], a591),
  (51, [a566, a576], a591),
  (54, [a565, a565], a592),
  (56, [a572, a572], a592),
  (56, [a576, a572], a593),
  (57, [a579, a572], a594),
  (57, [a576, a576], a592),
  (57, [a565, a570], a592),
  (57, [a586, a576], a592),
  (58, [a579, a579], a592),
  (58, [a581, a581], a592),
  (58, [a580, a581], a593),
  (58, [a587, a583], a596),
  (58, [a580, a583], a593),
  (58, [a590, a576], a597)]
def f109 : List Entry := [
  (47, [a570, a565], a565),
  (47, [a565, a571], a571),
  (47, [a565, a584], a566),
  (47, [a565, a566], a566),
  (47, [a571, a584], a566),
  (47, [a566, a584], a598),
  (47, [a565, a565], a565),
  (47, [a566, a565], a566),
  (47, [a566, a566], a598),
  (48, [a566, a571], a566),
  (48, [a565, a568], a571),
  (48, [a571, a566], a566),
  (48, [a571, a565], a571),
  (48, [a565, a572], a572),
  (48, [a571, a572], a573),
  (48, [a566, a572], a566),
  (48, [a565, a575], a575),
  (48, [a565, a570], a565),
  (48, [a568, a566], a566),
  (48, [a568, a565], a571),
  (48, [a568, a572], a573),
  (48, [a568, a575], a574),
  (49, [a566, a575], a566),
  (49, [a568, a570], a571),
  (49, [a567, a565], a573),
  (49, [a566, a570], a566),
  (49, [a569, a565], a574),
  (49, [a572, a565], a572),
  (49, [a576, a565], a576),
  (50, [a571, a575], a574),
  (50, [a565, a576], a576),
  (50, [a566, a576], a566),
  (50, [a568, a576], a599),
  (50, [a578, a565], a599),
  (50, [a568, a584], a566),
  (50, [a577, a565], a572),
  (50, [a579, a565], a579),
  (51, [a566, a577], a566),
  (51, [a565, a577], a572),
  (51, [a564, a572], a566),
  (51, [a598, a572], a566),
  (51, [a575, a565], a575),
  (51, [a572, a572], a576),
  (51, [a570, a570], a565),
  (51, [a565, a564], a566),
  (51, [a575, a572], a579),
  (51, [a574, a572], a600),
  (51, [a574, a565], a574),
  (51, [a569, a572], a600),
  (51, [a566, a568], a566),
  (51, [a565, a579], a579),
  (52, [a576, a579], a580),
  (52, [a565, a580], a580),
  (52, [a565, a581], a581),
  (52, [a580, a565], a580),
  (52, [a570, a577], a572),
  (52, [a570, a566], a566),
  (52, [a566, a581], a566),
  (52, [a566, a601], a566),
  (52, [a566, a602], a566),
  (52, [a565, a602], a602),
  (52, [a565, a601], a601),
  (52, [a565, a603], a603),
  (52, [a565, a587], a587),
  (52, [a570, a595], a588),
  (52, [a588, a565], a588),
  (52, [a565, a588], a588),
  (52, [a588, a572], a602),
  (53, [a565, a586], a576),
  (53, [a572, a570], a572)]
def f110 : List Entry := [
  (73, [a565, a565], a270)]
def f111 : List Entry := [
  (89, [a388, a98], a350),
  (89, [a389, a98], a350),
  (89, [a390, a98], a351),
  (89, [a114, a98], a351),
  (89, [a113, a98], a349),
  (89, [a391, a98], a349),
  (89, [a392, a100], a392),
  (89, [a394, a100], a394),
  (89, [a395, a100], a395),
  (89, [a397, a100], a397),
  (89, [a398, a100], a398),
  (89, [a399, a100], a399),
  (89, [a407, a98], a83),
  (89, [a409, a98], a83),
  (89, [a411, a98], a351),
  (89, [a413, a98], a351),
  (89, [a415, a98], a349),
  (89, [a416, a98], a349),
  (89, [a419, a100], a419),
  (89, [a421, a100], a421),
  (89, [a423, a100], a423),
  (89, [a425, a100], a425),
  (89, [a427, a100], a427),
  (89, [a429, a100], a429),
  (94, [a170, a157], a2),
  (94, [a2, a157], a2),
  (94, [a172, a157], a6),
  (94, [a6, a157], a6),
  (94, [a174, a157], a10),
  (94, [a10, a157], a10),
  (94, [a99, a157], a8),
  (94, [a8, a157], a8),
  (94, [a101, a157], a12),
  (94, [a12, a157], a12),
  (94, [a102, a157], a4),
  (94, [a4, a157], a4),
  (94, [a17, a157], a2),
  (94, [a15, a157], a6),
  (94, [a16, a157], a10),
  (94, [a85, a157], a4),
  (94, [a179, a157], a8),
  (94, [a180, a157], a12),
  (94, [a181, a157], a4),
  (95, [a404, a281], a473),
  (95, [a473, a203], a466),
  (95, [a466, a157], a466),
  (95, [a466, a100], a466),
  (95, [a434, a281], a477),
  (95, [a477, a203], a467),
  (95, [a467, a157], a467),
  (95, [a467, a100], a467),
  (95, [a468, a153], a20)]
def f113 : List Entry := [
  (15, [a201], T),
  (15, [a100], T),
  (15, [a111], T),
  (24, [a202], T),
  (24, [a284], T),
  (24, [a98], T),
  (24, [a286], T),
  (25, [a107], T),
  (25, [a154], T),
  (25, [a163], T),
  (25, [a287], T),
  (25, [a112], T),
  (25, [a116], T),
  (25, [a288], T),
  (25, [a119], T),
  (34, [a127], T),
  (34, [a289], T),
  (34, [a133], T),
  (34, [a268], T),
  (44, [a290], T),
  (44, [a292], T),
  (44, [a165], T),
  (44, [a294], T),
  (44, [a296], T),
  (44, [a298], T),
  (44, [a300], T),
  (44, [a304], T),
  (44, [a302], T),
  (44, [a306], T),
  (44, [a308], T),
  (44, [a312], T),
  (44, [a314], T),
  (44, [a310], T),
  (44, [a316], T),
  (44, [a318], T),
  (59, [a157], T),
  (66, [a155], T),
  (66, [a156], T),
  (66, [a161], T),
  (66, [a158], T),
  (66, [a159], T),
  (66, [a160], T),
  (66, [a203], T),
  (66, [a204], T),
  (68, [a162], T),
  (68, [a205], T),
  (68, [a321], F),
  (68, [a153], F),
  (68, [a322], F),
  (69, [a143], F),
  (69, [a323], T),
  (69, [a147], F),
  (69, [a324], F),
  (69, [a149], F),
  (70, [a281], F),
  (72, [a480], F),
  (72, [a325], F)]
def f119 : List Entry := [
  (106, [a604], a607),
  (106, [a232], a607),
  (106, [a242], a607),
  (106, [a245], a610),
  (106, [a611], a607)]
def f120 : List Entry := [
  (99, [a233], a613),
  (99, [a236], a615),
  (99, [a239], a617),
  (102, [a248], a619),
  (103, [a251], a621)]
def f121 : List Entry := [
  (109, [a622, a612], a234),
  (109, [a622, a614], a237),
  (109, [a622, a616], a240),
  (109, [a623, a612], a246),
  (109, [a622, a618], a249),
  (110, [a622, a620], a246)]
def f122 : List Entry := [
  (107, [a327, a328], (I 2)),
  (107, [a327, a330], (I 1)),
  (107, [a328, a330], (I 2)),
  (108, [a327, a624], (I 3)),
  (108, [a327, a334], (I 1))]
def f124 : List Entry := [
  (107, [a604], (I 0)),
  (108, [a611], (I 0))]
def f125 : List Entry := [
  (96, [a233], (I 0)),
  (96, [a236], (I 0)),
  (96, [a239], (I 0)),
  (97, [a248], (I 0)),
  (97, [a251], (I 0))]
def f126 : List Entry := [
  (25, [a50, (S [99,117,98,101])], a625),
  (44, [a57, (S [99,117,98,101])], a625),
  (44, [a61, (S [99,117,98,101])], a625),
  (44, [a68, (S [99,117,98,101])], a625)]
def f129 : List Entry := [
  (109, [a234, a237], (I 2)),
  (109, [a234, a240], (I 1)),
  (109, [a237, a240], (I 2)),
  (109, [a234, a249], (I 3)),
  (110, [a234, a246], (I 1))]
def f130 : List Entry := [
  (49, [a626], T),
  (49, [a627], T),
  (49, [a628], F),
  (49, [a629], F),
  (50, [a630], T)]
def f131 : List Entry := [
  (49, [a626], T),
  (49, [a627], F),
  (49, [a628], F),
  (49, [a629], F),
  (50, [a630], F)]
def f132 : List Entry := [
  (109, [a234, a237, a85, a631], a632),
  (109, [a234, a240, a85, a631], a634),
  (109, [a237, a234, a85, a631], a634),
  (109, [a237, a240, a85, a631], a632),
  (109, [a240, a234, a85, a631], a634),
  (109, [a240, a237, a85, a631], a634),
  (109, [a234, a237, a85, a635], a632),
  (109, [a234, a240, a85, a635], a636),
  (109, [a237, a234, a85, a635], a634),
  (109, [a237, a240, a85, a635], a632),
  (109, [a240, a234, a85, a635], a634),
  (109, [a240, a237, a85, a635], a634),
  (109, [a234, a246, a102, a635], a637),
  (109, [a234, a246, a102, a631], a634)]
def f133 : List Entry := [
  (84, [a155, a201], a155),
  (84, [a157, a201], a157),
  (86, [a156, a201], a156)]
def f134 : List Entry := [
  (73, [(S [48]), (I 400)], a337),
  (73, [(S [49]), (I 400)], a338),
  (73, [(S [50]), (I 400)], a267),
  (76, [(S [50]), (I 65536)], a267),
  (76, [(S [52]), (I 65536)], a269),
  (77, [(S [49,47,50]), (I 400)], a339),
  (77, [(S [51]), (I 400)], a340)]
def f135 : List Entry := [
  (59, [a565, a565], a157),
  (65, [a573, a571], a156),
  (66, [a566, a565], a155),
  (66, [a574, a571], a161),
  (66, [a566, a571], a155),
  (66, [a573, a565], a158),
  (66, [a565, a571], a160),
  (66, [a574, a565], a159),
  (66, [a572, a572], a203),
  (66, [a576, a572], a204),
  (68, [a599, a571], a162),
  (68, [a572, a565], a156),
  (68, [a579, a572], a205),
  (68, [a565, a572], a153),
  (68, [a575, a572], a147),
  (68, [a571, a572], a322),
  (68, [a568, a572], a143),
  (69, [a566, a572], a323),
  (69, [a566, a576], a323),
  (69, [a586, a576], a203),
  (69, [a574, a572], a324),
  (69, [a569, a572], a149),
  (70, [a579, a579], a203),
  (70, [a565, a580], a281),
  (70, [a581, a580], a321),
  (72, [a587, a580], a480),
  (72, [a588, a572], a325),
  (72, [a590, a576], a326),
  (72, [a576, a576], a203)]
def f136 : List Entry := [
  (47, [a564, a566], a566),
  (47, [a566, a598], a566),
  (47, [a564, a598], a566),
  (47, [a566, a566], a566),
  (47, [a566, a565], a565),
  (47, [a565, a598], a565),
  (47, [a564, a565], a565),
  (47, [a565, a566], a565),
  (48, [a564, a571], a568),
  (48, [a568, a598], a568),
  (48, [a566, a571], a568),
  (48, [a566, a570], a565),
  (48, [a565, a570], a572),
  (48, [a564, a572], a572),
  (48, [a572, a598], a572),
  (48, [a566, a577], a572),
  (48, [a565, a577], a575),
  (48, [a564, a573], a567),
  (48, [a567, a598], a567),
  (48, [a564, a575], a575),
  (48, [a575, a598], a575),
  (48, [a565, a571], a566),
  (48, [a572, a571], a570),
  (48, [a572, a573], a566),
  (48, [a598, a598], a566),
  (48, [a598, a571], a568),
  (48, [a598, a566], a566),
  (48, [a568, a566], a568),
  (48, [a567, a566], a567),
  (48, [a572, a566], a572),
  (48, [a575, a573], a570),
  (48, [a575, a574], a566),
  (48, [a564, a574], a569),
  (48, [a569, a598], a569),
  (49, [a569, a566], a569),
  (49, [a575, a566], a575),
  (49, [a569, a570], a567),
  (49, [a568, a570], a566),
  (49, [a566, a573], a567),
  (49, [a568, a577], a570),
  (49, [a566, a574], a569),
  (49, [a567, a577], a566),
  (49, [a565, a574], a567),
  (49, [a566, a572], a572),
  (49, [a565, a575], a576),
  (50, [a564, a576], a576),
  (50, [a576, a598], a576),
  (50, [a576, a566], a576),
  (50, [a576, a574], a570),
  (50, [a576, a599], a566),
  (50, [a564, a599], a578),
  (50, [a578, a598], a578),
  (50, [a578, a566], a578),
  (50, [a575, a571], a577),
  (50, [a572, a576], a579),
  (51, [a572, a565], a575),
  (51, [a571, a566], a568),
  (51, [a564, a564], a566),
  (51, [a566, a575], a575),
  (51, [a579, a573], a586),
  (51, [a579, a600], a566),
  (51, [a574, a566], a569),
  (51, [a565, a573], a568),
  (51, [a566, a585], a575),
  (51, [a565, a585], a576),
  (51, [a565, a565], a572),
  (51, [a575, a565], a576),
  (51, [a576, a565], a638),
  (51, [a638, a565], a579),
  (51, [a564, a570], a565),
  (51, [a565, a572], a575),
  (51, [a575, a575], a579),
  (51, [a579, a572], a639),
  (51, [a576, a572], a579),
  (51, [a579, a575], a640),
  (52, [a639, a565], a640),
  (52, [a640, a572], a641),
  (52, [a640, a565], a642),
  (52, [a640, a575], a581),
  (52, [a641, a565], a581),
  (52, [a642, a572], a581),
  (52, [a579, a579], a581),
  (52, [a576, a575], a588),
  (52, [a579, a588], a601),
  (52, [a575, a576], a588),
  (52, [a588, a588], a602),
  (52, [a588, a579], a601),
  (52, [a576, a576], a639),
  (52, [a639, a588], a603),
  (52, [a566, a602], a602),
  (52, [a602, a601], a643),
  (52, [a643, a601], a644),
  (52, [a644, a602], a645),
  (52, [a645, a603], a646),
  (52, [a646, a603], a587),
  (52, [a566, a588], a588),
  (52, [a572, a602], a590),
  (53, [a572, a572], a576)]
def f137 : List Entry := [
  (105, [a327, a328], a647),
  (105, [a327, a330], a647),
  (105, [a328, a330], a647),
  (105, [a328, a327], a647),
  (105, [a330, a327], a647),
  (105, [a330, a328], a647),
  (105, [a327, a334], a647),
  (105, [a327, a624], a647)]
def f138 : List Entry := [
  (90, [a327, a328, a17], a112),
  (90, [a327, a328, a10], a107),
  (90, [a327, a328, a15], a107),
  (90, [a327, a328, a8], a107),
  (90, [a327, a328, a12], a107),
  (90, [a327, a328, a4], a98),
  (90, [a327, a330, a17], a119),
  (90, [a327, a330, a10], a107),
  (90, [a327, a330, a15], a107),
  (90, [a327, a330, a8], a107),
  (90, [a327, a330, a12], a107),
  (90, [a327, a330, a4], a154),
  (90, [a328, a330, a17], a112),
  (91, [a328, a330, a10], a107),
  (91, [a328, a330, a15], a107),
  (91, [a328, a330, a8], a107),
  (91, [a328, a330, a12], a107),
  (91, [a328, a330, a4], a98),
  (91, [a328, a327, a17], a98),
  (91, [a328, a327, a10], a107),
  (91, [a328, a327, a15], a107),
  (91, [a328, a327, a8], a107),
  (91, [a328, a327, a12], a107),
  (91, [a328, a327, a4], a112),
  (91, [a330, a327, a17], a154),
  (91, [a330, a327, a10], a107),
  (91, [a330, a327, a15], a107),
  (91, [a330, a327, a8], a107),
  (91, [a330, a327, a12], a107),
  (91, [a330, a327, a4], a119),
  (91, [a330, a328, a17], a98),
  (91, [a330, a328, a10], a107),
  (91, [a330, a328, a15], a107),
  (91, [a330, a328, a8], a107),
  (91, [a330, a328, a12], a107),
  (91, [a330, a328, a4], a112),
  (91, [a327, a334, a17], a133),
  (91, [a327, a334, a10], a107),
  (91, [a327, a334, a15], a107),
  (91, [a327, a334, a8], a107),
  (91, [a327, a334, a12], a107),
  (91, [a327, a334, a4], a163),
  (97, [a327, a624, a17], a149),
  (97, [a327, a624, a10], a107),
  (97, [a327, a624, a15], a107),
  (97, [a327, a624, a8], a107),
  (97, [a327, a624, a12], a107),
  (97, [a327, a624, a4], a143)]
def f141 : List Entry := [
  (7, [a571, a564], (I (-1))),
  (8, [a568, a564], (I (-1))),
  (9, [a565, a568], (I 1)),
  (9, [a566, a568], (I 1)),
  (9, [a571, a566], (I (-1))),
  (9, [a568, a566], (I (-1))),
  (10, [a573, a566], (I (-1))),
  (24, [a565, a565], (I 0)),
  (24, [a584, a564], (I 0)),
  (24, [a565, a564], (I 1)),
  (25, [a566, a564], (I 0)),
  (25, [a566, a566], (I 0)),
  (25, [a566, a565], (I (-1))),
  (25, [a570, a564], (I 1)),
  (25, [a565, a566], (I 1)),
  (25, [a568, a568], (I 0)),
  (25, [a567, a568], (I (-1))),
  (25, [a567, a567], (I 0)),
  (25, [a572, a565], (I 1)),
  (25, [a572, a572], (I 0)),
  (25, [a569, a567], (I (-1))),
  (25, [a569, a569], (I 0)),
  (25, [a575, a572], (I 1)),
  (25, [a575, a575], (I 0)),
  (25, [a566, a572], (I (-1))),
  (25, [a565, a575], (I (-1))),
  (25, [a574, a571], (I (-1))),
  (25, [a584, a566], (I 0)),
  (25, [a570, a565], (I 0)),
  (25, [a584, a565], (I (-1))),
  (34, [a578, a569], (I (-1))),
  (34, [a578, a578], (I 0)),
  (34, [a576, a575], (I 1)),
  (34, [a576, a576], (I 0)),
  (34, [a572, a576], (I (-1))),
  (34, [a577, a586], (I (-1))),
  (34, [a572, a584], (I 1)),
  (35, [a584, a572], (I (-1))),
  (44, [a577, a565], (I 1)),
  (44, [a576, a565], (I 1)),
  (44, [a564, a564], (I 0)),
  (44, [a573, a573], (I 0)),
  (44, [a600, a573], (I (-1))),
  (44, [a600, a600], (I 0)),
  (44, [a579, a572], (I 1)),
  (44, [a579, a579], (I 0)),
  (44, [a579, a565], (I 1)),
  (44, [a580, a565], (I 1)),
  (44, [a581, a565], (I 1)),
  (45, [a583, a565], (I 1))]
def f145 : List Entry := [
  (24, [(W 6)], (I 3)),
  (24, [(W 12)], (I 4)),
  (34, [(W 1)], (I 1))]
def f146 : List Entry := [
  (8, [a648], (I 1)),
  (8, [a649], (I 1)),
  (8, [a650], (I (-1))),
  (8, [a651], (I 1)),
  (8, [a652], (I (-1))),
  (8, [a653], (I (-1))),
  (8, [a654], (I 1)),
  (8, [a655], (I (-1))),
  (12, [a656], (I (-1)))]
def f147 : List Entry := [
  (15, [(I 0), (I 0)], (I 0)),
  (15, [(I 0), (I 1)], (I (-1))),
  (15, [(I 1), (I 1)], (I 0)),
  (24, [(I 4), (I 1)], (I 1)),
  (24, [(I 2), (I 4)], (I (-1))),
  (24, [(I 2), (I 1)], (I 1)),
  (24, [(I 1), (I 0)], (I 1)),
  (24, [(I 4), (I 2)], (I 1)),
  (24, [(I 3), (I 1)], (I 1)),
  (24, [(I 3), (I 3)], (I 0)),
  (24, [(I 0), (I 2)], (I (-1))),
  (24, [(I 2), (I 3)], (I (-1))),
  (24, [(I 2), (I 2)], (I 0)),
  (24, [(I 6), (I 3)], (I 1)),
  (24, [(I 6), (I 6)], (I 0)),
  (24, [(I 0), (I 4)], (I (-1))),
  (24, [(I 4), (I 6)], (I (-1))),
  (24, [(I 4), (I 3)], (I 1)),
  (24, [(I 4), (I 4)], (I 0)),
  (24, [(I 5), (I 6)], (I (-1))),
  (24, [(I 1), (I 4)], (I (-1))),
  (24, [(I 5), (I 5)], (I 0)),
  (24, [(I 1), (I 2)], (I (-1))),
  (24, [(I 5), (I 3)], (I 1)),
  (24, [(I 5), (I 4)], (I 1)),
  (24, [(I 7), (I 6)], (I 1)),
  (24, [(I 3), (I 5)], (I (-1))),
  (24, [(I 7), (I 7)], (I 0)),
  (24, [(I 3), (I 4)], (I (-1))),
  (24, [(I 7), (I 5)], (I 1)),
  (24, [(I 3), (I 2)], (I 1)),
  (24, [(I 6), (I 5)], (I 1)),
  (34, [(I 1), (I (-1))], (I 1))]
def f156 : List Entry := [
  (62, [a284, a202], a100),
  (62, [a284, a98], a98),
  (62, [a284, a100], a107),
  (62, [a100, a100], a98),
  (62, [a98, a98], a98),
  (62, [a100, a98], a100),
  (62, [a111, a100], a154),
  (62, [a111, a111], a98),
  (62, [a286, a286], a98),
  (62, [a286, a100], a107),
  (62, [a98, a286], a98),
  (62, [a286, a98], a98),
  (62, [a100, a286], a100),
  (63, [a112, a98], a112),
  (63, [a107, a98], a107),
  (64, [a98, a100], a107),
  (64, [a116, a111], a154),
  (64, [a116, a116], a98),
  (65, [a119, a98], a119),
  (65, [a119, a107], a112),
  (66, [a107, a107], a98),
  (66, [a98, a111], a112),
  (66, [a107, a112], a154),
  (66, [a98, a116], a119),
  (66, [a112, a112], a98),
  (66, [a100, a116], a112),
  (67, [a127, a116], a154),
  (67, [a127, a127], a98),
  (68, [a133, a98], a133),
  (68, [a116, a100], a163),
  (87, [a153, a153], a323),
  (87, [a147, a153], a203),
  (87, [a147, a147], a323),
  (87, [a149, a98], a149),
  (88, [a153, a100], a143)]
def f160 : List Entry := [
  (54, [], a565)]
def f161 : List Entry := [
  (15, [a0, (U 1000000000)], a657),
  (15, [a19, (U 1000000000)], a658),
  (24, [a0, (U 1)], a659),
  (25, [a14, (U 1000000000)], a657),
  (25, [a19, (U 1)], a660),
  (25, [a35, (U 1)], a661),
  (25, [a19, (U 2)], a659),
  (25, [a69, (U 2)], a660),
  (25, [a18, (U 1000000000)], a658),
  (34, [a69, (U 1)], a662),
  (34, [a69, (U 1000000000)], a663),
  (35, [a164, (U 2)], a661),
  (35, [a71, (U 1000000000)], a664),
  (44, [a18, (U 1)], a660),
  (44, [a35, (U 2)], a665),
  (44, [a69, (U 4)], a659),
  (44, [a132, (U 4)], a659),
  (44, [a71, (U 2)], a665),
  (44, [a164, (U 6)], a659),
  (44, [a166, (U 1)], a667),
  (44, [a166, (U 12)], a660),
  (44, [a301, (U 12)], a659),
  (44, [a319, (U 24)], a668),
  (45, [a319, (U 12)], a669),
  (45, [a303, (U 2)], a670),
  (45, [a589, (U 4)], a662)]
def f162 : List Entry := [
  (54, [(I 1)], (S [49])),
  (54, [(I 2)], (S [50])),
  (57, [(I 4)], (S [52])),
  (57, [(I 3)], (S [51]))]
def f165 : List Entry := [
  (1, [a671, (S [])], (S [49])),
  (1, [a672, (S [])], (S [50])),
  (12, [a673, (S [])], (S [52])),
  (12, [a674, (S [])], (S [51]))]
def f166 : List Entry := [
  (24, [N, a0], a675),
  (25, [N, a14], a675),
  (25, [a1, a0], a676),
  (44, [a14, a18], a677),
  (44, [a0, a19], a678),
  (44, [a14, a19], a677),
  (44, [a1, a19], a676),
  (44, [a1, a69], a676),
  (44, [a0, a166], a678),
  (44, [a301, a166], a679),
  (47, [a0, a0], a680),
  (49, [a19, a0], a681),
  (49, [a35, a0], a682),
  (49, [a19, a19], a680),
  (49, [a69, a19], a681),
  (50, [a69, a0], a683),
  (50, [a164, a19], a682),
  (51, [a18, a14], a681),
  (51, [a35, a19], a684),
  (51, [a19, a14], a681),
  (51, [a69, a69], a680),
  (51, [a0, a14], a680),
  (51, [a132, a69], a680),
  (51, [a71, a19], a684),
  (51, [a164, a164], a680),
  (52, [a166, a0], a685),
  (52, [a166, a301], a681),
  (52, [a301, a301], a680),
  (52, [a319, a166], a686),
  (52, [a166, a582], a681),
  (52, [a319, a582], a687),
  (52, [a303, a19], a688),
  (53, [a589, a69], a683)]
def f167 : List Entry := [
  (9, [(U 1)], (I 1))]
def f168 : List Entry := [
  (1, [], a604)]
def f169 : List Entry := [
  (10, [a182, a189], a689),
  (10, [a193, a200], a690)]
def f170 : List Entry := [
  (109, [a234, a246, a102], a692)]
def f171 : List Entry := [
  (109, [a234, a246, a102], a693)]
def f172 : List Entry := [
  (111, [a234, a246, a102], a45)]
def f173 : List Entry := [
  (12, [a691, a694], T)]
def f174 : List Entry := [
  (116, [], T)]
def f175 : List Entry := [
  (15, [F, a695], a584),
  (15, [F, a696], a565),
  (15, [F, a697], a572),
  (24, [T, a696], a571),
  (24, [F, a14], a570),
  (24, [F, a1], a566),
  (24, [F, a698], a566),
  (24, [T, a698], a566),
  (24, [F, a285], a598),
  (25, [F, a18], a577),
  (25, [T, a14], a568),
  (25, [F, a699], a575),
  (25, [T, a697], a573),
  (25, [T, a18], a567),
  (25, [T, a699], a574),
  (25, [T, a71], a569),
  (25, [F, a700], a576),
  (34, [T, a700], a599),
  (34, [T, a132], a578),
  (34, [F, a132], a586),
  (35, [F, a701], a579),
  (35, [F, a71], a585),
  (44, [F, N], a564),
  (44, [T, a701], a600),
  (44, [F, a702], a638),
  (44, [F, a703], a639),
  (44, [F, a704], a640),
  (44, [F, a705], a641),
  (44, [F, a706], a642),
  (44, [F, a707], a581),
  (44, [F, a708], a580),
  (44, [F, a709], a588),
  (44, [F, a710], a601),
  (44, [F, a711], a602),
  (44, [F, a712], a603),
  (44, [F, a713], a643),
  (44, [F, a714], a644),
  (44, [F, a715], a645),
  (44, [F, a716], a646),
  (44, [F, a717], a587),
  (45, [F, a476], a595),
  (45, [F, a718], a590)]
def f177 : List Entry := [
  (70, [a98, a98, a436], a286),
  (70, [a100, a100, a436], a98),
  (70, [a111, a111, a436], a98),
  (70, [a111, a111, a438], a111),
  (70, [a100, a100, a438], a100),
  (70, [a116, a116, a438], a116),
  (71, [a302, a302, a436], a98),
  (71, [a306, a306, a436], a98),
  (71, [a308, a308, a436], a98),
  (71, [a308, a308, a438], a308),
  (71, [a306, a306, a438], a306),
  (72, [a310, a310, a438], a310),
  (81, [a202, a202, a469], a202),
  (81, [a201, a201, a469], a98),
  (81, [a98, a98, a469], a98),
  (81, [a100, a100, a469], a100),
  (81, [a107, a107, a469], a202),
  (82, [a154, a154, a469], a100),
  (87, [a323, a323, a469], a98),
  (87, [a203, a203, a469], a100),
  (89, [a302, a302, a471], a321),
  (89, [a321, a321, a474], a153),
  (89, [a153, a153, a469], a153),
  (89, [a153, a153, a438], a153),
  (89, [a320, a320, a471], a480),
  (89, [a480, a480, a474], a325),
  (89, [a325, a325, a469], a325),
  (89, [a325, a325, a438], a325),
  (89, [a326, a326, a478], a204),
  (89, [a203, a203, a478], a153)]
def f181 : List Entry := [
  (99, [a689], a720),
  (101, [a690], a722),
  (102, [a723], a720)]
def f185 : List Entry := [
  (107, [a606, a725], a31),
  (107, [a606, a727], a34),
  (107, [a606, a729], a38),
  (107, [a609, a725], a73),
  (108, [a606, a731], a64),
  (108, [a606, a733], a73)]
def f186 : List Entry := [
  (106, [a719, a724], a327),
  (106, [a719, a726], a328),
  (106, [a719, a728], a330),
  (106, [a721, a724], a334),
  (106, [a719, a730], a624),
  (106, [a719, a732], a334)]
def f187 : List Entry := [
  (99, [a719, a612], a327),
  (99, [a719, a614], a328),
  (99, [a719, a616], a330),
  (101, [a721, a612], a334),
  (102, [a719, a618], a624),
  (103, [a719, a620], a334)]
def f188 : List Entry := [
  (1, [(S [99,117,98,101])], T),
  (8, [(S [97])], T),
  (8, [(S [98])], T),
  (8, [(S [99])], T),
  (14, [(S [97,45,49])], T)]
def f190 : List Entry := [
  (8, [a604, a734], T),
  (12, [a611, a734], T)]
def f191 : List Entry := [
  (8, [a604], a232),
  (12, [a611], a232)]
def f192 : List Entry := [
  (10, [a234, a237, a85], a738),
  (10, [a234, a240, a85], a740),
  (10, [a237, a234, a85], a741),
  (10, [a237, a240, a85], a742),
  (10, [a240, a234, a85], a743),
  (10, [a240, a237, a85], a744),
  (11, [a234, a246, a102], a747)]
def f193 : List Entry := [
  (59, [(S [48]), (S [47])], a748),
  (59, [(S [49]), (S [47])], a749),
  (59, [(S [50]), (S [47])], a750),
  (68, [(S [52]), (S [47])], a751),
  (68, [(S [49,47,50]), (S [47])], a752),
  (69, [(S [51]), (S [47])], a753)]
def f194 : List Entry := [
  (55, [(S [48])], T),
  (55, [(S [49])], T),
  (55, [(S [50])], T),
  (57, [(S [52])], T),
  (57, [(S [51])], T)]
def f195 : List Entry := [
  (47, [(S [48]), (S [45])], (S [48])),
  (47, [(S [49]), (S [45])], (S [49])),
  (47, [(S [50]), (S [45])], (S [50])),
  (50, [(S [52]), (S [45])], (S [52])),
  (51, [(S [51]), (S [45])], (S [51]))]
def f196 : List Entry := [
  (44, [(S [50]), (S [48])], (S [50])),
  (47, [(S [48]), (S [48,49,50,51,52,53,54,55,56,57])], (S [])),
  (47, [(S [49]), (S [48,49,50,51,52,53,54,55,56,57])], (S [])),
  (47, [(S [50]), (S [48,49,50,51,52,53,54,55,56,57])], (S [])),
  (50, [(S [52]), (S [48,49,50,51,52,53,54,55,56,57])], (S [])),
  (51, [(S [51]), (S [48,49,50,51,52,53,54,55,56,57])], (S []))]
def f197 : List Entry := [
  (59, [(S [48])], a754),
  (59, [(S [49])], a755),
  (59, [(S [50])], a756),
  (68, [(S [52])], a757),
  (69, [(S [51])], a758)]
def f198 : List Entry := [
  (9, [a571], a565),
  (9, [a566], a566),
  (9, [a565], a571),
  (9, [a572], a573),
  (9, [a598], a598),
  (9, [a575], a574),
  (9, [a568], a570),
  (10, [a573], a572),
  (10, [a574], a575),
  (10, [a567], a577),
  (11, [a576], a599),
  (12, [a599], a576)]
def f199 : List Entry := [
  (7, [N, a1], a698),
  (7, [a1, a285], a698),
  (7, [N, a285], a698),
  (7, [a1, a1], a698),
  (8, [a1, a0], a696),
  (8, [a0, a285], a696),
  (8, [N, a0], a696),
  (8, [a0, a1], a696),
  (8, [a1, a14], a696),
  (8, [a0, a14], a697),
  (8, [N, a19], a697),
  (8, [a19, a285], a697),
  (8, [a1, a18], a697),
  (8, [a0, a18], a699),
  (9, [N, a35], a699),
  (9, [a35, a285], a699),
  (9, [a285, a285], a698),
  (9, [a285, a1], a698),
  (9, [a19, a1], a697),
  (9, [a35, a1], a699),
  (10, [a1, a19], a697),
  (10, [a0, a35], a700),
  (11, [N, a69], a700),
  (11, [a69, a285], a700),
  (11, [a69, a1], a700),
  (12, [a19, a69], a701),
  (12, [a19, a0], a699),
  (12, [N, N], a698),
  (12, [a1, a35], a699),
  (12, [a1, a71], a699),
  (12, [a0, a71], a700),
  (13, [a0, a0], a697),
  (13, [a35, a0], a700),
  (13, [a69, a0], a702),
  (13, [a291, a0], a701),
  (13, [N, a14], a696),
  (13, [a0, a19], a699),
  (13, [a35, a35], a701),
  (13, [a164, a19], a703),
  (13, [a69, a19], a701),
  (13, [a164, a35], a704),
  (13, [a293, a0], a704),
  (13, [a295, a19], a705),
  (13, [a295, a0], a706),
  (13, [a295, a35], a707),
  (13, [a297, a0], a707),
  (13, [a299, a19], a707),
  (13, [a164, a164], a707),
  (13, [a69, a35], a709),
  (13, [a164, a303], a710),
  (13, [a35, a69], a709),
  (13, [a303, a303], a711),
  (14, [a303, a164], a710),
  (14, [a69, a69], a703),
  (14, [a293, a303], a712),
  (14, [a1, a307], a711),
  (14, [a307, a305], a713),
  (14, [a311, a305], a714),
  (14, [a313, a307], a715),
  (14, [a315, a309], a716),
  (14, [a317, a309], a717),
  (14, [a1, a303], a709),
  (14, [a19, a307], a718),
  (14, [a19, a19], a700)]
def f200 : List Entry := [
  (7, [a0, a0], (I 0)),
  (7, [N, a0], (I (-1))),
  (7, [a96, N], (I 0)),
  (7, [a0, N], (I 1)),
  (8, [a14, a285], (I 1)),
  (8, [a1, a0], (I (-1))),
  (8, [a1, N], (I 0)),
  (9, [N, a19], (I (-1))),
  (9, [a18, a285], (I 1)),
  (9, [a1, a1], (I 0)),
  (9, [a19, a0], (I 1)),
  (9, [a14, N], (I 1)),
  (9, [a0, a1], (I 1)),
  (9, [a19, a19], (I 0)),
  (9, [a285, a0], (I (-1))),
  (9, [a14, a1], (I 1)),
  (9, [a14, a14], (I 0)),
  (9, [a14, a18], (I (-1))),
  (9, [a18, a1], (I 1)),
  (9, [a18, a18], (I 0)),
  (9, [a35, a19], (I 1)),
  (9, [a35, a35], (I 0)),
  (9, [N, a35], (I (-1))),
  (9, [a71, a285], (I 1)),
  (9, [a18, a71], (I (-1))),
  (9, [a71, a1], (I 1)),
  (9, [a71, a71], (I 0)),
  (9, [a71, a14], (I 1)),
  (9, [N, a14], (I (-1))),
  (10, [a1, a19], (I (-1))),
  (10, [a35, a0], (I 1)),
  (10, [a0, a35], (I (-1))),
  (10, [a1, a35], (I (-1))),
  (10, [a96, a1], (I 0)),
  (10, [a14, a0], (I 0)),
  (10, [a96, a0], (I (-1))),
  (10, [a69, a19], (I 1)),
  (11, [a69, a35], (I 1)),
  (11, [a69, a69], (I 0)),
  (11, [N, a69], (I (-1))),
  (11, [a132, a285], (I 1)),
  (12, [a71, a132], (I (-1))),
  (12, [a132, a1], (I 1)),
  (12, [a132, a132], (I 0)),
  (12, [a69, a0], (I 1)),
  (12, [a19, a69], (I (-1))),
  (12, [a18, a132], (I (-1))),
  (12, [a19, a96], (I 1)),
  (12, [a96, a19], (I (-1))),
  (12, [a164, a19], (I 1)),
  (12, [a18, a0], (I 1)),
  (12, [a18, a14], (I 1)),
  (12, [a0, a19], (I (-1))),
  (12, [a19, a14], (I 1)),
  (12, [a14, a19], (I (-1))),
  (12, [a1, a69], (I (-1))),
  (12, [N, N], (I 0)),
  (12, [a0, a14], (I 0)),
  (12, [a132, a69], (I 0)),
  (12, [a164, a164], (I 0)),
  (12, [a71, a19], (I 1)),
  (12, [a35, a1], (I 1)),
  (12, [a19, a164], (I (-1))),
  (13, [a164, a0], (I 1)),
  (13, [a0, a166], (I (-1))),
  (13, [a166, a0], (I 1)),
  (13, [a301, a166], (I (-1))),
  (13, [a166, a301], (I 1)),
  (13, [a301, a0], (I 1)),
  (13, [a301, a301], (I 0)),
  (14, [a319, a166], (I 1)),
  (14, [a166, a582], (I 1)),
  (14, [a582, a0], (I 1)),
  (14, [a319, a582], (I 1)),
  (14, [a303, a19], (I 1)),
  (14, [a589, a69], (I 1))]
def f201 : List Entry := [
  (8, [a0, N], a14),
  (8, [a14, a285], a14),
  (8, [a0, a1], a14),
  (9, [a19, N], a18),
  (9, [a18, a285], a18),
  (9, [a0, a0], a698),
  (9, [a19, a0], a14),
  (9, [a19, a19], a698),
  (9, [a0, a285], a14),
  (9, [a14, a1], a14),
  (9, [a18, a1], a18),
  (9, [a35, a19], a14),
  (9, [a35, a35], a698),
  (9, [a35, N], a71),
  (9, [a71, a285], a71),
  (9, [a71, a1], a71),
  (9, [a71, a14], a18),
  (10, [a14, a14], a698),
  (10, [a19, a1], a18),
  (10, [a18, a14], a14),
  (10, [a35, a1], a71),
  (10, [a18, a18], a698),
  (10, [a35, a0], a18),
  (11, [a69, a35], a14),
  (11, [a69, a69], a698),
  (11, [a69, N], a132),
  (11, [a132, a285], a132),
  (12, [a132, a1], a132),
  (12, [a164, a19], a132),
  (12, [a164, a164], a698)]
def f204 : List Entry := [
  (100, [a328], a759),
  (100, [a327], a759),
  (101, [a330], a759),
  (102, [a334], a759),
  (103, [a624], a759)]
def f205 : List Entry := [
  (74, [a8, a8], a83),
  (74, [a8, a12], a17),
  (74, [a8, a4], a12),
  (74, [a12, a8], a4),
  (74, [a12, a12], a83),
  (74, [a12, a4], a15),
  (74, [a4, a8], a16),
  (74, [a4, a12], a8),
  (75, [a4, a4], a83),
  (77, [a8, a117], a17),
  (77, [a117, a12], a17),
  (77, [a12, a109], a15),
  (77, [a109, a4], a15),
  (78, [a4, a108], a16),
  (78, [a108, a8], a16),
  (78, [a108, a106], a136),
  (78, [a106, a117], a137),
  (78, [a117, a106], a138),
  (78, [a106, a109], a139),
  (78, [a109, a106], a140),
  (78, [a106, a108], a141),
  (79, [a12, a440], a15),
  (79, [a440, a85], a15),
  (79, [a85, a441], a16),
  (79, [a441, a8], a16),
  (79, [a441, a442], a136),
  (79, [a442, a117], a137),
  (79, [a117, a442], a138),
  (79, [a442, a440], a139),
  (79, [a440, a442], a140),
  (79, [a442, a441], a141)]
def f206 : List Entry := [
  (62, [a4, a17], (I 1)),
  (62, [a15, a4], (I (-1))),
  (62, [a15, a17], (I 1)),
  (62, [a8, a4], (I (-1))),
  (63, [a8, a15], (I 1)),
  (63, [a10, a4], (I (-1))),
  (63, [a10, a8], (I (-1))),
  (63, [a10, a15], (I (-1))),
  (63, [a10, a17], (I 1)),
  (63, [a12, a4], (I (-1))),
  (63, [a12, a8], (I 1))]
def f207 : List Entry := [
  (82, [a327, a17], a760),
  (82, [a328, a17], a761),
  (82, [a327, a10], a760),
  (83, [a328, a10], a760),
  (83, [a327, a15], a760),
  (83, [a328, a15], a760),
  (83, [a327, a8], a762),
  (83, [a328, a8], a762),
  (83, [a327, a12], a762),
  (83, [a328, a12], a762),
  (83, [a327, a4], a762),
  (84, [a328, a4], a763),
  (84, [a330, a17], a764),
  (84, [a330, a10], a760),
  (84, [a330, a15], a760),
  (84, [a330, a8], a762),
  (84, [a330, a12], a762),
  (84, [a330, a4], a765),
  (85, [a334, a17], a766),
  (85, [a334, a10], a760),
  (85, [a334, a15], a760),
  (85, [a334, a8], a762),
  (85, [a334, a12], a762),
  (85, [a334, a4], a767),
  (94, [a624, a17], a768),
  (94, [a624, a10], a760),
  (94, [a624, a15], a760),
  (94, [a624, a8], a762),
  (94, [a624, a12], a762),
  (94, [a624, a4], a769)]
def f208 : List Entry := [
  (1, [(I 0)], F),
  (1, [(I 1)], F),
  (7, [(I 4)], F),
  (7, [(I 2)], F),
  (8, [(I 3)], F),
  (8, [(I 6)], F),
  (8, [(I 5)], F),
  (8, [(I 7)], F),
  (12, [(I (-1))], F)]
def f217 : List Entry := [
  (7, [(W 6)], (I 3)),
  (8, [(W 12)], (I 4)),
  (12, [(W 1)], (I 1))]
def f220 : List Entry := [
  (82, [a108, a4], a8),
  (82, [a109, a4], a12),
  (82, [a110, a4], a85),
  (82, [a106, a108], a12),
  (82, [a113, a108], a85),
  (82, [a106, a109], a8),
  (82, [a114, a109], a85),
  (82, [a118, a106], a85),
  (82, [a113, a110], a8),
  (82, [a114, a110], a12),
  (82, [a118, a113], a12),
  (82, [a118, a114], a8),
  (82, [a8, a83], a8),
  (82, [a12, a83], a12),
  (82, [a4, a83], a4),
  (82, [a117, a8], a12),
  (82, [a108, a8], a4),
  (82, [a117, a12], a8),
  (82, [a109, a12], a4),
  (82, [a106, a117], a4),
  (84, [a115, a110], a85),
  (84, [a120, a113], a85),
  (84, [a121, a114], a85),
  (84, [a122, a118], a85),
  (84, [a120, a115], a8),
  (84, [a121, a115], a12),
  (84, [a122, a120], a12),
  (84, [a122, a121], a8),
  (85, [a131, a115], a85),
  (85, [a134, a120], a85),
  (85, [a135, a121], a85),
  (85, [a130, a122], a85),
  (85, [a134, a131], a8),
  (85, [a135, a131], a12),
  (85, [a130, a134], a12),
  (85, [a130, a135], a8),
  (89, [a83, a83], a83),
  (89, [a117, a83], a117),
  (89, [a109, a83], a109),
  (89, [a108, a83], a108),
  (89, [a106, a83], a106),
  (89, [a115, a115], a83),
  (89, [a122, a115], a117),
  (89, [a135, a115], a440),
  (89, [a134, a115], a441),
  (89, [a130, a115], a442),
  (94, [a144, a142], a179),
  (94, [a145, a142], a180),
  (94, [a146, a142], a181),
  (94, [a148, a144], a180),
  (94, [a150, a144], a181),
  (94, [a148, a145], a179),
  (94, [a151, a145], a181),
  (94, [a152, a148], a181),
  (94, [a150, a146], a179),
  (94, [a151, a146], a180),
  (94, [a152, a150], a180),
  (94, [a152, a151], a179)]
def f224 : List Entry := [
  (25, [a202], a100),
  (25, [a98], a98),
  (25, [a100], a202),
  (25, [a111], a287),
  (25, [a286], a286),
  (25, [a116], a288),
  (25, [a107], a154),
  (25, [a112], a163),
  (34, [a127], a289),
  (44, [a153], a322),
  (44, [a147], a324)]
def f234 : List Entry := [
  (1, [a695], a96),
  (1, [a696], a0),
  (1, [a698], a1),
  (1, [a697], a19),
  (7, [a14], a14),
  (7, [a1], a1),
  (7, [a285], a285),
  (8, [a18], a18),
  (9, [a699], a35),
  (9, [a71], a71),
  (10, [a700], a69),
  (11, [a132], a132),
  (12, [a701], a164),
  (12, [N], N),
  (13, [a702], a291),
  (13, [a703], a293),
  (13, [a704], a295),
  (13, [a705], a297),
  (13, [a706], a299),
  (13, [a707], a301),
  (13, [a708], a166),
  (13, [a666], a666),
  (13, [a709], a303),
  (13, [a710], a305),
  (14, [a711], a307),
  (14, [a712], a309),
  (14, [a713], a311),
  (14, [a714], a313),
  (14, [a715], a315),
  (14, [a716], a317),
  (14, [a717], a319),
  (14, [a582], a582),
  (14, [a476], a476),
  (14, [a718], a589)]
def f235 : List Entry := [
  (46, [(I 1)], (S [49])),
  (46, [(I 2)], (S [50])),
  (50, [(I 4)], (S [52])),
  (50, [(I 3)], (S [51]))]
def f246 : List Entry := [
  (97, [a691], a692)]
def f247 : List Entry := [
  (86, [a630, a201], F)]
def f249 : List Entry := [
  (114, [a57], a771),
  (114, [a68], a772)]
def f250 : List Entry := [
  (12, [(S [49])], a57),
  (12, [(S [49,47,50])], a61),
  (12, [(S [51])], a68)]
def f251 : List Entry := [
  (115, [a68], a773)]
def f252 : List Entry := [
  (45, [a68, (S [98])], a774)]
def f253 : List Entry := [
  (59, [a689], (I 0)),
  (66, [a690], (I 0)),
  (68, [a723], (I 0))]
def f254 : List Entry := [
  (54, [a46], a777),
  (56, [a243], a777),
  (57, [a53], a777)]
def f255 : List Entry := [
  (54, [a29], a30),
  (56, [a72], a30)]
def f259 : List Entry := [
  (90, [a612, a97], a83),
  (90, [a612, a99], a8),
  (90, [a612, a101], a12),
  (90, [a612, a103], a117),
  (90, [a612, a102], a4),
  (90, [a612, a104], a108),
  (90, [a612, a105], a109),
  (90, [a612, a106], a106),
  (90, [a614, a97], a4),
  (90, [a614, a99], a108),
  (90, [a614, a101], a109),
  (90, [a614, a103], a106),
  (90, [a614, a102], a110),
  (90, [a614, a104], a113),
  (90, [a614, a105], a114),
  (90, [a614, a106], a118),
  (90, [a616, a97], a110),
  (90, [a616, a99], a113),
  (90, [a616, a101], a114),
  (90, [a616, a103], a118),
  (90, [a616, a102], a115),
  (90, [a616, a104], a120),
  (90, [a616, a105], a121),
  (90, [a616, a106], a122),
  (91, [a612, a123], a115),
  (91, [a612, a124], a120),
  (91, [a612, a125], a121),
  (91, [a612, a122], a122),
  (91, [a612, a126], a131),
  (91, [a612, a128], a134),
  (91, [a612, a129], a135),
  (91, [a612, a130], a130),
  (92, [a620, a97], a115),
  (92, [a620, a99], a120),
  (92, [a620, a101], a121),
  (92, [a620, a103], a122),
  (92, [a620, a102], a131),
  (92, [a620, a104], a134),
  (92, [a620, a105], a135),
  (92, [a620, a106], a130),
  (94, [a618, a97], a142),
  (94, [a618, a99], a144),
  (94, [a618, a101], a145),
  (94, [a618, a103], a148),
  (94, [a618, a102], a146),
  (94, [a618, a104], a150),
  (94, [a618, a105], a151),
  (94, [a618, a106], a152)]
def f260 : List Entry := [
  (81, [a612, a97], a83),
  (81, [a612, a99], a8),
  (81, [a612, a101], a12),
  (81, [a612, a103], a117),
  (81, [a612, a102], a4),
  (81, [a612, a104], a108),
  (81, [a612, a105], a109),
  (81, [a612, a106], a106),
  (81, [a612, a2], a17),
  (81, [a612, a6], a15),
  (81, [a612, a10], a16),
  (81, [a612, a8], a8),
  (81, [a612, a12], a12),
  (81, [a612, a4], a4),
  (81, [a614, a97], a83),
  (81, [a614, a99], a8),
  (81, [a614, a101], a12),
  (81, [a614, a103], a117),
  (81, [a614, a102], a4),
  (81, [a614, a104], a108),
  (81, [a614, a105], a109),
  (81, [a614, a106], a106),
  (81, [a614, a2], a17),
  (81, [a614, a6], a15),
  (81, [a614, a10], a16),
  (81, [a614, a8], a8),
  (81, [a614, a12], a12),
  (81, [a614, a4], a4),
  (81, [a616, a97], a83),
  (81, [a616, a99], a8),
  (81, [a616, a101], a12),
  (81, [a616, a103], a117),
  (82, [a616, a102], a4),
  (82, [a616, a104], a108),
  (82, [a616, a105], a109),
  (82, [a616, a106], a106),
  (82, [a616, a2], a17),
  (82, [a616, a6], a15),
  (82, [a616, a10], a16),
  (82, [a616, a8], a8),
  (82, [a616, a12], a12),
  (82, [a616, a4], a4),
  (84, [a612, a123], a115),
  (85, [a612, a124], a120),
  (85, [a612, a125], a121),
  (85, [a612, a122], a122),
  (85, [a612, a126], a131),
  (85, [a612, a128], a134),
  (85, [a612, a129], a135),
  (85, [a612, a130], a130),
  (86, [a618, a97], a83),
  (86, [a618, a99], a8),
  (86, [a618, a101], a12),
  (86, [a618, a103], a117),
  (86, [a618, a102], a4),
  (86, [a618, a104], a108),
  (86, [a618, a105], a109),
  (86, [a618, a106], a106),
  (86, [a618, a2], a17),
  (86, [a618, a6], a15),
  (86, [a618, a10], a16),
  (86, [a618, a8], a8),
  (86, [a618, a12], a12),
  (86, [a618, a4], a4),
  (88, [a620, a97], a83),
  (88, [a620, a99], a8),
  (88, [a620, a101], a12),
  (89, [a620, a103], a117),
  (89, [a620, a102], a4),
  (89, [a620, a104], a108),
  (89, [a620, a105], a109),
  (89, [a620, a106], a106),
  (89, [a620, a2], a17),
  (89, [a620, a6], a15),
  (89, [a620, a10], a16),
  (89, [a620, a8], a8),
  (89, [a620, a12], a12),
  (89, [a620, a4], a4)]
def f261 : List Entry := [
  (8, [a23], a23),
  (8, [a24], a24),
  (8, [a25], a25),
  (8, [a26], a26),
  (8, [a27], a27),
  (8, [a28], a28)]
def f265 : List Entry := [
  (55, [(S [48]), (S [47])], a748),
  (55, [(S [49]), (S [47])], a749),
  (55, [(S [50]), (S [47])], a750),
  (57, [(S [52]), (S [47])], a751),
  (57, [(S [49,47,50]), (S [47])], a752),
  (57, [(S [51]), (S [47])], a753)]
def f266 : List Entry := [
  (24, [(S [48]), (S [45])], (S [48])),
  (24, [(S [49]), (S [45])], (S [49])),
  (24, [(S [50]), (S [45])], (S [50])),
  (34, [(S [52]), (S [45])], (S [52])),
  (44, [(S [51]), (S [45])], (S [51]))]
def f267 : List Entry := [
  (12, [(S [50]), (C 48)], (S [50]))]
def f268 : List Entry := [
  (12, [(S [50]), (C 48)], (S [50]))]
def f269 : List Entry := [
  (8, [(S [48,49,50,51,52,53,54,55,56,57])], a779)]
def f270 : List Entry := [
  (8, [(S []), a780], (S []))]
def f271 : List Entry := [
  (24, [(S [48]), a780], (S [])),
  (24, [(S [49]), a780], (S [])),
  (24, [(S [50]), a780], (S [])),
  (34, [(S [52]), a780], (S [])),
  (44, [(S [51]), a780], (S []))]
def f274 : List Entry := [
  (47, [(S [48]), (S [45])], a781),
  (47, [(S [49]), (S [45])], a782),
  (47, [(S [50]), (S [45])], a783),
  (50, [(S [52]), (S [45])], a784),
  (51, [(S [51]), (S [45])], a785)]
def f275 : List Entry := [
  (55, [(S [48]), a786], F),
  (55, [(S [49]), a786], F),
  (55, [(S [50]), a786], F),
  (57, [(S [52]), a786], F),
  (57, [(S [51]), a786], F)]
def f276 : List Entry := [
  (8, [(R 48)], F),
  (8, [(R 49)], F),
  (8, [(R 50)], F),
  (12, [(R 52)], F),
  (12, [(R 51)], F)]
def f277 : List Entry := [
  (24, [(S [48]), (I 10), (I 32)], a787),
  (24, [(S [49]), (I 10), (I 32)], a788),
  (24, [(S [50]), (I 10), (I 32)], a789),
  (34, [(S [52]), (I 10), (I 32)], a790),
  (44, [(S [51]), (I 10), (I 32)], a791)]
def f278 : List Entry := [
  (24, [N, (U 10), (U 0)], a1),
  (24, [N, (U 10), (U 1)], a14),
  (24, [N, (U 10), (U 2)], a18),
  (34, [N, (U 10), (U 4)], a132),
  (44, [N, (U 10), (U 3)], a71)]
def f297 : List Entry := [
  (15, [(I 1), (I 10)], (S [49])),
  (15, [(I 2), (I 10)], (S [50])),
  (34, [(I 4), (I 10)], (S [52])),
  (35, [(I 3), (I 10)], (S [51]))]
def f300 : List Entry := [
  (8, [(S [48]), (S [45])], F),
  (8, [(S [49]), (S [45])], F),
  (8, [(S [50]), (S [45])], F),
  (12, [(S [52]), (S [45])], F),
  (12, [(S [51]), (S [45])], F)]
def f304 : List Entry := [
  (94, [a792], a794)]
def f305 : List Entry := [
  (57, [a795, a796], (I (-1)))]
def f308 : List Entry := [
  (34, [a797], a691)]
def f310 : List Entry := [
  (114, [a68], a75)]
def f311 : List Entry := [
  (103, [a234], a100),
  (103, [a246], a100)]
def f312 : List Entry := [
  (73, [a83, a83], a83),
  (73, [a8, a83], a8),
  (73, [a12, a83], a12),
  (73, [a117, a83], a117),
  (73, [a4, a83], a4),
  (73, [a108, a83], a108),
  (73, [a109, a83], a109),
  (73, [a106, a83], a106),
  (73, [a83, a85], a4),
  (73, [a8, a85], a108),
  (73, [a12, a85], a109),
  (73, [a117, a85], a106),
  (73, [a4, a85], a110),
  (73, [a108, a85], a113),
  (73, [a109, a85], a114),
  (73, [a106, a85], a118),
  (73, [a83, a88], a110),
  (73, [a8, a88], a113),
  (73, [a12, a88], a114),
  (73, [a117, a88], a118),
  (73, [a4, a88], a115),
  (73, [a108, a88], a120),
  (73, [a109, a88], a121),
  (73, [a106, a88], a122),
  (76, [a115, a83], a115),
  (76, [a120, a83], a120),
  (76, [a121, a83], a121),
  (76, [a122, a83], a122),
  (76, [a131, a83], a131),
  (76, [a134, a83], a134),
  (76, [a135, a83], a135),
  (76, [a130, a83], a130),
  (77, [a83, a94], a115),
  (77, [a8, a94], a120),
  (77, [a12, a94], a121),
  (77, [a117, a94], a122),
  (77, [a4, a94], a131),
  (77, [a108, a94], a134),
  (77, [a109, a94], a135),
  (77, [a106, a94], a130),
  (77, [a83, a8], a8),
  (77, [a8, a117], a388),
  (77, [a83, a117], a117),
  (77, [a117, a12], a389),
  (77, [a83, a12], a12),
  (77, [a12, a109], a390),
  (77, [a83, a109], a109),
  (77, [a109, a4], a114),
  (78, [a83, a4], a4),
  (78, [a4, a108], a113),
  (78, [a83, a108], a108),
  (78, [a108, a8], a391),
  (78, [a8, a108], a391),
  (78, [a391, a106], a392),
  (78, [a8, a106], a393),
  (78, [a393, a117], a394),
  (78, [a12, a117], a389),
  (78, [a389, a106], a395),
  (78, [a12, a106], a396),
  (78, [a396, a109], a397),
  (78, [a4, a109], a114),
  (78, [a114, a106], a398),
  (78, [a4, a106], a118),
  (78, [a118, a108], a399),
  (78, [a168, a350], a83),
  (78, [a83, a350], a83),
  (78, [a83, a351], a83),
  (78, [a83, a349], a83),
  (78, [a83, a392], a392),
  (78, [a392, a394], a400),
  (78, [a400, a395], a401),
  (79, [a401, a397], a402),
  (79, [a402, a398], a403),
  (79, [a403, a399], a404),
  (79, [a115, a120], a405),
  (79, [a122, a115], a406),
  (79, [a405, a406], a407),
  (79, [a115, a122], a406),
  (79, [a121, a115], a408),
  (79, [a406, a408], a409),
  (79, [a115, a121], a408),
  (79, [a135, a115], a410),
  (79, [a408, a410], a411),
  (79, [a115, a135], a410),
  (79, [a131, a115], a412),
  (79, [a410, a412], a413),
  (79, [a115, a131], a412),
  (79, [a134, a115], a414),
  (79, [a412, a414], a415),
  (79, [a115, a134], a414),
  (79, [a120, a115], a405),
  (79, [a414, a405], a416),
  (79, [a120, a134], a417),
  (79, [a130, a115], a418),
  (79, [a417, a418], a419),
  (79, [a120, a130], a420),
  (79, [a420, a406], a421),
  (79, [a121, a122], a422),
  (79, [a422, a418], a423),
  (79, [a121, a130], a424),
  (79, [a424, a410], a425),
  (79, [a131, a135], a426),
  (79, [a426, a418], a427),
  (80, [a131, a130], a428),
  (80, [a428, a414], a429),
  (80, [a168, a83], a83),
  (80, [a83, a419], a419),
  (80, [a419, a421], a430),
  (80, [a430, a423], a431),
  (80, [a431, a425], a432),
  (80, [a432, a427], a433),
  (80, [a433, a429], a434),
  (91, [a83, a91], a142),
  (91, [a8, a91], a144),
  (91, [a12, a91], a145),
  (91, [a117, a91], a148),
  (91, [a4, a91], a146),
  (91, [a108, a91], a150),
  (91, [a109, a91], a151),
  (91, [a106, a91], a152),
  (93, [a168, a466], a466),
  (93, [a168, a467], a467),
  (93, [a466, a467], a468)]
def f313 : List Entry := [
  (103, [a234], a466),
  (104, [a246], a467)]
def f315 : List Entry := [
  (14, [a798, a799], F),
  (14, [a800, a799], T)]
def f316 : List Entry := [
  (15, [a182], F),
  (15, [a183], F),
  (15, [a184], F),
  (15, [a185], F),
  (15, [a186], F),
  (15, [a187], F),
  (15, [a188], F),
  (15, [a189], F),
  (25, [a193], F),
  (25, [a194], F),
  (25, [a195], F),
  (25, [a196], F),
  (25, [a197], F),
  (25, [a198], F),
  (25, [a199], F),
  (25, [a200], F)]
def f317 : List Entry := [
  (46, [a182, a183], (I (-1))),
  (46, [a183, a184], (I (-1))),
  (46, [a184, a185], (I (-1))),
  (46, [a185, a186], (I (-1))),
  (46, [a186, a187], (I (-1))),
  (46, [a187, a188], (I (-1))),
  (46, [a188, a189], (I (-1))),
  (49, [a193, a194], (I (-1))),
  (49, [a194, a195], (I (-1))),
  (49, [a195, a196], (I (-1))),
  (49, [a196, a197], (I (-1))),
  (49, [a197, a198], (I (-1))),
  (49, [a198, a199], (I (-1))),
  (49, [a199, a200], (I (-1)))]
def f318 : List Entry := [
  (46, [a46], F),
  (49, [a243], F),
  (50, [a53], F)]
def f319 : List Entry := [
  (7, [(W 255)], (I 8))]
def f320 : List Entry := [
  (46, [a46], a801),
  (49, [a243], a801),
  (50, [a53], a801)]
def f321 : List Entry := [
  (22, [a46, a802], a23),
  (22, [a46, a803], a25),
  (23, [a46, a804], a24),
  (23, [a46, a805], a26),
  (23, [a46, a806], a27),
  (24, [a46, a807], a28),
  (32, [a243, a802], a23),
  (33, [a243, a803], a25),
  (33, [a243, a804], a24),
  (33, [a243, a805], a26),
  (34, [a243, a806], a27),
  (34, [a243, a807], a28),
  (42, [a53, a802], a23),
  (42, [a53, a803], a25),
  (42, [a53, a804], a24),
  (43, [a53, a805], a26),
  (43, [a53, a806], a27),
  (43, [a53, a807], a28)]
def f323 : List Entry := [
  (47, [a808, a809], (I 1)),
  (47, [a810, a808], (I (-1))),
  (47, [a810, a809], (I 1)),
  (47, [a811, a808], (I 1)),
  (47, [a812, a811], (I 1)),
  (47, [a813, a812], (I 1))]
def f325 : List Entry := [
  (8, [a23], a815),
  (8, [a24], a817),
  (8, [a25], a819),
  (8, [a26], a821),
  (8, [a27], a823),
  (8, [a28], a825)]
def f327 : List Entry := [
  (47, [a826, a827], (I 1)),
  (47, [a828, a826], (I 1)),
  (47, [a829, a828], (I (-1))),
  (47, [a829, a826], (I (-1))),
  (47, [a829, a827], (I 1)),
  (47, [a830, a828], (I 1)),
  (47, [a831, a830], (I 1)),
  (47, [a832, a831], (I (-1))),
  (47, [a832, a830], (I (-1))),
  (47, [a832, a828], (I (-1))),
  (47, [a832, a826], (I (-1))),
  (47, [a832, a829], (I 1)),
  (47, [a833, a831], (I (-1))),
  (47, [a833, a830], (I 1)),
  (47, [a834, a831], (I (-1))),
  (47, [a834, a833], (I (-1))),
  (47, [a834, a830], (I (-1))),
  (47, [a834, a828], (I (-1))),
  (47, [a834, a826], (I 1)),
  (47, [a835, a831], (I 1)),
  (47, [a836, a835], (I (-1))),
  (47, [a836, a831], (I (-1))),
  (47, [a836, a833], (I (-1))),
  (47, [a836, a830], (I 1)),
  (47, [a837, a835], (I 1))]
def f329 : List Entry := [
  (47, [(S [48]), (S [47])], (I (-1))),
  (47, [(S [49]), (S [47])], (I (-1))),
  (47, [(S [50]), (S [47])], (I (-1))),
  (50, [(S [52]), (S [47])], (I (-1))),
  (51, [(S [49,47,50]), (S [47])], (I 1)),
  (51, [(S [51]), (S [47])], (I (-1)))]
def f330 : List Entry := [
  (8, [a780, (C 48)], T),
  (8, [a780, (C 49)], T),
  (8, [a780, (C 50)], T),
  (12, [a780, (C 52)], T),
  (12, [a780, (C 51)], T)]
def f334 : List Entry := [
  (24, [(S [48]), (S [45])], a781),
  (24, [(S [49]), (S [45])], a782),
  (24, [(S [50]), (S [45])], a783),
  (34, [(S [52]), (S [45])], a784),
  (44, [(S [51]), (S [45])], a785)]
def f335 : List Entry := [
  (47, [(S [48]), a786], (I (-1))),
  (47, [(S [49]), a786], (I (-1))),
  (47, [(S [50]), a786], (I (-1))),
  (50, [(S [52]), a786], (I (-1))),
  (51, [(S [51]), a786], (I (-1)))]
def f336 : List Entry := [
  (8, [(S [48]), (I 10), (I 32)], a787),
  (8, [(S [49]), (I 10), (I 32)], a788),
  (8, [(S [50]), (I 10), (I 32)], a789),
  (12, [(S [52]), (I 10), (I 32)], a790),
  (12, [(S [51]), (I 10), (I 32)], a791)]
def f350 : List Entry := [
  (1, [(I 1)], (S [49])),
  (1, [(I 2)], (S [50])),
  (12, [(I 4)], (S [52])),
  (12, [(I 3)], (S [51]))]
def f356 : List Entry := [
  (91, [(S [50]), (I 0), (I 1)], a838),
  (91, [(S [52]), (I 0), (I (-1))], a839)]
def f358 : List Entry := [
  (12, [a795, (I 1)], (I 0)),
  (12, [a796, (I (-1))], (I 0))]
def f360 : List Entry := [
  (98, [a234], a100),
  (98, [a246], a100)]
def f361 : List Entry := [
  (98, [a327], a473),
  (98, [a334], a477)]
def f362 : List Entry := [
  (92, [a327], a203),
  (93, [a334], a203)]
def f363 : List Entry := [
  (1, [(I 0)], F),
  (1, [(I 1)], F),
  (10, [(I 3)], F),
  (11, [(I 4)], F)]
def f364 : List Entry := [
  (1, [a840, a192], a186),
  (1, [a192, a841], a186),
  (1, [a191, a841], a190),
  (1, [a191, a192], a190),
  (1, [a842, a190], a192),
  (2, [a843, a190], a183),
  (2, [a843, a842], a189),
  (2, [a844, a190], a840),
  (2, [a844, a842], a187),
  (2, [a844, a843], a845),
  (2, [a190, a846], a192),
  (2, [a847, a846], a842),
  (3, [a847, a190], a185),
  (3, [a843, a846], a848),
  (3, [a843, a847], a845),
  (3, [a191, a846], a184),
  (3, [a191, a190], a184),
  (3, [a191, a847], a188),
  (3, [a191, a843], a188),
  (3, [a848, a845], a849),
  (3, [a190, a845], a183),
  (4, [a190, a848], a185),
  (4, [a842, a845], a850),
  (4, [a842, a848], a187),
  (4, [a192, a845], a191),
  (4, [a192, a848], a846),
  (4, [a192, a190], a191),
  (4, [a192, a842], a846),
  (4, [a840, a845], a851),
  (4, [a840, a848], a841),
  (5, [a840, a190], a841),
  (5, [a840, a842], a852),
  (5, [a845, a852], a849),
  (5, [a846, a852], a842),
  (5, [a846, a845], a844),
  (5, [a190, a852], a840),
  (5, [a841, a852], a853),
  (5, [a841, a845], a847),
  (6, [a841, a846], a854),
  (6, [a841, a190], a853),
  (6, [a192, a852], a855),
  (6, [a192, a846], a855),
  (6, [a191, a852], a843),
  (6, [a191, a845], a843),
  (6, [a183, a184], a190),
  (6, [a183, a185], a190),
  (6, [a191, a853], a186),
  (6, [a853, a184], a186),
  (6, [a841, a192], a190),
  (6, [a841, a191], a186),
  (6, [a192, a840], a190),
  (6, [a192, a183], a190),
  (7, [a183, a186], a184),
  (7, [a186, a187], a192),
  (7, [a190, a842], a184),
  (7, [a842, a183], a184),
  (7, [a846, a190], a184),
  (7, [a190, a191], a192),
  (7, [a191, a855], a192),
  (7, [a191, a186], a192),
  (7, [a184, a186], a191),
  (7, [a184, a188], a191),
  (7, [a192, a849], a183),
  (7, [a849, a186], a183),
  (7, [a845, a190], a191),
  (7, [a845, a192], a183),
  (7, [a190, a843], a191),
  (7, [a190, a184], a191),
  (7, [a186, a188], a183),
  (7, [a843, a184], a191),
  (7, [a190, a192], a183),
  (7, [a192, a186], a183),
  (7, [a183, a187], a184),
  (7, [a855, a186], a192),
  (7, [a846, a191], a192),
  (7, [a190, a183], a184),
  (7, [a184, a185], a186),
  (7, [a840, a183], a190),
  (7, [a192, a191], a186),
  (7, [a191, a184], a186)]
def f365 : List Entry := [
  (1, [a183, a184], a840),
  (1, [a182, a184], a192),
  (1, [a184, a184], a182),
  (1, [a185, a184], a183),
  (1, [a186, a184], a849),
  (1, [a187, a184], a850),
  (1, [a188, a184], a186),
  (1, [a189, a184], a187),
  (1, [a182, a186], a190),
  (1, [a183, a185], a192),
  (1, [a182, a185], a841),
  (1, [a184, a185], a191),
  (1, [a185, a185], a182),
  (1, [a186, a185], a851),
  (1, [a187, a185], a849),
  (1, [a188, a185], a855),
  (1, [a189, a185], a186),
  (1, [a183, a186], a842),
  (1, [a184, a186], a843),
  (1, [a185, a186], a844),
  (1, [a186, a186], a182),
  (2, [a187, a186], a183),
  (2, [a188, a186], a184),
  (2, [a189, a186], a185),
  (2, [a182, a183], a191),
  (2, [a182, a189], a852),
  (2, [a182, a840], a853),
  (2, [a182, a187], a846),
  (2, [a182, a845], a188),
  (2, [a183, a187], a190),
  (2, [a184, a187], a847),
  (2, [a185, a187], a843),
  (2, [a186, a187], a191),
  (2, [a187, a187], a182),
  (2, [a188, a187], a853),
  (2, [a189, a187], a184),
  (3, [a182, a842], a855),
  (3, [a182, a848], a854),
  (3, [a182, a188], a845),
  (3, [a183, a188], a848),
  (3, [a184, a188], a190),
  (3, [a185, a188], a842),
  (3, [a186, a188], a192),
  (3, [a187, a188], a840),
  (3, [a188, a188], a182),
  (3, [a189, a188], a183),
  (3, [a182, a849], a843),
  (4, [a182, a850], a847),
  (4, [a182, a192], a184),
  (4, [a182, a846], a187),
  (4, [a182, a851], a844),
  (4, [a182, a841], a185),
  (5, [a182, a852], a189),
  (5, [a183, a189], a845),
  (5, [a184, a189], a846),
  (5, [a185, a189], a190),
  (5, [a186, a189], a841),
  (5, [a187, a189], a192),
  (5, [a188, a189], a191),
  (5, [a189, a189], a182),
  (5, [a182, a844], a851),
  (5, [a182, a853], a840),
  (5, [a182, a847], a850),
  (6, [a182, a854], a848),
  (6, [a182, a855], a842),
  (6, [a182, a191], a183),
  (6, [a182, a843], a849),
  (6, [a182, a190], a186),
  (6, [a183, a182], a183),
  (6, [a184, a182], a184),
  (6, [a185, a182], a185),
  (6, [a184, a183], a853),
  (6, [a185, a183], a184),
  (6, [a186, a182], a186),
  (7, [a187, a182], a187),
  (7, [a186, a183], a855),
  (7, [a187, a183], a186),
  (7, [a188, a182], a188),
  (7, [a189, a183], a188),
  (11, [a194, a195], a840),
  (11, [a193, a195], a192),
  (11, [a195, a195], a182),
  (11, [a196, a195], a183),
  (11, [a197, a195], a849),
  (11, [a198, a195], a850),
  (11, [a199, a195], a186),
  (11, [a200, a195], a187),
  (11, [a194, a196], a192),
  (11, [a193, a196], a841),
  (11, [a195, a196], a191),
  (11, [a196, a196], a182),
  (11, [a197, a196], a851),
  (11, [a198, a196], a849),
  (11, [a199, a196], a855),
  (11, [a200, a196], a186),
  (11, [a194, a197], a842),
  (11, [a193, a197], a190),
  (11, [a195, a197], a843),
  (11, [a196, a197], a844),
  (11, [a197, a197], a182),
  (11, [a198, a197], a183),
  (11, [a199, a197], a184),
  (11, [a200, a197], a185),
  (11, [a194, a198], a190),
  (11, [a193, a198], a846),
  (11, [a195, a198], a847),
  (11, [a196, a198], a843),
  (11, [a197, a198], a191),
  (11, [a198, a198], a182),
  (11, [a199, a198], a853),
  (11, [a200, a198], a184),
  (11, [a194, a199], a848),
  (11, [a193, a199], a845),
  (11, [a195, a199], a190),
  (11, [a196, a199], a842),
  (11, [a197, a199], a192),
  (11, [a198, a199], a840),
  (11, [a199, a199], a182),
  (11, [a200, a199], a183),
  (11, [a194, a200], a845),
  (11, [a193, a200], a852),
  (11, [a195, a200], a846),
  (11, [a196, a200], a190),
  (11, [a197, a200], a841),
  (11, [a198, a200], a192),
  (11, [a199, a200], a191),
  (11, [a200, a200], a182),
  (11, [a194, a193], a183),
  (11, [a195, a193], a184),
  (11, [a196, a193], a185),
  (11, [a193, a194], a191),
  (11, [a195, a194], a853),
  (11, [a196, a194], a184),
  (11, [a197, a193], a186),
  (11, [a198, a193], a187),
  (11, [a197, a194], a855),
  (11, [a198, a194], a186),
  (11, [a199, a193], a188),
  (11, [a200, a194], a188)]
def f367 : List Entry := [
  (15, [a182, a856, a857, a858], F),
  (15, [a183, a856, a857, a858], F),
  (15, [a184, a856, a857, a858], F),
  (15, [a185, a856, a857, a858], F),
  (15, [a186, a856, a857, a858], T),
  (25, [a193, a856, a859, a858], F),
  (25, [a194, a856, a859, a858], F),
  (25, [a195, a856, a859, a858], F),
  (25, [a196, a856, a859, a858], F),
  (25, [a197, a856, a859, a858], T),
  (35, [a182, a856, a860, a858], F),
  (35, [a183, a856, a860, a858], F),
  (35, [a184, a856, a860, a858], F),
  (35, [a185, a856, a860, a858], F),
  (35, [a186, a856, a860, a858], T)]
def f368 : List Entry := [
  (1, [a186, a192], (I 0)),
  (1, [a186, a840], (I 0)),
  (1, [a186, a182], (I 0)),
  (1, [a186, a183], (I 0)),
  (1, [a186, a849], (I 1)),
  (1, [a186, a850], (I 1)),
  (1, [a186, a186], (I 1)),
  (1, [a186, a187], (I 1)),
  (1, [a186, a841], (I 0)),
  (1, [a186, a191], (I 0)),
  (1, [a186, a851], (I 1)),
  (1, [a186, a855], (I 1)),
  (1, [a190, a841], (I 0)),
  (1, [a190, a192], (I 0)),
  (1, [a190, a191], (I 0)),
  (1, [a190, a182], (I 0)),
  (1, [a190, a851], (I (-1))),
  (1, [a190, a849], (I (-1))),
  (1, [a190, a855], (I (-1))),
  (1, [a190, a186], (I (-1))),
  (1, [a192, a190], (I 0)),
  (1, [a192, a842], (I 0)),
  (1, [a192, a843], (I (-1))),
  (1, [a192, a844], (I (-1))),
  (1, [a192, a182], (I 0)),
  (2, [a192, a183], (I 0)),
  (2, [a192, a184], (I (-1))),
  (2, [a192, a185], (I (-1))),
  (2, [a183, a190], (I 0)),
  (2, [a183, a842], (I 1)),
  (2, [a183, a843], (I 0)),
  (2, [a183, a844], (I 1)),
  (2, [a183, a182], (I 0)),
  (2, [a183, a183], (I 1)),
  (2, [a183, a184], (I 0)),
  (2, [a183, a185], (I 1)),
  (2, [a189, a190], (I (-1))),
  (2, [a189, a842], (I 0)),
  (2, [a189, a843], (I 0)),
  (2, [a189, a844], (I 1)),
  (2, [a189, a182], (I 0)),
  (2, [a189, a183], (I 1)),
  (2, [a189, a184], (I 1)),
  (2, [a189, a185], (I 2)),
  (2, [a840, a190], (I 0)),
  (2, [a840, a842], (I 1)),
  (2, [a840, a843], (I (-1))),
  (2, [a840, a844], (I 0)),
  (2, [a840, a182], (I 0)),
  (2, [a840, a183], (I 1)),
  (2, [a840, a184], (I (-1))),
  (2, [a840, a185], (I 0)),
  (2, [a187, a190], (I (-1))),
  (2, [a187, a842], (I 0)),
  (2, [a187, a843], (I (-1))),
  (2, [a187, a844], (I 0)),
  (2, [a187, a182], (I 0)),
  (2, [a187, a183], (I 1)),
  (2, [a187, a184], (I 0)),
  (2, [a187, a185], (I 1)),
  (2, [a845, a190], (I 1)),
  (2, [a845, a842], (I 1)),
  (2, [a845, a843], (I 0)),
  (2, [a845, a844], (I 0)),
  (2, [a845, a182], (I 0)),
  (2, [a845, a183], (I 0)),
  (2, [a845, a184], (I (-1))),
  (2, [a845, a185], (I (-1))),
  (2, [a192, a846], (I 0)),
  (2, [a192, a847], (I (-1))),
  (2, [a192, a191], (I 0)),
  (2, [a192, a853], (I (-1))),
  (2, [a842, a846], (I 0)),
  (2, [a842, a190], (I 1)),
  (2, [a842, a847], (I 0)),
  (2, [a842, a843], (I 1)),
  (3, [a842, a191], (I (-1))),
  (3, [a842, a182], (I 0)),
  (3, [a842, a853], (I (-1))),
  (3, [a842, a184], (I 0)),
  (3, [a185, a846], (I (-1))),
  (3, [a185, a190], (I 0)),
  (3, [a185, a847], (I 0)),
  (3, [a185, a843], (I 1)),
  (3, [a185, a191], (I (-1))),
  (3, [a185, a182], (I 0)),
  (3, [a185, a853], (I 0)),
  (3, [a185, a184], (I 1)),
  (3, [a848, a846], (I 0)),
  (3, [a848, a190], (I 1)),
  (3, [a848, a847], (I (-1))),
  (3, [a848, a843], (I 0)),
  (3, [a848, a191], (I (-1))),
  (3, [a848, a182], (I 0)),
  (3, [a848, a853], (I (-2))),
  (3, [a848, a184], (I (-1))),
  (3, [a183, a846], (I (-1))),
  (3, [a183, a847], (I (-1))),
  (3, [a183, a191], (I (-1))),
  (3, [a183, a853], (I (-1))),
  (3, [a845, a846], (I 1)),
  (3, [a845, a847], (I 0)),
  (3, [a845, a191], (I 0)),
  (3, [a845, a853], (I (-1))),
  (3, [a184, a846], (I 0)),
  (3, [a184, a190], (I 0)),
  (3, [a184, a847], (I 1)),
  (3, [a184, a843], (I 1)),
  (3, [a184, a191], (I 0)),
  (3, [a184, a182], (I 0)),
  (3, [a184, a853], (I 1)),
  (3, [a184, a184], (I 1)),
  (3, [a188, a846], (I (-1))),
  (3, [a188, a190], (I (-1))),
  (3, [a188, a847], (I 0)),
  (3, [a188, a843], (I 0)),
  (3, [a188, a191], (I 0)),
  (3, [a188, a182], (I 0)),
  (3, [a188, a853], (I 1)),
  (3, [a188, a184], (I 1)),
  (3, [a849, a845], (I 0)),
  (3, [a849, a848], (I 0)),
  (3, [a849, a190], (I (-1))),
  (3, [a849, a842], (I (-1))),
  (3, [a849, a192], (I 1)),
  (3, [a849, a840], (I 1)),
  (3, [a849, a182], (I 0)),
  (3, [a849, a183], (I 0)),
  (4, [a183, a845], (I 0)),
  (4, [a183, a848], (I 1)),
  (4, [a183, a192], (I 0)),
  (4, [a183, a840], (I 1)),
  (4, [a185, a845], (I (-1))),
  (4, [a185, a848], (I 0)),
  (4, [a185, a842], (I 1)),
  (4, [a185, a192], (I (-1))),
  (4, [a185, a840], (I 0)),
  (4, [a185, a183], (I 1)),
  (4, [a850, a845], (I 0)),
  (4, [a850, a848], (I 1)),
  (4, [a850, a190], (I (-1))),
  (4, [a850, a842], (I 0)),
  (4, [a850, a192], (I 1)),
  (4, [a850, a840], (I 2)),
  (4, [a850, a182], (I 0)),
  (4, [a850, a183], (I 1)),
  (4, [a187, a845], (I (-1))),
  (4, [a187, a848], (I 0)),
  (4, [a187, a192], (I 0)),
  (4, [a187, a840], (I 1)),
  (4, [a192, a845], (I 1)),
  (4, [a192, a848], (I 1)),
  (4, [a192, a192], (I 1)),
  (4, [a192, a840], (I 1)),
  (4, [a191, a845], (I 0)),
  (4, [a191, a848], (I (-1))),
  (4, [a191, a190], (I 0)),
  (4, [a191, a842], (I (-1))),
  (4, [a191, a192], (I 0)),
  (4, [a191, a840], (I (-1))),
  (4, [a191, a182], (I 0)),
  (4, [a191, a183], (I (-1))),
  (4, [a846, a845], (I 1)),
  (4, [a846, a848], (I 0)),
  (4, [a846, a190], (I 1)),
  (4, [a846, a842], (I 0)),
  (4, [a846, a192], (I 0)),
  (4, [a846, a840], (I (-1))),
  (4, [a846, a182], (I 0)),
  (4, [a846, a183], (I (-1))),
  (4, [a851, a845], (I 0)),
  (4, [a851, a848], (I (-1))),
  (4, [a851, a190], (I (-1))),
  (4, [a851, a842], (I (-2))),
  (4, [a851, a192], (I 1)),
  (4, [a851, a840], (I 0)),
  (4, [a851, a182], (I 0)),
  (4, [a851, a183], (I (-1))),
  (4, [a841, a845], (I 1)),
  (4, [a841, a848], (I 0)),
  (4, [a841, a190], (I 0)),
  (4, [a841, a842], (I (-1))),
  (4, [a841, a192], (I 1)),
  (4, [a841, a840], (I 0)),
  (4, [a841, a182], (I 0)),
  (4, [a841, a183], (I (-1))),
  (5, [a852, a845], (I 2)),
  (5, [a852, a848], (I 1)),
  (5, [a852, a190], (I 1)),
  (5, [a852, a842], (I 0)),
  (5, [a852, a192], (I 1)),
  (5, [a852, a840], (I 0)),
  (5, [a852, a182], (I 0)),
  (5, [a852, a183], (I (-1))),
  (5, [a186, a845], (I (-1))),
  (5, [a186, a848], (I (-1))),
  (5, [a186, a190], (I (-1))),
  (5, [a186, a842], (I (-1))),
  (5, [a849, a852], (I 0)),
  (5, [a849, a846], (I (-1))),
  (5, [a849, a841], (I 1)),
  (5, [a849, a191], (I 0)),
  (5, [a842, a852], (I 0)),
  (5, [a842, a845], (I 1)),
  (5, [a842, a841], (I (-1))),
  (5, [a842, a192], (I 0)),
  (5, [a844, a852], (I (-1))),
  (5, [a844, a845], (I 0)),
  (5, [a844, a846], (I 0)),
  (5, [a844, a190], (I 1)),
  (5, [a844, a841], (I (-2))),
  (5, [a844, a192], (I (-1))),
  (5, [a844, a191], (I (-1))),
  (5, [a844, a182], (I 0)),
  (5, [a840, a852], (I 0)),
  (5, [a840, a845], (I 1)),
  (5, [a840, a846], (I (-1))),
  (5, [a840, a841], (I 0)),
  (5, [a840, a192], (I 1)),
  (5, [a840, a191], (I (-1))),
  (5, [a183, a852], (I (-1))),
  (5, [a183, a841], (I (-1))),
  (5, [a192, a852], (I 1)),
  (5, [a192, a841], (I 1)),
  (5, [a853, a852], (I 0)),
  (5, [a853, a845], (I (-1))),
  (5, [a853, a846], (I 1)),
  (5, [a853, a190], (I 0)),
  (5, [a853, a841], (I 0)),
  (5, [a853, a192], (I (-1))),
  (5, [a853, a191], (I 1)),
  (5, [a853, a182], (I 0)),
  (5, [a847, a852], (I 1)),
  (5, [a847, a845], (I 0)),
  (5, [a847, a846], (I 2)),
  (5, [a847, a190], (I 1)),
  (5, [a847, a841], (I 0)),
  (5, [a847, a192], (I (-1))),
  (5, [a847, a191], (I 1)),
  (5, [a847, a182], (I 0)),
  (6, [a854, a852], (I (-1))),
  (6, [a854, a845], (I (-2))),
  (6, [a854, a846], (I 0)),
  (6, [a854, a190], (I (-1))),
  (6, [a854, a841], (I 0)),
  (6, [a854, a192], (I (-1))),
  (6, [a854, a191], (I 1)),
  (6, [a854, a182], (I 0)),
  (6, [a855, a852], (I 0)),
  (6, [a855, a845], (I (-1))),
  (6, [a855, a846], (I 0)),
  (6, [a855, a190], (I (-1))),
  (6, [a855, a841], (I 1)),
  (6, [a855, a192], (I 0)),
  (6, [a855, a191], (I 1)),
  (6, [a855, a182], (I 0)),
  (6, [a191, a852], (I 1)),
  (6, [a191, a846], (I 1)),
  (6, [a191, a841], (I 1)),
  (6, [a191, a191], (I 1)),
  (6, [a186, a852], (I (-1))),
  (6, [a186, a846], (I (-1))),
  (6, [a843, a852], (I 0)),
  (6, [a843, a845], (I 0)),
  (6, [a843, a846], (I 1)),
  (6, [a843, a190], (I 1)),
  (6, [a843, a841], (I (-1))),
  (6, [a843, a192], (I (-1))),
  (6, [a843, a191], (I 0)),
  (6, [a843, a182], (I 0)),
  (6, [a184, a852], (I (-1))),
  (6, [a184, a845], (I (-1))),
  (6, [a184, a841], (I (-1))),
  (6, [a184, a192], (I (-1))),
  (6, [a190, a852], (I 1)),
  (6, [a190, a845], (I 1)),
  (6, [a190, a846], (I 1)),
  (6, [a190, a190], (I 1))]
def f369 : List Entry := [
  (15, [a46, (I 2), (I 1), (I 0)], a861),
  (15, [a46, (I 3), (I 1), (I 0)], a861),
  (15, [a46, (I 3), (I 2), (I 0)], a861),
  (15, [a46, (I 3), (I 2), (I 1)], a861),
  (15, [a46, (I 4), (I 1), (I 0)], a862),
  (16, [a46, (I 4), (I 2), (I 0)], a863),
  (16, [a46, (I 4), (I 2), (I 1)], a865),
  (16, [a46, (I 4), (I 3), (I 0)], a867),
  (16, [a46, (I 4), (I 3), (I 1)], a869),
  (16, [a46, (I 4), (I 3), (I 2)], a871),
  (16, [a46, (I 5), (I 1), (I 0)], a862),
  (16, [a46, (I 5), (I 2), (I 0)], a873),
  (16, [a46, (I 5), (I 2), (I 1)], a875),
  (17, [a46, (I 5), (I 3), (I 0)], a877),
  (17, [a46, (I 5), (I 3), (I 1)], a878),
  (17, [a46, (I 5), (I 3), (I 2)], a871),
  (17, [a46, (I 5), (I 4), (I 0)], a862),
  (17, [a46, (I 5), (I 4), (I 1)], a862),
  (17, [a46, (I 5), (I 4), (I 2)], a880),
  (17, [a46, (I 5), (I 4), (I 3)], a880),
  (17, [a46, (I 6), (I 1), (I 0)], a882),
  (18, [a46, (I 6), (I 2), (I 0)], a863),
  (18, [a46, (I 6), (I 2), (I 1)], a875),
  (18, [a46, (I 6), (I 3), (I 0)], a884),
  (18, [a46, (I 6), (I 3), (I 1)], a869),
  (18, [a46, (I 6), (I 3), (I 2)], a885),
  (18, [a46, (I 6), (I 4), (I 0)], a863),
  (18, [a46, (I 6), (I 4), (I 1)], a887),
  (18, [a46, (I 6), (I 4), (I 2)], a863),
  (19, [a46, (I 6), (I 4), (I 3)], a887),
  (19, [a46, (I 6), (I 5), (I 0)], a889),
  (19, [a46, (I 6), (I 5), (I 1)], a891),
  (19, [a46, (I 6), (I 5), (I 2)], a891),
  (19, [a46, (I 6), (I 5), (I 3)], a893),
  (19, [a46, (I 6), (I 5), (I 4)], a894),
  (19, [a46, (I 7), (I 1), (I 0)], a882),
  (19, [a46, (I 7), (I 2), (I 0)], a873),
  (20, [a46, (I 7), (I 2), (I 1)], a896),
  (20, [a46, (I 7), (I 3), (I 0)], a867),
  (20, [a46, (I 7), (I 3), (I 1)], a878),
  (20, [a46, (I 7), (I 3), (I 2)], a885),
  (20, [a46, (I 7), (I 4), (I 0)], a898),
  (20, [a46, (I 7), (I 4), (I 1)], a900),
  (20, [a46, (I 7), (I 4), (I 2)], a902),
  (20, [a46, (I 7), (I 4), (I 3)], a898),
  (21, [a46, (I 7), (I 5), (I 0)], a904),
  (21, [a46, (I 7), (I 5), (I 1)], a878),
  (21, [a46, (I 7), (I 5), (I 2)], a904),
  (21, [a46, (I 7), (I 5), (I 3)], a878),
  (21, [a46, (I 7), (I 5), (I 4)], a894),
  (21, [a46, (I 7), (I 6), (I 0)], a906),
  (21, [a46, (I 7), (I 6), (I 1)], a906),
  (21, [a46, (I 7), (I 6), (I 2)], a885),
  (22, [a46, (I 7), (I 6), (I 3)], a885),
  (22, [a46, (I 7), (I 6), (I 4)], a894),
  (22, [a46, (I 7), (I 6), (I 5)], a894),
  (25, [a243, (I 2), (I 1), (I 0)], a861),
  (26, [a243, (I 3), (I 1), (I 0)], a861),
  (26, [a243, (I 3), (I 2), (I 0)], a861),
  (26, [a243, (I 3), (I 2), (I 1)], a861),
  (26, [a243, (I 4), (I 1), (I 0)], a862),
  (26, [a243, (I 4), (I 2), (I 0)], a863),
  (26, [a243, (I 4), (I 2), (I 1)], a865),
  (26, [a243, (I 4), (I 3), (I 0)], a867),
  (26, [a243, (I 4), (I 3), (I 1)], a869),
  (27, [a243, (I 4), (I 3), (I 2)], a871),
  (27, [a243, (I 5), (I 1), (I 0)], a862),
  (27, [a243, (I 5), (I 2), (I 0)], a873),
  (27, [a243, (I 5), (I 2), (I 1)], a875),
  (27, [a243, (I 5), (I 3), (I 0)], a877),
  (27, [a243, (I 5), (I 3), (I 1)], a878),
  (27, [a243, (I 5), (I 3), (I 2)], a871),
  (27, [a243, (I 5), (I 4), (I 0)], a862),
  (28, [a243, (I 5), (I 4), (I 1)], a862),
  (28, [a243, (I 5), (I 4), (I 2)], a880),
  (28, [a243, (I 5), (I 4), (I 3)], a880),
  (28, [a243, (I 6), (I 1), (I 0)], a882),
  (28, [a243, (I 6), (I 2), (I 0)], a863),
  (28, [a243, (I 6), (I 2), (I 1)], a875),
  (28, [a243, (I 6), (I 3), (I 0)], a884),
  (28, [a243, (I 6), (I 3), (I 1)], a869),
  (29, [a243, (I 6), (I 3), (I 2)], a885),
  (29, [a243, (I 6), (I 4), (I 0)], a863),
  (29, [a243, (I 6), (I 4), (I 1)], a887),
  (29, [a243, (I 6), (I 4), (I 2)], a863),
  (29, [a243, (I 6), (I 4), (I 3)], a887),
  (29, [a243, (I 6), (I 5), (I 0)], a889),
  (29, [a243, (I 6), (I 5), (I 1)], a891),
  (29, [a243, (I 6), (I 5), (I 2)], a891),
  (30, [a243, (I 6), (I 5), (I 3)], a893),
  (30, [a243, (I 6), (I 5), (I 4)], a894),
  (30, [a243, (I 7), (I 1), (I 0)], a882),
  (30, [a243, (I 7), (I 2), (I 0)], a873),
  (30, [a243, (I 7), (I 2), (I 1)], a896),
  (30, [a243, (I 7), (I 3), (I 0)], a867),
  (30, [a243, (I 7), (I 3), (I 1)], a878),
  (30, [a243, (I 7), (I 3), (I 2)], a885),
  (31, [a243, (I 7), (I 4), (I 0)], a898),
  (31, [a243, (I 7), (I 4), (I 1)], a900),
  (31, [a243, (I 7), (I 4), (I 2)], a902),
  (31, [a243, (I 7), (I 4), (I 3)], a898),
  (31, [a243, (I 7), (I 5), (I 0)], a904),
  (31, [a243, (I 7), (I 5), (I 1)], a878),
  (31, [a243, (I 7), (I 5), (I 2)], a904),
  (31, [a243, (I 7), (I 5), (I 3)], a878),
  (32, [a243, (I 7), (I 5), (I 4)], a894),
  (32, [a243, (I 7), (I 6), (I 0)], a906),
  (32, [a243, (I 7), (I 6), (I 1)], a906),
  (32, [a243, (I 7), (I 6), (I 2)], a885),
  (32, [a243, (I 7), (I 6), (I 3)], a885),
  (32, [a243, (I 7), (I 6), (I 4)], a894),
  (32, [a243, (I 7), (I 6), (I 5)], a894),
  (35, [a53, (I 2), (I 1), (I 0)], a861),
  (35, [a53, (I 3), (I 1), (I 0)], a861),
  (35, [a53, (I 3), (I 2), (I 0)], a861),
  (35, [a53, (I 3), (I 2), (I 1)], a861),
  (35, [a53, (I 4), (I 1), (I 0)], a862),
  (35, [a53, (I 4), (I 2), (I 0)], a863),
  (35, [a53, (I 4), (I 2), (I 1)], a865),
  (36, [a53, (I 4), (I 3), (I 0)], a867),
  (36, [a53, (I 4), (I 3), (I 1)], a869),
  (36, [a53, (I 4), (I 3), (I 2)], a871),
  (36, [a53, (I 5), (I 1), (I 0)], a862),
  (36, [a53, (I 5), (I 2), (I 0)], a873),
  (36, [a53, (I 5), (I 2), (I 1)], a875),
  (36, [a53, (I 5), (I 3), (I 0)], a877),
  (36, [a53, (I 5), (I 3), (I 1)], a878),
  (37, [a53, (I 5), (I 3), (I 2)], a871),
  (37, [a53, (I 5), (I 4), (I 0)], a862),
  (37, [a53, (I 5), (I 4), (I 1)], a862),
  (37, [a53, (I 5), (I 4), (I 2)], a880),
  (37, [a53, (I 5), (I 4), (I 3)], a880),
  (37, [a53, (I 6), (I 1), (I 0)], a882),
  (37, [a53, (I 6), (I 2), (I 0)], a863),
  (37, [a53, (I 6), (I 2), (I 1)], a875),
  (38, [a53, (I 6), (I 3), (I 0)], a884),
  (38, [a53, (I 6), (I 3), (I 1)], a869),
  (38, [a53, (I 6), (I 3), (I 2)], a885),
  (38, [a53, (I 6), (I 4), (I 0)], a863),
  (38, [a53, (I 6), (I 4), (I 1)], a887),
  (38, [a53, (I 6), (I 4), (I 2)], a863),
  (38, [a53, (I 6), (I 4), (I 3)], a887),
  (38, [a53, (I 6), (I 5), (I 0)], a889),
  (39, [a53, (I 6), (I 5), (I 1)], a891),
  (39, [a53, (I 6), (I 5), (I 2)], a891),
  (39, [a53, (I 6), (I 5), (I 3)], a893),
  (39, [a53, (I 6), (I 5), (I 4)], a894),
  (39, [a53, (I 7), (I 1), (I 0)], a882),
  (39, [a53, (I 7), (I 2), (I 0)], a873),
  (39, [a53, (I 7), (I 2), (I 1)], a896),
  (39, [a53, (I 7), (I 3), (I 0)], a867),
  (40, [a53, (I 7), (I 3), (I 1)], a878),
  (40, [a53, (I 7), (I 3), (I 2)], a885),
  (40, [a53, (I 7), (I 4), (I 0)], a898),
  (40, [a53, (I 7), (I 4), (I 1)], a900),
  (40, [a53, (I 7), (I 4), (I 2)], a902),
  (40, [a53, (I 7), (I 4), (I 3)], a898),
  (40, [a53, (I 7), (I 5), (I 0)], a904),
  (40, [a53, (I 7), (I 5), (I 1)], a878),
  (41, [a53, (I 7), (I 5), (I 2)], a904),
  (41, [a53, (I 7), (I 5), (I 3)], a878),
  (41, [a53, (I 7), (I 5), (I 4)], a894),
  (41, [a53, (I 7), (I 6), (I 0)], a906),
  (41, [a53, (I 7), (I 6), (I 1)], a906),
  (41, [a53, (I 7), (I 6), (I 2)], a885),
  (41, [a53, (I 7), (I 6), (I 3)], a885),
  (41, [a53, (I 7), (I 6), (I 4)], a894),
  (42, [a53, (I 7), (I 6), (I 5)], a894)]
def f370 : List Entry := [
  (6, [(W 15)], (I 0)),
  (6, [(W 14)], (I 1)),
  (6, [(W 12)], (I 2)),
  (6, [(W 8)], (I 3)),
  (6, [(W 51)], (I 0)),
  (6, [(W 50)], (I 1)),
  (6, [(W 48)], (I 4)),
  (6, [(W 32)], (I 5)),
  (7, [(W 85)], (I 0)),
  (7, [(W 84)], (I 2)),
  (7, [(W 80)], (I 4)),
  (7, [(W 64)], (I 6)),
  (7, [(W 170)], (I 1)),
  (7, [(W 168)], (I 3)),
  (7, [(W 160)], (I 5)),
  (7, [(W 128)], (I 7)),
  (7, [(W 204)], (I 2)),
  (7, [(W 200)], (I 3)),
  (7, [(W 192)], (I 6)),
  (7, [(W 240)], (I 4)),
  (7, [(W 224)], (I 5))]
def f374 : List Entry := [
  (24, [(S [48]), (C 47)], (I (-1))),
  (24, [(S [49]), (C 47)], (I (-1))),
  (24, [(S [50]), (C 47)], (I (-1))),
  (34, [(S [52]), (C 47)], (I (-1))),
  (44, [(S [49,47,50]), (C 47)], (I 1)),
  (44, [(S [51]), (C 47)], (I (-1)))]
def f381 : List Entry := [
  (24, [(S [48]), a786, T], (I (-1))),
  (24, [(S [49]), a786, T], (I (-1))),
  (24, [(S [50]), a786, T], (I (-1))),
  (34, [(S [52]), a786, T], (I (-1))),
  (44, [(S [51]), a786, T], (I (-1)))]
def f414 : List Entry := [
  (95, [a31, a907], a563),
  (95, [a73, a907], a563)]
def f415 : List Entry := [
  (13, [a327], a909),
  (13, [a334], a911)]
def f433 : List Entry := [
  (0, [(S [48]), (C 47)], (I (-1))),
  (0, [(S [49]), (C 47)], (I (-1))),
  (0, [(S [50]), (C 47)], (I (-1))),
  (0, [(S [52]), (C 47)], (I (-1))),
  (0, [(S [49,47,50]), (C 47)], (I 1)),
  (0, [(S [51]), (C 47)], (I (-1)))]
def f454 : List Entry := [
  (89, [a83, a8, a117], a98),
  (89, [a83, a117, a12], a98),
  (89, [a83, a12, a109], a98),
  (89, [a83, a109, a4], a98),
  (89, [a83, a4, a108], a98),
  (89, [a83, a108, a8], a98),
  (89, [a8, a108, a106], a100),
  (89, [a8, a106, a117], a100),
  (89, [a12, a117, a106], a100),
  (89, [a12, a106, a109], a100),
  (89, [a4, a109, a106], a100),
  (89, [a4, a106, a108], a100),
  (89, [a83, a12, a440], a98),
  (89, [a83, a440, a85], a98),
  (89, [a83, a85, a441], a98),
  (89, [a83, a441, a8], a98),
  (89, [a8, a441, a442], a100),
  (89, [a8, a442, a117], a100),
  (89, [a12, a117, a442], a100),
  (89, [a12, a442, a440], a100),
  (89, [a85, a440, a442], a100),
  (89, [a85, a442, a441], a100)]
def tab : Tab := [(13, f13), (17, f17), (20, f20), (22, f22), (23, f23), (24, f24), (26, f26), (31, f31), (41, f41), (42, f42), (43, f43), (49, f49), (50, f50), (52, f52), (53, f53), (54, f54), (56, f56), (57, f57), (58, f58), (60, f60), (61, f61), (64, f64), (66, f66), (67, f67), (69, f69), (70, f70), (71, f71), (72, f72), (73, f73), (74, f74), (75, f75), (76, f76), (86, f86), (87, f87), (89, f89), (90, f90), (91, f91), (92, f92), (93, f93), (94, f94), (98, f98), (99, f99), (100, f100), (101, f101), (102, f102), (103, f103), (104, f104), (105, f105), (106, f106), (107, f107), (108, f108), (109, f109), (110, f110), (111, f111), (113, f113), (119, f119), (120, f120), (121, f121), (122, f122), (124, f124), (125, f125), (126, f126), (129, f129), (130, f130), (131, f131), (132, f132), (133, f133), (134, f134), (135, f135), (136, f136), (137, f137), (138, f138), (141, f141), (145, f145), (146, f146), (147, f147), (156, f156), (160, f160), (161, f161), (162, f162), (165, f165), (166, f166), (167, f167), (168, f168), (169, f169), (170, f170), (171, f171), (172, f172), (173, f173), (174, f174), (175, f175), (177, f177), (181, f181), (185, f185), (186, f186), (187, f187), (188, f188), (190, f190), (191, f191), (192, f192), (193, f193), (194, f194), (195, f195), (196, f196), (197, f197), (198, f198), (199, f199), (200, f200), (201, f201), (204, f204), (205, f205), (206, f206), (207, f207), (208, f208), (217, f217), (220, f220), (224, f224), (234, f234), (235, f235), (246, f246), (247, f247), (249, f249), (250, f250), (251, f251), (252, f252), (253, f253), (254, f254), (255, f255), (259, f259), (260, f260), (261, f261), (265, f265), (266, f266), (267, f267), (268, f268), (269, f269), (270, f270), (271, f271), (274, f274), (275, f275), (276, f276), (277, f277), (278, f278), (297, f297), (300, f300), (304, f304), (305, f305), (308, f308), (310, f310), (311, f311), (312, f312), (313, f313), (315, f315), (316, f316), (317, f317), (318, f318), (319, f319), (320, f320), (321, f321), (323, f323), (325, f325), (327, f327), (329, f329), (330, f330), (334, f334), (335, f335), (336, f336), (350, f350), (356, f356), (358, f358), (360, f360), (361, f361), (362, f362), (363, f363), (364, f364), (365, f365), (367, f367), (368, f368), (369, f369), (370, f370), (374, f374), (381, f381), (414, f414), (415, f415), (433, f433), (454, f454)]
end Go.Abs.Known

