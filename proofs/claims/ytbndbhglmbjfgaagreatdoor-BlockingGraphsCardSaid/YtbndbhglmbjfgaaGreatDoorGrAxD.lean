/- The parts of the function dowel/meeting.Axes and of the sort that it calls. -/
import Derived.Test.YtbndbhglmbjfgaaGreatDoorGrAbsC
import Derived.Test.YtbndbhglmbjfgaaGreatDoorGrTab
set_option linter.all false
namespace Go.Abs
open Go

def unseq : Nat → Code → List Code × Code
  | n + 1, .seq a b => ((a :: (unseq n b).1), (unseq n b).2)
  | _, c => ([], c)
end Go.Abs
namespace Go.Abs.Known
open Go Go.Abs

section
variable (P : Program)
def fn137 : Func := (P.funcs[137]?).getD default
def body137 : Code := (fn137 P).body.getD .skip
def pieces137 : List Code := (unseq 7 (body137 P)).1
def rest137 : Code := (unseq 7 (body137 P)).2
def tail137 : Code := match rest137 P with | .seq _ b => b | _ => .skip
def head137 : Code := match rest137 P with | .seq a _ => a | _ => .skip
def ops19 : Array Oper := match head137 P with | .seq (.region _ ops _) _ => ops | _ => #[]
def loop137 : Code := match head137 P with | .seq _ (.block _ (.loop b)) => b | _ => .skip
def ops20 : Array Oper := match loop137 P with | .seq (.region _ ops _) _ => ops | _ => #[]
def c137 : Operand := match loop137 P with | .seq _ (.seq (.cond c _ _) _) => c | _ => .tmp 0
def ops21 : Array Oper := match loop137 P with | .seq _ (.seq _ (.block _ (.seq (.region _ ops _) _))) => ops | _ => #[]
def r22 : Code := match loop137 P with | .seq _ (.seq _ (.block _ (.seq _ r))) => r | _ => .skip
def rest21 : List Oper := (ops21 P).toList.drop 1
def ax137 (vals : List AV) (r : AV) : Ax := { ops20 := ops20 P, o4 := (ops20 P).getD 1 default, c := c137 P, ops21 := ops21 P, rest21 := rest21 P, r22 := r22 P, tail := tail137 P, fn := fn137 P, vals := vals, t14 := 14, t58 := 58, t59 := 59, t61 := 61, r := r }
def callK (c : Nat) : CallF := callT P mode (tblOf tab c) fuel
def exK (c : Nat) : ExecF := exec P (callK P c) fuel
def pre137 (c : Nat) (args : List AV) : Go.Abs.R (List AV × AHeap) := preA P (callK P c) (exK P c) (fn137 P) (pieces137 P) (ops19 P) ((ops19 P).getD 0 default) args
end
def ts137 : List AV := List.replicate 14 .any ++ [N] ++ List.replicate 55 .any
end Go.Abs.Known
namespace Go.Abs.Known
open Go Go.Abs
def vals137 : List AV := [a17, a4, a15, a8, a10, a12]
def axA (P : Program) : Ax := ax137 P vals137 a647
end Go.Abs.Known
namespace Go.Abs
open Go
/-- A tree's branch: the first steps are given. -/
def Ax.branch (A : Ax) (P : Program) (call : CallF) (ex : ExecF) (X : List Nat → Obj) : Nat → List Nat → List Nat → List Nat → List AV → AHeap → Bool
  | n, [], seen, left, ts, H => A.tree P call ex X n seen left ts H
  | 0, _, _, _, _, _ => false
  | n + 1, i :: path, seen, left, ts, H => A.atIt ts && match A.vals[i]? with
      | some v => (match A.iter P call ex (X (seen ++ [i])) v ts H with
        | .ok (ts', H') => Ax.branch A P call ex X n path (seen ++ [i]) (left.filter fun k => !(Nat.beq k i)) ts' H'
        | .error _ => false)
      | none => false
end Go.Abs

namespace Go.Abs.Known
open Go Go.Abs
section
variable (P : Program)
def fn225 : Func := (P.funcs[225]?).getD default
def body225 : Code := (fn225 P).body.getD .skip
def s0 : Code := match body225 P with | .seq a _ => a | _ => .skip
def o225 : Code := match body225 P with | .seq _ (.block _ (.loop b)) => b | _ => .skip
def sA : Code := match o225 P with | .seq a _ => a | _ => .skip
def i225 : Code := match o225 P with | .seq _ (.seq (.block _ b) _) => b | _ => .skip
def s2 : Code := match o225 P with | .seq _ (.seq _ b) => b | _ => .skip
def s3 : Code := match i225 P with | .seq a _ => a | _ => .skip
def l225 : Code := match i225 P with | .seq _ (.block _ (.loop b)) => b | _ => .skip
def sB : Code := match l225 P with | .seq a _ => a | _ => .skip
def sC : Code := match l225 P with | .seq _ b => b | _ => .skip
def rank6 : List Nat := [0, 5, 2, 3, 1, 4]
def insV : Ins := { r0 := s0 P, pA := sA P, r3 := s3 P, pB := sB P, pC := sC P, r2 := s2 P, b0 := 0, b1 := 1, b2 := 2, fn := .fn (.func 206) [] [], el := fun k => (vals137.getD k .any).cells, lt := fun x y => Nat.blt (rank6.getD x 0) (rank6.getD y 0) }
def callS (c : Nat) : CallF := callH P mode (tblOf tab c) (sortHook (insV P) 225) fuel
def exS (c : Nat) : ExecF := exec P (callS P c) fuel
end
end Go.Abs.Known
namespace Go.Abs
open Go
abbrev Q4 := Value × List AV × Nat × Nat × Bool × Value × Value
def c4 (q : Q4) : List AV := [.sc q.1, .isl q.2.1 q.2.2.1 q.2.2.2.1 q.2.2.2.2.1, .sc q.2.2.2.2.2.1, .sc q.2.2.2.2.2.2]
def ec (u : Nat → Q4) (k : Nat) : List AV := c4 (u (3 * k)) ++ c4 (u (3 * k + 1)) ++ c4 (u (3 * k + 2))
def q4 (cs : List AV) (m : Nat) : Q4 := match cs.drop (4 * m) with
  | .sc a :: .isl l n c e :: .sc b :: .sc d :: _ => (a, l, n, c, e, b, d)
  | _ => (.nilFunc, [], 0, 0, false, .nilFunc, .nilFunc)
end Go.Abs
namespace Go.Abs.Known
open Go Go.Abs
/-- Ahead of the loop: the map holds the six entries. -/
def preAt (ts : List AV) (H : AHeap) : Bool :=
  match ts[(57 : Nat)]? with
  | some (.mp b) => (match H.objs[b]? with
    | some (.map es) => eqAs (eqA eqFuel) (es.map (·.2)) vals137 && weak ts ts137
    | _ => false)
  | _ => false

def preOK (P : Program) (args : List AV) : Bool :=
  match preA P (callS P 105) (exS P 105) (fn137 P) (pieces137 P) (ops19 P) ((ops19 P).getD 0 default) args with
  | .ok r => preAt r.1 r.2
  | .error _ => false
end Go.Abs.Known

