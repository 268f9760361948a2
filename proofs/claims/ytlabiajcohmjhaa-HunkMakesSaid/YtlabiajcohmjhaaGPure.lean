/-
What is between two lists of texts, as plain functions on lists: the longest common subsequence's length, the way, and the edits of the way.
-/
import Derived.Test.YtlabiajcohmjhaaD0
namespace Go.Proofs.Ytlabiajcohmjhaa.Pr
open Go.RowKit Go.Proofs.YtlabiajcohmjhaaW.PrintWords Go.Proofs.YtlabiajcohmjhaaW.PrintLast Go.Proofs.YtlabiajcohmjhaaW.PrintMore
abbrev Ed := S51
def lcsLen : List ByteArray → List ByteArray → Nat
 | [], _ => 0
 | _ :: _, [] => 0
 | x :: xs, y :: ys => if x = y then lcsLen xs ys + 1 else max (lcsLen xs (y :: ys)) (lcsLen (x :: xs) ys)
termination_by xs ys => xs.length + ys.length
inductive Step where
 | keep
 | del
 | ins (s : ByteArray)
def steps : List ByteArray → List ByteArray → List Step
 | [], [] => []
 | [], y :: ys => .ins y :: steps [] ys
 | _ :: xs, [] => .del :: steps xs []
 | x :: xs, y :: ys => if x = y then .keep :: steps xs ys else if lcsLen (x :: xs) ys ≤ lcsLen xs (y :: ys) then .del :: steps xs (y :: ys) else .ins y :: steps (x :: xs) ys
termination_by xs ys => xs.length + ys.length
def edLast (out : List Ed) : Ed := out.getD (out.length - 1) ⟨0, 0, []⟩
def opened (at_ : Int) (op : Bool) (out : List Ed) : List Ed := if op = true then out else out ++ [⟨at_, 0, []⟩]
def addDel (out : List Ed) : List Ed := out.set (out.length - 1) ⟨(edLast out).f0, (edLast out).f1 + 1, (edLast out).f2⟩
def addIns (s : ByteArray) (out : List Ed) : List Ed := out.set (out.length - 1) ⟨(edLast out).f0, (edLast out).f1, (edLast out).f2 ++ [s]⟩
def edits (at_ : Int) (op : Bool) (out : List Ed) : List Step → List Ed
 | [] => out
 | .keep :: r => edits (at_ + 1) false out r
 | .del :: r => edits (at_ + 1) true (addDel (opened at_ op out)) r
 | .ins s :: r => edits at_ true (addIns s (opened at_ op out)) r
def common : List ByteArray → List ByteArray → Nat
 | x :: xs, y :: ys => if x = y then common xs ys + 1 else 0
 | _, _ => 0
def midEdits (at_ : Int) (x y : List ByteArray) : List Ed :=
 if x = [] ∧ y = [] then [] else if x = [] ∨ y = [] ∨ 65536 < x.length * y.length then [⟨at_, (x.length : Int), y⟩] else edits at_ false [] (steps x y)
def frontOf (a b : List ByteArray) : Nat := common a b
def endOf (a b : List ByteArray) : Nat := common (a.drop (frontOf a b)).reverse (b.drop (frontOf a b)).reverse
def midOf (a b : List ByteArray) : List ByteArray := (a.drop (frontOf a b)).take ((a.drop (frontOf a b)).length - endOf a b)
def between (a b : List ByteArray) : List Ed :=
 midEdits (frontOf a b : Int) (midOf a b) ((b.drop (frontOf a b)).take ((b.drop (frontOf a b)).length - endOf a b))
end Go.Proofs.Ytlabiajcohmjhaa.Pr
-- shrunk
