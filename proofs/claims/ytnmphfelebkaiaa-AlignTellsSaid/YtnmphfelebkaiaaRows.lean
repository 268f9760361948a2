/-
  No cell of these rows narrows 'for every input' (looked for: loops, veiled, ifaces, maps, wideKeys, modest, calm, conditions, laid).
  DERIVED. THE GIVEN ROWS OF THIS SEAT. 4 by the template 'for every input the law returns true; each argument reads behind the call as it read before'; 0 by the template 'total and deterministic' (their statements: YtnmphfelebkaiaaTotals.lean).
  GIVEN WITH THE SEED: the statements are not yours to turn. If you find one false, say at which input.
  Laid BY PROGRAM, IN A SANDBOX (cutbox-rows.mjs): the forced cells as the released guide's own fill.sh prints them over the translation 1be0d9f21c8fef7f… (all of the seat's roots in one cut). By AI agents, Wed Nov 11 2026. No macro, syntax, notation, axiom, sorry.
-/
import Derived.Test.YtnmphfelebkaiaaChecked
import GoSem.Claim
import GoSem.ClaimJoined
import GoSem.ClaimMapViews
import Derived.JoinedTies
import Derived.KernelRfl
namespace Go.Proofs.Ytnmphfelebkaiaa
/- THE CELL 'sum', in the pinned program and in every row, IS THE sha256 OF THE DUMP (.gsa) THAT YtnmphfelebkaiaaProg.lean LOADS. Nothing in Lean hashes anything: it is a label: what it is worth is what the hold of that sum in a sandbox is worth. -/
noncomputable def Try.pinned : Pinned := { name := "ytnmphfelebkaiaa", sum := "1be0d9f21c8fef7f56cd3c5d9d8e8e52fa1cef693769c1314811d38f1df0a5f3", checked := Try.checked }
namespace Rows
def none {H : Type} : Left H := { results := [], args := [] }

/-- 'grapevinelaw08.AlignTells': WHATEVER THE INPUT: true; the input reads as it did. -/
def alignTellsSpec : ChangeSpec := { name := "alignTells", fn := fun _ => fun
  | [d1, d2, d3] => { results := [.lit (.bool true)], args := [d1, d2, d3] }
  | _ => none }
def alignTellsRow : OpenClaim := { program := "ytnmphfelebkaiaa", sum := "1be0d9f21c8fef7f56cd3c5d9d8e8e52fa1cef693769c1314811d38f1df0a5f3", func := "grapevine/grapevinelaw08.AlignTells", spec := "alignTells", unfollowed := true, recurses := true, apart := false }
def AlignTellsSaid : Prop := alignTellsRow.holds Try.pinned (OpenSpec.ofChange alignTellsSpec)

/-- ITS FALSE NEIGHBOUR: 'it returns false'. Refute it at one input. -/
def alignTellsWrong : ChangeSpec := { name := "alignTells", fn := fun _ => fun
  | [d1, d2, d3] => { results := [.lit (.bool false)], args := [d1, d2, d3] }
  | _ => none }
def AlignTellsWrongFalsely : Prop := alignTellsRow.holds Try.pinned (OpenSpec.ofChange alignTellsWrong)

/-- 'grapevinelaw08.AlignRight': WHATEVER THE INPUT: true; the input reads as it did. -/
def alignRightSpec : ChangeSpec := { name := "alignRight", fn := fun _ => fun
  | [d1, d2, d3, d4] => { results := [.lit (.bool true)], args := [d1, d2, d3, d4] }
  | _ => none }
def alignRightRow : OpenClaim := { program := "ytnmphfelebkaiaa", sum := "1be0d9f21c8fef7f56cd3c5d9d8e8e52fa1cef693769c1314811d38f1df0a5f3", func := "grapevine/grapevinelaw08.AlignRight", spec := "alignRight", unfollowed := true, recurses := true, apart := false }
def AlignRightSaid : Prop := alignRightRow.holds Try.pinned (OpenSpec.ofChange alignRightSpec)

/-- ITS FALSE NEIGHBOUR: 'it returns false'. Refute it at one input. -/
def alignRightWrong : ChangeSpec := { name := "alignRight", fn := fun _ => fun
  | [d1, d2, d3, d4] => { results := [.lit (.bool false)], args := [d1, d2, d3, d4] }
  | _ => none }
def AlignRightWrongFalsely : Prop := alignRightRow.holds Try.pinned (OpenSpec.ofChange alignRightWrong)

/-- 'grapevinelaw08.AlignWhole': WHATEVER THE INPUT: true; the input reads as it did. -/
def alignWholeSpec : ChangeSpec := { name := "alignWhole", fn := fun _ => fun
  | [d1, d2, d3] => { results := [.lit (.bool true)], args := [d1, d2, d3] }
  | _ => none }
def alignWholeRow : OpenClaim := { program := "ytnmphfelebkaiaa", sum := "1be0d9f21c8fef7f56cd3c5d9d8e8e52fa1cef693769c1314811d38f1df0a5f3", func := "grapevine/grapevinelaw08.AlignWhole", spec := "alignWhole", unfollowed := true, recurses := true, apart := false }
def AlignWholeSaid : Prop := alignWholeRow.holds Try.pinned (OpenSpec.ofChange alignWholeSpec)

/-- ITS FALSE NEIGHBOUR: 'it returns false'. Refute it at one input. -/
def alignWholeWrong : ChangeSpec := { name := "alignWhole", fn := fun _ => fun
  | [d1, d2, d3] => { results := [.lit (.bool false)], args := [d1, d2, d3] }
  | _ => none }
def AlignWholeWrongFalsely : Prop := alignWholeRow.holds Try.pinned (OpenSpec.ofChange alignWholeWrong)

/-- 'grapevinelaw08.AlignOne': WHATEVER THE INPUT: true; the input reads as it did. -/
def alignOneSpec : ChangeSpec := { name := "alignOne", fn := fun _ => fun
  | [d1, d2] => { results := [.lit (.bool true)], args := [d1, d2] }
  | _ => none }
def alignOneRow : OpenClaim := { program := "ytnmphfelebkaiaa", sum := "1be0d9f21c8fef7f56cd3c5d9d8e8e52fa1cef693769c1314811d38f1df0a5f3", func := "grapevine/grapevinelaw08.AlignOne", spec := "alignOne", unfollowed := true, recurses := true, apart := false }
def AlignOneSaid : Prop := alignOneRow.holds Try.pinned (OpenSpec.ofChange alignOneSpec)

/-- ITS FALSE NEIGHBOUR: 'it returns false'. Refute it at one input. -/
def alignOneWrong : ChangeSpec := { name := "alignOne", fn := fun _ => fun
  | [d1, d2] => { results := [.lit (.bool false)], args := [d1, d2] }
  | _ => none }
def AlignOneWrongFalsely : Prop := alignOneRow.holds Try.pinned (OpenSpec.ofChange alignOneWrong)

/- THE SECOND FORM. 'bulk': how many values and letters a reading holds, each counted each time it is reached (what is shared counts as often as it is met; a slice's spare places count too). A statement '..UptoSaid' is the law's where the arguments, and the package variables that the reading takes, are together of bulk at most 1048576: NARROWER than '..Said'. Prove '..Said' where nothing that the law and all that it calls make is longer than what came in: it says more and counts as full. Else prove '..UptoSaid'. A law counts once. -/
mutual
def uptoBulk {H : Type} : DataW H → Nat
  | .lit (.string bytes) => bytes.length + 1
  | .lit _ => 1
  | .nil => 1
  | .ptr d => uptoBulk d + 1
  | .slice elems spare => uptoBulkAll elems + uptoBulkAll spare + 1
  | .agg parts => uptoBulkAll parts + 1
  | .iface _ d => uptoBulk d + 1
  | .map entries => uptoBulkEntries entries + 1
  | .held _ => 1
def uptoBulkAll {H : Type} : List (DataW H) → Nat
  | [] => 0
  | d :: r => uptoBulk d + uptoBulkAll r
def uptoBulkEntries {H : Type} : List (Lit × DataW H) → Nat
  | [] => 0
  | x :: r => uptoBulkEntry x + uptoBulkEntries r
def uptoBulkEntry {H : Type} : Lit × DataW H → Nat
  | (.string bytes, d) => bytes.length + uptoBulk d + 1
  | (_, d) => uptoBulk d + 1
 end
def uptoSmall : (H : Type) → List (DataW H) → Bool := fun _ ds => decide (uptoBulkAll ds ≤ 1048576)
def OpenSpec.upto (s : _root_.Go.ChangeSpec) : _root_.Go.OpenSpec := { _root_.Go.OpenSpec.ofChange s with cond := some uptoSmall }

/-- 'grapevinelaw08.AlignTells', WHERE WHAT IT READS IS OF BULK AT MOST 1048576: true; the input reads as it did. -/
def alignTellsUptoRow : OpenClaim := { program := "ytnmphfelebkaiaa", sum := "1be0d9f21c8fef7f56cd3c5d9d8e8e52fa1cef693769c1314811d38f1df0a5f3", func := "grapevine/grapevinelaw08.AlignTells", spec := "alignTells", unfollowed := true, recurses := true, apart := false, narrowed := true }
def AlignTellsUptoSaid : Prop := alignTellsUptoRow.holds Try.pinned (OpenSpec.upto alignTellsSpec)

/-- 'grapevinelaw08.AlignRight', WHERE WHAT IT READS IS OF BULK AT MOST 1048576: true; the input reads as it did. -/
def alignRightUptoRow : OpenClaim := { program := "ytnmphfelebkaiaa", sum := "1be0d9f21c8fef7f56cd3c5d9d8e8e52fa1cef693769c1314811d38f1df0a5f3", func := "grapevine/grapevinelaw08.AlignRight", spec := "alignRight", unfollowed := true, recurses := true, apart := false, narrowed := true }
def AlignRightUptoSaid : Prop := alignRightUptoRow.holds Try.pinned (OpenSpec.upto alignRightSpec)

/-- 'grapevinelaw08.AlignWhole', WHERE WHAT IT READS IS OF BULK AT MOST 1048576: true; the input reads as it did. -/
def alignWholeUptoRow : OpenClaim := { program := "ytnmphfelebkaiaa", sum := "1be0d9f21c8fef7f56cd3c5d9d8e8e52fa1cef693769c1314811d38f1df0a5f3", func := "grapevine/grapevinelaw08.AlignWhole", spec := "alignWhole", unfollowed := true, recurses := true, apart := false, narrowed := true }
def AlignWholeUptoSaid : Prop := alignWholeUptoRow.holds Try.pinned (OpenSpec.upto alignWholeSpec)

/-- 'grapevinelaw08.AlignOne', WHERE WHAT IT READS IS OF BULK AT MOST 1048576: true; the input reads as it did. -/
def alignOneUptoRow : OpenClaim := { program := "ytnmphfelebkaiaa", sum := "1be0d9f21c8fef7f56cd3c5d9d8e8e52fa1cef693769c1314811d38f1df0a5f3", func := "grapevine/grapevinelaw08.AlignOne", spec := "alignOne", unfollowed := true, recurses := true, apart := false, narrowed := true }
def AlignOneUptoSaid : Prop := alignOneUptoRow.holds Try.pinned (OpenSpec.upto alignOneSpec)

end Rows
end Go.Proofs.Ytnmphfelebkaiaa
