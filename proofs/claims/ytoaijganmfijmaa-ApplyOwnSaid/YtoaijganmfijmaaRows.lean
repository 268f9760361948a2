/-
  No cell of these rows narrows 'for every input' (looked for: loops, veiled, ifaces, maps, wideKeys, modest, calm, conditions, laid).
  DERIVED. THE GIVEN ROWS OF THIS SEAT. 7 by the template 'for every input the law returns true; each argument reads behind the call as it read before'; 0 by the template 'total and deterministic' (their statements: YtoaijganmfijmaaTotals.lean).
  GIVEN WITH THE SEED: the statements are not yours to turn. If you find one false, say at which input.
  Laid BY PROGRAM, IN A SANDBOX (cutbox-rows.mjs): the forced cells as the released guide's own fill.sh prints them over the translation 8811927763f22051… (all of the seat's roots in one cut). By AI agents, Wed Nov 11 2026. No macro, syntax, notation, axiom, sorry.
-/
import Derived.Test.YtoaijganmfijmaaChecked
import GoSem.Claim
import GoSem.ClaimJoined
import GoSem.ClaimMapViews
import Derived.JoinedTies
import Derived.KernelRfl
namespace Go.Proofs.Ytoaijganmfijmaa
/- THE CELL 'sum', in the pinned program and in every row, IS THE sha256 OF THE DUMP (.gsa) THAT YtoaijganmfijmaaProg.lean LOADS. Nothing in Lean hashes anything: it is a label: what it is worth is what the hold of that sum in a sandbox is worth. -/
noncomputable def Try.pinned : Pinned := { name := "ytoaijganmfijmaa", sum := "8811927763f2205146eda5b06cdab1be84b5dd537250a6d70fbb91ef2bc360bd", checked := Try.checked }
namespace Rows
def none {H : Type} : Left H := { results := [], args := [] }

/-- 'grapevinelaw07.ApplyTells': WHATEVER THE INPUT: true; the input reads as it did. -/
def applyTellsSpec : ChangeSpec := { name := "applyTells", fn := fun _ => fun
  | [d1, d2] => { results := [.lit (.bool true)], args := [d1, d2] }
  | _ => none }
def applyTellsRow : OpenClaim := { program := "ytoaijganmfijmaa", sum := "8811927763f2205146eda5b06cdab1be84b5dd537250a6d70fbb91ef2bc360bd", func := "grapevine/grapevinelaw07.ApplyTells", spec := "applyTells", unfollowed := true, recurses := true, apart := false }
def ApplyTellsSaid : Prop := applyTellsRow.holds Try.pinned (OpenSpec.ofChange applyTellsSpec)

/-- ITS FALSE NEIGHBOUR: 'it returns false'. Refute it at one input. -/
def applyTellsWrong : ChangeSpec := { name := "applyTells", fn := fun _ => fun
  | [d1, d2] => { results := [.lit (.bool false)], args := [d1, d2] }
  | _ => none }
def ApplyTellsWrongFalsely : Prop := applyTellsRow.holds Try.pinned (OpenSpec.ofChange applyTellsWrong)

/-- 'grapevinelaw07.ApplyBetween': WHATEVER THE INPUT: true; the input reads as it did. -/
def applyBetweenSpec : ChangeSpec := { name := "applyBetween", fn := fun _ => fun
  | [d1, d2, d3] => { results := [.lit (.bool true)], args := [d1, d2, d3] }
  | _ => none }
def applyBetweenRow : OpenClaim := { program := "ytoaijganmfijmaa", sum := "8811927763f2205146eda5b06cdab1be84b5dd537250a6d70fbb91ef2bc360bd", func := "grapevine/grapevinelaw07.ApplyBetween", spec := "applyBetween", unfollowed := true, recurses := true, apart := false }
def ApplyBetweenSaid : Prop := applyBetweenRow.holds Try.pinned (OpenSpec.ofChange applyBetweenSpec)

/-- ITS FALSE NEIGHBOUR: 'it returns false'. Refute it at one input. -/
def applyBetweenWrong : ChangeSpec := { name := "applyBetween", fn := fun _ => fun
  | [d1, d2, d3] => { results := [.lit (.bool false)], args := [d1, d2, d3] }
  | _ => none }
def ApplyBetweenWrongFalsely : Prop := applyBetweenRow.holds Try.pinned (OpenSpec.ofChange applyBetweenWrong)

/-- 'grapevinelaw07.ApplyBack': WHATEVER THE INPUT: true; the input reads as it did. -/
def applyBackSpec : ChangeSpec := { name := "applyBack", fn := fun _ => fun
  | [d1, d2, d3] => { results := [.lit (.bool true)], args := [d1, d2, d3] }
  | _ => none }
def applyBackRow : OpenClaim := { program := "ytoaijganmfijmaa", sum := "8811927763f2205146eda5b06cdab1be84b5dd537250a6d70fbb91ef2bc360bd", func := "grapevine/grapevinelaw07.ApplyBack", spec := "applyBack", unfollowed := true, recurses := true, apart := false }
def ApplyBackSaid : Prop := applyBackRow.holds Try.pinned (OpenSpec.ofChange applyBackSpec)

/-- ITS FALSE NEIGHBOUR: 'it returns false'. Refute it at one input. -/
def applyBackWrong : ChangeSpec := { name := "applyBack", fn := fun _ => fun
  | [d1, d2, d3] => { results := [.lit (.bool false)], args := [d1, d2, d3] }
  | _ => none }
def ApplyBackWrongFalsely : Prop := applyBackRow.holds Try.pinned (OpenSpec.ofChange applyBackWrong)

/-- 'grapevinelaw07.ApplyExact': WHATEVER THE INPUT: true; the input reads as it did. -/
def applyExactSpec : ChangeSpec := { name := "applyExact", fn := fun _ => fun
  | [d1, d2, d3, d4, d5] => { results := [.lit (.bool true)], args := [d1, d2, d3, d4, d5] }
  | _ => none }
def applyExactRow : OpenClaim := { program := "ytoaijganmfijmaa", sum := "8811927763f2205146eda5b06cdab1be84b5dd537250a6d70fbb91ef2bc360bd", func := "grapevine/grapevinelaw07.ApplyExact", spec := "applyExact", unfollowed := true, recurses := true, apart := false }
def ApplyExactSaid : Prop := applyExactRow.holds Try.pinned (OpenSpec.ofChange applyExactSpec)

/-- ITS FALSE NEIGHBOUR: 'it returns false'. Refute it at one input. -/
def applyExactWrong : ChangeSpec := { name := "applyExact", fn := fun _ => fun
  | [d1, d2, d3, d4, d5] => { results := [.lit (.bool false)], args := [d1, d2, d3, d4, d5] }
  | _ => none }
def ApplyExactWrongFalsely : Prop := applyExactRow.holds Try.pinned (OpenSpec.ofChange applyExactWrong)

/-- 'grapevinelaw07.ApplyOwn': WHATEVER THE INPUT: true; the input reads as it did. -/
def applyOwnSpec : ChangeSpec := { name := "applyOwn", fn := fun _ => fun
  | [d1, d2, d3] => { results := [.lit (.bool true)], args := [d1, d2, d3] }
  | _ => none }
def applyOwnRow : OpenClaim := { program := "ytoaijganmfijmaa", sum := "8811927763f2205146eda5b06cdab1be84b5dd537250a6d70fbb91ef2bc360bd", func := "grapevine/grapevinelaw07.ApplyOwn", spec := "applyOwn", unfollowed := true, recurses := true, apart := false }
def ApplyOwnSaid : Prop := applyOwnRow.holds Try.pinned (OpenSpec.ofChange applyOwnSpec)

/-- ITS FALSE NEIGHBOUR: 'it returns false'. Refute it at one input. -/
def applyOwnWrong : ChangeSpec := { name := "applyOwn", fn := fun _ => fun
  | [d1, d2, d3] => { results := [.lit (.bool false)], args := [d1, d2, d3] }
  | _ => none }
def ApplyOwnWrongFalsely : Prop := applyOwnRow.holds Try.pinned (OpenSpec.ofChange applyOwnWrong)

/-- 'grapevinelaw07.ApplyBehind': WHATEVER THE INPUT: true; the input reads as it did. -/
def applyBehindSpec : ChangeSpec := { name := "applyBehind", fn := fun _ => fun
  | [d1, d2, d3] => { results := [.lit (.bool true)], args := [d1, d2, d3] }
  | _ => none }
def applyBehindRow : OpenClaim := { program := "ytoaijganmfijmaa", sum := "8811927763f2205146eda5b06cdab1be84b5dd537250a6d70fbb91ef2bc360bd", func := "grapevine/grapevinelaw07.ApplyBehind", spec := "applyBehind", unfollowed := true, recurses := true, apart := false }
def ApplyBehindSaid : Prop := applyBehindRow.holds Try.pinned (OpenSpec.ofChange applyBehindSpec)

/-- ITS FALSE NEIGHBOUR: 'it returns false'. Refute it at one input. -/
def applyBehindWrong : ChangeSpec := { name := "applyBehind", fn := fun _ => fun
  | [d1, d2, d3] => { results := [.lit (.bool false)], args := [d1, d2, d3] }
  | _ => none }
def ApplyBehindWrongFalsely : Prop := applyBehindRow.holds Try.pinned (OpenSpec.ofChange applyBehindWrong)

/-- 'grapevinelaw07.ApplyAhead': WHATEVER THE INPUT: true; the input reads as it did. -/
def applyAheadSpec : ChangeSpec := { name := "applyAhead", fn := fun _ => fun
  | [d1, d2, d3] => { results := [.lit (.bool true)], args := [d1, d2, d3] }
  | _ => none }
def applyAheadRow : OpenClaim := { program := "ytoaijganmfijmaa", sum := "8811927763f2205146eda5b06cdab1be84b5dd537250a6d70fbb91ef2bc360bd", func := "grapevine/grapevinelaw07.ApplyAhead", spec := "applyAhead", unfollowed := true, recurses := true, apart := false }
def ApplyAheadSaid : Prop := applyAheadRow.holds Try.pinned (OpenSpec.ofChange applyAheadSpec)

/-- ITS FALSE NEIGHBOUR: 'it returns false'. Refute it at one input. -/
def applyAheadWrong : ChangeSpec := { name := "applyAhead", fn := fun _ => fun
  | [d1, d2, d3] => { results := [.lit (.bool false)], args := [d1, d2, d3] }
  | _ => none }
def ApplyAheadWrongFalsely : Prop := applyAheadRow.holds Try.pinned (OpenSpec.ofChange applyAheadWrong)

/- THE SECOND FORM. 'bulk': how many values and letters a reading holds, each counted each time it is reached (what is shared counts as often as it is met; a slice's spare places count too). A statement '..UptoSaid' is the law's where the arguments, and the package variables that the reading takes, are together of bulk at most 1048576: NARROWER than '..Said'. Prove '..Said' where nothing that the law and all that it calls make is longer than what came in: it says more and counts as full. Else prove '..UptoSaid'. A law counts once. -/
mutual
def uptoBulk {H : Type} : DataW H → Nat
  | .lit (.string bytes) => bytes.length + 1
  | .lit _ => 1
  | .nil => 1
  | .ptr d => uptoBulk d + 1
  | .slice elems spare => uptoBulkAll elems + uptoBulkAll spare + 1
  | .agg parts => uptoBulkAll parts + 1
  | .iface _ d => uptoBulk d + 1
  | .map entries => uptoBulkEntries entries + 1
  | .held _ => 1
def uptoBulkAll {H : Type} : List (DataW H) → Nat
  | [] => 0
  | d :: r => uptoBulk d + uptoBulkAll r
def uptoBulkEntries {H : Type} : List (Lit × DataW H) → Nat
  | [] => 0
  | x :: r => uptoBulkEntry x + uptoBulkEntries r
def uptoBulkEntry {H : Type} : Lit × DataW H → Nat
  | (.string bytes, d) => bytes.length + uptoBulk d + 1
  | (_, d) => uptoBulk d + 1
 end
def uptoSmall : (H : Type) → List (DataW H) → Bool := fun _ ds => decide (uptoBulkAll ds ≤ 1048576)
def OpenSpec.upto (s : _root_.Go.ChangeSpec) : _root_.Go.OpenSpec := { _root_.Go.OpenSpec.ofChange s with cond := some uptoSmall }

/-- 'grapevinelaw07.ApplyTells', WHERE WHAT IT READS IS OF BULK AT MOST 1048576: true; the input reads as it did. -/
def applyTellsUptoRow : OpenClaim := { program := "ytoaijganmfijmaa", sum := "8811927763f2205146eda5b06cdab1be84b5dd537250a6d70fbb91ef2bc360bd", func := "grapevine/grapevinelaw07.ApplyTells", spec := "applyTells", unfollowed := true, recurses := true, apart := false, narrowed := true }
def ApplyTellsUptoSaid : Prop := applyTellsUptoRow.holds Try.pinned (OpenSpec.upto applyTellsSpec)

/-- 'grapevinelaw07.ApplyBetween', WHERE WHAT IT READS IS OF BULK AT MOST 1048576: true; the input reads as it did. -/
def applyBetweenUptoRow : OpenClaim := { program := "ytoaijganmfijmaa", sum := "8811927763f2205146eda5b06cdab1be84b5dd537250a6d70fbb91ef2bc360bd", func := "grapevine/grapevinelaw07.ApplyBetween", spec := "applyBetween", unfollowed := true, recurses := true, apart := false, narrowed := true }
def ApplyBetweenUptoSaid : Prop := applyBetweenUptoRow.holds Try.pinned (OpenSpec.upto applyBetweenSpec)

/-- 'grapevinelaw07.ApplyBack', WHERE WHAT IT READS IS OF BULK AT MOST 1048576: true; the input reads as it did. -/
def applyBackUptoRow : OpenClaim := { program := "ytoaijganmfijmaa", sum := "8811927763f2205146eda5b06cdab1be84b5dd537250a6d70fbb91ef2bc360bd", func := "grapevine/grapevinelaw07.ApplyBack", spec := "applyBack", unfollowed := true, recurses := true, apart := false, narrowed := true }
def ApplyBackUptoSaid : Prop := applyBackUptoRow.holds Try.pinned (OpenSpec.upto applyBackSpec)

/-- 'grapevinelaw07.ApplyExact', WHERE WHAT IT READS IS OF BULK AT MOST 1048576: true; the input reads as it did. -/
def applyExactUptoRow : OpenClaim := { program := "ytoaijganmfijmaa", sum := "8811927763f2205146eda5b06cdab1be84b5dd537250a6d70fbb91ef2bc360bd", func := "grapevine/grapevinelaw07.ApplyExact", spec := "applyExact", unfollowed := true, recurses := true, apart := false, narrowed := true }
def ApplyExactUptoSaid : Prop := applyExactUptoRow.holds Try.pinned (OpenSpec.upto applyExactSpec)

/-- 'grapevinelaw07.ApplyOwn', WHERE WHAT IT READS IS OF BULK AT MOST 1048576: true; the input reads as it did. -/
def applyOwnUptoRow : OpenClaim := { program := "ytoaijganmfijmaa", sum := "8811927763f2205146eda5b06cdab1be84b5dd537250a6d70fbb91ef2bc360bd", func := "grapevine/grapevinelaw07.ApplyOwn", spec := "applyOwn", unfollowed := true, recurses := true, apart := false, narrowed := true }
def ApplyOwnUptoSaid : Prop := applyOwnUptoRow.holds Try.pinned (OpenSpec.upto applyOwnSpec)

/-- 'grapevinelaw07.ApplyBehind', WHERE WHAT IT READS IS OF BULK AT MOST 1048576: true; the input reads as it did. -/
def applyBehindUptoRow : OpenClaim := { program := "ytoaijganmfijmaa", sum := "8811927763f2205146eda5b06cdab1be84b5dd537250a6d70fbb91ef2bc360bd", func := "grapevine/grapevinelaw07.ApplyBehind", spec := "applyBehind", unfollowed := true, recurses := true, apart := false, narrowed := true }
def ApplyBehindUptoSaid : Prop := applyBehindUptoRow.holds Try.pinned (OpenSpec.upto applyBehindSpec)

/-- 'grapevinelaw07.ApplyAhead', WHERE WHAT IT READS IS OF BULK AT MOST 1048576: true; the input reads as it did. -/
def applyAheadUptoRow : OpenClaim := { program := "ytoaijganmfijmaa", sum := "8811927763f2205146eda5b06cdab1be84b5dd537250a6d70fbb91ef2bc360bd", func := "grapevine/grapevinelaw07.ApplyAhead", spec := "applyAhead", unfollowed := true, recurses := true, apart := false, narrowed := true }
def ApplyAheadUptoSaid : Prop := applyAheadUptoRow.holds Try.pinned (OpenSpec.upto applyAheadSpec)

end Rows
end Go.Proofs.Ytoaijganmfijmaa
