/-
  No cell of these rows narrows 'for every input' (looked for: loops, veiled, ifaces, maps, wideKeys, modest, calm, conditions, laid).
  DERIVED. THE GIVEN ROWS OF THIS SEAT. 6 by the template 'for every input the law returns true; each argument reads behind the call as it read before'; 0 by the template 'total and deterministic' (their statements: YtlabiajcohmjhaaTotals.lean).
  GIVEN WITH THE SEED: the statements are not yours to turn. If you find one false, say at which input.
  Laid BY PROGRAM, IN A SANDBOX (cutbox-rows.mjs): the forced cells as the released guide's own fill.sh prints them over the translation d121107b38903666… (all of the seat's roots in one cut). By AI agents, Wed Nov 11 2026. No macro, syntax, notation, axiom, sorry.
-/
import Derived.Test.YtlabiajcohmjhaaChecked
import GoSem.Claim
import GoSem.ClaimJoined
import GoSem.ClaimMapViews
import Derived.JoinedTies
import Derived.KernelRfl
namespace Go.Proofs.Ytlabiajcohmjhaa
/- THE CELL 'sum', in the pinned program and in every row, IS THE sha256 OF THE DUMP (.gsa) THAT YtlabiajcohmjhaaProg.lean LOADS. Nothing in Lean hashes anything: it is a label: what it is worth is what the hold of that sum in a sandbox is worth. -/
noncomputable def Try.pinned : Pinned := { name := "ytlabiajcohmjhaa", sum := "d121107b389036662bbba9dd04a5fa2df74aa7bab10a95cce430e9c65357f1bf", checked := Try.checked }
namespace Rows
def none {H : Type} : Left H := { results := [], args := [] }

/-- 'grapevinelaw05.HunkMakes': WHATEVER THE INPUT: true; the input reads as it did. -/
def hunkMakesSpec : ChangeSpec := { name := "hunkMakes", fn := fun _ => fun
  | [d1, d2, d3] => { results := [.lit (.bool true)], args := [d1, d2, d3] }
  | _ => none }
def hunkMakesRow : OpenClaim := { program := "ytlabiajcohmjhaa", sum := "d121107b389036662bbba9dd04a5fa2df74aa7bab10a95cce430e9c65357f1bf", func := "grapevine/grapevinelaw05.HunkMakes", spec := "hunkMakes", apart := false }
def HunkMakesSaid : Prop := hunkMakesRow.holds Try.pinned (OpenSpec.ofChange hunkMakesSpec)

/-- ITS FALSE NEIGHBOUR: 'it returns false'. Refute it at one input. -/
def hunkMakesWrong : ChangeSpec := { name := "hunkMakes", fn := fun _ => fun
  | [d1, d2, d3] => { results := [.lit (.bool false)], args := [d1, d2, d3] }
  | _ => none }
def HunkMakesWrongFalsely : Prop := hunkMakesRow.holds Try.pinned (OpenSpec.ofChange hunkMakesWrong)

/-- 'grapevinelaw05.HunkRight': WHATEVER THE INPUT: true; the input reads as it did. -/
def hunkRightSpec : ChangeSpec := { name := "hunkRight", fn := fun _ => fun
  | [d] => { results := [.lit (.bool true)], args := [d] }
  | _ => none }
def hunkRightRow : OpenClaim := { program := "ytlabiajcohmjhaa", sum := "d121107b389036662bbba9dd04a5fa2df74aa7bab10a95cce430e9c65357f1bf", func := "grapevine/grapevinelaw05.HunkRight", spec := "hunkRight", apart := false }
def HunkRightSaid : Prop := hunkRightRow.holds Try.pinned (OpenSpec.ofChange hunkRightSpec)

/-- ITS FALSE NEIGHBOUR: 'it returns false'. Refute it at one input. -/
def hunkRightWrong : ChangeSpec := { name := "hunkRight", fn := fun _ => fun
  | [d] => { results := [.lit (.bool false)], args := [d] }
  | _ => none }
def HunkRightWrongFalsely : Prop := hunkRightRow.holds Try.pinned (OpenSpec.ofChange hunkRightWrong)

/-- 'grapevinelaw05.HunkTwice': WHATEVER THE INPUT: true; the input reads as it did. -/
def hunkTwiceSpec : ChangeSpec := { name := "hunkTwice", fn := fun _ => fun
  | [d] => { results := [.lit (.bool true)], args := [d] }
  | _ => none }
def hunkTwiceRow : OpenClaim := { program := "ytlabiajcohmjhaa", sum := "d121107b389036662bbba9dd04a5fa2df74aa7bab10a95cce430e9c65357f1bf", func := "grapevine/grapevinelaw05.HunkTwice", spec := "hunkTwice", apart := false }
def HunkTwiceSaid : Prop := hunkTwiceRow.holds Try.pinned (OpenSpec.ofChange hunkTwiceSpec)

/-- ITS FALSE NEIGHBOUR: 'it returns false'. Refute it at one input. -/
def hunkTwiceWrong : ChangeSpec := { name := "hunkTwice", fn := fun _ => fun
  | [d] => { results := [.lit (.bool false)], args := [d] }
  | _ => none }
def HunkTwiceWrongFalsely : Prop := hunkTwiceRow.holds Try.pinned (OpenSpec.ofChange hunkTwiceWrong)

/-- 'grapevinelaw05.HunkTells': WHATEVER THE INPUT: true; the input reads as it did. -/
def hunkTellsSpec : ChangeSpec := { name := "hunkTells", fn := fun _ => fun
  | [d1, d2, d3] => { results := [.lit (.bool true)], args := [d1, d2, d3] }
  | _ => none }
def hunkTellsRow : OpenClaim := { program := "ytlabiajcohmjhaa", sum := "d121107b389036662bbba9dd04a5fa2df74aa7bab10a95cce430e9c65357f1bf", func := "grapevine/grapevinelaw05.HunkTells", spec := "hunkTells", unfollowed := true, recurses := true, apart := false }
def HunkTellsSaid : Prop := hunkTellsRow.holds Try.pinned (OpenSpec.ofChange hunkTellsSpec)

/-- ITS FALSE NEIGHBOUR: 'it returns false'. Refute it at one input. -/
def hunkTellsWrong : ChangeSpec := { name := "hunkTells", fn := fun _ => fun
  | [d1, d2, d3] => { results := [.lit (.bool false)], args := [d1, d2, d3] }
  | _ => none }
def HunkTellsWrongFalsely : Prop := hunkTellsRow.holds Try.pinned (OpenSpec.ofChange hunkTellsWrong)

/-- 'grapevinelaw05.HunkFewer': WHATEVER THE INPUT: true; the input reads as it did. -/
def hunkFewerSpec : ChangeSpec := { name := "hunkFewer", fn := fun _ => fun
  | [d1, d2, d3, d4] => { results := [.lit (.bool true)], args := [d1, d2, d3, d4] }
  | _ => none }
def hunkFewerRow : OpenClaim := { program := "ytlabiajcohmjhaa", sum := "d121107b389036662bbba9dd04a5fa2df74aa7bab10a95cce430e9c65357f1bf", func := "grapevine/grapevinelaw05.HunkFewer", spec := "hunkFewer", unfollowed := true, recurses := true, apart := false }
def HunkFewerSaid : Prop := hunkFewerRow.holds Try.pinned (OpenSpec.ofChange hunkFewerSpec)

/-- ITS FALSE NEIGHBOUR: 'it returns false'. Refute it at one input. -/
def hunkFewerWrong : ChangeSpec := { name := "hunkFewer", fn := fun _ => fun
  | [d1, d2, d3, d4] => { results := [.lit (.bool false)], args := [d1, d2, d3, d4] }
  | _ => none }
def HunkFewerWrongFalsely : Prop := hunkFewerRow.holds Try.pinned (OpenSpec.ofChange hunkFewerWrong)

/-- 'grapevinelaw05.HunkBack': WHATEVER THE INPUT: true; the input reads as it did. -/
def hunkBackSpec : ChangeSpec := { name := "hunkBack", fn := fun _ => fun
  | [d1, d2, d3] => { results := [.lit (.bool true)], args := [d1, d2, d3] }
  | _ => none }
def hunkBackRow : OpenClaim := { program := "ytlabiajcohmjhaa", sum := "d121107b389036662bbba9dd04a5fa2df74aa7bab10a95cce430e9c65357f1bf", func := "grapevine/grapevinelaw05.HunkBack", spec := "hunkBack", unfollowed := true, recurses := true, apart := false }
def HunkBackSaid : Prop := hunkBackRow.holds Try.pinned (OpenSpec.ofChange hunkBackSpec)

/-- ITS FALSE NEIGHBOUR: 'it returns false'. Refute it at one input. -/
def hunkBackWrong : ChangeSpec := { name := "hunkBack", fn := fun _ => fun
  | [d1, d2, d3] => { results := [.lit (.bool false)], args := [d1, d2, d3] }
  | _ => none }
def HunkBackWrongFalsely : Prop := hunkBackRow.holds Try.pinned (OpenSpec.ofChange hunkBackWrong)

/- THE SECOND FORM. 'bulk': how many values and letters a reading holds, each counted each time it is reached (what is shared counts as often as it is met; a slice's spare places count too). A statement '..UptoSaid' is the law's where the arguments, and the package variables that the reading takes, are together of bulk at most 1048576: NARROWER than '..Said'. Prove '..Said' where nothing that the law and all that it calls make is longer than what came in: it says more and counts as full. Else prove '..UptoSaid'. A law counts once. -/
mutual
def uptoBulk {H : Type} : DataW H → Nat
  | .lit (.string bytes) => bytes.length + 1
  | .lit _ => 1
  | .nil => 1
  | .ptr d => uptoBulk d + 1
  | .slice elems spare => uptoBulkAll elems + uptoBulkAll spare + 1
  | .agg parts => uptoBulkAll parts + 1
  | .iface _ d => uptoBulk d + 1
  | .map entries => uptoBulkEntries entries + 1
  | .held _ => 1
def uptoBulkAll {H : Type} : List (DataW H) → Nat
  | [] => 0
  | d :: r => uptoBulk d + uptoBulkAll r
def uptoBulkEntries {H : Type} : List (Lit × DataW H) → Nat
  | [] => 0
  | x :: r => uptoBulkEntry x + uptoBulkEntries r
def uptoBulkEntry {H : Type} : Lit × DataW H → Nat
  | (.string bytes, d) => bytes.length + uptoBulk d + 1
  | (_, d) => uptoBulk d + 1
 end
def uptoSmall : (H : Type) → List (DataW H) → Bool := fun _ ds => decide (uptoBulkAll ds ≤ 1048576)
def OpenSpec.upto (s : _root_.Go.ChangeSpec) : _root_.Go.OpenSpec := { _root_.Go.OpenSpec.ofChange s with cond := some uptoSmall }

/-- 'grapevinelaw05.HunkMakes', WHERE WHAT IT READS IS OF BULK AT MOST 1048576: true; the input reads as it did. -/
def hunkMakesUptoRow : OpenClaim := { program := "ytlabiajcohmjhaa", sum := "d121107b389036662bbba9dd04a5fa2df74aa7bab10a95cce430e9c65357f1bf", func := "grapevine/grapevinelaw05.HunkMakes", spec := "hunkMakes", apart := false, narrowed := true }
def HunkMakesUptoSaid : Prop := hunkMakesUptoRow.holds Try.pinned (OpenSpec.upto hunkMakesSpec)

/-- 'grapevinelaw05.HunkRight', WHERE WHAT IT READS IS OF BULK AT MOST 1048576: true; the input reads as it did. -/
def hunkRightUptoRow : OpenClaim := { program := "ytlabiajcohmjhaa", sum := "d121107b389036662bbba9dd04a5fa2df74aa7bab10a95cce430e9c65357f1bf", func := "grapevine/grapevinelaw05.HunkRight", spec := "hunkRight", apart := false, narrowed := true }
def HunkRightUptoSaid : Prop := hunkRightUptoRow.holds Try.pinned (OpenSpec.upto hunkRightSpec)

/-- 'grapevinelaw05.HunkTwice', WHERE WHAT IT READS IS OF BULK AT MOST 1048576: true; the input reads as it did. -/
def hunkTwiceUptoRow : OpenClaim := { program := "ytlabiajcohmjhaa", sum := "d121107b389036662bbba9dd04a5fa2df74aa7bab10a95cce430e9c65357f1bf", func := "grapevine/grapevinelaw05.HunkTwice", spec := "hunkTwice", apart := false, narrowed := true }
def HunkTwiceUptoSaid : Prop := hunkTwiceUptoRow.holds Try.pinned (OpenSpec.upto hunkTwiceSpec)

/-- 'grapevinelaw05.HunkTells', WHERE WHAT IT READS IS OF BULK AT MOST 1048576: true; the input reads as it did. -/
def hunkTellsUptoRow : OpenClaim := { program := "ytlabiajcohmjhaa", sum := "d121107b389036662bbba9dd04a5fa2df74aa7bab10a95cce430e9c65357f1bf", func := "grapevine/grapevinelaw05.HunkTells", spec := "hunkTells", unfollowed := true, recurses := true, apart := false, narrowed := true }
def HunkTellsUptoSaid : Prop := hunkTellsUptoRow.holds Try.pinned (OpenSpec.upto hunkTellsSpec)

/-- 'grapevinelaw05.HunkFewer', WHERE WHAT IT READS IS OF BULK AT MOST 1048576: true; the input reads as it did. -/
def hunkFewerUptoRow : OpenClaim := { program := "ytlabiajcohmjhaa", sum := "d121107b389036662bbba9dd04a5fa2df74aa7bab10a95cce430e9c65357f1bf", func := "grapevine/grapevinelaw05.HunkFewer", spec := "hunkFewer", unfollowed := true, recurses := true, apart := false, narrowed := true }
def HunkFewerUptoSaid : Prop := hunkFewerUptoRow.holds Try.pinned (OpenSpec.upto hunkFewerSpec)

/-- 'grapevinelaw05.HunkBack', WHERE WHAT IT READS IS OF BULK AT MOST 1048576: true; the input reads as it did. -/
def hunkBackUptoRow : OpenClaim := { program := "ytlabiajcohmjhaa", sum := "d121107b389036662bbba9dd04a5fa2df74aa7bab10a95cce430e9c65357f1bf", func := "grapevine/grapevinelaw05.HunkBack", spec := "hunkBack", unfollowed := true, recurses := true, apart := false, narrowed := true }
def HunkBackUptoSaid : Prop := hunkBackUptoRow.holds Try.pinned (OpenSpec.upto hunkBackSpec)

end Rows
end Go.Proofs.Ytlabiajcohmjhaa
