/-
  No cell of these rows narrows 'for every input' (looked for: loops, veiled, ifaces, maps, wideKeys, modest, calm, conditions, laid).
  DERIVED. THE GIVEN ROWS OF THIS SEAT. 10 by the template 'for every input the law returns true; each argument reads behind the call as it read before'; 0 by the template 'total and deterministic' (their statements: YtebfopcihjadpaaTotals.lean).
  GIVEN WITH THE SEED: the statements are not yours to turn. If you find one false, say at which input.
  Laid BY PROGRAM, IN A SANDBOX (cutbox-rows.mjs): the forced cells as the released guide's own fill.sh prints them over the translation 1e13a14286ef4c9d… (all of the seat's roots in one cut). By AI agents, Wed Nov 11 2026. No macro, syntax, notation, axiom, sorry.
-/
import Derived.Test.YtebfopcihjadpaaChecked
import GoSem.Claim
import GoSem.ClaimJoined
import GoSem.ClaimMapViews
import Derived.JoinedTies
import Derived.KernelRfl
namespace Go.Proofs.Ytebfopcihjadpaa
/- THE CELL 'sum', in the pinned program and in every row, IS THE sha256 OF THE DUMP (.gsa) THAT YtebfopcihjadpaaProg.lean LOADS. Nothing in Lean hashes anything: it is a label: what it is worth is what the hold of that sum in a sandbox is worth. -/
noncomputable def Try.pinned : Pinned := { name := "ytebfopcihjadpaa", sum := "1e13a14286ef4c9dd96b8a747f8bb2bfeeccdd3655a2c4ac071989c7114b657e", checked := Try.checked }
namespace Rows
def none {H : Type} : Left H := { results := [], args := [] }

/-- 'grapevinelaw04.DiffTells': WHATEVER THE INPUT: true; the input reads as it did. -/
def diffTellsSpec : ChangeSpec := { name := "diffTells", fn := fun _ => fun
  | [d1, d2] => { results := [.lit (.bool true)], args := [d1, d2] }
  | _ => none }
def diffTellsRow : OpenClaim := { program := "ytebfopcihjadpaa", sum := "1e13a14286ef4c9dd96b8a747f8bb2bfeeccdd3655a2c4ac071989c7114b657e", func := "grapevine/grapevinelaw04.DiffTells", spec := "diffTells", unfollowed := true, recurses := true, apart := false }
def DiffTellsSaid : Prop := diffTellsRow.holds Try.pinned (OpenSpec.ofChange diffTellsSpec)

/-- ITS FALSE NEIGHBOUR: 'it returns false'. Refute it at one input. -/
def diffTellsWrong : ChangeSpec := { name := "diffTells", fn := fun _ => fun
  | [d1, d2] => { results := [.lit (.bool false)], args := [d1, d2] }
  | _ => none }
def DiffTellsWrongFalsely : Prop := diffTellsRow.holds Try.pinned (OpenSpec.ofChange diffTellsWrong)

/-- 'grapevinelaw04.DiffLong': WHATEVER THE INPUT: true; the input reads as it did. -/
def diffLongSpec : ChangeSpec := { name := "diffLong", fn := fun _ => fun
  | [d1, d2, d3, d4] => { results := [.lit (.bool true)], args := [d1, d2, d3, d4] }
  | _ => none }
def diffLongRow : OpenClaim := { program := "ytebfopcihjadpaa", sum := "1e13a14286ef4c9dd96b8a747f8bb2bfeeccdd3655a2c4ac071989c7114b657e", func := "grapevine/grapevinelaw04.DiffLong", spec := "diffLong", unfollowed := true, recurses := true, apart := false }
def DiffLongSaid : Prop := diffLongRow.holds Try.pinned (OpenSpec.ofChange diffLongSpec)

/-- ITS FALSE NEIGHBOUR: 'it returns false'. Refute it at one input. -/
def diffLongWrong : ChangeSpec := { name := "diffLong", fn := fun _ => fun
  | [d1, d2, d3, d4] => { results := [.lit (.bool false)], args := [d1, d2, d3, d4] }
  | _ => none }
def DiffLongWrongFalsely : Prop := diffLongRow.holds Try.pinned (OpenSpec.ofChange diffLongWrong)

/-- 'grapevinelaw04.DiffRight': WHATEVER THE INPUT: true; the input reads as it did. -/
def diffRightSpec : ChangeSpec := { name := "diffRight", fn := fun _ => fun
  | [d1, d2] => { results := [.lit (.bool true)], args := [d1, d2] }
  | _ => none }
def diffRightRow : OpenClaim := { program := "ytebfopcihjadpaa", sum := "1e13a14286ef4c9dd96b8a747f8bb2bfeeccdd3655a2c4ac071989c7114b657e", func := "grapevine/grapevinelaw04.DiffRight", spec := "diffRight", unfollowed := true, recurses := true, apart := false }
def DiffRightSaid : Prop := diffRightRow.holds Try.pinned (OpenSpec.ofChange diffRightSpec)

/-- ITS FALSE NEIGHBOUR: 'it returns false'. Refute it at one input. -/
def diffRightWrong : ChangeSpec := { name := "diffRight", fn := fun _ => fun
  | [d1, d2] => { results := [.lit (.bool false)], args := [d1, d2] }
  | _ => none }
def DiffRightWrongFalsely : Prop := diffRightRow.holds Try.pinned (OpenSpec.ofChange diffRightWrong)

/-- 'grapevinelaw04.DiffPlays': WHATEVER THE INPUT: true; the input reads as it did. -/
def diffPlaysSpec : ChangeSpec := { name := "diffPlays", fn := fun _ => fun
  | [d1, d2] => { results := [.lit (.bool true)], args := [d1, d2] }
  | _ => none }
def diffPlaysRow : OpenClaim := { program := "ytebfopcihjadpaa", sum := "1e13a14286ef4c9dd96b8a747f8bb2bfeeccdd3655a2c4ac071989c7114b657e", func := "grapevine/grapevinelaw04.DiffPlays", spec := "diffPlays", unfollowed := true, recurses := true, apart := false }
def DiffPlaysSaid : Prop := diffPlaysRow.holds Try.pinned (OpenSpec.ofChange diffPlaysSpec)

/-- ITS FALSE NEIGHBOUR: 'it returns false'. Refute it at one input. -/
def diffPlaysWrong : ChangeSpec := { name := "diffPlays", fn := fun _ => fun
  | [d1, d2] => { results := [.lit (.bool false)], args := [d1, d2] }
  | _ => none }
def DiffPlaysWrongFalsely : Prop := diffPlaysRow.holds Try.pinned (OpenSpec.ofChange diffPlaysWrong)

/-- 'grapevinelaw04.DiffBack': WHATEVER THE INPUT: true; the input reads as it did. -/
def diffBackSpec : ChangeSpec := { name := "diffBack", fn := fun _ => fun
  | [d1, d2] => { results := [.lit (.bool true)], args := [d1, d2] }
  | _ => none }
def diffBackRow : OpenClaim := { program := "ytebfopcihjadpaa", sum := "1e13a14286ef4c9dd96b8a747f8bb2bfeeccdd3655a2c4ac071989c7114b657e", func := "grapevine/grapevinelaw04.DiffBack", spec := "diffBack", unfollowed := true, recurses := true, apart := false }
def DiffBackSaid : Prop := diffBackRow.holds Try.pinned (OpenSpec.ofChange diffBackSpec)

/-- ITS FALSE NEIGHBOUR: 'it returns false'. Refute it at one input. -/
def diffBackWrong : ChangeSpec := { name := "diffBack", fn := fun _ => fun
  | [d1, d2] => { results := [.lit (.bool false)], args := [d1, d2] }
  | _ => none }
def DiffBackWrongFalsely : Prop := diffBackRow.holds Try.pinned (OpenSpec.ofChange diffBackWrong)

/-- 'grapevinelaw04.DiffLeast': WHATEVER THE INPUT: true; the input reads as it did. -/
def diffLeastSpec : ChangeSpec := { name := "diffLeast", fn := fun _ => fun
  | [d1, d2] => { results := [.lit (.bool true)], args := [d1, d2] }
  | _ => none }
def diffLeastRow : OpenClaim := { program := "ytebfopcihjadpaa", sum := "1e13a14286ef4c9dd96b8a747f8bb2bfeeccdd3655a2c4ac071989c7114b657e", func := "grapevine/grapevinelaw04.DiffLeast", spec := "diffLeast", unfollowed := true, recurses := true, apart := false }
def DiffLeastSaid : Prop := diffLeastRow.holds Try.pinned (OpenSpec.ofChange diffLeastSpec)

/-- ITS FALSE NEIGHBOUR: 'it returns false'. Refute it at one input. -/
def diffLeastWrong : ChangeSpec := { name := "diffLeast", fn := fun _ => fun
  | [d1, d2] => { results := [.lit (.bool false)], args := [d1, d2] }
  | _ => none }
def DiffLeastWrongFalsely : Prop := diffLeastRow.holds Try.pinned (OpenSpec.ofChange diffLeastWrong)

/-- 'grapevinelaw04.DiffAround': WHATEVER THE INPUT: true; the input reads as it did. -/
def diffAroundSpec : ChangeSpec := { name := "diffAround", fn := fun _ => fun
  | [d1, d2, d3, d4] => { results := [.lit (.bool true)], args := [d1, d2, d3, d4] }
  | _ => none }
def diffAroundRow : OpenClaim := { program := "ytebfopcihjadpaa", sum := "1e13a14286ef4c9dd96b8a747f8bb2bfeeccdd3655a2c4ac071989c7114b657e", func := "grapevine/grapevinelaw04.DiffAround", spec := "diffAround", unfollowed := true, recurses := true, apart := false }
def DiffAroundSaid : Prop := diffAroundRow.holds Try.pinned (OpenSpec.ofChange diffAroundSpec)

/-- ITS FALSE NEIGHBOUR: 'it returns false'. Refute it at one input. -/
def diffAroundWrong : ChangeSpec := { name := "diffAround", fn := fun _ => fun
  | [d1, d2, d3, d4] => { results := [.lit (.bool false)], args := [d1, d2, d3, d4] }
  | _ => none }
def DiffAroundWrongFalsely : Prop := diffAroundRow.holds Try.pinned (OpenSpec.ofChange diffAroundWrong)

/-- 'grapevinelaw04.DiffTurns': WHATEVER THE INPUT: true; the input reads as it did. -/
def diffTurnsSpec : ChangeSpec := { name := "diffTurns", fn := fun _ => fun
  | [d1, d2] => { results := [.lit (.bool true)], args := [d1, d2] }
  | _ => none }
def diffTurnsRow : OpenClaim := { program := "ytebfopcihjadpaa", sum := "1e13a14286ef4c9dd96b8a747f8bb2bfeeccdd3655a2c4ac071989c7114b657e", func := "grapevine/grapevinelaw04.DiffTurns", spec := "diffTurns", unfollowed := true, recurses := true, apart := false }
def DiffTurnsSaid : Prop := diffTurnsRow.holds Try.pinned (OpenSpec.ofChange diffTurnsSpec)

/-- ITS FALSE NEIGHBOUR: 'it returns false'. Refute it at one input. -/
def diffTurnsWrong : ChangeSpec := { name := "diffTurns", fn := fun _ => fun
  | [d1, d2] => { results := [.lit (.bool false)], args := [d1, d2] }
  | _ => none }
def DiffTurnsWrongFalsely : Prop := diffTurnsRow.holds Try.pinned (OpenSpec.ofChange diffTurnsWrong)

/-- 'grapevinelaw04.DiffChain': WHATEVER THE INPUT: true; the input reads as it did. -/
def diffChainSpec : ChangeSpec := { name := "diffChain", fn := fun _ => fun
  | [d1, d2, d3] => { results := [.lit (.bool true)], args := [d1, d2, d3] }
  | _ => none }
def diffChainRow : OpenClaim := { program := "ytebfopcihjadpaa", sum := "1e13a14286ef4c9dd96b8a747f8bb2bfeeccdd3655a2c4ac071989c7114b657e", func := "grapevine/grapevinelaw04.DiffChain", spec := "diffChain", unfollowed := true, recurses := true, apart := false }
def DiffChainSaid : Prop := diffChainRow.holds Try.pinned (OpenSpec.ofChange diffChainSpec)

/-- ITS FALSE NEIGHBOUR: 'it returns false'. Refute it at one input. -/
def diffChainWrong : ChangeSpec := { name := "diffChain", fn := fun _ => fun
  | [d1, d2, d3] => { results := [.lit (.bool false)], args := [d1, d2, d3] }
  | _ => none }
def DiffChainWrongFalsely : Prop := diffChainRow.holds Try.pinned (OpenSpec.ofChange diffChainWrong)

/-- 'grapevinetop.Names': WHATEVER THE INPUT: true; the input reads as it did. -/
def namesSpec : ChangeSpec := { name := "names", fn := fun _ => fun
  | [] => { results := [.lit (.bool true)], args := [] }
  | _ => none }
def namesRow : OpenClaim := { program := "ytebfopcihjadpaa", sum := "1e13a14286ef4c9dd96b8a747f8bb2bfeeccdd3655a2c4ac071989c7114b657e", func := "grapevine/grapevinetop.Names", spec := "names", apart := false }
def NamesSaid : Prop := namesRow.holds Try.pinned (OpenSpec.ofChange namesSpec)

/-- ITS FALSE NEIGHBOUR: 'it returns false'. Refute it at one input. -/
def namesWrong : ChangeSpec := { name := "names", fn := fun _ => fun
  | [] => { results := [.lit (.bool false)], args := [] }
  | _ => none }
def NamesWrongFalsely : Prop := namesRow.holds Try.pinned (OpenSpec.ofChange namesWrong)

/- THE SECOND FORM. 'bulk': how many values and letters a reading holds, each counted each time it is reached (what is shared counts as often as it is met; a slice's spare places count too). A statement '..UptoSaid' is the law's where the arguments, and the package variables that the reading takes, are together of bulk at most 1048576: NARROWER than '..Said'. Prove '..Said' where nothing that the law and all that it calls make is longer than what came in: it says more and counts as full. Else prove '..UptoSaid'. A law counts once. -/
mutual
def uptoBulk {H : Type} : DataW H → Nat
  | .lit (.string bytes) => bytes.length + 1
  | .lit _ => 1
  | .nil => 1
  | .ptr d => uptoBulk d + 1
  | .slice elems spare => uptoBulkAll elems + uptoBulkAll spare + 1
  | .agg parts => uptoBulkAll parts + 1
  | .iface _ d => uptoBulk d + 1
  | .map entries => uptoBulkEntries entries + 1
  | .held _ => 1
def uptoBulkAll {H : Type} : List (DataW H) → Nat
  | [] => 0
  | d :: r => uptoBulk d + uptoBulkAll r
def uptoBulkEntries {H : Type} : List (Lit × DataW H) → Nat
  | [] => 0
  | x :: r => uptoBulkEntry x + uptoBulkEntries r
def uptoBulkEntry {H : Type} : Lit × DataW H → Nat
  | (.string bytes, d) => bytes.length + uptoBulk d + 1
  | (_, d) => uptoBulk d + 1
 end
def uptoSmall : (H : Type) → List (DataW H) → Bool := fun _ ds => decide (uptoBulkAll ds ≤ 1048576)
def OpenSpec.upto (s : _root_.Go.ChangeSpec) : _root_.Go.OpenSpec := { _root_.Go.OpenSpec.ofChange s with cond := some uptoSmall }

/-- 'grapevinelaw04.DiffTells', WHERE WHAT IT READS IS OF BULK AT MOST 1048576: true; the input reads as it did. -/
def diffTellsUptoRow : OpenClaim := { program := "ytebfopcihjadpaa", sum := "1e13a14286ef4c9dd96b8a747f8bb2bfeeccdd3655a2c4ac071989c7114b657e", func := "grapevine/grapevinelaw04.DiffTells", spec := "diffTells", unfollowed := true, recurses := true, apart := false, narrowed := true }
def DiffTellsUptoSaid : Prop := diffTellsUptoRow.holds Try.pinned (OpenSpec.upto diffTellsSpec)

/-- 'grapevinelaw04.DiffLong', WHERE WHAT IT READS IS OF BULK AT MOST 1048576: true; the input reads as it did. -/
def diffLongUptoRow : OpenClaim := { program := "ytebfopcihjadpaa", sum := "1e13a14286ef4c9dd96b8a747f8bb2bfeeccdd3655a2c4ac071989c7114b657e", func := "grapevine/grapevinelaw04.DiffLong", spec := "diffLong", unfollowed := true, recurses := true, apart := false, narrowed := true }
def DiffLongUptoSaid : Prop := diffLongUptoRow.holds Try.pinned (OpenSpec.upto diffLongSpec)

/-- 'grapevinelaw04.DiffRight', WHERE WHAT IT READS IS OF BULK AT MOST 1048576: true; the input reads as it did. -/
def diffRightUptoRow : OpenClaim := { program := "ytebfopcihjadpaa", sum := "1e13a14286ef4c9dd96b8a747f8bb2bfeeccdd3655a2c4ac071989c7114b657e", func := "grapevine/grapevinelaw04.DiffRight", spec := "diffRight", unfollowed := true, recurses := true, apart := false, narrowed := true }
def DiffRightUptoSaid : Prop := diffRightUptoRow.holds Try.pinned (OpenSpec.upto diffRightSpec)

/-- 'grapevinelaw04.DiffPlays', WHERE WHAT IT READS IS OF BULK AT MOST 1048576: true; the input reads as it did. -/
def diffPlaysUptoRow : OpenClaim := { program := "ytebfopcihjadpaa", sum := "1e13a14286ef4c9dd96b8a747f8bb2bfeeccdd3655a2c4ac071989c7114b657e", func := "grapevine/grapevinelaw04.DiffPlays", spec := "diffPlays", unfollowed := true, recurses := true, apart := false, narrowed := true }
def DiffPlaysUptoSaid : Prop := diffPlaysUptoRow.holds Try.pinned (OpenSpec.upto diffPlaysSpec)

/-- 'grapevinelaw04.DiffBack', WHERE WHAT IT READS IS OF BULK AT MOST 1048576: true; the input reads as it did. -/
def diffBackUptoRow : OpenClaim := { program := "ytebfopcihjadpaa", sum := "1e13a14286ef4c9dd96b8a747f8bb2bfeeccdd3655a2c4ac071989c7114b657e", func := "grapevine/grapevinelaw04.DiffBack", spec := "diffBack", unfollowed := true, recurses := true, apart := false, narrowed := true }
def DiffBackUptoSaid : Prop := diffBackUptoRow.holds Try.pinned (OpenSpec.upto diffBackSpec)

/-- 'grapevinelaw04.DiffLeast', WHERE WHAT IT READS IS OF BULK AT MOST 1048576: true; the input reads as it did. -/
def diffLeastUptoRow : OpenClaim := { program := "ytebfopcihjadpaa", sum := "1e13a14286ef4c9dd96b8a747f8bb2bfeeccdd3655a2c4ac071989c7114b657e", func := "grapevine/grapevinelaw04.DiffLeast", spec := "diffLeast", unfollowed := true, recurses := true, apart := false, narrowed := true }
def DiffLeastUptoSaid : Prop := diffLeastUptoRow.holds Try.pinned (OpenSpec.upto diffLeastSpec)

/-- 'grapevinelaw04.DiffAround', WHERE WHAT IT READS IS OF BULK AT MOST 1048576: true; the input reads as it did. -/
def diffAroundUptoRow : OpenClaim := { program := "ytebfopcihjadpaa", sum := "1e13a14286ef4c9dd96b8a747f8bb2bfeeccdd3655a2c4ac071989c7114b657e", func := "grapevine/grapevinelaw04.DiffAround", spec := "diffAround", unfollowed := true, recurses := true, apart := false, narrowed := true }
def DiffAroundUptoSaid : Prop := diffAroundUptoRow.holds Try.pinned (OpenSpec.upto diffAroundSpec)

/-- 'grapevinelaw04.DiffTurns', WHERE WHAT IT READS IS OF BULK AT MOST 1048576: true; the input reads as it did. -/
def diffTurnsUptoRow : OpenClaim := { program := "ytebfopcihjadpaa", sum := "1e13a14286ef4c9dd96b8a747f8bb2bfeeccdd3655a2c4ac071989c7114b657e", func := "grapevine/grapevinelaw04.DiffTurns", spec := "diffTurns", unfollowed := true, recurses := true, apart := false, narrowed := true }
def DiffTurnsUptoSaid : Prop := diffTurnsUptoRow.holds Try.pinned (OpenSpec.upto diffTurnsSpec)

/-- 'grapevinelaw04.DiffChain', WHERE WHAT IT READS IS OF BULK AT MOST 1048576: true; the input reads as it did. -/
def diffChainUptoRow : OpenClaim := { program := "ytebfopcihjadpaa", sum := "1e13a14286ef4c9dd96b8a747f8bb2bfeeccdd3655a2c4ac071989c7114b657e", func := "grapevine/grapevinelaw04.DiffChain", spec := "diffChain", unfollowed := true, recurses := true, apart := false, narrowed := true }
def DiffChainUptoSaid : Prop := diffChainUptoRow.holds Try.pinned (OpenSpec.upto diffChainSpec)

/-- 'grapevinetop.Names', WHERE WHAT IT READS IS OF BULK AT MOST 1048576: true; the input reads as it did. -/
def namesUptoRow : OpenClaim := { program := "ytebfopcihjadpaa", sum := "1e13a14286ef4c9dd96b8a747f8bb2bfeeccdd3655a2c4ac071989c7114b657e", func := "grapevine/grapevinetop.Names", spec := "names", apart := false, narrowed := true }
def NamesUptoSaid : Prop := namesUptoRow.holds Try.pinned (OpenSpec.upto namesSpec)

end Rows
end Go.Proofs.Ytebfopcihjadpaa
