/-
  DERIVED. GIVEN WITH THE SEED: THE CARDS: each row of YtamojbfmphainaaDoorRows.lean that lists a variable, with what it lists TIED to the program's text (the seventh form; the later family's looks); each row that meets fmt, with fmt's text TOLD by the authors' own Lean function (tested against real Go, not proved from fmt's source: count such statements apart). THE CARD IS WHAT COUNTS. Prove the row's statement (the work); the ties are given (YtamojbfmphainaaDoorTie.lean); close each card by the builder's one call (the guide's Derived/Test/ToyasCard.lean, 'card_holds'). Laid BY PROGRAM, IN A SANDBOX (cutbox-door.mjs). By AI agents, Wed Nov 11 2026. No macro, syntax, notation, axiom, sorry.
-/
import Derived.Test.YtamojbfmphainaaDoorRows
import GoSem.ClaimSeven
namespace Go.Proofs.YtamojbfmphainaaDoor
namespace Rows

/-- THE TIED CARD OF 'grapevinelaw06.UnifiedPrints'. -/
def unifiedPrintsCard : Claim7 := { stood := { row := unifiedPrintsRow, standIns := [], harness := (true, "f24c85a4bcd73d90b836ec950afe2bed68e106580eee9cfcc7af5023649d381b"), looks := true }, kinds := [], alts := [], laidByText := true, laidKinds := [.data, .data, .data, .sentinel, .sentinel], laidTests := true, laidLooks := .later }
def UnifiedPrintsCardSaid : Prop := Claim7.holds Tryd.pinned (.plain (OpenSpec.ofChange unifiedPrintsSpec)) unifiedPrintsCard

/-- THE TIED CARD OF 'grapevinelaw06.UnifiedParses'. -/
def unifiedParsesCard : Claim7 := { stood := { row := unifiedParsesRow, standIns := [], harness := (true, "f24c85a4bcd73d90b836ec950afe2bed68e106580eee9cfcc7af5023649d381b"), looks := true }, kinds := [], alts := [], laidByText := true, laidKinds := [.data, .data, .data, .sentinel, .sentinel], laidTests := true, laidLooks := .later }
def UnifiedParsesCardSaid : Prop := Claim7.holds Tryd.pinned (.plain (OpenSpec.ofChange unifiedParsesSpec)) unifiedParsesCard

/-- THE TIED CARD OF 'grapevinelaw06.UnifiedBack'. -/
def unifiedBackCard : Claim7 := { stood := { row := unifiedBackRow, standIns := [], harness := (true, "f24c85a4bcd73d90b836ec950afe2bed68e106580eee9cfcc7af5023649d381b"), looks := true }, kinds := [], alts := [], laidByText := true, laidKinds := [.data, .data, .data, .sentinel, .sentinel], laidTests := true, laidLooks := .later }
def UnifiedBackCardSaid : Prop := Claim7.holds Tryd.pinned (.plain (OpenSpec.ofChange unifiedBackSpec)) unifiedBackCard

/-- THE TIED CARD OF 'grapevinelaw06.UnifiedParts'. -/
def unifiedPartsCard : Claim7 := { stood := { row := unifiedPartsRow, standIns := [], harness := (true, "f24c85a4bcd73d90b836ec950afe2bed68e106580eee9cfcc7af5023649d381b"), looks := true }, kinds := [], alts := [], laidByText := true, laidKinds := [.data, .data, .data, .sentinel, .sentinel], laidTests := true, laidLooks := .later }
def UnifiedPartsCardSaid : Prop := Claim7.holds Tryd.pinned (.plain (OpenSpec.ofChange unifiedPartsSpec)) unifiedPartsCard

/-- THE TIED CARD OF 'grapevinelaw06.UnifiedWhole'. -/
def unifiedWholeCard : Claim7 := { stood := { row := unifiedWholeRow, standIns := [], harness := (true, "f24c85a4bcd73d90b836ec950afe2bed68e106580eee9cfcc7af5023649d381b"), looks := true }, kinds := [], alts := [], laidByText := true, laidKinds := [.data, .data, .data, .sentinel, .sentinel], laidTests := true, laidLooks := .later }
def UnifiedWholeCardSaid : Prop := Claim7.holds Tryd.pinned (.plain (OpenSpec.ofChange unifiedWholeSpec)) unifiedWholeCard

/-- THE SECOND FORM's CARD OF 'grapevinelaw06.UnifiedPrints'. -/
def unifiedPrintsUptoCard : Claim7 := { stood := { row := unifiedPrintsUptoRow, standIns := [], harness := (true, "f24c85a4bcd73d90b836ec950afe2bed68e106580eee9cfcc7af5023649d381b"), looks := true }, kinds := [], alts := [], laidByText := true, laidKinds := [.data, .data, .data, .sentinel, .sentinel], laidTests := true, laidLooks := .later }
def UnifiedPrintsUptoCardSaid : Prop := Claim7.holds Tryd.pinned (.plain (OpenSpec.upto unifiedPrintsSpec)) unifiedPrintsUptoCard

/-- THE SECOND FORM's CARD OF 'grapevinelaw06.UnifiedParses'. -/
def unifiedParsesUptoCard : Claim7 := { stood := { row := unifiedParsesUptoRow, standIns := [], harness := (true, "f24c85a4bcd73d90b836ec950afe2bed68e106580eee9cfcc7af5023649d381b"), looks := true }, kinds := [], alts := [], laidByText := true, laidKinds := [.data, .data, .data, .sentinel, .sentinel], laidTests := true, laidLooks := .later }
def UnifiedParsesUptoCardSaid : Prop := Claim7.holds Tryd.pinned (.plain (OpenSpec.upto unifiedParsesSpec)) unifiedParsesUptoCard

/-- THE SECOND FORM's CARD OF 'grapevinelaw06.UnifiedBack'. -/
def unifiedBackUptoCard : Claim7 := { stood := { row := unifiedBackUptoRow, standIns := [], harness := (true, "f24c85a4bcd73d90b836ec950afe2bed68e106580eee9cfcc7af5023649d381b"), looks := true }, kinds := [], alts := [], laidByText := true, laidKinds := [.data, .data, .data, .sentinel, .sentinel], laidTests := true, laidLooks := .later }
def UnifiedBackUptoCardSaid : Prop := Claim7.holds Tryd.pinned (.plain (OpenSpec.upto unifiedBackSpec)) unifiedBackUptoCard

/-- THE SECOND FORM's CARD OF 'grapevinelaw06.UnifiedParts'. -/
def unifiedPartsUptoCard : Claim7 := { stood := { row := unifiedPartsUptoRow, standIns := [], harness := (true, "f24c85a4bcd73d90b836ec950afe2bed68e106580eee9cfcc7af5023649d381b"), looks := true }, kinds := [], alts := [], laidByText := true, laidKinds := [.data, .data, .data, .sentinel, .sentinel], laidTests := true, laidLooks := .later }
def UnifiedPartsUptoCardSaid : Prop := Claim7.holds Tryd.pinned (.plain (OpenSpec.upto unifiedPartsSpec)) unifiedPartsUptoCard

/-- THE SECOND FORM's CARD OF 'grapevinelaw06.UnifiedWhole'. -/
def unifiedWholeUptoCard : Claim7 := { stood := { row := unifiedWholeUptoRow, standIns := [], harness := (true, "f24c85a4bcd73d90b836ec950afe2bed68e106580eee9cfcc7af5023649d381b"), looks := true }, kinds := [], alts := [], laidByText := true, laidKinds := [.data, .data, .data, .sentinel, .sentinel], laidTests := true, laidLooks := .later }
def UnifiedWholeUptoCardSaid : Prop := Claim7.holds Tryd.pinned (.plain (OpenSpec.upto unifiedWholeSpec)) unifiedWholeUptoCard
end Rows
end Go.Proofs.YtamojbfmphainaaDoor
