/-
  DERIVED. GIVEN WITH THE SEED: THE CARDS: each row of YtmekaipcoghlfaaGreatDoorRows.lean that lists a variable, with what it lists TIED to the program's text (the seventh form; the later family's looks); each row that meets fmt, with fmt's text TOLD by the authors' own Lean function (tested against real Go, not proved from fmt's source: count such statements apart). THE CARD IS WHAT COUNTS. Prove the row's statement (the work); the ties are given (YtmekaipcoghlfaaGreatDoorTie.lean); close each card by the builder's one call (the guide's Derived/Test/ToyasCard.lean, 'card_holds'). Laid BY PROGRAM, IN A SANDBOX (cutbox-door.mjs). By AI agents, Wed Nov 11 2026. No macro, syntax, notation, axiom, sorry.
-/
import Derived.Test.YtmekaipcoghlfaaGreatDoorRows
import GoSem.ClaimSeven
namespace Go.Proofs.YtmekaipcoghlfaaGreatDoor
namespace Rows

/-- THE TIED CARD OF 'casuisttop.TopNumbers'. -/
def topNumbersCard : Claim7 := { stood := { row := topNumbersRow, standIns := [], harness := (true, "1f9e77038ddf4eddc658d3ec7a135a1584d0078d7a9280bd951214d23383b3c3"), looks := true }, kinds := [], alts := [], laidByText := true, laidKinds := [.pinned, .data, .sentinel, .sentinel, .data, .data, .data], laidTests := true, laidLooks := .later }
def TopNumbersCardSaid : Prop := Claim7.holds Tryz.pinned (.plain (OpenSpec.ofChange topNumbersSpec)) topNumbersCard

/-- THE TIED CARD OF 'casuisttop.TopDays'. -/
def topDaysCard : Claim7 := { stood := { row := topDaysRow, standIns := [], harness := (true, "1f9e77038ddf4eddc658d3ec7a135a1584d0078d7a9280bd951214d23383b3c3"), looks := true }, kinds := [], alts := [], laidByText := true, laidKinds := [.pinned, .data, .sentinel, .sentinel, .data, .data, .data], laidTests := true, laidLooks := .later }
def TopDaysCardSaid : Prop := Claim7.holds Tryz.pinned (.plain (OpenSpec.ofChange topDaysSpec)) topDaysCard

/-- THE SECOND FORM's CARD OF 'casuisttop.TopNumbers'. -/
def topNumbersUptoCard : Claim7 := { stood := { row := topNumbersUptoRow, standIns := [], harness := (true, "1f9e77038ddf4eddc658d3ec7a135a1584d0078d7a9280bd951214d23383b3c3"), looks := true }, kinds := [], alts := [], laidByText := true, laidKinds := [.pinned, .data, .sentinel, .sentinel, .data, .data, .data], laidTests := true, laidLooks := .later }
def TopNumbersUptoCardSaid : Prop := Claim7.holds Tryz.pinned (.plain (OpenSpec.upto topNumbersSpec)) topNumbersUptoCard

/-- THE SECOND FORM's CARD OF 'casuisttop.TopDays'. -/
def topDaysUptoCard : Claim7 := { stood := { row := topDaysUptoRow, standIns := [], harness := (true, "1f9e77038ddf4eddc658d3ec7a135a1584d0078d7a9280bd951214d23383b3c3"), looks := true }, kinds := [], alts := [], laidByText := true, laidKinds := [.pinned, .data, .sentinel, .sentinel, .data, .data, .data], laidTests := true, laidLooks := .later }
def TopDaysUptoCardSaid : Prop := Claim7.holds Tryz.pinned (.plain (OpenSpec.upto topDaysSpec)) topDaysUptoCard
end Rows
end Go.Proofs.YtmekaipcoghlfaaGreatDoor
