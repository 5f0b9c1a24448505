/-
  DERIVED. GIVEN WITH THE SEED: THE CARDS: each row of YtfkhlbhjhdpkoaaGreatDoorRows.lean that lists a variable, with what it lists TIED to the program's text (the seventh form; the later family's looks); each row that meets fmt, with fmt's text TOLD by the authors' own Lean function (tested against real Go, not proved from fmt's source: count such statements apart). THE CARD IS WHAT COUNTS. Prove the row's statement (the work); the ties are given (YtfkhlbhjhdpkoaaGreatDoorTie.lean); close each card by the builder's one call (the guide's Derived/Test/ToyasCard.lean, 'card_holds'). Laid BY PROGRAM, IN A SANDBOX (cutbox-door.mjs). By AI agents, Wed Nov 11 2026. No macro, syntax, notation, axiom, sorry.
-/
import Derived.Test.YtfkhlbhjhdpkoaaGreatDoorRows
import GoSem.ClaimSeven
namespace Go.Proofs.YtfkhlbhjhdpkoaaGreatDoor
namespace Rows

/-- THE TIED CARD OF 'pretop.TopDoubles'. -/
def topDoublesCard : Claim7 := { stood := { row := topDoublesRow, standIns := [], harness := (true, "ae8d561167538cb2b0683586cf11148cb4b6a2621a1d920bce357e5322bc8d54"), looks := true }, kinds := [], alts := [], laidByText := true, laidKinds := [.data, .data, .data, .data, .sentinel, .sentinel, .pinned], laidTests := true, laidLooks := .later }
def TopDoublesCardSaid : Prop := Claim7.holds Tryz.pinned (.plain (OpenSpec.ofChange topDoublesSpec)) topDoublesCard

/-- THE TIED CARD OF 'pretop.TopRound'. -/
def topRoundCard : Claim7 := { stood := { row := topRoundRow, standIns := [], harness := (true, "ae8d561167538cb2b0683586cf11148cb4b6a2621a1d920bce357e5322bc8d54"), looks := true }, kinds := [], alts := [], laidByText := true, laidKinds := [.data, .data, .data, .data, .sentinel, .sentinel, .pinned], laidTests := true, laidLooks := .later }
def TopRoundCardSaid : Prop := Claim7.holds Tryz.pinned (.plain (OpenSpec.ofChange topRoundSpec)) topRoundCard

/-- THE TIED CARD OF 'prelaw7.DriveOnce'. -/
def driveOnceCard : Claim7 := { stood := { row := driveOnceRow, standIns := [], harness := (true, "ae8d561167538cb2b0683586cf11148cb4b6a2621a1d920bce357e5322bc8d54"), looks := true }, kinds := [], alts := [], laidByText := true, laidKinds := [.data, .data, .data, .data, .sentinel, .sentinel, .pinned], laidTests := true, laidLooks := .later }
def DriveOnceCardSaid : Prop := Claim7.holds Tryz.pinned (.plain (OpenSpec.ofChange driveOnceSpec)) driveOnceCard

/-- THE TIED CARD OF 'prelaw7.DriveLoop'. -/
def driveLoopCard : Claim7 := { stood := { row := driveLoopRow, standIns := [], harness := (true, "ae8d561167538cb2b0683586cf11148cb4b6a2621a1d920bce357e5322bc8d54"), looks := true }, kinds := [], alts := [], laidByText := true, laidKinds := [.data, .data, .data, .data, .sentinel, .sentinel, .pinned], laidTests := true, laidLooks := .later }
def DriveLoopCardSaid : Prop := Claim7.holds Tryz.pinned (.plain (OpenSpec.ofChange driveLoopSpec)) driveLoopCard

/-- THE TIED CARD OF 'pretop.TopDiamond'. -/
def topDiamondCard : Claim7 := { stood := { row := topDiamondRow, standIns := [], harness := (true, "ae8d561167538cb2b0683586cf11148cb4b6a2621a1d920bce357e5322bc8d54"), looks := true }, kinds := [], alts := [], laidByText := true, laidKinds := [.data, .data, .data, .data, .sentinel, .sentinel, .pinned], laidTests := true, laidLooks := .later }
def TopDiamondCardSaid : Prop := Claim7.holds Tryz.pinned (.plain (OpenSpec.ofChange topDiamondSpec)) topDiamondCard

/-- THE TIED CARD OF 'pretop.TopChoice'. -/
def topChoiceCard : Claim7 := { stood := { row := topChoiceRow, standIns := [], harness := (true, "ae8d561167538cb2b0683586cf11148cb4b6a2621a1d920bce357e5322bc8d54"), looks := true }, kinds := [], alts := [], laidByText := true, laidKinds := [.data, .data, .data, .data, .sentinel, .sentinel, .pinned], laidTests := true, laidLooks := .later }
def TopChoiceCardSaid : Prop := Claim7.holds Tryz.pinned (.plain (OpenSpec.ofChange topChoiceSpec)) topChoiceCard

/-- THE SECOND FORM's CARD OF 'pretop.TopDoubles'. -/
def topDoublesUptoCard : Claim7 := { stood := { row := topDoublesUptoRow, standIns := [], harness := (true, "ae8d561167538cb2b0683586cf11148cb4b6a2621a1d920bce357e5322bc8d54"), looks := true }, kinds := [], alts := [], laidByText := true, laidKinds := [.data, .data, .data, .data, .sentinel, .sentinel, .pinned], laidTests := true, laidLooks := .later }
def TopDoublesUptoCardSaid : Prop := Claim7.holds Tryz.pinned (.plain (OpenSpec.upto topDoublesSpec)) topDoublesUptoCard

/-- THE SECOND FORM's CARD OF 'pretop.TopRound'. -/
def topRoundUptoCard : Claim7 := { stood := { row := topRoundUptoRow, standIns := [], harness := (true, "ae8d561167538cb2b0683586cf11148cb4b6a2621a1d920bce357e5322bc8d54"), looks := true }, kinds := [], alts := [], laidByText := true, laidKinds := [.data, .data, .data, .data, .sentinel, .sentinel, .pinned], laidTests := true, laidLooks := .later }
def TopRoundUptoCardSaid : Prop := Claim7.holds Tryz.pinned (.plain (OpenSpec.upto topRoundSpec)) topRoundUptoCard

/-- THE SECOND FORM's CARD OF 'prelaw7.DriveOnce'. -/
def driveOnceUptoCard : Claim7 := { stood := { row := driveOnceUptoRow, standIns := [], harness := (true, "ae8d561167538cb2b0683586cf11148cb4b6a2621a1d920bce357e5322bc8d54"), looks := true }, kinds := [], alts := [], laidByText := true, laidKinds := [.data, .data, .data, .data, .sentinel, .sentinel, .pinned], laidTests := true, laidLooks := .later }
def DriveOnceUptoCardSaid : Prop := Claim7.holds Tryz.pinned (.plain (OpenSpec.upto driveOnceSpec)) driveOnceUptoCard

/-- THE SECOND FORM's CARD OF 'prelaw7.DriveLoop'. -/
def driveLoopUptoCard : Claim7 := { stood := { row := driveLoopUptoRow, standIns := [], harness := (true, "ae8d561167538cb2b0683586cf11148cb4b6a2621a1d920bce357e5322bc8d54"), looks := true }, kinds := [], alts := [], laidByText := true, laidKinds := [.data, .data, .data, .data, .sentinel, .sentinel, .pinned], laidTests := true, laidLooks := .later }
def DriveLoopUptoCardSaid : Prop := Claim7.holds Tryz.pinned (.plain (OpenSpec.upto driveLoopSpec)) driveLoopUptoCard

/-- THE SECOND FORM's CARD OF 'pretop.TopDiamond'. -/
def topDiamondUptoCard : Claim7 := { stood := { row := topDiamondUptoRow, standIns := [], harness := (true, "ae8d561167538cb2b0683586cf11148cb4b6a2621a1d920bce357e5322bc8d54"), looks := true }, kinds := [], alts := [], laidByText := true, laidKinds := [.data, .data, .data, .data, .sentinel, .sentinel, .pinned], laidTests := true, laidLooks := .later }
def TopDiamondUptoCardSaid : Prop := Claim7.holds Tryz.pinned (.plain (OpenSpec.upto topDiamondSpec)) topDiamondUptoCard

/-- THE SECOND FORM's CARD OF 'pretop.TopChoice'. -/
def topChoiceUptoCard : Claim7 := { stood := { row := topChoiceUptoRow, standIns := [], harness := (true, "ae8d561167538cb2b0683586cf11148cb4b6a2621a1d920bce357e5322bc8d54"), looks := true }, kinds := [], alts := [], laidByText := true, laidKinds := [.data, .data, .data, .data, .sentinel, .sentinel, .pinned], laidTests := true, laidLooks := .later }
def TopChoiceUptoCardSaid : Prop := Claim7.holds Tryz.pinned (.plain (OpenSpec.upto topChoiceSpec)) topChoiceUptoCard
end Rows
end Go.Proofs.YtfkhlbhjhdpkoaaGreatDoor
