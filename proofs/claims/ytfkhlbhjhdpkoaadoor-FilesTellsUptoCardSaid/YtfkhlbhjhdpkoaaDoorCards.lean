/-
  DERIVED. GIVEN WITH THE SEED: THE CARDS: each row of YtfkhlbhjhdpkoaaDoorRows.lean that lists a variable, with what it lists TIED to the program's text (the seventh form; the later family's looks); each row that meets fmt, with fmt's text TOLD by the authors' own Lean function (tested against real Go, not proved from fmt's source: count such statements apart). THE CARD IS WHAT COUNTS. Prove the row's statement (the work); the ties are given (YtfkhlbhjhdpkoaaDoorTie.lean); close each card by the builder's one call (the guide's Derived/Test/ToyasCard.lean, 'card_holds'). Laid BY PROGRAM, IN A SANDBOX (cutbox-door.mjs). By AI agents, Wed Nov 11 2026. No macro, syntax, notation, axiom, sorry.
-/
import Derived.Test.YtfkhlbhjhdpkoaaDoorRows
import GoSem.ClaimSeven
namespace Go.Proofs.YtfkhlbhjhdpkoaaDoor
namespace Rows

/-- THE TIED CARD OF 'prelaw1.FilesTells'. -/
def filesTellsCard : Claim7 := { stood := { row := filesTellsRow, standIns := [], harness := (true, "e97ce57402aad4befacec8afdeb7abc050fa91bb7a7434ceb9135bf3e693cb01"), looks := false }, kinds := [], alts := [], laidByText := true, laidKinds := [.data, .pinned], laidTests := true, laidLooks := .later }
def FilesTellsCardSaid : Prop := Claim7.holds Tryd.pinned (.plain (OpenSpec.ofChange filesTellsSpec)) filesTellsCard

/-- THE TIED CARD OF 'prelaw1.FilesOrder'. -/
def filesOrderCard : Claim7 := { stood := { row := filesOrderRow, standIns := [], harness := (true, "e97ce57402aad4befacec8afdeb7abc050fa91bb7a7434ceb9135bf3e693cb01"), looks := false }, kinds := [], alts := [], laidByText := true, laidKinds := [.data, .pinned], laidTests := true, laidLooks := .later }
def FilesOrderCardSaid : Prop := Claim7.holds Tryd.pinned (.plain (OpenSpec.ofChange filesOrderSpec)) filesOrderCard

/-- THE TIED CARD OF 'prelaw1.FilesBack'. -/
def filesBackCard : Claim7 := { stood := { row := filesBackRow, standIns := [], harness := (true, "e97ce57402aad4befacec8afdeb7abc050fa91bb7a7434ceb9135bf3e693cb01"), looks := false }, kinds := [], alts := [], laidByText := true, laidKinds := [.data, .pinned], laidTests := true, laidLooks := .later }
def FilesBackCardSaid : Prop := Claim7.holds Tryd.pinned (.plain (OpenSpec.ofChange filesBackSpec)) filesBackCard

/-- THE TIED CARD OF 'prelaw1.FilesMeant'. -/
def filesMeantCard : Claim7 := { stood := { row := filesMeantRow, standIns := [], harness := (true, "e97ce57402aad4befacec8afdeb7abc050fa91bb7a7434ceb9135bf3e693cb01"), looks := false }, kinds := [], alts := [], laidByText := true, laidKinds := [.data, .pinned], laidTests := true, laidLooks := .later }
def FilesMeantCardSaid : Prop := Claim7.holds Tryd.pinned (.plain (OpenSpec.ofChange filesMeantSpec)) filesMeantCard

/-- THE SECOND FORM's CARD OF 'prelaw1.FilesTells'. -/
def filesTellsUptoCard : Claim7 := { stood := { row := filesTellsUptoRow, standIns := [], harness := (true, "e97ce57402aad4befacec8afdeb7abc050fa91bb7a7434ceb9135bf3e693cb01"), looks := false }, kinds := [], alts := [], laidByText := true, laidKinds := [.data, .pinned], laidTests := true, laidLooks := .later }
def FilesTellsUptoCardSaid : Prop := Claim7.holds Tryd.pinned (.plain (OpenSpec.upto filesTellsSpec)) filesTellsUptoCard

/-- THE SECOND FORM's CARD OF 'prelaw1.FilesOrder'. -/
def filesOrderUptoCard : Claim7 := { stood := { row := filesOrderUptoRow, standIns := [], harness := (true, "e97ce57402aad4befacec8afdeb7abc050fa91bb7a7434ceb9135bf3e693cb01"), looks := false }, kinds := [], alts := [], laidByText := true, laidKinds := [.data, .pinned], laidTests := true, laidLooks := .later }
def FilesOrderUptoCardSaid : Prop := Claim7.holds Tryd.pinned (.plain (OpenSpec.upto filesOrderSpec)) filesOrderUptoCard

/-- THE SECOND FORM's CARD OF 'prelaw1.FilesBack'. -/
def filesBackUptoCard : Claim7 := { stood := { row := filesBackUptoRow, standIns := [], harness := (true, "e97ce57402aad4befacec8afdeb7abc050fa91bb7a7434ceb9135bf3e693cb01"), looks := false }, kinds := [], alts := [], laidByText := true, laidKinds := [.data, .pinned], laidTests := true, laidLooks := .later }
def FilesBackUptoCardSaid : Prop := Claim7.holds Tryd.pinned (.plain (OpenSpec.upto filesBackSpec)) filesBackUptoCard

/-- THE SECOND FORM's CARD OF 'prelaw1.FilesMeant'. -/
def filesMeantUptoCard : Claim7 := { stood := { row := filesMeantUptoRow, standIns := [], harness := (true, "e97ce57402aad4befacec8afdeb7abc050fa91bb7a7434ceb9135bf3e693cb01"), looks := false }, kinds := [], alts := [], laidByText := true, laidKinds := [.data, .pinned], laidTests := true, laidLooks := .later }
def FilesMeantUptoCardSaid : Prop := Claim7.holds Tryd.pinned (.plain (OpenSpec.upto filesMeantSpec)) filesMeantUptoCard
end Rows
end Go.Proofs.YtfkhlbhjhdpkoaaDoor
