/-
  DERIVED. GIVEN WITH THE SEED: THE CARDS: each row of YtghmojcecefgjaaDoorRows.lean that lists a variable, with what it lists TIED to the program's text (the seventh form; the later family's looks); each row that meets fmt, with fmt's text TOLD by the authors' own Lean function (tested against real Go, not proved from fmt's source: count such statements apart). THE CARD IS WHAT COUNTS. Prove the row's statement (the work); the ties are given (YtghmojcecefgjaaDoorTie.lean); close each card by the builder's one call (the guide's Derived/Test/ToyasCard.lean, 'card_holds'). Laid BY PROGRAM, IN A SANDBOX (cutbox-door.mjs). By AI agents, Wed Nov 11 2026. No macro, syntax, notation, axiom, sorry.
-/
import Derived.Test.YtghmojcecefgjaaDoorRows
import GoSem.ClaimSeven
namespace Go.Proofs.YtghmojcecefgjaaDoor
namespace Rows

/-- THE TIED CARD OF 'prelaw4.CondTells'. -/
def condTellsCard : Claim7 := { stood := { row := condTellsRow, standIns := [], harness := (true, "3012c4f29a5db4fc63fc5864e4dea892466b1ce5297028f0d172664f48b05f8f"), looks := true }, kinds := [], alts := [], laidByText := true, laidKinds := [.data, .data, .data, .sentinel, .sentinel], laidTests := true, laidLooks := .later }
def CondTellsCardSaid : Prop := Claim7.holds Tryd.pinned (.plain (OpenSpec.ofChange condTellsSpec)) condTellsCard

/-- THE TIED CARD OF 'prelaw4.CondOps'. -/
def condOpsCard : Claim7 := { stood := { row := condOpsRow, standIns := [], harness := (true, "3012c4f29a5db4fc63fc5864e4dea892466b1ce5297028f0d172664f48b05f8f"), looks := true }, kinds := [], alts := [], laidByText := true, laidKinds := [.data, .data, .data, .sentinel, .sentinel], laidTests := true, laidLooks := .later }
def CondOpsCardSaid : Prop := Claim7.holds Tryd.pinned (.plain (OpenSpec.ofChange condOpsSpec)) condOpsCard

/-- THE TIED CARD OF 'prelaw4.CondIdle'. -/
def condIdleCard : Claim7 := { stood := { row := condIdleRow, standIns := [], harness := (true, "3012c4f29a5db4fc63fc5864e4dea892466b1ce5297028f0d172664f48b05f8f"), looks := true }, kinds := [], alts := [], laidByText := true, laidKinds := [.data, .data, .data, .sentinel, .sentinel], laidTests := true, laidLooks := .later }
def CondIdleCardSaid : Prop := Claim7.holds Tryd.pinned (.plain (OpenSpec.ofChange condIdleSpec)) condIdleCard

/-- THE TIED CARD OF 'prelaw4.CondParens'. -/
def condParensCard : Claim7 := { stood := { row := condParensRow, standIns := [], harness := (true, "3012c4f29a5db4fc63fc5864e4dea892466b1ce5297028f0d172664f48b05f8f"), looks := true }, kinds := [], alts := [], laidByText := true, laidKinds := [.data, .data, .data, .sentinel, .sentinel], laidTests := true, laidLooks := .later }
def CondParensCardSaid : Prop := Claim7.holds Tryd.pinned (.plain (OpenSpec.ofChange condParensSpec)) condParensCard

/-- THE SECOND FORM's CARD OF 'prelaw4.CondTells'. -/
def condTellsUptoCard : Claim7 := { stood := { row := condTellsUptoRow, standIns := [], harness := (true, "3012c4f29a5db4fc63fc5864e4dea892466b1ce5297028f0d172664f48b05f8f"), looks := true }, kinds := [], alts := [], laidByText := true, laidKinds := [.data, .data, .data, .sentinel, .sentinel], laidTests := true, laidLooks := .later }
def CondTellsUptoCardSaid : Prop := Claim7.holds Tryd.pinned (.plain (OpenSpec.upto condTellsSpec)) condTellsUptoCard

/-- THE SECOND FORM's CARD OF 'prelaw4.CondOps'. -/
def condOpsUptoCard : Claim7 := { stood := { row := condOpsUptoRow, standIns := [], harness := (true, "3012c4f29a5db4fc63fc5864e4dea892466b1ce5297028f0d172664f48b05f8f"), looks := true }, kinds := [], alts := [], laidByText := true, laidKinds := [.data, .data, .data, .sentinel, .sentinel], laidTests := true, laidLooks := .later }
def CondOpsUptoCardSaid : Prop := Claim7.holds Tryd.pinned (.plain (OpenSpec.upto condOpsSpec)) condOpsUptoCard

/-- THE SECOND FORM's CARD OF 'prelaw4.CondIdle'. -/
def condIdleUptoCard : Claim7 := { stood := { row := condIdleUptoRow, standIns := [], harness := (true, "3012c4f29a5db4fc63fc5864e4dea892466b1ce5297028f0d172664f48b05f8f"), looks := true }, kinds := [], alts := [], laidByText := true, laidKinds := [.data, .data, .data, .sentinel, .sentinel], laidTests := true, laidLooks := .later }
def CondIdleUptoCardSaid : Prop := Claim7.holds Tryd.pinned (.plain (OpenSpec.upto condIdleSpec)) condIdleUptoCard

/-- THE SECOND FORM's CARD OF 'prelaw4.CondParens'. -/
def condParensUptoCard : Claim7 := { stood := { row := condParensUptoRow, standIns := [], harness := (true, "3012c4f29a5db4fc63fc5864e4dea892466b1ce5297028f0d172664f48b05f8f"), looks := true }, kinds := [], alts := [], laidByText := true, laidKinds := [.data, .data, .data, .sentinel, .sentinel], laidTests := true, laidLooks := .later }
def CondParensUptoCardSaid : Prop := Claim7.holds Tryd.pinned (.plain (OpenSpec.upto condParensSpec)) condParensUptoCard
end Rows
end Go.Proofs.YtghmojcecefgjaaDoor
