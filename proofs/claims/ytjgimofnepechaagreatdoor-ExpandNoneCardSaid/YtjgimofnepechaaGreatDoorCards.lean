/-
  DERIVED. GIVEN WITH THE SEED: THE CARDS: each row of YtjgimofnepechaaGreatDoorRows.lean that lists a variable, with what it lists TIED to the program's text (the seventh form; the later family's looks); each row that meets fmt, with fmt's text TOLD by the authors' own Lean function (tested against real Go, not proved from fmt's source: count such statements apart). THE CARD IS WHAT COUNTS. Prove the row's statement (the work); the ties are given (YtjgimofnepechaaGreatDoorTie.lean); close each card by the builder's one call (the guide's Derived/Test/ToyasCard.lean, 'card_holds'). Laid BY PROGRAM, IN A SANDBOX (cutbox-door.mjs). By AI agents, Wed Nov 11 2026. No macro, syntax, notation, axiom, sorry.
-/
import Derived.Test.YtjgimofnepechaaGreatDoorRows
import GoSem.ClaimSeven
namespace Go.Proofs.YtjgimofnepechaaGreatDoor
namespace Rows

/-- THE TIED CARD OF 'prelaw6.ExpandTells'. -/
def expandTellsCard : Claim7 := { stood := { row := expandTellsRow, standIns := [], harness := (true, "9ed1f0c91f6ddb5b573767b51baaed009354d2c81d8d4f1592dbebe68225a792"), looks := true }, kinds := [], alts := [], laidByText := true, laidKinds := [.data, .data, .data], laidTests := true, laidLooks := .later }
def ExpandTellsCardSaid : Prop := Claim7.holds Tryz.pinned (.plain (OpenSpec.ofChange expandTellsSpec)) expandTellsCard

/-- THE TIED CARD OF 'prelaw6.ExpandEnds'. -/
def expandEndsCard : Claim7 := { stood := { row := expandEndsRow, standIns := [], harness := (true, "9ed1f0c91f6ddb5b573767b51baaed009354d2c81d8d4f1592dbebe68225a792"), looks := true }, kinds := [], alts := [], laidByText := true, laidKinds := [.data, .data, .data], laidTests := true, laidLooks := .later }
def ExpandEndsCardSaid : Prop := Claim7.holds Tryz.pinned (.plain (OpenSpec.ofChange expandEndsSpec)) expandEndsCard

/-- THE TIED CARD OF 'prelaw6.ExpandNone'. -/
def expandNoneCard : Claim7 := { stood := { row := expandNoneRow, standIns := [], harness := (true, "9ed1f0c91f6ddb5b573767b51baaed009354d2c81d8d4f1592dbebe68225a792"), looks := true }, kinds := [], alts := [], laidByText := true, laidKinds := [.data, .data, .data], laidTests := true, laidLooks := .later }
def ExpandNoneCardSaid : Prop := Claim7.holds Tryz.pinned (.plain (OpenSpec.ofChange expandNoneSpec)) expandNoneCard

/-- THE TIED CARD OF 'prelaw6.ExpandJoined'. -/
def expandJoinedCard : Claim7 := { stood := { row := expandJoinedRow, standIns := [], harness := (true, "9ed1f0c91f6ddb5b573767b51baaed009354d2c81d8d4f1592dbebe68225a792"), looks := true }, kinds := [], alts := [], laidByText := true, laidKinds := [.data, .data, .data], laidTests := true, laidLooks := .later }
def ExpandJoinedCardSaid : Prop := Claim7.holds Tryz.pinned (.plain (OpenSpec.ofChange expandJoinedSpec)) expandJoinedCard

/-- THE TIED CARD OF 'prelaw6.ExpandCalls'. -/
def expandCallsCard : Claim7 := { stood := { row := expandCallsRow, standIns := [], harness := (true, "9ed1f0c91f6ddb5b573767b51baaed009354d2c81d8d4f1592dbebe68225a792"), looks := true }, kinds := [], alts := [], laidByText := true, laidKinds := [.data, .data, .data], laidTests := true, laidLooks := .later }
def ExpandCallsCardSaid : Prop := Claim7.holds Tryz.pinned (.plain (OpenSpec.ofChange expandCallsSpec)) expandCallsCard

/-- THE TIED CARD OF 'prelaw6.ExpandFuel'. -/
def expandFuelCard : Claim7 := { stood := { row := expandFuelRow, standIns := [], harness := (true, "9ed1f0c91f6ddb5b573767b51baaed009354d2c81d8d4f1592dbebe68225a792"), looks := true }, kinds := [], alts := [], laidByText := true, laidKinds := [.data, .data, .data], laidTests := true, laidLooks := .later }
def ExpandFuelCardSaid : Prop := Claim7.holds Tryz.pinned (.plain (OpenSpec.ofChange expandFuelSpec)) expandFuelCard

/-- THE SECOND FORM's CARD OF 'prelaw6.ExpandTells'. -/
def expandTellsUptoCard : Claim7 := { stood := { row := expandTellsUptoRow, standIns := [], harness := (true, "9ed1f0c91f6ddb5b573767b51baaed009354d2c81d8d4f1592dbebe68225a792"), looks := true }, kinds := [], alts := [], laidByText := true, laidKinds := [.data, .data, .data], laidTests := true, laidLooks := .later }
def ExpandTellsUptoCardSaid : Prop := Claim7.holds Tryz.pinned (.plain (OpenSpec.upto expandTellsSpec)) expandTellsUptoCard

/-- THE SECOND FORM's CARD OF 'prelaw6.ExpandEnds'. -/
def expandEndsUptoCard : Claim7 := { stood := { row := expandEndsUptoRow, standIns := [], harness := (true, "9ed1f0c91f6ddb5b573767b51baaed009354d2c81d8d4f1592dbebe68225a792"), looks := true }, kinds := [], alts := [], laidByText := true, laidKinds := [.data, .data, .data], laidTests := true, laidLooks := .later }
def ExpandEndsUptoCardSaid : Prop := Claim7.holds Tryz.pinned (.plain (OpenSpec.upto expandEndsSpec)) expandEndsUptoCard

/-- THE SECOND FORM's CARD OF 'prelaw6.ExpandNone'. -/
def expandNoneUptoCard : Claim7 := { stood := { row := expandNoneUptoRow, standIns := [], harness := (true, "9ed1f0c91f6ddb5b573767b51baaed009354d2c81d8d4f1592dbebe68225a792"), looks := true }, kinds := [], alts := [], laidByText := true, laidKinds := [.data, .data, .data], laidTests := true, laidLooks := .later }
def ExpandNoneUptoCardSaid : Prop := Claim7.holds Tryz.pinned (.plain (OpenSpec.upto expandNoneSpec)) expandNoneUptoCard

/-- THE SECOND FORM's CARD OF 'prelaw6.ExpandJoined'. -/
def expandJoinedUptoCard : Claim7 := { stood := { row := expandJoinedUptoRow, standIns := [], harness := (true, "9ed1f0c91f6ddb5b573767b51baaed009354d2c81d8d4f1592dbebe68225a792"), looks := true }, kinds := [], alts := [], laidByText := true, laidKinds := [.data, .data, .data], laidTests := true, laidLooks := .later }
def ExpandJoinedUptoCardSaid : Prop := Claim7.holds Tryz.pinned (.plain (OpenSpec.upto expandJoinedSpec)) expandJoinedUptoCard

/-- THE SECOND FORM's CARD OF 'prelaw6.ExpandCalls'. -/
def expandCallsUptoCard : Claim7 := { stood := { row := expandCallsUptoRow, standIns := [], harness := (true, "9ed1f0c91f6ddb5b573767b51baaed009354d2c81d8d4f1592dbebe68225a792"), looks := true }, kinds := [], alts := [], laidByText := true, laidKinds := [.data, .data, .data], laidTests := true, laidLooks := .later }
def ExpandCallsUptoCardSaid : Prop := Claim7.holds Tryz.pinned (.plain (OpenSpec.upto expandCallsSpec)) expandCallsUptoCard

/-- THE SECOND FORM's CARD OF 'prelaw6.ExpandFuel'. -/
def expandFuelUptoCard : Claim7 := { stood := { row := expandFuelUptoRow, standIns := [], harness := (true, "9ed1f0c91f6ddb5b573767b51baaed009354d2c81d8d4f1592dbebe68225a792"), looks := true }, kinds := [], alts := [], laidByText := true, laidKinds := [.data, .data, .data], laidTests := true, laidLooks := .later }
def ExpandFuelUptoCardSaid : Prop := Claim7.holds Tryz.pinned (.plain (OpenSpec.upto expandFuelSpec)) expandFuelUptoCard
end Rows
end Go.Proofs.YtjgimofnepechaaGreatDoor
