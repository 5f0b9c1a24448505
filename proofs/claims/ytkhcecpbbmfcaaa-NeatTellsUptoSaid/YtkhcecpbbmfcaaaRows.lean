/-
  No cell of these rows narrows 'for every input' (looked for: loops, veiled, ifaces, maps, wideKeys, modest, calm, conditions, laid).
  DERIVED. THE GIVEN ROWS OF THIS SEAT. 5 by the template 'for every input the law returns true; each argument reads behind the call as it read before'; 0 by the template 'total and deterministic' (their statements: YtkhcecpbbmfcaaaTotals.lean).
  GIVEN WITH THE SEED: the statements are not yours to turn. If you find one false, say at which input.
  Laid BY PROGRAM, IN A SANDBOX (cutbox-rows.mjs): the forced cells as the released guide's own fill.sh prints them over the translation 236512eb34068447… (all of the seat's roots in one cut). By AI agents, Wed Nov 11 2026. No macro, syntax, notation, axiom, sorry.
-/
import Derived.Test.YtkhcecpbbmfcaaaChecked
import GoSem.Claim
import GoSem.ClaimJoined
import GoSem.ClaimMapViews
import Derived.JoinedTies
import Derived.KernelRfl
namespace Go.Proofs.Ytkhcecpbbmfcaaa
/- THE CELL 'sum', in the pinned program and in every row, IS THE sha256 OF THE DUMP (.gsa) THAT YtkhcecpbbmfcaaaProg.lean LOADS. Nothing in Lean hashes anything: it is a label: what it is worth is what the hold of that sum in a sandbox is worth. -/
noncomputable def Try.pinned : Pinned := { name := "ytkhcecpbbmfcaaa", sum := "236512eb3406844771caafa541003806c463367252f01517ecea5118ca380087", checked := Try.checked }
namespace Rows
def none {H : Type} : Left H := { results := [], args := [] }

/-- 'prelaw12.NeatTells': WHATEVER THE INPUT: true; the input reads as it did. -/
def neatTellsSpec : ChangeSpec := { name := "neatTells", fn := fun _ => fun
  | [d] => { results := [.lit (.bool true)], args := [d] }
  | _ => none }
def neatTellsRow : OpenClaim := { program := "ytkhcecpbbmfcaaa", sum := "236512eb3406844771caafa541003806c463367252f01517ecea5118ca380087", func := "preamble/prelaw12.NeatTells", spec := "neatTells", inPlace := ["internal/abi.NoEscape", "internal/bytealg.MakeNoZero"], unfollowed := true, recurses := true, apart := false }
def NeatTellsSaid : Prop := neatTellsRow.holds Try.pinned (OpenSpec.ofChange neatTellsSpec)

/-- ITS FALSE NEIGHBOUR: 'it returns false'. Refute it at one input. -/
def neatTellsWrong : ChangeSpec := { name := "neatTells", fn := fun _ => fun
  | [d] => { results := [.lit (.bool false)], args := [d] }
  | _ => none }
def NeatTellsWrongFalsely : Prop := neatTellsRow.holds Try.pinned (OpenSpec.ofChange neatTellsWrong)

/-- 'prelaw5.MacroTells': WHATEVER THE INPUT: true; the input reads as it did. -/
def macroTellsSpec : ChangeSpec := { name := "macroTells", fn := fun _ => fun
  | [d1, d2, d3, d4] => { results := [.lit (.bool true)], args := [d1, d2, d3, d4] }
  | _ => none }
def macroTellsRow : OpenClaim := { program := "ytkhcecpbbmfcaaa", sum := "236512eb3406844771caafa541003806c463367252f01517ecea5118ca380087", func := "preamble/prelaw5.MacroTells", spec := "macroTells", inPlace := ["internal/abi.NoEscape"], unfollowed := true, recurses := true, apart := false }
def MacroTellsSaid : Prop := macroTellsRow.holds Try.pinned (OpenSpec.ofChange macroTellsSpec)

/-- ITS FALSE NEIGHBOUR: 'it returns false'. Refute it at one input. -/
def macroTellsWrong : ChangeSpec := { name := "macroTells", fn := fun _ => fun
  | [d1, d2, d3, d4] => { results := [.lit (.bool false)], args := [d1, d2, d3, d4] }
  | _ => none }
def MacroTellsWrongFalsely : Prop := macroTellsRow.holds Try.pinned (OpenSpec.ofChange macroTellsWrong)

/-- 'prelaw5.MacroDefine': WHATEVER THE INPUT: true; the input reads as it did. -/
def macroDefineSpec : ChangeSpec := { name := "macroDefine", fn := fun _ => fun
  | [d1, d2, d3] => { results := [.lit (.bool true)], args := [d1, d2, d3] }
  | _ => none }
def macroDefineRow : OpenClaim := { program := "ytkhcecpbbmfcaaa", sum := "236512eb3406844771caafa541003806c463367252f01517ecea5118ca380087", func := "preamble/prelaw5.MacroDefine", spec := "macroDefine", inPlace := ["internal/abi.NoEscape"], unfollowed := true, recurses := true, apart := false }
def MacroDefineSaid : Prop := macroDefineRow.holds Try.pinned (OpenSpec.ofChange macroDefineSpec)

/-- ITS FALSE NEIGHBOUR: 'it returns false'. Refute it at one input. -/
def macroDefineWrong : ChangeSpec := { name := "macroDefine", fn := fun _ => fun
  | [d1, d2, d3] => { results := [.lit (.bool false)], args := [d1, d2, d3] }
  | _ => none }
def MacroDefineWrongFalsely : Prop := macroDefineRow.holds Try.pinned (OpenSpec.ofChange macroDefineWrong)

/-- 'prelaw5.MacroQuote': WHATEVER THE INPUT: true; the input reads as it did. -/
def macroQuoteSpec : ChangeSpec := { name := "macroQuote", fn := fun _ => fun
  | [d] => { results := [.lit (.bool true)], args := [d] }
  | _ => none }
def macroQuoteRow : OpenClaim := { program := "ytkhcecpbbmfcaaa", sum := "236512eb3406844771caafa541003806c463367252f01517ecea5118ca380087", func := "preamble/prelaw5.MacroQuote", spec := "macroQuote", inPlace := ["internal/abi.NoEscape"], unfollowed := true, recurses := true, apart := false }
def MacroQuoteSaid : Prop := macroQuoteRow.holds Try.pinned (OpenSpec.ofChange macroQuoteSpec)

/-- ITS FALSE NEIGHBOUR: 'it returns false'. Refute it at one input. -/
def macroQuoteWrong : ChangeSpec := { name := "macroQuote", fn := fun _ => fun
  | [d] => { results := [.lit (.bool false)], args := [d] }
  | _ => none }
def MacroQuoteWrongFalsely : Prop := macroQuoteRow.holds Try.pinned (OpenSpec.ofChange macroQuoteWrong)

/-- 'prelaw5.MacroPaste': WHATEVER THE INPUT: true; the input reads as it did. -/
def macroPasteSpec : ChangeSpec := { name := "macroPaste", fn := fun _ => fun
  | [d1, d2] => { results := [.lit (.bool true)], args := [d1, d2] }
  | _ => none }
def macroPasteRow : OpenClaim := { program := "ytkhcecpbbmfcaaa", sum := "236512eb3406844771caafa541003806c463367252f01517ecea5118ca380087", func := "preamble/prelaw5.MacroPaste", spec := "macroPaste", inPlace := ["internal/abi.NoEscape"], unfollowed := true, recurses := true, apart := false }
def MacroPasteSaid : Prop := macroPasteRow.holds Try.pinned (OpenSpec.ofChange macroPasteSpec)

/-- ITS FALSE NEIGHBOUR: 'it returns false'. Refute it at one input. -/
def macroPasteWrong : ChangeSpec := { name := "macroPaste", fn := fun _ => fun
  | [d1, d2] => { results := [.lit (.bool false)], args := [d1, d2] }
  | _ => none }
def MacroPasteWrongFalsely : Prop := macroPasteRow.holds Try.pinned (OpenSpec.ofChange macroPasteWrong)

/- THE SECOND FORM. 'bulk': how many values and letters a reading holds, each counted each time it is reached (what is shared counts as often as it is met; a slice's spare places count too). A statement '..UptoSaid' is the law's where the arguments, and the package variables that the reading takes, are together of bulk at most 1048576: NARROWER than '..Said'. Prove '..Said' where nothing that the law and all that it calls make is longer than what came in: it says more and counts as full. Else prove '..UptoSaid'. A law counts once. -/
mutual
def uptoBulk {H : Type} : DataW H → Nat
  | .lit (.string bytes) => bytes.length + 1
  | .lit _ => 1
  | .nil => 1
  | .ptr d => uptoBulk d + 1
  | .slice elems spare => uptoBulkAll elems + uptoBulkAll spare + 1
  | .agg parts => uptoBulkAll parts + 1
  | .iface _ d => uptoBulk d + 1
  | .map entries => uptoBulkEntries entries + 1
  | .held _ => 1
def uptoBulkAll {H : Type} : List (DataW H) → Nat
  | [] => 0
  | d :: r => uptoBulk d + uptoBulkAll r
def uptoBulkEntries {H : Type} : List (Lit × DataW H) → Nat
  | [] => 0
  | x :: r => uptoBulkEntry x + uptoBulkEntries r
def uptoBulkEntry {H : Type} : Lit × DataW H → Nat
  | (.string bytes, d) => bytes.length + uptoBulk d + 1
  | (_, d) => uptoBulk d + 1
 end
def uptoSmall : (H : Type) → List (DataW H) → Bool := fun _ ds => decide (uptoBulkAll ds ≤ 1048576)
def OpenSpec.upto (s : _root_.Go.ChangeSpec) : _root_.Go.OpenSpec := { _root_.Go.OpenSpec.ofChange s with cond := some uptoSmall }

/-- 'prelaw12.NeatTells', WHERE WHAT IT READS IS OF BULK AT MOST 1048576: true; the input reads as it did. -/
def neatTellsUptoRow : OpenClaim := { program := "ytkhcecpbbmfcaaa", sum := "236512eb3406844771caafa541003806c463367252f01517ecea5118ca380087", func := "preamble/prelaw12.NeatTells", spec := "neatTells", inPlace := ["internal/abi.NoEscape", "internal/bytealg.MakeNoZero"], unfollowed := true, recurses := true, apart := false, narrowed := true }
def NeatTellsUptoSaid : Prop := neatTellsUptoRow.holds Try.pinned (OpenSpec.upto neatTellsSpec)

/-- 'prelaw5.MacroTells', WHERE WHAT IT READS IS OF BULK AT MOST 1048576: true; the input reads as it did. -/
def macroTellsUptoRow : OpenClaim := { program := "ytkhcecpbbmfcaaa", sum := "236512eb3406844771caafa541003806c463367252f01517ecea5118ca380087", func := "preamble/prelaw5.MacroTells", spec := "macroTells", inPlace := ["internal/abi.NoEscape"], unfollowed := true, recurses := true, apart := false, narrowed := true }
def MacroTellsUptoSaid : Prop := macroTellsUptoRow.holds Try.pinned (OpenSpec.upto macroTellsSpec)

/-- 'prelaw5.MacroDefine', WHERE WHAT IT READS IS OF BULK AT MOST 1048576: true; the input reads as it did. -/
def macroDefineUptoRow : OpenClaim := { program := "ytkhcecpbbmfcaaa", sum := "236512eb3406844771caafa541003806c463367252f01517ecea5118ca380087", func := "preamble/prelaw5.MacroDefine", spec := "macroDefine", inPlace := ["internal/abi.NoEscape"], unfollowed := true, recurses := true, apart := false, narrowed := true }
def MacroDefineUptoSaid : Prop := macroDefineUptoRow.holds Try.pinned (OpenSpec.upto macroDefineSpec)

/-- 'prelaw5.MacroQuote', WHERE WHAT IT READS IS OF BULK AT MOST 1048576: true; the input reads as it did. -/
def macroQuoteUptoRow : OpenClaim := { program := "ytkhcecpbbmfcaaa", sum := "236512eb3406844771caafa541003806c463367252f01517ecea5118ca380087", func := "preamble/prelaw5.MacroQuote", spec := "macroQuote", inPlace := ["internal/abi.NoEscape"], unfollowed := true, recurses := true, apart := false, narrowed := true }
def MacroQuoteUptoSaid : Prop := macroQuoteUptoRow.holds Try.pinned (OpenSpec.upto macroQuoteSpec)

/-- 'prelaw5.MacroPaste', WHERE WHAT IT READS IS OF BULK AT MOST 1048576: true; the input reads as it did. -/
def macroPasteUptoRow : OpenClaim := { program := "ytkhcecpbbmfcaaa", sum := "236512eb3406844771caafa541003806c463367252f01517ecea5118ca380087", func := "preamble/prelaw5.MacroPaste", spec := "macroPaste", inPlace := ["internal/abi.NoEscape"], unfollowed := true, recurses := true, apart := false, narrowed := true }
def MacroPasteUptoSaid : Prop := macroPasteUptoRow.holds Try.pinned (OpenSpec.upto macroPasteSpec)

end Rows
end Go.Proofs.Ytkhcecpbbmfcaaa
