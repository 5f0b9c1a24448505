/-
  No cell of these rows narrows 'for every input' (looked for: loops, veiled, ifaces, maps, wideKeys, modest, calm, conditions, laid).
  DERIVED. THE GIVEN ROWS OF THIS SEAT. 12 by the template 'for every input the law returns true; each argument reads behind the call as it read before'; 0 by the template 'total and deterministic' (their statements: YtgkacglpjmndbaaTotals.lean).
  GIVEN WITH THE SEED: the statements are not yours to turn. If you find one false, say at which input.
  Laid BY PROGRAM, IN A SANDBOX (cutbox-rows.mjs): the forced cells as the released guide's own fill.sh prints them over the translation e5177364ce9ce5e4… (all of the seat's roots in one cut). By AI agents, Wed Nov 11 2026. No macro, syntax, notation, axiom, sorry.
-/
import Derived.Test.YtgkacglpjmndbaaChecked
import GoSem.Claim
import GoSem.ClaimJoined
import GoSem.ClaimMapViews
import Derived.JoinedTies
import Derived.KernelRfl
namespace Go.Proofs.Ytgkacglpjmndbaa
/- THE CELL 'sum', in the pinned program and in every row, IS THE sha256 OF THE DUMP (.gsa) THAT YtgkacglpjmndbaaProg.lean LOADS. Nothing in Lean hashes anything: it is a label: what it is worth is what the hold of that sum in a sandbox is worth. -/
noncomputable def Try.pinned : Pinned := { name := "ytgkacglpjmndbaa", sum := "e5177364ce9ce5e4f01a66acae7920c3bb2d1365a0a17991f619f1446bc25c7e", checked := Try.checked }
namespace Rows
def none {H : Type} : Left H := { results := [], args := [] }

/-- 'prelaw2.SpliceTells': WHATEVER THE INPUT: true; the input reads as it did. -/
def spliceTellsSpec : ChangeSpec := { name := "spliceTells", fn := fun _ => fun
  | [d1, d2] => { results := [.lit (.bool true)], args := [d1, d2] }
  | _ => none }
def spliceTellsRow : OpenClaim := { program := "ytgkacglpjmndbaa", sum := "e5177364ce9ce5e4f01a66acae7920c3bb2d1365a0a17991f619f1446bc25c7e", func := "preamble/prelaw2.SpliceTells", spec := "spliceTells", apart := false }
def SpliceTellsSaid : Prop := spliceTellsRow.holds Try.pinned (OpenSpec.ofChange spliceTellsSpec)

/-- ITS FALSE NEIGHBOUR: 'it returns false'. Refute it at one input. -/
def spliceTellsWrong : ChangeSpec := { name := "spliceTells", fn := fun _ => fun
  | [d1, d2] => { results := [.lit (.bool false)], args := [d1, d2] }
  | _ => none }
def SpliceTellsWrongFalsely : Prop := spliceTellsRow.holds Try.pinned (OpenSpec.ofChange spliceTellsWrong)

/-- 'prelaw2.SpliceWhere': WHATEVER THE INPUT: true; the input reads as it did. -/
def spliceWhereSpec : ChangeSpec := { name := "spliceWhere", fn := fun _ => fun
  | [d] => { results := [.lit (.bool true)], args := [d] }
  | _ => none }
def spliceWhereRow : OpenClaim := { program := "ytgkacglpjmndbaa", sum := "e5177364ce9ce5e4f01a66acae7920c3bb2d1365a0a17991f619f1446bc25c7e", func := "preamble/prelaw2.SpliceWhere", spec := "spliceWhere", apart := false }
def SpliceWhereSaid : Prop := spliceWhereRow.holds Try.pinned (OpenSpec.ofChange spliceWhereSpec)

/-- ITS FALSE NEIGHBOUR: 'it returns false'. Refute it at one input. -/
def spliceWhereWrong : ChangeSpec := { name := "spliceWhere", fn := fun _ => fun
  | [d] => { results := [.lit (.bool false)], args := [d] }
  | _ => none }
def SpliceWhereWrongFalsely : Prop := spliceWhereRow.holds Try.pinned (OpenSpec.ofChange spliceWhereWrong)

/-- 'prelaw2.SpliceJoined': WHATEVER THE INPUT: true; the input reads as it did. -/
def spliceJoinedSpec : ChangeSpec := { name := "spliceJoined", fn := fun _ => fun
  | [d] => { results := [.lit (.bool true)], args := [d] }
  | _ => none }
def spliceJoinedRow : OpenClaim := { program := "ytgkacglpjmndbaa", sum := "e5177364ce9ce5e4f01a66acae7920c3bb2d1365a0a17991f619f1446bc25c7e", func := "preamble/prelaw2.SpliceJoined", spec := "spliceJoined", apart := false }
def SpliceJoinedSaid : Prop := spliceJoinedRow.holds Try.pinned (OpenSpec.ofChange spliceJoinedSpec)

/-- ITS FALSE NEIGHBOUR: 'it returns false'. Refute it at one input. -/
def spliceJoinedWrong : ChangeSpec := { name := "spliceJoined", fn := fun _ => fun
  | [d] => { results := [.lit (.bool false)], args := [d] }
  | _ => none }
def SpliceJoinedWrongFalsely : Prop := spliceJoinedRow.holds Try.pinned (OpenSpec.ofChange spliceJoinedWrong)

/-- 'prelaw8.OriginTells': WHATEVER THE INPUT: true; the input reads as it did. -/
def originTellsSpec : ChangeSpec := { name := "originTells", fn := fun _ => fun
  | [d1, d2, d3, d4] => { results := [.lit (.bool true)], args := [d1, d2, d3, d4] }
  | _ => none }
def originTellsRow : OpenClaim := { program := "ytgkacglpjmndbaa", sum := "e5177364ce9ce5e4f01a66acae7920c3bb2d1365a0a17991f619f1446bc25c7e", func := "preamble/prelaw8.OriginTells", spec := "originTells", apart := false }
def OriginTellsSaid : Prop := originTellsRow.holds Try.pinned (OpenSpec.ofChange originTellsSpec)

/-- ITS FALSE NEIGHBOUR: 'it returns false'. Refute it at one input. -/
def originTellsWrong : ChangeSpec := { name := "originTells", fn := fun _ => fun
  | [d1, d2, d3, d4] => { results := [.lit (.bool false)], args := [d1, d2, d3, d4] }
  | _ => none }
def OriginTellsWrongFalsely : Prop := originTellsRow.holds Try.pinned (OpenSpec.ofChange originTellsWrong)

/-- 'prelaw3.LexTells': WHATEVER THE INPUT: true; the input reads as it did. -/
def lexTellsSpec : ChangeSpec := { name := "lexTells", fn := fun _ => fun
  | [d1, d2, d3, d4] => { results := [.lit (.bool true)], args := [d1, d2, d3, d4] }
  | _ => none }
def lexTellsRow : OpenClaim := { program := "ytgkacglpjmndbaa", sum := "e5177364ce9ce5e4f01a66acae7920c3bb2d1365a0a17991f619f1446bc25c7e", func := "preamble/prelaw3.LexTells", spec := "lexTells", unfollowed := true, recurses := true, apart := false }
def LexTellsSaid : Prop := lexTellsRow.holds Try.pinned (OpenSpec.ofChange lexTellsSpec)

/-- ITS FALSE NEIGHBOUR: 'it returns false'. Refute it at one input. -/
def lexTellsWrong : ChangeSpec := { name := "lexTells", fn := fun _ => fun
  | [d1, d2, d3, d4] => { results := [.lit (.bool false)], args := [d1, d2, d3, d4] }
  | _ => none }
def LexTellsWrongFalsely : Prop := lexTellsRow.holds Try.pinned (OpenSpec.ofChange lexTellsWrong)

/-- 'prelaw3.LexStands': WHATEVER THE INPUT: true; the input reads as it did. -/
def lexStandsSpec : ChangeSpec := { name := "lexStands", fn := fun _ => fun
  | [d] => { results := [.lit (.bool true)], args := [d] }
  | _ => none }
def lexStandsRow : OpenClaim := { program := "ytgkacglpjmndbaa", sum := "e5177364ce9ce5e4f01a66acae7920c3bb2d1365a0a17991f619f1446bc25c7e", func := "preamble/prelaw3.LexStands", spec := "lexStands", unfollowed := true, recurses := true, apart := false }
def LexStandsSaid : Prop := lexStandsRow.holds Try.pinned (OpenSpec.ofChange lexStandsSpec)

/-- ITS FALSE NEIGHBOUR: 'it returns false'. Refute it at one input. -/
def lexStandsWrong : ChangeSpec := { name := "lexStands", fn := fun _ => fun
  | [d] => { results := [.lit (.bool false)], args := [d] }
  | _ => none }
def LexStandsWrongFalsely : Prop := lexStandsRow.holds Try.pinned (OpenSpec.ofChange lexStandsWrong)

/-- 'prelaw3.LexAgain': WHATEVER THE INPUT: true; the input reads as it did. -/
def lexAgainSpec : ChangeSpec := { name := "lexAgain", fn := fun _ => fun
  | [d] => { results := [.lit (.bool true)], args := [d] }
  | _ => none }
def lexAgainRow : OpenClaim := { program := "ytgkacglpjmndbaa", sum := "e5177364ce9ce5e4f01a66acae7920c3bb2d1365a0a17991f619f1446bc25c7e", func := "preamble/prelaw3.LexAgain", spec := "lexAgain", unfollowed := true, recurses := true, apart := false }
def LexAgainSaid : Prop := lexAgainRow.holds Try.pinned (OpenSpec.ofChange lexAgainSpec)

/-- ITS FALSE NEIGHBOUR: 'it returns false'. Refute it at one input. -/
def lexAgainWrong : ChangeSpec := { name := "lexAgain", fn := fun _ => fun
  | [d] => { results := [.lit (.bool false)], args := [d] }
  | _ => none }
def LexAgainWrongFalsely : Prop := lexAgainRow.holds Try.pinned (OpenSpec.ofChange lexAgainWrong)

/-- 'prelaw3.LexBlank': WHATEVER THE INPUT: true; the input reads as it did. -/
def lexBlankSpec : ChangeSpec := { name := "lexBlank", fn := fun _ => fun
  | [d] => { results := [.lit (.bool true)], args := [d] }
  | _ => none }
def lexBlankRow : OpenClaim := { program := "ytgkacglpjmndbaa", sum := "e5177364ce9ce5e4f01a66acae7920c3bb2d1365a0a17991f619f1446bc25c7e", func := "preamble/prelaw3.LexBlank", spec := "lexBlank", unfollowed := true, recurses := true, apart := false }
def LexBlankSaid : Prop := lexBlankRow.holds Try.pinned (OpenSpec.ofChange lexBlankSpec)

/-- ITS FALSE NEIGHBOUR: 'it returns false'. Refute it at one input. -/
def lexBlankWrong : ChangeSpec := { name := "lexBlank", fn := fun _ => fun
  | [d] => { results := [.lit (.bool false)], args := [d] }
  | _ => none }
def LexBlankWrongFalsely : Prop := lexBlankRow.holds Try.pinned (OpenSpec.ofChange lexBlankWrong)

/-- 'prelaw9.TreeTells': WHATEVER THE INPUT: true; the input reads as it did. -/
def treeTellsSpec : ChangeSpec := { name := "treeTells", fn := fun _ => fun
  | [d1, d2] => { results := [.lit (.bool true)], args := [d1, d2] }
  | _ => none }
def treeTellsRow : OpenClaim := { program := "ytgkacglpjmndbaa", sum := "e5177364ce9ce5e4f01a66acae7920c3bb2d1365a0a17991f619f1446bc25c7e", func := "preamble/prelaw9.TreeTells", spec := "treeTells", unfollowed := true, recurses := true, apart := false }
def TreeTellsSaid : Prop := treeTellsRow.holds Try.pinned (OpenSpec.ofChange treeTellsSpec)

/-- ITS FALSE NEIGHBOUR: 'it returns false'. Refute it at one input. -/
def treeTellsWrong : ChangeSpec := { name := "treeTells", fn := fun _ => fun
  | [d1, d2] => { results := [.lit (.bool false)], args := [d1, d2] }
  | _ => none }
def TreeTellsWrongFalsely : Prop := treeTellsRow.holds Try.pinned (OpenSpec.ofChange treeTellsWrong)

/-- 'prelaw9.TreeWhole': WHATEVER THE INPUT: true; the input reads as it did. -/
def treeWholeSpec : ChangeSpec := { name := "treeWhole", fn := fun _ => fun
  | [d] => { results := [.lit (.bool true)], args := [d] }
  | _ => none }
def treeWholeRow : OpenClaim := { program := "ytgkacglpjmndbaa", sum := "e5177364ce9ce5e4f01a66acae7920c3bb2d1365a0a17991f619f1446bc25c7e", func := "preamble/prelaw9.TreeWhole", spec := "treeWhole", unfollowed := true, recurses := true, apart := false }
def TreeWholeSaid : Prop := treeWholeRow.holds Try.pinned (OpenSpec.ofChange treeWholeSpec)

/-- ITS FALSE NEIGHBOUR: 'it returns false'. Refute it at one input. -/
def treeWholeWrong : ChangeSpec := { name := "treeWhole", fn := fun _ => fun
  | [d] => { results := [.lit (.bool false)], args := [d] }
  | _ => none }
def TreeWholeWrongFalsely : Prop := treeWholeRow.holds Try.pinned (OpenSpec.ofChange treeWholeWrong)

/-- 'prelaw9.TreeJoined': WHATEVER THE INPUT: true; the input reads as it did. -/
def treeJoinedSpec : ChangeSpec := { name := "treeJoined", fn := fun _ => fun
  | [d1, d2] => { results := [.lit (.bool true)], args := [d1, d2] }
  | _ => none }
def treeJoinedRow : OpenClaim := { program := "ytgkacglpjmndbaa", sum := "e5177364ce9ce5e4f01a66acae7920c3bb2d1365a0a17991f619f1446bc25c7e", func := "preamble/prelaw9.TreeJoined", spec := "treeJoined", unfollowed := true, recurses := true, apart := false }
def TreeJoinedSaid : Prop := treeJoinedRow.holds Try.pinned (OpenSpec.ofChange treeJoinedSpec)

/-- ITS FALSE NEIGHBOUR: 'it returns false'. Refute it at one input. -/
def treeJoinedWrong : ChangeSpec := { name := "treeJoined", fn := fun _ => fun
  | [d1, d2] => { results := [.lit (.bool false)], args := [d1, d2] }
  | _ => none }
def TreeJoinedWrongFalsely : Prop := treeJoinedRow.holds Try.pinned (OpenSpec.ofChange treeJoinedWrong)

/-- 'prelaw12.NeatTells': WHATEVER THE INPUT: true; the input reads as it did. -/
def neatTellsSpec : ChangeSpec := { name := "neatTells", fn := fun _ => fun
  | [d] => { results := [.lit (.bool true)], args := [d] }
  | _ => none }
def neatTellsRow : OpenClaim := { program := "ytgkacglpjmndbaa", sum := "e5177364ce9ce5e4f01a66acae7920c3bb2d1365a0a17991f619f1446bc25c7e", func := "preamble/prelaw12.NeatTells", spec := "neatTells", inPlace := ["internal/abi.NoEscape", "internal/bytealg.MakeNoZero"], unfollowed := true, recurses := true, apart := false }
def NeatTellsSaid : Prop := neatTellsRow.holds Try.pinned (OpenSpec.ofChange neatTellsSpec)

/-- ITS FALSE NEIGHBOUR: 'it returns false'. Refute it at one input. -/
def neatTellsWrong : ChangeSpec := { name := "neatTells", fn := fun _ => fun
  | [d] => { results := [.lit (.bool false)], args := [d] }
  | _ => none }
def NeatTellsWrongFalsely : Prop := neatTellsRow.holds Try.pinned (OpenSpec.ofChange neatTellsWrong)

/- THE SECOND FORM. 'bulk': how many values and letters a reading holds, each counted each time it is reached (what is shared counts as often as it is met; a slice's spare places count too). A statement '..UptoSaid' is the law's where the arguments, and the package variables that the reading takes, are together of bulk at most 1048576: NARROWER than '..Said'. Prove '..Said' where nothing that the law and all that it calls make is longer than what came in: it says more and counts as full. Else prove '..UptoSaid'. A law counts once. -/
mutual
def uptoBulk {H : Type} : DataW H → Nat
  | .lit (.string bytes) => bytes.length + 1
  | .lit _ => 1
  | .nil => 1
  | .ptr d => uptoBulk d + 1
  | .slice elems spare => uptoBulkAll elems + uptoBulkAll spare + 1
  | .agg parts => uptoBulkAll parts + 1
  | .iface _ d => uptoBulk d + 1
  | .map entries => uptoBulkEntries entries + 1
  | .held _ => 1
def uptoBulkAll {H : Type} : List (DataW H) → Nat
  | [] => 0
  | d :: r => uptoBulk d + uptoBulkAll r
def uptoBulkEntries {H : Type} : List (Lit × DataW H) → Nat
  | [] => 0
  | x :: r => uptoBulkEntry x + uptoBulkEntries r
def uptoBulkEntry {H : Type} : Lit × DataW H → Nat
  | (.string bytes, d) => bytes.length + uptoBulk d + 1
  | (_, d) => uptoBulk d + 1
 end
def uptoSmall : (H : Type) → List (DataW H) → Bool := fun _ ds => decide (uptoBulkAll ds ≤ 1048576)
def OpenSpec.upto (s : _root_.Go.ChangeSpec) : _root_.Go.OpenSpec := { _root_.Go.OpenSpec.ofChange s with cond := some uptoSmall }

/-- 'prelaw2.SpliceTells', WHERE WHAT IT READS IS OF BULK AT MOST 1048576: true; the input reads as it did. -/
def spliceTellsUptoRow : OpenClaim := { program := "ytgkacglpjmndbaa", sum := "e5177364ce9ce5e4f01a66acae7920c3bb2d1365a0a17991f619f1446bc25c7e", func := "preamble/prelaw2.SpliceTells", spec := "spliceTells", apart := false, narrowed := true }
def SpliceTellsUptoSaid : Prop := spliceTellsUptoRow.holds Try.pinned (OpenSpec.upto spliceTellsSpec)

/-- 'prelaw2.SpliceWhere', WHERE WHAT IT READS IS OF BULK AT MOST 1048576: true; the input reads as it did. -/
def spliceWhereUptoRow : OpenClaim := { program := "ytgkacglpjmndbaa", sum := "e5177364ce9ce5e4f01a66acae7920c3bb2d1365a0a17991f619f1446bc25c7e", func := "preamble/prelaw2.SpliceWhere", spec := "spliceWhere", apart := false, narrowed := true }
def SpliceWhereUptoSaid : Prop := spliceWhereUptoRow.holds Try.pinned (OpenSpec.upto spliceWhereSpec)

/-- 'prelaw2.SpliceJoined', WHERE WHAT IT READS IS OF BULK AT MOST 1048576: true; the input reads as it did. -/
def spliceJoinedUptoRow : OpenClaim := { program := "ytgkacglpjmndbaa", sum := "e5177364ce9ce5e4f01a66acae7920c3bb2d1365a0a17991f619f1446bc25c7e", func := "preamble/prelaw2.SpliceJoined", spec := "spliceJoined", apart := false, narrowed := true }
def SpliceJoinedUptoSaid : Prop := spliceJoinedUptoRow.holds Try.pinned (OpenSpec.upto spliceJoinedSpec)

/-- 'prelaw8.OriginTells', WHERE WHAT IT READS IS OF BULK AT MOST 1048576: true; the input reads as it did. -/
def originTellsUptoRow : OpenClaim := { program := "ytgkacglpjmndbaa", sum := "e5177364ce9ce5e4f01a66acae7920c3bb2d1365a0a17991f619f1446bc25c7e", func := "preamble/prelaw8.OriginTells", spec := "originTells", apart := false, narrowed := true }
def OriginTellsUptoSaid : Prop := originTellsUptoRow.holds Try.pinned (OpenSpec.upto originTellsSpec)

/-- 'prelaw3.LexTells', WHERE WHAT IT READS IS OF BULK AT MOST 1048576: true; the input reads as it did. -/
def lexTellsUptoRow : OpenClaim := { program := "ytgkacglpjmndbaa", sum := "e5177364ce9ce5e4f01a66acae7920c3bb2d1365a0a17991f619f1446bc25c7e", func := "preamble/prelaw3.LexTells", spec := "lexTells", unfollowed := true, recurses := true, apart := false, narrowed := true }
def LexTellsUptoSaid : Prop := lexTellsUptoRow.holds Try.pinned (OpenSpec.upto lexTellsSpec)

/-- 'prelaw3.LexStands', WHERE WHAT IT READS IS OF BULK AT MOST 1048576: true; the input reads as it did. -/
def lexStandsUptoRow : OpenClaim := { program := "ytgkacglpjmndbaa", sum := "e5177364ce9ce5e4f01a66acae7920c3bb2d1365a0a17991f619f1446bc25c7e", func := "preamble/prelaw3.LexStands", spec := "lexStands", unfollowed := true, recurses := true, apart := false, narrowed := true }
def LexStandsUptoSaid : Prop := lexStandsUptoRow.holds Try.pinned (OpenSpec.upto lexStandsSpec)

/-- 'prelaw3.LexAgain', WHERE WHAT IT READS IS OF BULK AT MOST 1048576: true; the input reads as it did. -/
def lexAgainUptoRow : OpenClaim := { program := "ytgkacglpjmndbaa", sum := "e5177364ce9ce5e4f01a66acae7920c3bb2d1365a0a17991f619f1446bc25c7e", func := "preamble/prelaw3.LexAgain", spec := "lexAgain", unfollowed := true, recurses := true, apart := false, narrowed := true }
def LexAgainUptoSaid : Prop := lexAgainUptoRow.holds Try.pinned (OpenSpec.upto lexAgainSpec)

/-- 'prelaw3.LexBlank', WHERE WHAT IT READS IS OF BULK AT MOST 1048576: true; the input reads as it did. -/
def lexBlankUptoRow : OpenClaim := { program := "ytgkacglpjmndbaa", sum := "e5177364ce9ce5e4f01a66acae7920c3bb2d1365a0a17991f619f1446bc25c7e", func := "preamble/prelaw3.LexBlank", spec := "lexBlank", unfollowed := true, recurses := true, apart := false, narrowed := true }
def LexBlankUptoSaid : Prop := lexBlankUptoRow.holds Try.pinned (OpenSpec.upto lexBlankSpec)

/-- 'prelaw9.TreeTells', WHERE WHAT IT READS IS OF BULK AT MOST 1048576: true; the input reads as it did. -/
def treeTellsUptoRow : OpenClaim := { program := "ytgkacglpjmndbaa", sum := "e5177364ce9ce5e4f01a66acae7920c3bb2d1365a0a17991f619f1446bc25c7e", func := "preamble/prelaw9.TreeTells", spec := "treeTells", unfollowed := true, recurses := true, apart := false, narrowed := true }
def TreeTellsUptoSaid : Prop := treeTellsUptoRow.holds Try.pinned (OpenSpec.upto treeTellsSpec)

/-- 'prelaw9.TreeWhole', WHERE WHAT IT READS IS OF BULK AT MOST 1048576: true; the input reads as it did. -/
def treeWholeUptoRow : OpenClaim := { program := "ytgkacglpjmndbaa", sum := "e5177364ce9ce5e4f01a66acae7920c3bb2d1365a0a17991f619f1446bc25c7e", func := "preamble/prelaw9.TreeWhole", spec := "treeWhole", unfollowed := true, recurses := true, apart := false, narrowed := true }
def TreeWholeUptoSaid : Prop := treeWholeUptoRow.holds Try.pinned (OpenSpec.upto treeWholeSpec)

/-- 'prelaw9.TreeJoined', WHERE WHAT IT READS IS OF BULK AT MOST 1048576: true; the input reads as it did. -/
def treeJoinedUptoRow : OpenClaim := { program := "ytgkacglpjmndbaa", sum := "e5177364ce9ce5e4f01a66acae7920c3bb2d1365a0a17991f619f1446bc25c7e", func := "preamble/prelaw9.TreeJoined", spec := "treeJoined", unfollowed := true, recurses := true, apart := false, narrowed := true }
def TreeJoinedUptoSaid : Prop := treeJoinedUptoRow.holds Try.pinned (OpenSpec.upto treeJoinedSpec)

/-- 'prelaw12.NeatTells', WHERE WHAT IT READS IS OF BULK AT MOST 1048576: true; the input reads as it did. -/
def neatTellsUptoRow : OpenClaim := { program := "ytgkacglpjmndbaa", sum := "e5177364ce9ce5e4f01a66acae7920c3bb2d1365a0a17991f619f1446bc25c7e", func := "preamble/prelaw12.NeatTells", spec := "neatTells", inPlace := ["internal/abi.NoEscape", "internal/bytealg.MakeNoZero"], unfollowed := true, recurses := true, apart := false, narrowed := true }
def NeatTellsUptoSaid : Prop := neatTellsUptoRow.holds Try.pinned (OpenSpec.upto neatTellsSpec)

end Rows
end Go.Proofs.Ytgkacglpjmndbaa
