/-
  No cell of these rows narrows 'for every input' (looked for: loops, veiled, ifaces, maps, wideKeys, modest, calm, conditions, laid).
  DERIVED. THE GIVEN ROWS OF THIS SEAT. 9 by the template 'for every input the law returns true; each argument reads behind the call as it read before'; 0 by the template 'total and deterministic' (their statements: YtfbanppdiglciaaTotals.lean).
  GIVEN WITH THE SEED: the statements are not yours to turn. If you find one false, say at which input.
  Laid BY PROGRAM, IN A SANDBOX (cutbox-rows.mjs): the forced cells as the released guide's own fill.sh prints them over the translation c8743d913ba0351e… (all of the seat's roots in one cut). By AI agents, Wed Nov 11 2026. No macro, syntax, notation, axiom, sorry.
-/
import Derived.Test.YtfbanppdiglciaaChecked
import GoSem.Claim
import GoSem.ClaimJoined
import GoSem.ClaimMapViews
import Derived.JoinedTies
import Derived.KernelRfl
namespace Go.Proofs.Ytfbanppdiglciaa
/- THE CELL 'sum', in the pinned program and in every row, IS THE sha256 OF THE DUMP (.gsa) THAT YtfbanppdiglciaaProg.lean LOADS. Nothing in Lean hashes anything: it is a label: what it is worth is what the hold of that sum in a sandbox is worth. -/
noncomputable def Try.pinned : Pinned := { name := "ytfbanppdiglciaa", sum := "c8743d913ba0351ee9ce7c7389d7f9aa579f3aa6c0b3a7fff6ccb0370426211f", checked := Try.checked }
namespace Rows
def none {H : Type} : Left H := { results := [], args := [] }

/-- 'seriflaw19.OptimalNames': WHATEVER THE INPUT: true; the input reads as it did. -/
def optimalNamesSpec : ChangeSpec := { name := "optimalNames", fn := fun _ => fun
  | [] => { results := [.lit (.bool true)], args := [] }
  | _ => none }
def optimalNamesRow : OpenClaim := { program := "ytfbanppdiglciaa", sum := "c8743d913ba0351ee9ce7c7389d7f9aa579f3aa6c0b3a7fff6ccb0370426211f", func := "serif/seriflaw19.OptimalNames", spec := "optimalNames", apart := false }
def OptimalNamesSaid : Prop := optimalNamesRow.holds Try.pinned (OpenSpec.ofChange optimalNamesSpec)

/-- ITS FALSE NEIGHBOUR: 'it returns false'. Refute it at one input. -/
def optimalNamesWrong : ChangeSpec := { name := "optimalNames", fn := fun _ => fun
  | [] => { results := [.lit (.bool false)], args := [] }
  | _ => none }
def OptimalNamesWrongFalsely : Prop := optimalNamesRow.holds Try.pinned (OpenSpec.ofChange optimalNamesWrong)

/-- 'seriflaw19.OptimalBest': WHATEVER THE INPUT: true; the input reads as it did. -/
def optimalBestSpec : ChangeSpec := { name := "optimalBest", fn := fun _ => fun
  | [d1, d2, d3] => { results := [.lit (.bool true)], args := [d1, d2, d3] }
  | _ => none }
def optimalBestRow : OpenClaim := { program := "ytfbanppdiglciaa", sum := "c8743d913ba0351ee9ce7c7389d7f9aa579f3aa6c0b3a7fff6ccb0370426211f", func := "serif/seriflaw19.OptimalBest", spec := "optimalBest", apart := false }
def OptimalBestSaid : Prop := optimalBestRow.holds Try.pinned (OpenSpec.ofChange optimalBestSpec)

/-- ITS FALSE NEIGHBOUR: 'it returns false'. Refute it at one input. -/
def optimalBestWrong : ChangeSpec := { name := "optimalBest", fn := fun _ => fun
  | [d1, d2, d3] => { results := [.lit (.bool false)], args := [d1, d2, d3] }
  | _ => none }
def OptimalBestWrongFalsely : Prop := optimalBestRow.holds Try.pinned (OpenSpec.ofChange optimalBestWrong)

/-- 'seriflaw19.OptimalLeast': WHATEVER THE INPUT: true; the input reads as it did. -/
def optimalLeastSpec : ChangeSpec := { name := "optimalLeast", fn := fun _ => fun
  | [d1, d2, d3] => { results := [.lit (.bool true)], args := [d1, d2, d3] }
  | _ => none }
def optimalLeastRow : OpenClaim := { program := "ytfbanppdiglciaa", sum := "c8743d913ba0351ee9ce7c7389d7f9aa579f3aa6c0b3a7fff6ccb0370426211f", func := "serif/seriflaw19.OptimalLeast", spec := "optimalLeast", apart := false }
def OptimalLeastSaid : Prop := optimalLeastRow.holds Try.pinned (OpenSpec.ofChange optimalLeastSpec)

/-- ITS FALSE NEIGHBOUR: 'it returns false'. Refute it at one input. -/
def optimalLeastWrong : ChangeSpec := { name := "optimalLeast", fn := fun _ => fun
  | [d1, d2, d3] => { results := [.lit (.bool false)], args := [d1, d2, d3] }
  | _ => none }
def OptimalLeastWrongFalsely : Prop := optimalLeastRow.holds Try.pinned (OpenSpec.ofChange optimalLeastWrong)

/-- 'seriflaw19.OptimalCovers': WHATEVER THE INPUT: true; the input reads as it did. -/
def optimalCoversSpec : ChangeSpec := { name := "optimalCovers", fn := fun _ => fun
  | [d1, d2, d3] => { results := [.lit (.bool true)], args := [d1, d2, d3] }
  | _ => none }
def optimalCoversRow : OpenClaim := { program := "ytfbanppdiglciaa", sum := "c8743d913ba0351ee9ce7c7389d7f9aa579f3aa6c0b3a7fff6ccb0370426211f", func := "serif/seriflaw19.OptimalCovers", spec := "optimalCovers", apart := false }
def OptimalCoversSaid : Prop := optimalCoversRow.holds Try.pinned (OpenSpec.ofChange optimalCoversSpec)

/-- ITS FALSE NEIGHBOUR: 'it returns false'. Refute it at one input. -/
def optimalCoversWrong : ChangeSpec := { name := "optimalCovers", fn := fun _ => fun
  | [d1, d2, d3] => { results := [.lit (.bool false)], args := [d1, d2, d3] }
  | _ => none }
def OptimalCoversWrongFalsely : Prop := optimalCoversRow.holds Try.pinned (OpenSpec.ofChange optimalCoversWrong)

/-- 'seriflaw20.JustifySets': WHATEVER THE INPUT: true; the input reads as it did. -/
def justifySetsSpec : ChangeSpec := { name := "justifySets", fn := fun _ => fun
  | [d1, d2, d3] => { results := [.lit (.bool true)], args := [d1, d2, d3] }
  | _ => none }
def justifySetsRow : OpenClaim := { program := "ytfbanppdiglciaa", sum := "c8743d913ba0351ee9ce7c7389d7f9aa579f3aa6c0b3a7fff6ccb0370426211f", func := "serif/seriflaw20.JustifySets", spec := "justifySets", unfollowed := true, recurses := true, named := ["math/bits.divideError", "math/bits.overflowError"], apart := false }
def JustifySetsSaid : Prop := justifySetsRow.holds Try.pinned (OpenSpec.ofChange justifySetsSpec)

/-- ITS FALSE NEIGHBOUR: 'it returns false'. Refute it at one input. -/
def justifySetsWrong : ChangeSpec := { name := "justifySets", fn := fun _ => fun
  | [d1, d2, d3] => { results := [.lit (.bool false)], args := [d1, d2, d3] }
  | _ => none }
def JustifySetsWrongFalsely : Prop := justifySetsRow.holds Try.pinned (OpenSpec.ofChange justifySetsWrong)

/-- 'seriflaw20.JustifyFair': WHATEVER THE INPUT: true; the input reads as it did. -/
def justifyFairSpec : ChangeSpec := { name := "justifyFair", fn := fun _ => fun
  | [d1, d2, d3] => { results := [.lit (.bool true)], args := [d1, d2, d3] }
  | _ => none }
def justifyFairRow : OpenClaim := { program := "ytfbanppdiglciaa", sum := "c8743d913ba0351ee9ce7c7389d7f9aa579f3aa6c0b3a7fff6ccb0370426211f", func := "serif/seriflaw20.JustifyFair", spec := "justifyFair", unfollowed := true, recurses := true, named := ["math/bits.divideError", "math/bits.overflowError"], apart := false }
def JustifyFairSaid : Prop := justifyFairRow.holds Try.pinned (OpenSpec.ofChange justifyFairSpec)

/-- ITS FALSE NEIGHBOUR: 'it returns false'. Refute it at one input. -/
def justifyFairWrong : ChangeSpec := { name := "justifyFair", fn := fun _ => fun
  | [d1, d2, d3] => { results := [.lit (.bool false)], args := [d1, d2, d3] }
  | _ => none }
def JustifyFairWrongFalsely : Prop := justifyFairRow.holds Try.pinned (OpenSpec.ofChange justifyFairWrong)

/-- 'seriflaw20.JustifyShifts': WHATEVER THE INPUT: true; the input reads as it did. -/
def justifyShiftsSpec : ChangeSpec := { name := "justifyShifts", fn := fun _ => fun
  | [d1, d2, d3] => { results := [.lit (.bool true)], args := [d1, d2, d3] }
  | _ => none }
def justifyShiftsRow : OpenClaim := { program := "ytfbanppdiglciaa", sum := "c8743d913ba0351ee9ce7c7389d7f9aa579f3aa6c0b3a7fff6ccb0370426211f", func := "serif/seriflaw20.JustifyShifts", spec := "justifyShifts", unfollowed := true, recurses := true, named := ["math/bits.divideError", "math/bits.overflowError"], apart := false }
def JustifyShiftsSaid : Prop := justifyShiftsRow.holds Try.pinned (OpenSpec.ofChange justifyShiftsSpec)

/-- ITS FALSE NEIGHBOUR: 'it returns false'. Refute it at one input. -/
def justifyShiftsWrong : ChangeSpec := { name := "justifyShifts", fn := fun _ => fun
  | [d1, d2, d3] => { results := [.lit (.bool false)], args := [d1, d2, d3] }
  | _ => none }
def JustifyShiftsWrongFalsely : Prop := justifyShiftsRow.holds Try.pinned (OpenSpec.ofChange justifyShiftsWrong)

/-- 'seriflaw20.JustifySums': WHATEVER THE INPUT: true; the input reads as it did. -/
def justifySumsSpec : ChangeSpec := { name := "justifySums", fn := fun _ => fun
  | [d1, d2, d3] => { results := [.lit (.bool true)], args := [d1, d2, d3] }
  | _ => none }
def justifySumsRow : OpenClaim := { program := "ytfbanppdiglciaa", sum := "c8743d913ba0351ee9ce7c7389d7f9aa579f3aa6c0b3a7fff6ccb0370426211f", func := "serif/seriflaw20.JustifySums", spec := "justifySums", unfollowed := true, recurses := true, named := ["math/bits.divideError", "math/bits.overflowError"], apart := false }
def JustifySumsSaid : Prop := justifySumsRow.holds Try.pinned (OpenSpec.ofChange justifySumsSpec)

/-- ITS FALSE NEIGHBOUR: 'it returns false'. Refute it at one input. -/
def justifySumsWrong : ChangeSpec := { name := "justifySums", fn := fun _ => fun
  | [d1, d2, d3] => { results := [.lit (.bool false)], args := [d1, d2, d3] }
  | _ => none }
def JustifySumsWrongFalsely : Prop := justifySumsRow.holds Try.pinned (OpenSpec.ofChange justifySumsWrong)

/-- 'seriflaw20.JustifyParagraphs': WHATEVER THE INPUT: true; the input reads as it did. -/
def justifyParagraphsSpec : ChangeSpec := { name := "justifyParagraphs", fn := fun _ => fun
  | [d1, d2, d3] => { results := [.lit (.bool true)], args := [d1, d2, d3] }
  | _ => none }
def justifyParagraphsRow : OpenClaim := { program := "ytfbanppdiglciaa", sum := "c8743d913ba0351ee9ce7c7389d7f9aa579f3aa6c0b3a7fff6ccb0370426211f", func := "serif/seriflaw20.JustifyParagraphs", spec := "justifyParagraphs", unfollowed := true, recurses := true, named := ["math/bits.divideError", "math/bits.overflowError"], apart := false }
def JustifyParagraphsSaid : Prop := justifyParagraphsRow.holds Try.pinned (OpenSpec.ofChange justifyParagraphsSpec)

/-- ITS FALSE NEIGHBOUR: 'it returns false'. Refute it at one input. -/
def justifyParagraphsWrong : ChangeSpec := { name := "justifyParagraphs", fn := fun _ => fun
  | [d1, d2, d3] => { results := [.lit (.bool false)], args := [d1, d2, d3] }
  | _ => none }
def JustifyParagraphsWrongFalsely : Prop := justifyParagraphsRow.holds Try.pinned (OpenSpec.ofChange justifyParagraphsWrong)

/- THE SECOND FORM. 'bulk': how many values and letters a reading holds, each counted each time it is reached (what is shared counts as often as it is met; a slice's spare places count too). A statement '..UptoSaid' is the law's where the arguments, and the package variables that the reading takes, are together of bulk at most 1048576: NARROWER than '..Said'. Prove '..Said' where nothing that the law and all that it calls make is longer than what came in: it says more and counts as full. Else prove '..UptoSaid'. A law counts once. -/
mutual
def uptoBulk {H : Type} : DataW H → Nat
  | .lit (.string bytes) => bytes.length + 1
  | .lit _ => 1
  | .nil => 1
  | .ptr d => uptoBulk d + 1
  | .slice elems spare => uptoBulkAll elems + uptoBulkAll spare + 1
  | .agg parts => uptoBulkAll parts + 1
  | .iface _ d => uptoBulk d + 1
  | .map entries => uptoBulkEntries entries + 1
  | .held _ => 1
def uptoBulkAll {H : Type} : List (DataW H) → Nat
  | [] => 0
  | d :: r => uptoBulk d + uptoBulkAll r
def uptoBulkEntries {H : Type} : List (Lit × DataW H) → Nat
  | [] => 0
  | x :: r => uptoBulkEntry x + uptoBulkEntries r
def uptoBulkEntry {H : Type} : Lit × DataW H → Nat
  | (.string bytes, d) => bytes.length + uptoBulk d + 1
  | (_, d) => uptoBulk d + 1
 end
def uptoSmall : (H : Type) → List (DataW H) → Bool := fun _ ds => decide (uptoBulkAll ds ≤ 1048576)
def OpenSpec.upto (s : _root_.Go.ChangeSpec) : _root_.Go.OpenSpec := { _root_.Go.OpenSpec.ofChange s with cond := some uptoSmall }

/-- 'seriflaw19.OptimalNames', WHERE WHAT IT READS IS OF BULK AT MOST 1048576: true; the input reads as it did. -/
def optimalNamesUptoRow : OpenClaim := { program := "ytfbanppdiglciaa", sum := "c8743d913ba0351ee9ce7c7389d7f9aa579f3aa6c0b3a7fff6ccb0370426211f", func := "serif/seriflaw19.OptimalNames", spec := "optimalNames", apart := false, narrowed := true }
def OptimalNamesUptoSaid : Prop := optimalNamesUptoRow.holds Try.pinned (OpenSpec.upto optimalNamesSpec)

/-- 'seriflaw19.OptimalBest', WHERE WHAT IT READS IS OF BULK AT MOST 1048576: true; the input reads as it did. -/
def optimalBestUptoRow : OpenClaim := { program := "ytfbanppdiglciaa", sum := "c8743d913ba0351ee9ce7c7389d7f9aa579f3aa6c0b3a7fff6ccb0370426211f", func := "serif/seriflaw19.OptimalBest", spec := "optimalBest", apart := false, narrowed := true }
def OptimalBestUptoSaid : Prop := optimalBestUptoRow.holds Try.pinned (OpenSpec.upto optimalBestSpec)

/-- 'seriflaw19.OptimalLeast', WHERE WHAT IT READS IS OF BULK AT MOST 1048576: true; the input reads as it did. -/
def optimalLeastUptoRow : OpenClaim := { program := "ytfbanppdiglciaa", sum := "c8743d913ba0351ee9ce7c7389d7f9aa579f3aa6c0b3a7fff6ccb0370426211f", func := "serif/seriflaw19.OptimalLeast", spec := "optimalLeast", apart := false, narrowed := true }
def OptimalLeastUptoSaid : Prop := optimalLeastUptoRow.holds Try.pinned (OpenSpec.upto optimalLeastSpec)

/-- 'seriflaw19.OptimalCovers', WHERE WHAT IT READS IS OF BULK AT MOST 1048576: true; the input reads as it did. -/
def optimalCoversUptoRow : OpenClaim := { program := "ytfbanppdiglciaa", sum := "c8743d913ba0351ee9ce7c7389d7f9aa579f3aa6c0b3a7fff6ccb0370426211f", func := "serif/seriflaw19.OptimalCovers", spec := "optimalCovers", apart := false, narrowed := true }
def OptimalCoversUptoSaid : Prop := optimalCoversUptoRow.holds Try.pinned (OpenSpec.upto optimalCoversSpec)

/-- 'seriflaw20.JustifySets', WHERE WHAT IT READS IS OF BULK AT MOST 1048576: true; the input reads as it did. -/
def justifySetsUptoRow : OpenClaim := { program := "ytfbanppdiglciaa", sum := "c8743d913ba0351ee9ce7c7389d7f9aa579f3aa6c0b3a7fff6ccb0370426211f", func := "serif/seriflaw20.JustifySets", spec := "justifySets", unfollowed := true, recurses := true, named := ["math/bits.divideError", "math/bits.overflowError"], apart := false, narrowed := true }
def JustifySetsUptoSaid : Prop := justifySetsUptoRow.holds Try.pinned (OpenSpec.upto justifySetsSpec)

/-- 'seriflaw20.JustifyFair', WHERE WHAT IT READS IS OF BULK AT MOST 1048576: true; the input reads as it did. -/
def justifyFairUptoRow : OpenClaim := { program := "ytfbanppdiglciaa", sum := "c8743d913ba0351ee9ce7c7389d7f9aa579f3aa6c0b3a7fff6ccb0370426211f", func := "serif/seriflaw20.JustifyFair", spec := "justifyFair", unfollowed := true, recurses := true, named := ["math/bits.divideError", "math/bits.overflowError"], apart := false, narrowed := true }
def JustifyFairUptoSaid : Prop := justifyFairUptoRow.holds Try.pinned (OpenSpec.upto justifyFairSpec)

/-- 'seriflaw20.JustifyShifts', WHERE WHAT IT READS IS OF BULK AT MOST 1048576: true; the input reads as it did. -/
def justifyShiftsUptoRow : OpenClaim := { program := "ytfbanppdiglciaa", sum := "c8743d913ba0351ee9ce7c7389d7f9aa579f3aa6c0b3a7fff6ccb0370426211f", func := "serif/seriflaw20.JustifyShifts", spec := "justifyShifts", unfollowed := true, recurses := true, named := ["math/bits.divideError", "math/bits.overflowError"], apart := false, narrowed := true }
def JustifyShiftsUptoSaid : Prop := justifyShiftsUptoRow.holds Try.pinned (OpenSpec.upto justifyShiftsSpec)

/-- 'seriflaw20.JustifySums', WHERE WHAT IT READS IS OF BULK AT MOST 1048576: true; the input reads as it did. -/
def justifySumsUptoRow : OpenClaim := { program := "ytfbanppdiglciaa", sum := "c8743d913ba0351ee9ce7c7389d7f9aa579f3aa6c0b3a7fff6ccb0370426211f", func := "serif/seriflaw20.JustifySums", spec := "justifySums", unfollowed := true, recurses := true, named := ["math/bits.divideError", "math/bits.overflowError"], apart := false, narrowed := true }
def JustifySumsUptoSaid : Prop := justifySumsUptoRow.holds Try.pinned (OpenSpec.upto justifySumsSpec)

/-- 'seriflaw20.JustifyParagraphs', WHERE WHAT IT READS IS OF BULK AT MOST 1048576: true; the input reads as it did. -/
def justifyParagraphsUptoRow : OpenClaim := { program := "ytfbanppdiglciaa", sum := "c8743d913ba0351ee9ce7c7389d7f9aa579f3aa6c0b3a7fff6ccb0370426211f", func := "serif/seriflaw20.JustifyParagraphs", spec := "justifyParagraphs", unfollowed := true, recurses := true, named := ["math/bits.divideError", "math/bits.overflowError"], apart := false, narrowed := true }
def JustifyParagraphsUptoSaid : Prop := justifyParagraphsUptoRow.holds Try.pinned (OpenSpec.upto justifyParagraphsSpec)

end Rows
end Go.Proofs.Ytfbanppdiglciaa
