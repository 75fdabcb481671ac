/-
  No cell of these rows narrows 'for every input' (looked for: loops, veiled, ifaces, maps, wideKeys, modest, calm, conditions, laid).
  DERIVED. THE GIVEN ROWS OF THIS SEAT. 7 by the template 'for every input the law returns true; each argument reads behind the call as it read before'; 0 by the template 'total and deterministic' (their statements: YtbeegagnlcglcaaTotals.lean).
  GIVEN WITH THE SEED: the statements are not yours to turn. If you find one false, say at which input.
  Laid BY PROGRAM, IN A SANDBOX (cutbox-rows.mjs): the forced cells as the released guide's own fill.sh prints them over the translation 827a77b2c976bd91… (all of the seat's roots in one cut). By AI agents, Wed Nov 11 2026. No macro, syntax, notation, axiom, sorry.
-/
import Derived.Test.YtbeegagnlcglcaaChecked
import GoSem.Claim
import GoSem.ClaimJoined
import GoSem.ClaimMapViews
import Derived.JoinedTies
import Derived.KernelRfl
namespace Go.Proofs.Ytbeegagnlcglcaa
/- THE CELL 'sum', in the pinned program and in every row, IS THE sha256 OF THE DUMP (.gsa) THAT YtbeegagnlcglcaaProg.lean LOADS. Nothing in Lean hashes anything: it is a label: what it is worth is what the hold of that sum in a sandbox is worth. -/
noncomputable def Try.pinned : Pinned := { name := "ytbeegagnlcglcaa", sum := "827a77b2c976bd91137fd11b86d08334e5e8ea9fbadc375762595ad159aa463e", checked := Try.checked }
namespace Rows
def none {H : Type} : Left H := { results := [], args := [] }

/-- 'seriflaw01.FixedNames': WHATEVER THE INPUT: true; the input reads as it did. -/
def fixedNamesSpec : ChangeSpec := { name := "fixedNames", fn := fun _ => fun
  | [] => { results := [.lit (.bool true)], args := [] }
  | _ => none }
def fixedNamesRow : OpenClaim := { program := "ytbeegagnlcglcaa", sum := "827a77b2c976bd91137fd11b86d08334e5e8ea9fbadc375762595ad159aa463e", func := "serif/seriflaw01.FixedNames", spec := "fixedNames", named := ["math/bits.divideError", "math/bits.overflowError"], apart := false }
def FixedNamesSaid : Prop := fixedNamesRow.holds Try.pinned (OpenSpec.ofChange fixedNamesSpec)

/-- ITS FALSE NEIGHBOUR: 'it returns false'. Refute it at one input. -/
def fixedNamesWrong : ChangeSpec := { name := "fixedNames", fn := fun _ => fun
  | [] => { results := [.lit (.bool false)], args := [] }
  | _ => none }
def FixedNamesWrongFalsely : Prop := fixedNamesRow.holds Try.pinned (OpenSpec.ofChange fixedNamesWrong)

/-- 'seriflaw01.FixedSigns': WHATEVER THE INPUT: true; the input reads as it did. -/
def fixedSignsSpec : ChangeSpec := { name := "fixedSigns", fn := fun _ => fun
  | [d1, d2, d3] => { results := [.lit (.bool true)], args := [d1, d2, d3] }
  | _ => none }
def fixedSignsRow : OpenClaim := { program := "ytbeegagnlcglcaa", sum := "827a77b2c976bd91137fd11b86d08334e5e8ea9fbadc375762595ad159aa463e", func := "serif/seriflaw01.FixedSigns", spec := "fixedSigns", named := ["math/bits.divideError", "math/bits.overflowError"], apart := false }
def FixedSignsSaid : Prop := fixedSignsRow.holds Try.pinned (OpenSpec.ofChange fixedSignsSpec)

/-- ITS FALSE NEIGHBOUR: 'it returns false'. Refute it at one input. -/
def fixedSignsWrong : ChangeSpec := { name := "fixedSigns", fn := fun _ => fun
  | [d1, d2, d3] => { results := [.lit (.bool false)], args := [d1, d2, d3] }
  | _ => none }
def FixedSignsWrongFalsely : Prop := fixedSignsRow.holds Try.pinned (OpenSpec.ofChange fixedSignsWrong)

/-- 'seriflaw01.FixedProducts': WHATEVER THE INPUT: true; the input reads as it did. -/
def fixedProductsSpec : ChangeSpec := { name := "fixedProducts", fn := fun _ => fun
  | [d1, d2, d3] => { results := [.lit (.bool true)], args := [d1, d2, d3] }
  | _ => none }
def fixedProductsRow : OpenClaim := { program := "ytbeegagnlcglcaa", sum := "827a77b2c976bd91137fd11b86d08334e5e8ea9fbadc375762595ad159aa463e", func := "serif/seriflaw01.FixedProducts", spec := "fixedProducts", named := ["math/bits.divideError", "math/bits.overflowError"], apart := false }
def FixedProductsSaid : Prop := fixedProductsRow.holds Try.pinned (OpenSpec.ofChange fixedProductsSpec)

/-- ITS FALSE NEIGHBOUR: 'it returns false'. Refute it at one input. -/
def fixedProductsWrong : ChangeSpec := { name := "fixedProducts", fn := fun _ => fun
  | [d1, d2, d3] => { results := [.lit (.bool false)], args := [d1, d2, d3] }
  | _ => none }
def FixedProductsWrongFalsely : Prop := fixedProductsRow.holds Try.pinned (OpenSpec.ofChange fixedProductsWrong)

/-- 'seriflaw01.FixedDots': WHATEVER THE INPUT: true; the input reads as it did. -/
def fixedDotsSpec : ChangeSpec := { name := "fixedDots", fn := fun _ => fun
  | [d1, d2] => { results := [.lit (.bool true)], args := [d1, d2] }
  | _ => none }
def fixedDotsRow : OpenClaim := { program := "ytbeegagnlcglcaa", sum := "827a77b2c976bd91137fd11b86d08334e5e8ea9fbadc375762595ad159aa463e", func := "serif/seriflaw01.FixedDots", spec := "fixedDots", named := ["math/bits.divideError", "math/bits.overflowError"], apart := false }
def FixedDotsSaid : Prop := fixedDotsRow.holds Try.pinned (OpenSpec.ofChange fixedDotsSpec)

/-- ITS FALSE NEIGHBOUR: 'it returns false'. Refute it at one input. -/
def fixedDotsWrong : ChangeSpec := { name := "fixedDots", fn := fun _ => fun
  | [d1, d2] => { results := [.lit (.bool false)], args := [d1, d2] }
  | _ => none }
def FixedDotsWrongFalsely : Prop := fixedDotsRow.holds Try.pinned (OpenSpec.ofChange fixedDotsWrong)

/-- 'seriflaw01.FixedRoots': WHATEVER THE INPUT: true; the input reads as it did. -/
def fixedRootsSpec : ChangeSpec := { name := "fixedRoots", fn := fun _ => fun
  | [d] => { results := [.lit (.bool true)], args := [d] }
  | _ => none }
def fixedRootsRow : OpenClaim := { program := "ytbeegagnlcglcaa", sum := "827a77b2c976bd91137fd11b86d08334e5e8ea9fbadc375762595ad159aa463e", func := "serif/seriflaw01.FixedRoots", spec := "fixedRoots", named := ["math/bits.divideError", "math/bits.overflowError"], apart := false }
def FixedRootsSaid : Prop := fixedRootsRow.holds Try.pinned (OpenSpec.ofChange fixedRootsSpec)

/-- ITS FALSE NEIGHBOUR: 'it returns false'. Refute it at one input. -/
def fixedRootsWrong : ChangeSpec := { name := "fixedRoots", fn := fun _ => fun
  | [d] => { results := [.lit (.bool false)], args := [d] }
  | _ => none }
def FixedRootsWrongFalsely : Prop := fixedRootsRow.holds Try.pinned (OpenSpec.ofChange fixedRootsWrong)

/-- 'seriflaw01.FixedLess': WHATEVER THE INPUT: true; the input reads as it did. -/
def fixedLessSpec : ChangeSpec := { name := "fixedLess", fn := fun _ => fun
  | [d1, d2] => { results := [.lit (.bool true)], args := [d1, d2] }
  | _ => none }
def fixedLessRow : OpenClaim := { program := "ytbeegagnlcglcaa", sum := "827a77b2c976bd91137fd11b86d08334e5e8ea9fbadc375762595ad159aa463e", func := "serif/seriflaw01.FixedLess", spec := "fixedLess", named := ["math/bits.divideError", "math/bits.overflowError"], apart := false }
def FixedLessSaid : Prop := fixedLessRow.holds Try.pinned (OpenSpec.ofChange fixedLessSpec)

/-- ITS FALSE NEIGHBOUR: 'it returns false'. Refute it at one input. -/
def fixedLessWrong : ChangeSpec := { name := "fixedLess", fn := fun _ => fun
  | [d1, d2] => { results := [.lit (.bool false)], args := [d1, d2] }
  | _ => none }
def FixedLessWrongFalsely : Prop := fixedLessRow.holds Try.pinned (OpenSpec.ofChange fixedLessWrong)

/-- 'seriflaw01.FixedSums': WHATEVER THE INPUT: true; the input reads as it did. -/
def fixedSumsSpec : ChangeSpec := { name := "fixedSums", fn := fun _ => fun
  | [d1, d2] => { results := [.lit (.bool true)], args := [d1, d2] }
  | _ => none }
def fixedSumsRow : OpenClaim := { program := "ytbeegagnlcglcaa", sum := "827a77b2c976bd91137fd11b86d08334e5e8ea9fbadc375762595ad159aa463e", func := "serif/seriflaw01.FixedSums", spec := "fixedSums", named := ["math/bits.divideError", "math/bits.overflowError"], apart := false }
def FixedSumsSaid : Prop := fixedSumsRow.holds Try.pinned (OpenSpec.ofChange fixedSumsSpec)

/-- ITS FALSE NEIGHBOUR: 'it returns false'. Refute it at one input. -/
def fixedSumsWrong : ChangeSpec := { name := "fixedSums", fn := fun _ => fun
  | [d1, d2] => { results := [.lit (.bool false)], args := [d1, d2] }
  | _ => none }
def FixedSumsWrongFalsely : Prop := fixedSumsRow.holds Try.pinned (OpenSpec.ofChange fixedSumsWrong)

/- THE SECOND FORM. 'bulk': how many values and letters a reading holds, each counted each time it is reached (what is shared counts as often as it is met; a slice's spare places count too). A statement '..UptoSaid' is the law's where the arguments, and the package variables that the reading takes, are together of bulk at most 1048576: NARROWER than '..Said'. Prove '..Said' where nothing that the law and all that it calls make is longer than what came in: it says more and counts as full. Else prove '..UptoSaid'. A law counts once. -/
mutual
def uptoBulk {H : Type} : DataW H → Nat
  | .lit (.string bytes) => bytes.length + 1
  | .lit _ => 1
  | .nil => 1
  | .ptr d => uptoBulk d + 1
  | .slice elems spare => uptoBulkAll elems + uptoBulkAll spare + 1
  | .agg parts => uptoBulkAll parts + 1
  | .iface _ d => uptoBulk d + 1
  | .map entries => uptoBulkEntries entries + 1
  | .held _ => 1
def uptoBulkAll {H : Type} : List (DataW H) → Nat
  | [] => 0
  | d :: r => uptoBulk d + uptoBulkAll r
def uptoBulkEntries {H : Type} : List (Lit × DataW H) → Nat
  | [] => 0
  | x :: r => uptoBulkEntry x + uptoBulkEntries r
def uptoBulkEntry {H : Type} : Lit × DataW H → Nat
  | (.string bytes, d) => bytes.length + uptoBulk d + 1
  | (_, d) => uptoBulk d + 1
 end
def uptoSmall : (H : Type) → List (DataW H) → Bool := fun _ ds => decide (uptoBulkAll ds ≤ 1048576)
def OpenSpec.upto (s : _root_.Go.ChangeSpec) : _root_.Go.OpenSpec := { _root_.Go.OpenSpec.ofChange s with cond := some uptoSmall }

/-- 'seriflaw01.FixedNames', WHERE WHAT IT READS IS OF BULK AT MOST 1048576: true; the input reads as it did. -/
def fixedNamesUptoRow : OpenClaim := { program := "ytbeegagnlcglcaa", sum := "827a77b2c976bd91137fd11b86d08334e5e8ea9fbadc375762595ad159aa463e", func := "serif/seriflaw01.FixedNames", spec := "fixedNames", named := ["math/bits.divideError", "math/bits.overflowError"], apart := false, narrowed := true }
def FixedNamesUptoSaid : Prop := fixedNamesUptoRow.holds Try.pinned (OpenSpec.upto fixedNamesSpec)

/-- 'seriflaw01.FixedSigns', WHERE WHAT IT READS IS OF BULK AT MOST 1048576: true; the input reads as it did. -/
def fixedSignsUptoRow : OpenClaim := { program := "ytbeegagnlcglcaa", sum := "827a77b2c976bd91137fd11b86d08334e5e8ea9fbadc375762595ad159aa463e", func := "serif/seriflaw01.FixedSigns", spec := "fixedSigns", named := ["math/bits.divideError", "math/bits.overflowError"], apart := false, narrowed := true }
def FixedSignsUptoSaid : Prop := fixedSignsUptoRow.holds Try.pinned (OpenSpec.upto fixedSignsSpec)

/-- 'seriflaw01.FixedProducts', WHERE WHAT IT READS IS OF BULK AT MOST 1048576: true; the input reads as it did. -/
def fixedProductsUptoRow : OpenClaim := { program := "ytbeegagnlcglcaa", sum := "827a77b2c976bd91137fd11b86d08334e5e8ea9fbadc375762595ad159aa463e", func := "serif/seriflaw01.FixedProducts", spec := "fixedProducts", named := ["math/bits.divideError", "math/bits.overflowError"], apart := false, narrowed := true }
def FixedProductsUptoSaid : Prop := fixedProductsUptoRow.holds Try.pinned (OpenSpec.upto fixedProductsSpec)

/-- 'seriflaw01.FixedDots', WHERE WHAT IT READS IS OF BULK AT MOST 1048576: true; the input reads as it did. -/
def fixedDotsUptoRow : OpenClaim := { program := "ytbeegagnlcglcaa", sum := "827a77b2c976bd91137fd11b86d08334e5e8ea9fbadc375762595ad159aa463e", func := "serif/seriflaw01.FixedDots", spec := "fixedDots", named := ["math/bits.divideError", "math/bits.overflowError"], apart := false, narrowed := true }
def FixedDotsUptoSaid : Prop := fixedDotsUptoRow.holds Try.pinned (OpenSpec.upto fixedDotsSpec)

/-- 'seriflaw01.FixedRoots', WHERE WHAT IT READS IS OF BULK AT MOST 1048576: true; the input reads as it did. -/
def fixedRootsUptoRow : OpenClaim := { program := "ytbeegagnlcglcaa", sum := "827a77b2c976bd91137fd11b86d08334e5e8ea9fbadc375762595ad159aa463e", func := "serif/seriflaw01.FixedRoots", spec := "fixedRoots", named := ["math/bits.divideError", "math/bits.overflowError"], apart := false, narrowed := true }
def FixedRootsUptoSaid : Prop := fixedRootsUptoRow.holds Try.pinned (OpenSpec.upto fixedRootsSpec)

/-- 'seriflaw01.FixedLess', WHERE WHAT IT READS IS OF BULK AT MOST 1048576: true; the input reads as it did. -/
def fixedLessUptoRow : OpenClaim := { program := "ytbeegagnlcglcaa", sum := "827a77b2c976bd91137fd11b86d08334e5e8ea9fbadc375762595ad159aa463e", func := "serif/seriflaw01.FixedLess", spec := "fixedLess", named := ["math/bits.divideError", "math/bits.overflowError"], apart := false, narrowed := true }
def FixedLessUptoSaid : Prop := fixedLessUptoRow.holds Try.pinned (OpenSpec.upto fixedLessSpec)

/-- 'seriflaw01.FixedSums', WHERE WHAT IT READS IS OF BULK AT MOST 1048576: true; the input reads as it did. -/
def fixedSumsUptoRow : OpenClaim := { program := "ytbeegagnlcglcaa", sum := "827a77b2c976bd91137fd11b86d08334e5e8ea9fbadc375762595ad159aa463e", func := "serif/seriflaw01.FixedSums", spec := "fixedSums", named := ["math/bits.divideError", "math/bits.overflowError"], apart := false, narrowed := true }
def FixedSumsUptoSaid : Prop := fixedSumsUptoRow.holds Try.pinned (OpenSpec.upto fixedSumsSpec)

end Rows
end Go.Proofs.Ytbeegagnlcglcaa
