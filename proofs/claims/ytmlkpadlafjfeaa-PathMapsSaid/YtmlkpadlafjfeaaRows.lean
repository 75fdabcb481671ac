/-
  No cell of these rows narrows 'for every input' (looked for: loops, veiled, ifaces, maps, wideKeys, modest, calm, conditions, laid).
  DERIVED. THE GIVEN ROWS OF THIS SEAT. 7 by the template 'for every input the law returns true; each argument reads behind the call as it read before'; 0 by the template 'total and deterministic' (their statements: YtmlkpadlafjfeaaTotals.lean).
  GIVEN WITH THE SEED: the statements are not yours to turn. If you find one false, say at which input.
  Laid BY PROGRAM, IN A SANDBOX (cutbox-rows.mjs): the forced cells as the released guide's own fill.sh prints them over the translation 6346b64f5320cb1f… (all of the seat's roots in one cut). By AI agents, Wed Nov 11 2026. No macro, syntax, notation, axiom, sorry.
-/
import Derived.Test.YtmlkpadlafjfeaaChecked
import GoSem.Claim
import GoSem.ClaimJoined
import GoSem.ClaimMapViews
import Derived.JoinedTies
import Derived.KernelRfl
namespace Go.Proofs.Ytmlkpadlafjfeaa
/- THE CELL 'sum', in the pinned program and in every row, IS THE sha256 OF THE DUMP (.gsa) THAT YtmlkpadlafjfeaaProg.lean LOADS. Nothing in Lean hashes anything: it is a label: what it is worth is what the hold of that sum in a sandbox is worth. -/
noncomputable def Try.pinned : Pinned := { name := "ytmlkpadlafjfeaa", sum := "6346b64f5320cb1f65aa2d944816257f9327fd752ec9e75b9536727f31339df8", checked := Try.checked }
namespace Rows
def none {H : Type} : Left H := { results := [], args := [] }

/-- 'seriflaw06.PathNames': WHATEVER THE INPUT: true; the input reads as it did. -/
def pathNamesSpec : ChangeSpec := { name := "pathNames", fn := fun _ => fun
  | [] => { results := [.lit (.bool true)], args := [] }
  | _ => none }
def pathNamesRow : OpenClaim := { program := "ytmlkpadlafjfeaa", sum := "6346b64f5320cb1f65aa2d944816257f9327fd752ec9e75b9536727f31339df8", func := "serif/seriflaw06.PathNames", spec := "pathNames", unfollowed := true, recurses := true, named := ["math/bits.divideError", "math/bits.overflowError"], apart := false }
def PathNamesSaid : Prop := pathNamesRow.holds Try.pinned (OpenSpec.ofChange pathNamesSpec)

/-- ITS FALSE NEIGHBOUR: 'it returns false'. Refute it at one input. -/
def pathNamesWrong : ChangeSpec := { name := "pathNames", fn := fun _ => fun
  | [] => { results := [.lit (.bool false)], args := [] }
  | _ => none }
def PathNamesWrongFalsely : Prop := pathNamesRow.holds Try.pinned (OpenSpec.ofChange pathNamesWrong)

/-- 'seriflaw06.PathFlats': WHATEVER THE INPUT: true; the input reads as it did. -/
def pathFlatsSpec : ChangeSpec := { name := "pathFlats", fn := fun _ => fun
  | [d] => { results := [.lit (.bool true)], args := [d] }
  | _ => none }
def pathFlatsRow : OpenClaim := { program := "ytmlkpadlafjfeaa", sum := "6346b64f5320cb1f65aa2d944816257f9327fd752ec9e75b9536727f31339df8", func := "serif/seriflaw06.PathFlats", spec := "pathFlats", unfollowed := true, recurses := true, named := ["math/bits.divideError", "math/bits.overflowError"], apart := false }
def PathFlatsSaid : Prop := pathFlatsRow.holds Try.pinned (OpenSpec.ofChange pathFlatsSpec)

/-- ITS FALSE NEIGHBOUR: 'it returns false'. Refute it at one input. -/
def pathFlatsWrong : ChangeSpec := { name := "pathFlats", fn := fun _ => fun
  | [d] => { results := [.lit (.bool false)], args := [d] }
  | _ => none }
def PathFlatsWrongFalsely : Prop := pathFlatsRow.holds Try.pinned (OpenSpec.ofChange pathFlatsWrong)

/-- 'seriflaw06.PathLines': WHATEVER THE INPUT: true; the input reads as it did. -/
def pathLinesSpec : ChangeSpec := { name := "pathLines", fn := fun _ => fun
  | [d] => { results := [.lit (.bool true)], args := [d] }
  | _ => none }
def pathLinesRow : OpenClaim := { program := "ytmlkpadlafjfeaa", sum := "6346b64f5320cb1f65aa2d944816257f9327fd752ec9e75b9536727f31339df8", func := "serif/seriflaw06.PathLines", spec := "pathLines", unfollowed := true, recurses := true, named := ["math/bits.divideError", "math/bits.overflowError"], apart := false }
def PathLinesSaid : Prop := pathLinesRow.holds Try.pinned (OpenSpec.ofChange pathLinesSpec)

/-- ITS FALSE NEIGHBOUR: 'it returns false'. Refute it at one input. -/
def pathLinesWrong : ChangeSpec := { name := "pathLines", fn := fun _ => fun
  | [d] => { results := [.lit (.bool false)], args := [d] }
  | _ => none }
def PathLinesWrongFalsely : Prop := pathLinesRow.holds Try.pinned (OpenSpec.ofChange pathLinesWrong)

/-- 'seriflaw06.PathBack': WHATEVER THE INPUT: true; the input reads as it did. -/
def pathBackSpec : ChangeSpec := { name := "pathBack", fn := fun _ => fun
  | [d] => { results := [.lit (.bool true)], args := [d] }
  | _ => none }
def pathBackRow : OpenClaim := { program := "ytmlkpadlafjfeaa", sum := "6346b64f5320cb1f65aa2d944816257f9327fd752ec9e75b9536727f31339df8", func := "serif/seriflaw06.PathBack", spec := "pathBack", unfollowed := true, recurses := true, named := ["math/bits.divideError", "math/bits.overflowError"], apart := false }
def PathBackSaid : Prop := pathBackRow.holds Try.pinned (OpenSpec.ofChange pathBackSpec)

/-- ITS FALSE NEIGHBOUR: 'it returns false'. Refute it at one input. -/
def pathBackWrong : ChangeSpec := { name := "pathBack", fn := fun _ => fun
  | [d] => { results := [.lit (.bool false)], args := [d] }
  | _ => none }
def PathBackWrongFalsely : Prop := pathBackRow.holds Try.pinned (OpenSpec.ofChange pathBackWrong)

/-- 'seriflaw06.PathParts': WHATEVER THE INPUT: true; the input reads as it did. -/
def pathPartsSpec : ChangeSpec := { name := "pathParts", fn := fun _ => fun
  | [d1, d2] => { results := [.lit (.bool true)], args := [d1, d2] }
  | _ => none }
def pathPartsRow : OpenClaim := { program := "ytmlkpadlafjfeaa", sum := "6346b64f5320cb1f65aa2d944816257f9327fd752ec9e75b9536727f31339df8", func := "serif/seriflaw06.PathParts", spec := "pathParts", unfollowed := true, recurses := true, named := ["math/bits.divideError", "math/bits.overflowError"], apart := false }
def PathPartsSaid : Prop := pathPartsRow.holds Try.pinned (OpenSpec.ofChange pathPartsSpec)

/-- ITS FALSE NEIGHBOUR: 'it returns false'. Refute it at one input. -/
def pathPartsWrong : ChangeSpec := { name := "pathParts", fn := fun _ => fun
  | [d1, d2] => { results := [.lit (.bool false)], args := [d1, d2] }
  | _ => none }
def PathPartsWrongFalsely : Prop := pathPartsRow.holds Try.pinned (OpenSpec.ofChange pathPartsWrong)

/-- 'seriflaw06.PathHulls': WHATEVER THE INPUT: true; the input reads as it did. -/
def pathHullsSpec : ChangeSpec := { name := "pathHulls", fn := fun _ => fun
  | [d] => { results := [.lit (.bool true)], args := [d] }
  | _ => none }
def pathHullsRow : OpenClaim := { program := "ytmlkpadlafjfeaa", sum := "6346b64f5320cb1f65aa2d944816257f9327fd752ec9e75b9536727f31339df8", func := "serif/seriflaw06.PathHulls", spec := "pathHulls", unfollowed := true, recurses := true, named := ["math/bits.divideError", "math/bits.overflowError"], apart := false }
def PathHullsSaid : Prop := pathHullsRow.holds Try.pinned (OpenSpec.ofChange pathHullsSpec)

/-- ITS FALSE NEIGHBOUR: 'it returns false'. Refute it at one input. -/
def pathHullsWrong : ChangeSpec := { name := "pathHulls", fn := fun _ => fun
  | [d] => { results := [.lit (.bool false)], args := [d] }
  | _ => none }
def PathHullsWrongFalsely : Prop := pathHullsRow.holds Try.pinned (OpenSpec.ofChange pathHullsWrong)

/-- 'seriflaw06.PathMaps': WHATEVER THE INPUT: true; the input reads as it did. -/
def pathMapsSpec : ChangeSpec := { name := "pathMaps", fn := fun _ => fun
  | [d1, d2] => { results := [.lit (.bool true)], args := [d1, d2] }
  | _ => none }
def pathMapsRow : OpenClaim := { program := "ytmlkpadlafjfeaa", sum := "6346b64f5320cb1f65aa2d944816257f9327fd752ec9e75b9536727f31339df8", func := "serif/seriflaw06.PathMaps", spec := "pathMaps", unfollowed := true, recurses := true, named := ["math/bits.divideError", "math/bits.overflowError"], apart := false }
def PathMapsSaid : Prop := pathMapsRow.holds Try.pinned (OpenSpec.ofChange pathMapsSpec)

/-- ITS FALSE NEIGHBOUR: 'it returns false'. Refute it at one input. -/
def pathMapsWrong : ChangeSpec := { name := "pathMaps", fn := fun _ => fun
  | [d1, d2] => { results := [.lit (.bool false)], args := [d1, d2] }
  | _ => none }
def PathMapsWrongFalsely : Prop := pathMapsRow.holds Try.pinned (OpenSpec.ofChange pathMapsWrong)

/- THE SECOND FORM. 'bulk': how many values and letters a reading holds, each counted each time it is reached (what is shared counts as often as it is met; a slice's spare places count too). A statement '..UptoSaid' is the law's where the arguments, and the package variables that the reading takes, are together of bulk at most 1048576: NARROWER than '..Said'. Prove '..Said' where nothing that the law and all that it calls make is longer than what came in: it says more and counts as full. Else prove '..UptoSaid'. A law counts once. -/
mutual
def uptoBulk {H : Type} : DataW H → Nat
  | .lit (.string bytes) => bytes.length + 1
  | .lit _ => 1
  | .nil => 1
  | .ptr d => uptoBulk d + 1
  | .slice elems spare => uptoBulkAll elems + uptoBulkAll spare + 1
  | .agg parts => uptoBulkAll parts + 1
  | .iface _ d => uptoBulk d + 1
  | .map entries => uptoBulkEntries entries + 1
  | .held _ => 1
def uptoBulkAll {H : Type} : List (DataW H) → Nat
  | [] => 0
  | d :: r => uptoBulk d + uptoBulkAll r
def uptoBulkEntries {H : Type} : List (Lit × DataW H) → Nat
  | [] => 0
  | x :: r => uptoBulkEntry x + uptoBulkEntries r
def uptoBulkEntry {H : Type} : Lit × DataW H → Nat
  | (.string bytes, d) => bytes.length + uptoBulk d + 1
  | (_, d) => uptoBulk d + 1
 end
def uptoSmall : (H : Type) → List (DataW H) → Bool := fun _ ds => decide (uptoBulkAll ds ≤ 1048576)
def OpenSpec.upto (s : _root_.Go.ChangeSpec) : _root_.Go.OpenSpec := { _root_.Go.OpenSpec.ofChange s with cond := some uptoSmall }

/-- 'seriflaw06.PathNames', WHERE WHAT IT READS IS OF BULK AT MOST 1048576: true; the input reads as it did. -/
def pathNamesUptoRow : OpenClaim := { program := "ytmlkpadlafjfeaa", sum := "6346b64f5320cb1f65aa2d944816257f9327fd752ec9e75b9536727f31339df8", func := "serif/seriflaw06.PathNames", spec := "pathNames", unfollowed := true, recurses := true, named := ["math/bits.divideError", "math/bits.overflowError"], apart := false, narrowed := true }
def PathNamesUptoSaid : Prop := pathNamesUptoRow.holds Try.pinned (OpenSpec.upto pathNamesSpec)

/-- 'seriflaw06.PathFlats', WHERE WHAT IT READS IS OF BULK AT MOST 1048576: true; the input reads as it did. -/
def pathFlatsUptoRow : OpenClaim := { program := "ytmlkpadlafjfeaa", sum := "6346b64f5320cb1f65aa2d944816257f9327fd752ec9e75b9536727f31339df8", func := "serif/seriflaw06.PathFlats", spec := "pathFlats", unfollowed := true, recurses := true, named := ["math/bits.divideError", "math/bits.overflowError"], apart := false, narrowed := true }
def PathFlatsUptoSaid : Prop := pathFlatsUptoRow.holds Try.pinned (OpenSpec.upto pathFlatsSpec)

/-- 'seriflaw06.PathLines', WHERE WHAT IT READS IS OF BULK AT MOST 1048576: true; the input reads as it did. -/
def pathLinesUptoRow : OpenClaim := { program := "ytmlkpadlafjfeaa", sum := "6346b64f5320cb1f65aa2d944816257f9327fd752ec9e75b9536727f31339df8", func := "serif/seriflaw06.PathLines", spec := "pathLines", unfollowed := true, recurses := true, named := ["math/bits.divideError", "math/bits.overflowError"], apart := false, narrowed := true }
def PathLinesUptoSaid : Prop := pathLinesUptoRow.holds Try.pinned (OpenSpec.upto pathLinesSpec)

/-- 'seriflaw06.PathBack', WHERE WHAT IT READS IS OF BULK AT MOST 1048576: true; the input reads as it did. -/
def pathBackUptoRow : OpenClaim := { program := "ytmlkpadlafjfeaa", sum := "6346b64f5320cb1f65aa2d944816257f9327fd752ec9e75b9536727f31339df8", func := "serif/seriflaw06.PathBack", spec := "pathBack", unfollowed := true, recurses := true, named := ["math/bits.divideError", "math/bits.overflowError"], apart := false, narrowed := true }
def PathBackUptoSaid : Prop := pathBackUptoRow.holds Try.pinned (OpenSpec.upto pathBackSpec)

/-- 'seriflaw06.PathParts', WHERE WHAT IT READS IS OF BULK AT MOST 1048576: true; the input reads as it did. -/
def pathPartsUptoRow : OpenClaim := { program := "ytmlkpadlafjfeaa", sum := "6346b64f5320cb1f65aa2d944816257f9327fd752ec9e75b9536727f31339df8", func := "serif/seriflaw06.PathParts", spec := "pathParts", unfollowed := true, recurses := true, named := ["math/bits.divideError", "math/bits.overflowError"], apart := false, narrowed := true }
def PathPartsUptoSaid : Prop := pathPartsUptoRow.holds Try.pinned (OpenSpec.upto pathPartsSpec)

/-- 'seriflaw06.PathHulls', WHERE WHAT IT READS IS OF BULK AT MOST 1048576: true; the input reads as it did. -/
def pathHullsUptoRow : OpenClaim := { program := "ytmlkpadlafjfeaa", sum := "6346b64f5320cb1f65aa2d944816257f9327fd752ec9e75b9536727f31339df8", func := "serif/seriflaw06.PathHulls", spec := "pathHulls", unfollowed := true, recurses := true, named := ["math/bits.divideError", "math/bits.overflowError"], apart := false, narrowed := true }
def PathHullsUptoSaid : Prop := pathHullsUptoRow.holds Try.pinned (OpenSpec.upto pathHullsSpec)

/-- 'seriflaw06.PathMaps', WHERE WHAT IT READS IS OF BULK AT MOST 1048576: true; the input reads as it did. -/
def pathMapsUptoRow : OpenClaim := { program := "ytmlkpadlafjfeaa", sum := "6346b64f5320cb1f65aa2d944816257f9327fd752ec9e75b9536727f31339df8", func := "serif/seriflaw06.PathMaps", spec := "pathMaps", unfollowed := true, recurses := true, named := ["math/bits.divideError", "math/bits.overflowError"], apart := false, narrowed := true }
def PathMapsUptoSaid : Prop := pathMapsUptoRow.holds Try.pinned (OpenSpec.upto pathMapsSpec)

end Rows
end Go.Proofs.Ytmlkpadlafjfeaa
