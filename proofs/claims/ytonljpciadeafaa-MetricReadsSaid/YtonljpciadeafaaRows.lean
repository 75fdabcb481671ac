/-
  No cell of these rows narrows 'for every input' (looked for: loops, veiled, ifaces, maps, wideKeys, modest, calm, conditions, laid).
  DERIVED. THE GIVEN ROWS OF THIS SEAT. 7 by the template 'for every input the law returns true; each argument reads behind the call as it read before'; 0 by the template 'total and deterministic' (their statements: YtonljpciadeafaaTotals.lean).
  GIVEN WITH THE SEED: the statements are not yours to turn. If you find one false, say at which input.
  Laid BY PROGRAM, IN A SANDBOX (cutbox-rows.mjs): the forced cells as the released guide's own fill.sh prints them over the translation 82b50e37dc7a2bb8… (all of the seat's roots in one cut). By AI agents, Wed Nov 11 2026. No macro, syntax, notation, axiom, sorry.
-/
import Derived.Test.YtonljpciadeafaaChecked
import GoSem.Claim
import GoSem.ClaimJoined
import GoSem.ClaimMapViews
import Derived.JoinedTies
import Derived.KernelRfl
namespace Go.Proofs.Ytonljpciadeafaa
/- THE CELL 'sum', in the pinned program and in every row, IS THE sha256 OF THE DUMP (.gsa) THAT YtonljpciadeafaaProg.lean LOADS. Nothing in Lean hashes anything: it is a label: what it is worth is what the hold of that sum in a sandbox is worth. -/
noncomputable def Try.pinned : Pinned := { name := "ytonljpciadeafaa", sum := "82b50e37dc7a2bb8230b05c67c5b0f2cc4467babad9211eed48bc3ff34d8f5b8", checked := Try.checked }
namespace Rows
def none {H : Type} : Left H := { results := [], args := [] }

/-- 'seriflaw03.SfntNames': WHATEVER THE INPUT: true; the input reads as it did. -/
def sfntNamesSpec : ChangeSpec := { name := "sfntNames", fn := fun _ => fun
  | [] => { results := [.lit (.bool true)], args := [] }
  | _ => none }
def sfntNamesRow : OpenClaim := { program := "ytonljpciadeafaa", sum := "82b50e37dc7a2bb8230b05c67c5b0f2cc4467babad9211eed48bc3ff34d8f5b8", func := "serif/seriflaw03.SfntNames", spec := "sfntNames", apart := false }
def SfntNamesSaid : Prop := sfntNamesRow.holds Try.pinned (OpenSpec.ofChange sfntNamesSpec)

/-- ITS FALSE NEIGHBOUR: 'it returns false'. Refute it at one input. -/
def sfntNamesWrong : ChangeSpec := { name := "sfntNames", fn := fun _ => fun
  | [] => { results := [.lit (.bool false)], args := [] }
  | _ => none }
def SfntNamesWrongFalsely : Prop := sfntNamesRow.holds Try.pinned (OpenSpec.ofChange sfntNamesWrong)

/-- 'seriflaw03.SfntSums': WHATEVER THE INPUT: true; the input reads as it did. -/
def sfntSumsSpec : ChangeSpec := { name := "sfntSums", fn := fun _ => fun
  | [d1, d2] => { results := [.lit (.bool true)], args := [d1, d2] }
  | _ => none }
def sfntSumsRow : OpenClaim := { program := "ytonljpciadeafaa", sum := "82b50e37dc7a2bb8230b05c67c5b0f2cc4467babad9211eed48bc3ff34d8f5b8", func := "serif/seriflaw03.SfntSums", spec := "sfntSums", apart := false }
def SfntSumsSaid : Prop := sfntSumsRow.holds Try.pinned (OpenSpec.ofChange sfntSumsSpec)

/-- ITS FALSE NEIGHBOUR: 'it returns false'. Refute it at one input. -/
def sfntSumsWrong : ChangeSpec := { name := "sfntSums", fn := fun _ => fun
  | [d1, d2] => { results := [.lit (.bool false)], args := [d1, d2] }
  | _ => none }
def SfntSumsWrongFalsely : Prop := sfntSumsRow.holds Try.pinned (OpenSpec.ofChange sfntSumsWrong)

/-- 'seriflaw04.MetricNames': WHATEVER THE INPUT: true; the input reads as it did. -/
def metricNamesSpec : ChangeSpec := { name := "metricNames", fn := fun _ => fun
  | [] => { results := [.lit (.bool true)], args := [] }
  | _ => none }
def metricNamesRow : OpenClaim := { program := "ytonljpciadeafaa", sum := "82b50e37dc7a2bb8230b05c67c5b0f2cc4467babad9211eed48bc3ff34d8f5b8", func := "serif/seriflaw04.MetricNames", spec := "metricNames", unfollowed := true, recurses := true, named := ["math/bits.divideError", "math/bits.overflowError"], apart := false }
def MetricNamesSaid : Prop := metricNamesRow.holds Try.pinned (OpenSpec.ofChange metricNamesSpec)

/-- ITS FALSE NEIGHBOUR: 'it returns false'. Refute it at one input. -/
def metricNamesWrong : ChangeSpec := { name := "metricNames", fn := fun _ => fun
  | [] => { results := [.lit (.bool false)], args := [] }
  | _ => none }
def MetricNamesWrongFalsely : Prop := metricNamesRow.holds Try.pinned (OpenSpec.ofChange metricNamesWrong)

/-- 'seriflaw04.MetricReads': WHATEVER THE INPUT: true; the input reads as it did. -/
def metricReadsSpec : ChangeSpec := { name := "metricReads", fn := fun _ => fun
  | [d] => { results := [.lit (.bool true)], args := [d] }
  | _ => none }
def metricReadsRow : OpenClaim := { program := "ytonljpciadeafaa", sum := "82b50e37dc7a2bb8230b05c67c5b0f2cc4467babad9211eed48bc3ff34d8f5b8", func := "serif/seriflaw04.MetricReads", spec := "metricReads", unfollowed := true, recurses := true, named := ["math/bits.divideError", "math/bits.overflowError"], apart := false }
def MetricReadsSaid : Prop := metricReadsRow.holds Try.pinned (OpenSpec.ofChange metricReadsSpec)

/-- ITS FALSE NEIGHBOUR: 'it returns false'. Refute it at one input. -/
def metricReadsWrong : ChangeSpec := { name := "metricReads", fn := fun _ => fun
  | [d] => { results := [.lit (.bool false)], args := [d] }
  | _ => none }
def MetricReadsWrongFalsely : Prop := metricReadsRow.holds Try.pinned (OpenSpec.ofChange metricReadsWrong)

/-- 'seriflaw04.MetricBack': WHATEVER THE INPUT: true; the input reads as it did. -/
def metricBackSpec : ChangeSpec := { name := "metricBack", fn := fun _ => fun
  | [d] => { results := [.lit (.bool true)], args := [d] }
  | _ => none }
def metricBackRow : OpenClaim := { program := "ytonljpciadeafaa", sum := "82b50e37dc7a2bb8230b05c67c5b0f2cc4467babad9211eed48bc3ff34d8f5b8", func := "serif/seriflaw04.MetricBack", spec := "metricBack", unfollowed := true, recurses := true, named := ["math/bits.divideError", "math/bits.overflowError"], apart := false }
def MetricBackSaid : Prop := metricBackRow.holds Try.pinned (OpenSpec.ofChange metricBackSpec)

/-- ITS FALSE NEIGHBOUR: 'it returns false'. Refute it at one input. -/
def metricBackWrong : ChangeSpec := { name := "metricBack", fn := fun _ => fun
  | [d] => { results := [.lit (.bool false)], args := [d] }
  | _ => none }
def MetricBackWrongFalsely : Prop := metricBackRow.holds Try.pinned (OpenSpec.ofChange metricBackWrong)

/-- 'seriflaw04.MetricWithout': WHATEVER THE INPUT: true; the input reads as it did. -/
def metricWithoutSpec : ChangeSpec := { name := "metricWithout", fn := fun _ => fun
  | [d] => { results := [.lit (.bool true)], args := [d] }
  | _ => none }
def metricWithoutRow : OpenClaim := { program := "ytonljpciadeafaa", sum := "82b50e37dc7a2bb8230b05c67c5b0f2cc4467babad9211eed48bc3ff34d8f5b8", func := "serif/seriflaw04.MetricWithout", spec := "metricWithout", unfollowed := true, recurses := true, named := ["math/bits.divideError", "math/bits.overflowError"], apart := false }
def MetricWithoutSaid : Prop := metricWithoutRow.holds Try.pinned (OpenSpec.ofChange metricWithoutSpec)

/-- ITS FALSE NEIGHBOUR: 'it returns false'. Refute it at one input. -/
def metricWithoutWrong : ChangeSpec := { name := "metricWithout", fn := fun _ => fun
  | [d] => { results := [.lit (.bool false)], args := [d] }
  | _ => none }
def MetricWithoutWrongFalsely : Prop := metricWithoutRow.holds Try.pinned (OpenSpec.ofChange metricWithoutWrong)

/-- 'seriflaw04.MetricAsks': WHATEVER THE INPUT: true; the input reads as it did. -/
def metricAsksSpec : ChangeSpec := { name := "metricAsks", fn := fun _ => fun
  | [d1, d2] => { results := [.lit (.bool true)], args := [d1, d2] }
  | _ => none }
def metricAsksRow : OpenClaim := { program := "ytonljpciadeafaa", sum := "82b50e37dc7a2bb8230b05c67c5b0f2cc4467babad9211eed48bc3ff34d8f5b8", func := "serif/seriflaw04.MetricAsks", spec := "metricAsks", unfollowed := true, recurses := true, named := ["math/bits.divideError", "math/bits.overflowError"], apart := false }
def MetricAsksSaid : Prop := metricAsksRow.holds Try.pinned (OpenSpec.ofChange metricAsksSpec)

/-- ITS FALSE NEIGHBOUR: 'it returns false'. Refute it at one input. -/
def metricAsksWrong : ChangeSpec := { name := "metricAsks", fn := fun _ => fun
  | [d1, d2] => { results := [.lit (.bool false)], args := [d1, d2] }
  | _ => none }
def MetricAsksWrongFalsely : Prop := metricAsksRow.holds Try.pinned (OpenSpec.ofChange metricAsksWrong)

/- THE SECOND FORM. 'bulk': how many values and letters a reading holds, each counted each time it is reached (what is shared counts as often as it is met; a slice's spare places count too). A statement '..UptoSaid' is the law's where the arguments, and the package variables that the reading takes, are together of bulk at most 1048576: NARROWER than '..Said'. Prove '..Said' where nothing that the law and all that it calls make is longer than what came in: it says more and counts as full. Else prove '..UptoSaid'. A law counts once. -/
mutual
def uptoBulk {H : Type} : DataW H → Nat
  | .lit (.string bytes) => bytes.length + 1
  | .lit _ => 1
  | .nil => 1
  | .ptr d => uptoBulk d + 1
  | .slice elems spare => uptoBulkAll elems + uptoBulkAll spare + 1
  | .agg parts => uptoBulkAll parts + 1
  | .iface _ d => uptoBulk d + 1
  | .map entries => uptoBulkEntries entries + 1
  | .held _ => 1
def uptoBulkAll {H : Type} : List (DataW H) → Nat
  | [] => 0
  | d :: r => uptoBulk d + uptoBulkAll r
def uptoBulkEntries {H : Type} : List (Lit × DataW H) → Nat
  | [] => 0
  | x :: r => uptoBulkEntry x + uptoBulkEntries r
def uptoBulkEntry {H : Type} : Lit × DataW H → Nat
  | (.string bytes, d) => bytes.length + uptoBulk d + 1
  | (_, d) => uptoBulk d + 1
 end
def uptoSmall : (H : Type) → List (DataW H) → Bool := fun _ ds => decide (uptoBulkAll ds ≤ 1048576)
def OpenSpec.upto (s : _root_.Go.ChangeSpec) : _root_.Go.OpenSpec := { _root_.Go.OpenSpec.ofChange s with cond := some uptoSmall }

/-- 'seriflaw03.SfntNames', WHERE WHAT IT READS IS OF BULK AT MOST 1048576: true; the input reads as it did. -/
def sfntNamesUptoRow : OpenClaim := { program := "ytonljpciadeafaa", sum := "82b50e37dc7a2bb8230b05c67c5b0f2cc4467babad9211eed48bc3ff34d8f5b8", func := "serif/seriflaw03.SfntNames", spec := "sfntNames", apart := false, narrowed := true }
def SfntNamesUptoSaid : Prop := sfntNamesUptoRow.holds Try.pinned (OpenSpec.upto sfntNamesSpec)

/-- 'seriflaw03.SfntSums', WHERE WHAT IT READS IS OF BULK AT MOST 1048576: true; the input reads as it did. -/
def sfntSumsUptoRow : OpenClaim := { program := "ytonljpciadeafaa", sum := "82b50e37dc7a2bb8230b05c67c5b0f2cc4467babad9211eed48bc3ff34d8f5b8", func := "serif/seriflaw03.SfntSums", spec := "sfntSums", apart := false, narrowed := true }
def SfntSumsUptoSaid : Prop := sfntSumsUptoRow.holds Try.pinned (OpenSpec.upto sfntSumsSpec)

/-- 'seriflaw04.MetricNames', WHERE WHAT IT READS IS OF BULK AT MOST 1048576: true; the input reads as it did. -/
def metricNamesUptoRow : OpenClaim := { program := "ytonljpciadeafaa", sum := "82b50e37dc7a2bb8230b05c67c5b0f2cc4467babad9211eed48bc3ff34d8f5b8", func := "serif/seriflaw04.MetricNames", spec := "metricNames", unfollowed := true, recurses := true, named := ["math/bits.divideError", "math/bits.overflowError"], apart := false, narrowed := true }
def MetricNamesUptoSaid : Prop := metricNamesUptoRow.holds Try.pinned (OpenSpec.upto metricNamesSpec)

/-- 'seriflaw04.MetricReads', WHERE WHAT IT READS IS OF BULK AT MOST 1048576: true; the input reads as it did. -/
def metricReadsUptoRow : OpenClaim := { program := "ytonljpciadeafaa", sum := "82b50e37dc7a2bb8230b05c67c5b0f2cc4467babad9211eed48bc3ff34d8f5b8", func := "serif/seriflaw04.MetricReads", spec := "metricReads", unfollowed := true, recurses := true, named := ["math/bits.divideError", "math/bits.overflowError"], apart := false, narrowed := true }
def MetricReadsUptoSaid : Prop := metricReadsUptoRow.holds Try.pinned (OpenSpec.upto metricReadsSpec)

/-- 'seriflaw04.MetricBack', WHERE WHAT IT READS IS OF BULK AT MOST 1048576: true; the input reads as it did. -/
def metricBackUptoRow : OpenClaim := { program := "ytonljpciadeafaa", sum := "82b50e37dc7a2bb8230b05c67c5b0f2cc4467babad9211eed48bc3ff34d8f5b8", func := "serif/seriflaw04.MetricBack", spec := "metricBack", unfollowed := true, recurses := true, named := ["math/bits.divideError", "math/bits.overflowError"], apart := false, narrowed := true }
def MetricBackUptoSaid : Prop := metricBackUptoRow.holds Try.pinned (OpenSpec.upto metricBackSpec)

/-- 'seriflaw04.MetricWithout', WHERE WHAT IT READS IS OF BULK AT MOST 1048576: true; the input reads as it did. -/
def metricWithoutUptoRow : OpenClaim := { program := "ytonljpciadeafaa", sum := "82b50e37dc7a2bb8230b05c67c5b0f2cc4467babad9211eed48bc3ff34d8f5b8", func := "serif/seriflaw04.MetricWithout", spec := "metricWithout", unfollowed := true, recurses := true, named := ["math/bits.divideError", "math/bits.overflowError"], apart := false, narrowed := true }
def MetricWithoutUptoSaid : Prop := metricWithoutUptoRow.holds Try.pinned (OpenSpec.upto metricWithoutSpec)

/-- 'seriflaw04.MetricAsks', WHERE WHAT IT READS IS OF BULK AT MOST 1048576: true; the input reads as it did. -/
def metricAsksUptoRow : OpenClaim := { program := "ytonljpciadeafaa", sum := "82b50e37dc7a2bb8230b05c67c5b0f2cc4467babad9211eed48bc3ff34d8f5b8", func := "serif/seriflaw04.MetricAsks", spec := "metricAsks", unfollowed := true, recurses := true, named := ["math/bits.divideError", "math/bits.overflowError"], apart := false, narrowed := true }
def MetricAsksUptoSaid : Prop := metricAsksUptoRow.holds Try.pinned (OpenSpec.upto metricAsksSpec)

end Rows
end Go.Proofs.Ytonljpciadeafaa
