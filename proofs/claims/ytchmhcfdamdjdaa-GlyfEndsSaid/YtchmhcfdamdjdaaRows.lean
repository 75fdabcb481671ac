/-
  No cell of these rows narrows 'for every input' (looked for: loops, veiled, ifaces, maps, wideKeys, modest, calm, conditions, laid).
  DERIVED. THE GIVEN ROWS OF THIS SEAT. 6 by the template 'for every input the law returns true; each argument reads behind the call as it read before'; 0 by the template 'total and deterministic' (their statements: YtchmhcfdamdjdaaTotals.lean).
  GIVEN WITH THE SEED: the statements are not yours to turn. If you find one false, say at which input.
  Laid BY PROGRAM, IN A SANDBOX (cutbox-rows.mjs): the forced cells as the released guide's own fill.sh prints them over the translation 656f64600cdeef3b… (all of the seat's roots in one cut). By AI agents, Wed Nov 11 2026. No macro, syntax, notation, axiom, sorry.
-/
import Derived.Test.YtchmhcfdamdjdaaChecked
import GoSem.Claim
import GoSem.ClaimJoined
import GoSem.ClaimMapViews
import Derived.JoinedTies
import Derived.KernelRfl
namespace Go.Proofs.Ytchmhcfdamdjdaa
/- THE CELL 'sum', in the pinned program and in every row, IS THE sha256 OF THE DUMP (.gsa) THAT YtchmhcfdamdjdaaProg.lean LOADS. Nothing in Lean hashes anything: it is a label: what it is worth is what the hold of that sum in a sandbox is worth. -/
noncomputable def Try.pinned : Pinned := { name := "ytchmhcfdamdjdaa", sum := "656f64600cdeef3bfddb18c344f448596230b21feb04e2ffec11f7ac1573430e", checked := Try.checked }
namespace Rows
def none {H : Type} : Left H := { results := [], args := [] }

/-- 'seriflaw07.GlyfNames': WHATEVER THE INPUT: true; the input reads as it did. -/
def glyfNamesSpec : ChangeSpec := { name := "glyfNames", fn := fun _ => fun
  | [] => { results := [.lit (.bool true)], args := [] }
  | _ => none }
def glyfNamesRow : OpenClaim := { program := "ytchmhcfdamdjdaa", sum := "656f64600cdeef3bfddb18c344f448596230b21feb04e2ffec11f7ac1573430e", func := "serif/seriflaw07.GlyfNames", spec := "glyfNames", unfollowed := true, recurses := true, named := ["math/bits.divideError", "math/bits.overflowError"], apart := false }
def GlyfNamesSaid : Prop := glyfNamesRow.holds Try.pinned (OpenSpec.ofChange glyfNamesSpec)

/-- ITS FALSE NEIGHBOUR: 'it returns false'. Refute it at one input. -/
def glyfNamesWrong : ChangeSpec := { name := "glyfNames", fn := fun _ => fun
  | [] => { results := [.lit (.bool false)], args := [] }
  | _ => none }
def GlyfNamesWrongFalsely : Prop := glyfNamesRow.holds Try.pinned (OpenSpec.ofChange glyfNamesWrong)

/-- 'seriflaw07.GlyfEnds': WHATEVER THE INPUT: true; the input reads as it did. -/
def glyfEndsSpec : ChangeSpec := { name := "glyfEnds", fn := fun _ => fun
  | [d1, d2] => { results := [.lit (.bool true)], args := [d1, d2] }
  | _ => none }
def glyfEndsRow : OpenClaim := { program := "ytchmhcfdamdjdaa", sum := "656f64600cdeef3bfddb18c344f448596230b21feb04e2ffec11f7ac1573430e", func := "serif/seriflaw07.GlyfEnds", spec := "glyfEnds", unfollowed := true, recurses := true, named := ["math/bits.divideError", "math/bits.overflowError"], apart := false }
def GlyfEndsSaid : Prop := glyfEndsRow.holds Try.pinned (OpenSpec.ofChange glyfEndsSpec)

/-- ITS FALSE NEIGHBOUR: 'it returns false'. Refute it at one input. -/
def glyfEndsWrong : ChangeSpec := { name := "glyfEnds", fn := fun _ => fun
  | [d1, d2] => { results := [.lit (.bool false)], args := [d1, d2] }
  | _ => none }
def GlyfEndsWrongFalsely : Prop := glyfEndsRow.holds Try.pinned (OpenSpec.ofChange glyfEndsWrong)

/-- 'seriflaw08.Type2Names': WHATEVER THE INPUT: true; the input reads as it did. -/
def type2NamesSpec : ChangeSpec := { name := "type2Names", fn := fun _ => fun
  | [] => { results := [.lit (.bool true)], args := [] }
  | _ => none }
def type2NamesRow : OpenClaim := { program := "ytchmhcfdamdjdaa", sum := "656f64600cdeef3bfddb18c344f448596230b21feb04e2ffec11f7ac1573430e", func := "serif/seriflaw08.Type2Names", spec := "type2Names", unfollowed := true, recurses := true, named := ["math/bits.divideError", "math/bits.overflowError"], apart := false }
def Type2NamesSaid : Prop := type2NamesRow.holds Try.pinned (OpenSpec.ofChange type2NamesSpec)

/-- ITS FALSE NEIGHBOUR: 'it returns false'. Refute it at one input. -/
def type2NamesWrong : ChangeSpec := { name := "type2Names", fn := fun _ => fun
  | [] => { results := [.lit (.bool false)], args := [] }
  | _ => none }
def Type2NamesWrongFalsely : Prop := type2NamesRow.holds Try.pinned (OpenSpec.ofChange type2NamesWrong)

/-- 'seriflaw08.Type2Ends': WHATEVER THE INPUT: true; the input reads as it did. -/
def type2EndsSpec : ChangeSpec := { name := "type2Ends", fn := fun _ => fun
  | [d1, d2] => { results := [.lit (.bool true)], args := [d1, d2] }
  | _ => none }
def type2EndsRow : OpenClaim := { program := "ytchmhcfdamdjdaa", sum := "656f64600cdeef3bfddb18c344f448596230b21feb04e2ffec11f7ac1573430e", func := "serif/seriflaw08.Type2Ends", spec := "type2Ends", unfollowed := true, recurses := true, named := ["math/bits.divideError", "math/bits.overflowError"], apart := false }
def Type2EndsSaid : Prop := type2EndsRow.holds Try.pinned (OpenSpec.ofChange type2EndsSpec)

/-- ITS FALSE NEIGHBOUR: 'it returns false'. Refute it at one input. -/
def type2EndsWrong : ChangeSpec := { name := "type2Ends", fn := fun _ => fun
  | [d1, d2] => { results := [.lit (.bool false)], args := [d1, d2] }
  | _ => none }
def Type2EndsWrongFalsely : Prop := type2EndsRow.holds Try.pinned (OpenSpec.ofChange type2EndsWrong)

/-- 'seriflaw08.Type2Draws': WHATEVER THE INPUT: true; the input reads as it did. -/
def type2DrawsSpec : ChangeSpec := { name := "type2Draws", fn := fun _ => fun
  | [d] => { results := [.lit (.bool true)], args := [d] }
  | _ => none }
def type2DrawsRow : OpenClaim := { program := "ytchmhcfdamdjdaa", sum := "656f64600cdeef3bfddb18c344f448596230b21feb04e2ffec11f7ac1573430e", func := "serif/seriflaw08.Type2Draws", spec := "type2Draws", unfollowed := true, recurses := true, named := ["math/bits.divideError", "math/bits.overflowError"], apart := false }
def Type2DrawsSaid : Prop := type2DrawsRow.holds Try.pinned (OpenSpec.ofChange type2DrawsSpec)

/-- ITS FALSE NEIGHBOUR: 'it returns false'. Refute it at one input. -/
def type2DrawsWrong : ChangeSpec := { name := "type2Draws", fn := fun _ => fun
  | [d] => { results := [.lit (.bool false)], args := [d] }
  | _ => none }
def Type2DrawsWrongFalsely : Prop := type2DrawsRow.holds Try.pinned (OpenSpec.ofChange type2DrawsWrong)

/-- 'seriflaw08.Type2Widths': WHATEVER THE INPUT: true; the input reads as it did. -/
def type2WidthsSpec : ChangeSpec := { name := "type2Widths", fn := fun _ => fun
  | [d1, d2, d3] => { results := [.lit (.bool true)], args := [d1, d2, d3] }
  | _ => none }
def type2WidthsRow : OpenClaim := { program := "ytchmhcfdamdjdaa", sum := "656f64600cdeef3bfddb18c344f448596230b21feb04e2ffec11f7ac1573430e", func := "serif/seriflaw08.Type2Widths", spec := "type2Widths", unfollowed := true, recurses := true, named := ["math/bits.divideError", "math/bits.overflowError"], apart := false }
def Type2WidthsSaid : Prop := type2WidthsRow.holds Try.pinned (OpenSpec.ofChange type2WidthsSpec)

/-- ITS FALSE NEIGHBOUR: 'it returns false'. Refute it at one input. -/
def type2WidthsWrong : ChangeSpec := { name := "type2Widths", fn := fun _ => fun
  | [d1, d2, d3] => { results := [.lit (.bool false)], args := [d1, d2, d3] }
  | _ => none }
def Type2WidthsWrongFalsely : Prop := type2WidthsRow.holds Try.pinned (OpenSpec.ofChange type2WidthsWrong)

/- THE SECOND FORM. 'bulk': how many values and letters a reading holds, each counted each time it is reached (what is shared counts as often as it is met; a slice's spare places count too). A statement '..UptoSaid' is the law's where the arguments, and the package variables that the reading takes, are together of bulk at most 1048576: NARROWER than '..Said'. Prove '..Said' where nothing that the law and all that it calls make is longer than what came in: it says more and counts as full. Else prove '..UptoSaid'. A law counts once. -/
mutual
def uptoBulk {H : Type} : DataW H → Nat
  | .lit (.string bytes) => bytes.length + 1
  | .lit _ => 1
  | .nil => 1
  | .ptr d => uptoBulk d + 1
  | .slice elems spare => uptoBulkAll elems + uptoBulkAll spare + 1
  | .agg parts => uptoBulkAll parts + 1
  | .iface _ d => uptoBulk d + 1
  | .map entries => uptoBulkEntries entries + 1
  | .held _ => 1
def uptoBulkAll {H : Type} : List (DataW H) → Nat
  | [] => 0
  | d :: r => uptoBulk d + uptoBulkAll r
def uptoBulkEntries {H : Type} : List (Lit × DataW H) → Nat
  | [] => 0
  | x :: r => uptoBulkEntry x + uptoBulkEntries r
def uptoBulkEntry {H : Type} : Lit × DataW H → Nat
  | (.string bytes, d) => bytes.length + uptoBulk d + 1
  | (_, d) => uptoBulk d + 1
 end
def uptoSmall : (H : Type) → List (DataW H) → Bool := fun _ ds => decide (uptoBulkAll ds ≤ 1048576)
def OpenSpec.upto (s : _root_.Go.ChangeSpec) : _root_.Go.OpenSpec := { _root_.Go.OpenSpec.ofChange s with cond := some uptoSmall }

/-- 'seriflaw07.GlyfNames', WHERE WHAT IT READS IS OF BULK AT MOST 1048576: true; the input reads as it did. -/
def glyfNamesUptoRow : OpenClaim := { program := "ytchmhcfdamdjdaa", sum := "656f64600cdeef3bfddb18c344f448596230b21feb04e2ffec11f7ac1573430e", func := "serif/seriflaw07.GlyfNames", spec := "glyfNames", unfollowed := true, recurses := true, named := ["math/bits.divideError", "math/bits.overflowError"], apart := false, narrowed := true }
def GlyfNamesUptoSaid : Prop := glyfNamesUptoRow.holds Try.pinned (OpenSpec.upto glyfNamesSpec)

/-- 'seriflaw07.GlyfEnds', WHERE WHAT IT READS IS OF BULK AT MOST 1048576: true; the input reads as it did. -/
def glyfEndsUptoRow : OpenClaim := { program := "ytchmhcfdamdjdaa", sum := "656f64600cdeef3bfddb18c344f448596230b21feb04e2ffec11f7ac1573430e", func := "serif/seriflaw07.GlyfEnds", spec := "glyfEnds", unfollowed := true, recurses := true, named := ["math/bits.divideError", "math/bits.overflowError"], apart := false, narrowed := true }
def GlyfEndsUptoSaid : Prop := glyfEndsUptoRow.holds Try.pinned (OpenSpec.upto glyfEndsSpec)

/-- 'seriflaw08.Type2Names', WHERE WHAT IT READS IS OF BULK AT MOST 1048576: true; the input reads as it did. -/
def type2NamesUptoRow : OpenClaim := { program := "ytchmhcfdamdjdaa", sum := "656f64600cdeef3bfddb18c344f448596230b21feb04e2ffec11f7ac1573430e", func := "serif/seriflaw08.Type2Names", spec := "type2Names", unfollowed := true, recurses := true, named := ["math/bits.divideError", "math/bits.overflowError"], apart := false, narrowed := true }
def Type2NamesUptoSaid : Prop := type2NamesUptoRow.holds Try.pinned (OpenSpec.upto type2NamesSpec)

/-- 'seriflaw08.Type2Ends', WHERE WHAT IT READS IS OF BULK AT MOST 1048576: true; the input reads as it did. -/
def type2EndsUptoRow : OpenClaim := { program := "ytchmhcfdamdjdaa", sum := "656f64600cdeef3bfddb18c344f448596230b21feb04e2ffec11f7ac1573430e", func := "serif/seriflaw08.Type2Ends", spec := "type2Ends", unfollowed := true, recurses := true, named := ["math/bits.divideError", "math/bits.overflowError"], apart := false, narrowed := true }
def Type2EndsUptoSaid : Prop := type2EndsUptoRow.holds Try.pinned (OpenSpec.upto type2EndsSpec)

/-- 'seriflaw08.Type2Draws', WHERE WHAT IT READS IS OF BULK AT MOST 1048576: true; the input reads as it did. -/
def type2DrawsUptoRow : OpenClaim := { program := "ytchmhcfdamdjdaa", sum := "656f64600cdeef3bfddb18c344f448596230b21feb04e2ffec11f7ac1573430e", func := "serif/seriflaw08.Type2Draws", spec := "type2Draws", unfollowed := true, recurses := true, named := ["math/bits.divideError", "math/bits.overflowError"], apart := false, narrowed := true }
def Type2DrawsUptoSaid : Prop := type2DrawsUptoRow.holds Try.pinned (OpenSpec.upto type2DrawsSpec)

/-- 'seriflaw08.Type2Widths', WHERE WHAT IT READS IS OF BULK AT MOST 1048576: true; the input reads as it did. -/
def type2WidthsUptoRow : OpenClaim := { program := "ytchmhcfdamdjdaa", sum := "656f64600cdeef3bfddb18c344f448596230b21feb04e2ffec11f7ac1573430e", func := "serif/seriflaw08.Type2Widths", spec := "type2Widths", unfollowed := true, recurses := true, named := ["math/bits.divideError", "math/bits.overflowError"], apart := false, narrowed := true }
def Type2WidthsUptoSaid : Prop := type2WidthsUptoRow.holds Try.pinned (OpenSpec.upto type2WidthsSpec)

end Rows
end Go.Proofs.Ytchmhcfdamdjdaa
