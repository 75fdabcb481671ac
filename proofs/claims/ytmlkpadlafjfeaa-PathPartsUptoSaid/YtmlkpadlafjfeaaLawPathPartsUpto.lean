-- written by a program of this session (wip/xprint.py) over the kit's print
import Derived.Test.YtmlkpadlafjfeaaRows
import Derived.Test.YtmlkpadlafjfeaaOpn
import Derived.Test.YtmlkpadlafjfeaaPx42
import Derived.Test.YtmlkpadlafjfeaaPurePathParts
import Derived.WalkKit
import Derived.ProofKit
import Derived.OpenShut
import Derived.ShutString
import Derived.ChangeOld
import Derived.Below
import Derived.SizedLaws
import Derived.JoinedCond
import Derived.Deep.CondSized
import Derived.Deep.Slices
set_option linter.unusedVariables false
set_option linter.unusedSimpArgs false
namespace Go.Proofs.Ytmlkpadlafjfeaa.pathParts
open Go.ChangeShapes Go.WideShapes Go.ChangeAt Go.RowKit
open Go.ChangeMaps (open_string shut_string)
open Go.Proofs.Ytmlkpadlafjfeaa.P Go.Proofs.YtmlkpadlafjfeaaW.PrintWords
theorem own : ownKnob Try.prog.godebug = none := by kernel_rfl
theorem laidOut : laidOutB Try.prog = true := by kernel_rfl
theorem opnS40 : Opn Try.prog 40 k40 okS40 :=
 Opn.iso (fun a => (⟨a.1, a.2.1, a.2.2⟩ : S40)) (fun _ => rfl) (Opn.struct Try.underlying40 (by kernel_rfl) (by kernel_rfl) (OpnAt.cons (by kernel_rfl) (Opn.int Try.underlying3) (OpnAt.cons (by kernel_rfl) (Opn.int Try.underlying3) (OpnAt.one (by kernel_rfl) (Opn.int Try.underlying3)))))
theorem length_le {H : Type} (l : List (DataW H)) : l.length ≤ Rows.uptoBulkAll l := by
 induction l with
 | nil => simp [Rows.uptoBulkAll]
 | cons x r ih =>
  have one : 1 ≤ Rows.uptoBulk x := by
   cases x with
   | lit l => cases l <;> simp [Rows.uptoBulk]
   | nil => simp [Rows.uptoBulk]
   | ptr d => simp [Rows.uptoBulk]
   | slice elems spare => simp [Rows.uptoBulk]
   | agg parts => simp [Rows.uptoBulk]
   | iface t d => simp [Rows.uptoBulk]
   | map entries => simp [Rows.uptoBulk]
   | held h => simp [Rows.uptoBulk]
  simp only [Rows.uptoBulkAll, List.length_cons]; omega
/-- What the bound gives: the slice's length. -/
theorem lenB {H : Type} {enc : TypeId × Value → H} {W : World} {d : DataW H} {p : List MemPlace} {a : Option Addr} {len cap : Nat} (h : DataW.Trod enc Try.prog W 0 (fun _ => true) true 23 (.slice a len cap) d p) (hd : Rows.uptoBulk d ≤ 1048576) : len ≤ 1048576 := by
 obtain ⟨fuel, hf⟩ := h
 rcases Go.Deep.open_slice Try.underlying23 hf with ⟨e, _⟩ | ⟨a', len', cap', m, n, D, Pl, e, _, _, _, _, ex, _⟩
 · simp only [Value.cells, List.cons.injEq, and_true, Value.slice.injEq] at e
   omega
 · simp only [Value.cells, List.cons.injEq, and_true, Value.slice.injEq] at e
   have ed := congrArg Prod.fst ex
   dsimp only at ed
   rw [ed] at hd
   simp only [Rows.uptoBulk] at hd
   have := length_le ((List.range len').map D)
   rw [List.length_map, List.length_range] at this
   omega
set_option maxRecDepth 100000 in
theorem lifted (os : Os) (started : os.Started) (H : Type) (enc : TypeId × Value → H) (F : Stop.Interp) :
  ReturnsInHanded {} Try.checked os 7 .any ((Rows.OpenSpec.upto Rows.pathPartsSpec).pre6 enc Try.prog Try.f7 Rows.pathPartsUptoRow.domain false) (((Rows.OpenSpec.upto Rows.pathPartsSpec).at F).post enc Try.prog Try.f7 false true false false) := by
 refine returnsInHanded_of_cond_sized (C := Try.checked) (s := (Rows.OpenSpec.upto Rows.pathPartsSpec)) (k := Rows.uptoSmall) rfl own started (by kernel_rfl) Try.func7
  (OpenSpec.witness (enc := enc) (C := Try.checked) (s := (Rows.OpenSpec.upto Rows.pathPartsSpec)) (k := Rows.uptoSmall) rfl false ⟨#[], #[.slice none 0 0, .slice none 0 0], []⟩ 8 (by kernel_rfl) (by kernel_rfl) (by kernel_rfl)
   (x := ([.nil, .nil], [], [])) (by kernel_rfl) rfl (by kernel_rfl)) ?_
 intro W base args ds gs before hval0 hW hcnd hk hsz0 _
 show Calls Try.prog 7 args W fun e W' => ∃ v, e = .returned v ∧ Rows.pathPartsSpec.post enc Try.prog Try.f7 false true false false W args v W'
 have hsz : (DataW.weightsEach Try.prog (Try.f7.params.toList ++ Rows.pathPartsSpec.plain.varTypes Try.prog) (ds ++ gs)).all (· ≤ reachBytes) = true := hsz0
 have hval : ∀ (j : Nat) t v, Try.f7.params[j]? = some t → args[j]? = some v → Value.okWide Try.prog W .any base t v := hval0
 have hW' := hW
 obtain ⟨p, q, hA0, hV, rfl, hfz, hnd⟩ := hW
 have hA : DataW.TrodAll enc Try.prog W 0 (fun _ => true) true Try.f7.params.toList args.toList ds p := hA0
 rw [Try.params7] at hA hval hsz
 obtain ⟨v0, vs0, d0, ds0, p0, q0, hargs, rfl, rfl, h0, r0⟩ := trodAll_cons hA
 obtain ⟨v1, vs1, d1, ds1, p1, q1, rfl, rfl, rfl, h1, r1⟩ := trodAll_cons r0
 obtain ⟨rfl, rfl, rfl⟩ := trodAll_nil r1
 obtain rfl : args = #[v0, v1] := by cases args; simp_all
 obtain ⟨rfl, rfl⟩ := trodVars_none hV
 have k0 := h0
 have lt0 : ∀ x ∈ p0, x.block < W.heap.size := by obtain ⟨m, hm⟩ := k0; exact DataW.trod_lt m _ _ _ hm
 obtain ⟨l0, K0, O0⟩ := Opn.arg (Opn.slice (B := 24) Try.underlying23 (by kernel_rfl) (by kernel_rfl) (Opn.slice (B := 24) Try.underlying37 (by kernel_rfl) (by kernel_rfl) opnS40)) hsz (j := 0) (t := 23) rfl rfl h0
 obtain ⟨a0, len0, cap0, rfl⟩ := okWide_slice Try.underlying23 (hval 0 23 v0 rfl rfl)
 obtain ⟨A0, c0, e0, hc0, hr0⟩ := K0
 simp only [Value.cells, List.cons.injEq, and_true, Value.slice.injEq] at e0
 obtain ⟨rfl, rfl, rfl⟩ := e0
 have k1 := h1
 have lt1 : ∀ x ∈ p1, x.block < W.heap.size := by obtain ⟨m, hm⟩ := k1; exact DataW.trod_lt m _ _ _ hm
 obtain ⟨l1, K1, O1⟩ := Opn.arg (Opn.slice (B := 24) Try.underlying23 (by kernel_rfl) (by kernel_rfl) (Opn.slice (B := 24) Try.underlying37 (by kernel_rfl) (by kernel_rfl) opnS40)) hsz (j := 1) (t := 23) rfl rfl h1
 obtain ⟨a1, len1, cap1, rfl⟩ := okWide_slice Try.underlying23 (hval 1 23 v1 rfl rfl)
 obtain ⟨A1, c1, e1, hc1, hr1⟩ := K1
 simp only [Value.cells, List.cons.injEq, and_true, Value.slice.injEq] at e1
 obtain ⟨rfl, rfl, rfl⟩ := e1
 clear hA0 hval0 hsz0 hsz
 have hk0 : Rows.uptoBulkAll ([d0, d1] ++ []) ≤ 1048576 := of_decide_eq_true hk
 simp only [List.append_nil, Rows.uptoBulkAll] at hk0
 have m0 : memO l0 := ⟨by have := O0.2.1; omega, fun c hc => by have := (O0.2.2 c hc).2.1; omega⟩
 have m1 : memO l1 := ⟨by have := O1.2.1; omega, fun c hc => by have := (O1.2.2 c hc).2.1; omega⟩
 obtain ⟨k, h⟩ := Pure.parts_all l0 l1 m0 m1 (lenB k0 (by omega)) (lenB k1 (by omega))
 refine (seriflaw06_PathParts.calls k _ _ l0 _ _ l1 true W hr0 hc0 hr1 hc1 h).mono ?_
 rintro e W' ⟨rfl, hd⟩
 have bel : Below W.heap.size W W' := hd
 exact ⟨_, rfl, _, _, _, [], _, [], hW', trodAll_mk1 (shut_bool Try.underlying4 _), (trodAll_cons_mk (Below.trod laidOut (by kernel_rfl) (of_decide_eq_true (by kernel_rfl)) k0 bel lt0) (trodAll_cons_mk (Below.trod laidOut (by kernel_rfl) (of_decide_eq_true (by kernel_rfl)) k1 bel lt1) trodAll_mk0)), rfl, bel.frame _, fun h => by cases h⟩
theorem over : Rows.pathPartsUptoRow.holds Try.pinned (Rows.OpenSpec.upto Rows.pathPartsSpec) :=
 OpenClaim.holds_of_cond 7 Try.f7 rfl rfl rfl rfl rfl rfl rfl ⟨rfl, rfl, rfl, rfl, rfl⟩ rfl rfl rfl rfl rfl (by kernel_rfl) Try.func7 (by kernel_rfl)
  (of_decide_eq_true (by kernel_rfl)) (by unfold Func.isWrapper; first | (rw [if_pos (by decide +kernel)]; kernel_rfl) | (rw [if_neg (by decide +kernel)]; exact ⟨rfl, rfl⟩))
  (fun os started H enc _ F => lifted os started H enc F)
theorem proved : Rows.PathPartsUptoSaid := over
#print axioms proved
end Go.Proofs.Ytmlkpadlafjfeaa.pathParts
namespace Go.Proofs.Ytmlkpadlafjfeaa
/-- The row, under a short name, for the claim. -/
theorem pathPartsUpto_holds : Rows.PathPartsUptoSaid := pathParts.proved
end Go.Proofs.Ytmlkpadlafjfeaa
