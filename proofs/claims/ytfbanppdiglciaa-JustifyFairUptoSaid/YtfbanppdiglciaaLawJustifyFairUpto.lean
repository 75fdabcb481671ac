-- written by a program of this session (wip/xprint.py) over the kit's print
import Derived.Test.YtfbanppdiglciaaYx0
import Derived.Test.YtfbanppdiglciaaYx27
import Derived.Test.YtfbanppdiglciaaRows
import Derived.Test.YtfbanppdiglciaaOpnY
import Derived.Test.YtfbanppdiglciaaPureJustifyFair
import Derived.WalkKit
import Derived.ProofKit
import Derived.OpenShut
import Derived.ShutString
import Derived.ChangeOld
import Derived.Below
import Derived.SizedLaws
import Derived.JoinedCond
import Derived.Deep.CondSized
import Derived.Deep.Slices
set_option linter.unusedVariables false
set_option linter.unusedSimpArgs false
namespace Go.Proofs.Ytfbanppdiglciaa.justifyFair
open Go.ChangeShapes Go.WideShapes Go.ChangeAt Go.RowKit
open Go.ChangeMaps (open_string shut_string)
open Go.Proofs.Ytfbanppdiglciaa.Y Go.Proofs.YtfbanppdiglciaaW.PrintWords
theorem own : ownKnob Try.prog.godebug = none := by kernel_rfl
theorem laidOut : laidOutB Try.prog = true := by kernel_rfl
theorem opnS31 : Opn Try.prog 31 k31 okS31 :=
 Opn.iso (fun a => (⟨a.1, a.2.1, a.2.2.1, a.2.2.2.1, a.2.2.2.2.1, a.2.2.2.2.2⟩ : S31)) (fun _ => rfl) (Opn.struct Try.underlying31 (by kernel_rfl) (by kernel_rfl) (OpnAt.cons (by kernel_rfl) (Opn.int Try.underlying3) (OpnAt.cons (by kernel_rfl) (Opn.int Try.underlying3) (OpnAt.cons (by kernel_rfl) (Opn.int Try.underlying3) (OpnAt.cons (by kernel_rfl) (Opn.int Try.underlying3) (OpnAt.cons (by kernel_rfl) (Opn.int Try.underlying3) (OpnAt.one (by kernel_rfl) (Opn.bool Try.underlying4))))))))
theorem length_le {H : Type} (l : List (DataW H)) : l.length ≤ Rows.uptoBulkAll l := by
 induction l with
 | nil => simp [Rows.uptoBulkAll]
 | cons x r ih =>
  have one : 1 ≤ Rows.uptoBulk x := by
   cases x with
   | lit l => cases l <;> simp [Rows.uptoBulk]
   | nil => simp [Rows.uptoBulk]
   | ptr d => simp [Rows.uptoBulk]
   | slice elems spare => simp [Rows.uptoBulk]
   | agg parts => simp [Rows.uptoBulk]
   | iface t d => simp [Rows.uptoBulk]
   | map entries => simp [Rows.uptoBulk]
   | held h => simp [Rows.uptoBulk]
  simp only [Rows.uptoBulkAll, List.length_cons]; omega
/-- What the bound gives: the slice's length. -/
theorem lenB {H : Type} {enc : TypeId × Value → H} {W : World} {d : DataW H} {p : List MemPlace} {a : Option Addr} {len cap : Nat} (h : DataW.Trod enc Try.prog W 0 (fun _ => true) true 24 (.slice a len cap) d p) (hd : Rows.uptoBulk d ≤ 1048576) : len ≤ 1048576 := by
 obtain ⟨fuel, hf⟩ := h
 rcases Go.Deep.open_slice Try.underlying24 hf with ⟨e, _⟩ | ⟨a', len', cap', m, n, D, Pl, e, _, _, _, _, ex, _⟩
 · simp only [Value.cells, List.cons.injEq, and_true, Value.slice.injEq] at e
   omega
 · simp only [Value.cells, List.cons.injEq, and_true, Value.slice.injEq] at e
   have ed := congrArg Prod.fst ex
   dsimp only at ed
   rw [ed] at hd
   simp only [Rows.uptoBulk] at hd
   have := length_le ((List.range len').map D)
   rw [List.length_map, List.length_range] at this
   omega
set_option maxRecDepth 100000 in
theorem lifted (os : Os) (started : os.Started) (H : Type) (enc : TypeId × Value → H) (F : Stop.Interp) :
  ReturnsInHanded {} Try.checked os 8 .any ((Rows.OpenSpec.upto Rows.justifyFairSpec).pre6 enc Try.prog Try.f8 Rows.justifyFairUptoRow.domain false) (((Rows.OpenSpec.upto Rows.justifyFairSpec).at F).post enc Try.prog Try.f8 false true false false) := by
 refine returnsInHanded_of_cond_sized (C := Try.checked) (s := (Rows.OpenSpec.upto Rows.justifyFairSpec)) (k := Rows.uptoSmall) rfl own started (by kernel_rfl) Try.func8
  (OpenSpec.witness (enc := enc) (C := Try.checked) (s := (Rows.OpenSpec.upto Rows.justifyFairSpec)) (k := Rows.uptoSmall) rfl false ⟨#[], #[.slice none 0 0, .agg #[.int .i64 0, .int .i64 0, .int .i64 0, .int .i64 0, .int .i64 0, .bool false], .int .i64 0], []⟩ 8 (by kernel_rfl) (by kernel_rfl) (by kernel_rfl)
   (x := ([.nil, .agg [.lit (.int .i64 0), .lit (.int .i64 0), .lit (.int .i64 0), .lit (.int .i64 0), .lit (.int .i64 0), .lit (.bool false)], .lit (.int .i64 0)], [], [])) (by kernel_rfl) rfl (by kernel_rfl)) ?_
 intro W base args ds gs before hval0 hW hcnd hk hsz0 _
 show Calls Try.prog 8 args W fun e W' => ∃ v, e = .returned v ∧ Rows.justifyFairSpec.post enc Try.prog Try.f8 false true false false W args v W'
 have hsz : (DataW.weightsEach Try.prog (Try.f8.params.toList ++ Rows.justifyFairSpec.plain.varTypes Try.prog) (ds ++ gs)).all (· ≤ reachBytes) = true := hsz0
 have hval : ∀ (j : Nat) t v, Try.f8.params[j]? = some t → args[j]? = some v → Value.okWide Try.prog W .any base t v := hval0
 have hW' := hW
 obtain ⟨p, q, hA0, hV, rfl, hfz, hnd⟩ := hW
 have hA : DataW.TrodAll enc Try.prog W 0 (fun _ => true) true Try.f8.params.toList args.toList ds p := hA0
 rw [Try.params8] at hA hval hsz
 obtain ⟨v0, vs0, d0, ds0, p0, q0, hargs, rfl, rfl, h0, r0⟩ := trodAll_cons hA
 obtain ⟨v1, vs1, d1, ds1, p1, q1, rfl, rfl, rfl, h1, r1⟩ := trodAll_cons r0
 obtain ⟨v2, vs2, d2, ds2, p2, q2, rfl, rfl, rfl, h2, r2⟩ := trodAll_cons r1
 obtain ⟨rfl, rfl, rfl⟩ := trodAll_nil r2
 obtain rfl : args = #[v0, v1, v2] := by cases args; simp_all
 obtain ⟨rfl, rfl⟩ := trodVars_none hV
 have k0 := h0
 have lt0 : ∀ x ∈ p0, x.block < W.heap.size := by obtain ⟨m, hm⟩ := k0; exact DataW.trod_lt m _ _ _ hm
 obtain ⟨l0, K0, O0⟩ := Opn.arg (Opn.slice (B := 8) Try.underlying24 (by kernel_rfl) (by kernel_rfl) (Opn.int Try.underlying3)) hsz (j := 0) (t := 24) rfl rfl h0
 obtain ⟨a0, len0, cap0, rfl⟩ := okWide_slice Try.underlying24 (hval 0 24 v0 rfl rfl)
 obtain ⟨A0, c0, e0, hc0, hr0⟩ := K0
 simp only [Value.cells, List.cons.injEq, and_true, Value.slice.injEq] at e0
 obtain ⟨rfl, rfl, rfl⟩ := e0
 have k1 := h1
 have lt1 : ∀ x ∈ p1, x.block < W.heap.size := by obtain ⟨m, hm⟩ := k1; exact DataW.trod_lt m _ _ _ hm
 obtain ⟨x1, K1, O1⟩ := Opn.arg opnS31 hsz (j := 1) (t := 31) rfl rfl h1
 obtain ⟨cs1, rfl, _⟩ := okWide_struct Try.underlying31 (hval 1 31 v1 rfl rfl)
 have e1 := k31_open K1
 obtain rfl : cs1 = #[.int .i64 x1.f0, .int .i64 x1.f1, .int .i64 x1.f2, .int .i64 x1.f3, .int .i64 x1.f4, .bool x1.f5] := Array.ext' e1
 obtain ⟨a2, rfl, rfl, rfl, w2⟩ := open_int Try.underlying3 (hval 2 3 v2 rfl rfl) h2
 clear hA0 hval0 hsz0 hsz
 have hk0 : Rows.uptoBulkAll ([d0, d1, _] ++ []) ≤ 1048576 := of_decide_eq_true hk
 simp only [List.append_nil, Rows.uptoBulkAll] at hk0
 obtain ⟨k, h⟩ := Pure.fair_all l0 x1 a2 (lenB k0 (by omega))
 refine (seriflaw20_JustifyFair.calls k _ _ l0 x1.f0 x1.f1 x1.f2 x1.f3 x1.f4 x1.f5 a2 true W hr0 hc0 h).mono ?_
 rintro e W' ⟨rfl, hd⟩
 have bel : Below W.heap.size W W' := hd
 exact ⟨_, rfl, _, _, _, [], _, [], hW', trodAll_mk1 (shut_bool Try.underlying4 _), (trodAll_cons_mk (Below.trod laidOut (by kernel_rfl) (of_decide_eq_true (by kernel_rfl)) k0 bel lt0) (trodAll_cons_mk (Below.trod laidOut (by kernel_rfl) (of_decide_eq_true (by kernel_rfl)) k1 bel lt1) (trodAll_cons_mk (shut_int Try.underlying3 w2) trodAll_mk0))), rfl, bel.frame _, fun h => by cases h⟩
theorem over : Rows.justifyFairUptoRow.holds Try.pinned (Rows.OpenSpec.upto Rows.justifyFairSpec) :=
 OpenClaim.holds_of_cond 8 Try.f8 rfl rfl rfl rfl rfl rfl rfl ⟨rfl, rfl, rfl, rfl, rfl⟩ rfl rfl rfl rfl rfl (by kernel_rfl) Try.func8 (by kernel_rfl)
  (of_decide_eq_true (by kernel_rfl)) (by unfold Func.isWrapper; first | (rw [if_pos (by decide +kernel)]; kernel_rfl) | (rw [if_neg (by decide +kernel)]; exact ⟨rfl, rfl⟩))
  (fun os started H enc _ F => lifted os started H enc F)
theorem proved : Rows.JustifyFairUptoSaid := over
#print axioms proved
end Go.Proofs.Ytfbanppdiglciaa.justifyFair
namespace Go.Proofs.Ytfbanppdiglciaa
/-- The row, under a short name, for the claim. -/
theorem justifyFairUpto_holds : Rows.JustifyFairUptoSaid := justifyFair.proved
end Go.Proofs.Ytfbanppdiglciaa
