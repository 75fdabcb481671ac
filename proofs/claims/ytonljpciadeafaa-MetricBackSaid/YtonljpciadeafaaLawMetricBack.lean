/- MetricBack answers true for any measures: those within the limits, written as tables, are read back the same. No condition. -/
import Derived.Test.YtonljpciadeafaaRows
import Derived.Test.YtonljpciadeafaaOpn
import Derived.Test.YtonljpciadeafaaQx0
import Derived.Test.YtonljpciadeafaaMtWS
import Derived.WalkKit
import Derived.ProofKit
import Derived.OpenShut
import Derived.ShutString
import Derived.ChangeOld
import Derived.Below
import Derived.SizedLaws
set_option linter.unusedVariables false
set_option linter.unusedSimpArgs false
namespace Go.Proofs.Ytonljpciadeafaa.metricBack
open Go.ChangeShapes Go.WideShapes Go.ChangeAt Go.RowKit
open Go.ChangeMaps (open_string shut_string)
open Go.Proofs.Ytonljpciadeafaa.Q Go.Proofs.YtonljpciadeafaaW.PrintWords
theorem own : ownKnob Try.prog.godebug = none := by kernel_rfl
def okS37 (x : S37) : Prop := (Lit.int .i64 x.f0).wf = true ∧ (Lit.int .i64 x.f1).wf = true ∧ (Lit.int .i64 x.f2).wf = true ∧ (Lit.int .i64 x.f3).wf = true ∧ (Lit.int .i64 x.f4).wf = true ∧ (Lit.int .i64 x.f5).wf = true ∧ (x.f6.length ≤ 9223372036854775807 ∧ x.f6.length * 8 ≤ 140737488351232 ∧ ∀ y1_ ∈ x.f6, (Lit.int .i64 y1_).wf = true) ∧ (x.f7.length ≤ 9223372036854775807 ∧ x.f7.length * 8 ≤ 140737488351232 ∧ ∀ y1_ ∈ x.f7, (Lit.int .i64 y1_).wf = true) ∧ (x.f8.length ≤ 9223372036854775807 ∧ x.f8.length * 8 ≤ 140737488351232 ∧ ∀ y1_ ∈ x.f8, (Lit.int .i64 y1_).wf = true)
theorem laidOut : laidOutB Try.prog = true := by kernel_rfl
theorem opnS37 : Opn Try.prog 37 k37 okS37 :=
 Opn.iso (fun a => (⟨a.1, a.2.1, a.2.2.1, a.2.2.2.1, a.2.2.2.2.1, a.2.2.2.2.2.1, a.2.2.2.2.2.2.1, a.2.2.2.2.2.2.2.1, a.2.2.2.2.2.2.2.2⟩ : S37)) (fun _ => rfl) (Opn.struct Try.underlying37 (by kernel_rfl) (by kernel_rfl) (OpnAt.cons (by kernel_rfl) (Opn.int Try.underlying3) (OpnAt.cons (by kernel_rfl) (Opn.int Try.underlying3) (OpnAt.cons (by kernel_rfl) (Opn.int Try.underlying3) (OpnAt.cons (by kernel_rfl) (Opn.int Try.underlying3) (OpnAt.cons (by kernel_rfl) (Opn.int Try.underlying3) (OpnAt.cons (by kernel_rfl) (Opn.int Try.underlying3) (OpnAt.cons (by kernel_rfl) (Opn.slice (B := 8) Try.underlying35 (by kernel_rfl) (by kernel_rfl) (Opn.int Try.underlying3)) (OpnAt.cons (by kernel_rfl) (Opn.slice (B := 8) Try.underlying35 (by kernel_rfl) (by kernel_rfl) (Opn.int Try.underlying3)) (OpnAt.one (by kernel_rfl) (Opn.slice (B := 8) Try.underlying35 (by kernel_rfl) (by kernel_rfl) (Opn.int Try.underlying3))))))))))))
set_option maxRecDepth 100000 in
theorem lifted (os : Os) (started : os.Started) (H : Type) (enc : TypeId × Value → H) :
  ReturnsInHanded {} Try.checked os 7 .any (Rows.metricBackSpec.pre6 enc Try.prog Try.f7 Rows.metricBackRow.domain false) (Rows.metricBackSpec.post enc Try.prog Try.f7 false true false false) := by
 refine returnsInHanded_of_change_sized (C := Try.checked) own started (by kernel_rfl) Try.func7
  (ChangeSpec.witness6 (enc := enc) (C := Try.checked) false ⟨#[], #[.agg #[.int .i64 0, .int .i64 0, .int .i64 0, .int .i64 0, .int .i64 0, .int .i64 0, .slice none 0 0, .slice none 0 0, .slice none 0 0]], []⟩ 8 (by kernel_rfl) (by kernel_rfl) (by kernel_rfl) (by kernel_rfl)) ?_
 intro W base args ds gs before hval0 hW hcnd hsz0 _
 have hsz : (DataW.weightsEach Try.prog (Try.f7.params.toList ++ Rows.metricBackSpec.plain.varTypes Try.prog) (ds ++ gs)).all (· ≤ reachBytes) = true := hsz0
 have hval : ∀ (j : Nat) t v, Try.f7.params[j]? = some t → args[j]? = some v → Value.okWide Try.prog W .any base t v := hval0
 have hW' := hW
 obtain ⟨p, q, hA0, hV, rfl, hfz, hnd⟩ := hW
 have hA : DataW.TrodAll enc Try.prog W 0 (fun _ => true) true Try.f7.params.toList args.toList ds p := hA0
 rw [Try.params7] at hA hval hsz
 obtain ⟨v0, vs0, d0, ds0, p0, q0, hargs, rfl, rfl, h0, r0⟩ := trodAll_cons hA
 obtain ⟨rfl, rfl, rfl⟩ := trodAll_nil r0
 obtain rfl : args = #[v0] := by cases args; simp_all
 obtain ⟨rfl, rfl⟩ := trodVars_none hV
 have k0 := h0
 have lt0 : ∀ x ∈ p0, x.block < W.heap.size := by obtain ⟨m, hm⟩ := k0; exact DataW.trod_lt m _ _ _ hm
 obtain ⟨x0, K0, O0⟩ := Opn.arg opnS37 hsz (j := 0) (t := 37) rfl rfl h0
 obtain ⟨cs0, rfl, _⟩ := okWide_struct Try.underlying37 (hval 0 37 v0 rfl rfl)
 obtain ⟨A0_6, c0_6, A0_7, c0_7, A0_8, c0_8, e0, hc0_6, hr0_6, hc0_7, hr0_7, hc0_8, hr0_8⟩ := k37_open K0
 obtain rfl : cs0 = #[.int .i64 x0.f0, .int .i64 x0.f1, .int .i64 x0.f2, .int .i64 x0.f3, .int .i64 x0.f4, .int .i64 x0.f5, .slice A0_6 x0.f6.length c0_6, .slice A0_7 x0.f7.length c0_7, .slice A0_8 x0.f8.length c0_8] := Array.ext' e0
 clear hA0 hval0 hsz0 hsz
 refine (S.back_walk x0.f0 x0.f1 x0.f2 x0.f3 x0.f4 x0.f5 _ _ _ _ _ _ x0.f6 x0.f7 x0.f8 W hr0_6 hr0_7 hr0_8 hc0_6 hc0_7 hc0_8).mono ?_
 rintro e W' ⟨rfl, hd⟩
 have bel : Below W.heap.size W W' := hd
 exact ⟨_, rfl, _, _, _, [], _, [], hW', trodAll_mk1 (shut_bool Try.underlying4 _), (trodAll_cons_mk (Below.trod laidOut (by kernel_rfl) (of_decide_eq_true (by kernel_rfl)) k0 bel lt0) trodAll_mk0), rfl, bel.frame _, fun h => by cases h⟩
theorem over : Rows.metricBackRow.holds Try.pinned (OpenSpec.ofChange Rows.metricBackSpec) :=
 OpenClaim.holds_of_wide 7 Try.f7 rfl rfl rfl rfl rfl rfl rfl ⟨rfl, rfl, rfl, rfl, rfl⟩ rfl rfl rfl rfl rfl (by kernel_rfl) Try.func7 (by kernel_rfl)
  (of_decide_eq_true (by kernel_rfl)) (by unfold Func.isWrapper; first | (rw [if_pos (by decide +kernel)]; kernel_rfl) | (rw [if_neg (by decide +kernel)]; exact ⟨rfl, rfl⟩))
  (fun os started H enc _ => lifted os started H enc)
theorem proved : Rows.MetricBackSaid := over
#print axioms proved
end Go.Proofs.Ytonljpciadeafaa.metricBack
namespace Go.Proofs.Ytonljpciadeafaa
/-- The row, under a short name, for the claim. -/
theorem metricBack_holds : Rows.MetricBackSaid := metricBack.proved
end Go.Proofs.Ytonljpciadeafaa
