-- written by a program of this session (wip/xprint.py) over the kit's print
import Derived.Test.YtonljpciadeafaaRows
import Derived.Test.YtonljpciadeafaaOpn
import Derived.Test.YtonljpciadeafaaQx48
import Derived.Test.YtonljpciadeafaaPureMetricAsks
import Derived.WalkKit
import Derived.ProofKit
import Derived.OpenShut
import Derived.ShutString
import Derived.ChangeOld
import Derived.Below
import Derived.SizedLaws
set_option linter.unusedVariables false
set_option linter.unusedSimpArgs false
namespace Go.Proofs.Ytonljpciadeafaa.metricAsks
open Go.ChangeShapes Go.WideShapes Go.ChangeAt Go.RowKit
open Go.ChangeMaps (open_string shut_string)
open Go.Proofs.Ytonljpciadeafaa.Q Go.Proofs.YtonljpciadeafaaW.PrintWords
theorem own : ownKnob Try.prog.godebug = none := by kernel_rfl
theorem laidOut : laidOutB Try.prog = true := by kernel_rfl
theorem opnS37 : Opn Try.prog 37 k37 okS37 :=
 Opn.iso (fun a => (⟨a.1, a.2.1, a.2.2.1, a.2.2.2.1, a.2.2.2.2.1, a.2.2.2.2.2.1, a.2.2.2.2.2.2.1, a.2.2.2.2.2.2.2.1, a.2.2.2.2.2.2.2.2⟩ : S37)) (fun _ => rfl) (Opn.struct Try.underlying37 (by kernel_rfl) (by kernel_rfl) (OpnAt.cons (by kernel_rfl) (Opn.int Try.underlying3) (OpnAt.cons (by kernel_rfl) (Opn.int Try.underlying3) (OpnAt.cons (by kernel_rfl) (Opn.int Try.underlying3) (OpnAt.cons (by kernel_rfl) (Opn.int Try.underlying3) (OpnAt.cons (by kernel_rfl) (Opn.int Try.underlying3) (OpnAt.cons (by kernel_rfl) (Opn.int Try.underlying3) (OpnAt.cons (by kernel_rfl) (Opn.slice (B := 8) Try.underlying35 (by kernel_rfl) (by kernel_rfl) (Opn.int Try.underlying3)) (OpnAt.cons (by kernel_rfl) (Opn.slice (B := 8) Try.underlying35 (by kernel_rfl) (by kernel_rfl) (Opn.int Try.underlying3)) (OpnAt.one (by kernel_rfl) (Opn.slice (B := 8) Try.underlying35 (by kernel_rfl) (by kernel_rfl) (Opn.int Try.underlying3))))))))))))
set_option maxRecDepth 100000 in
theorem lifted (os : Os) (started : os.Started) (H : Type) (enc : TypeId × Value → H) :
  ReturnsInHanded {} Try.checked os 9 .any (Rows.metricAsksSpec.pre6 enc Try.prog Try.f9 Rows.metricAsksRow.domain false) (Rows.metricAsksSpec.post enc Try.prog Try.f9 false true false false) := by
 refine returnsInHanded_of_change_sized (C := Try.checked) own started (by kernel_rfl) Try.func9
  (ChangeSpec.witness6 (enc := enc) (C := Try.checked) false ⟨#[], #[.agg #[.int .i64 0, .int .i64 0, .int .i64 0, .int .i64 0, .int .i64 0, .int .i64 0, .slice none 0 0, .slice none 0 0, .slice none 0 0], .int .i64 0], []⟩ 8 (by kernel_rfl) (by kernel_rfl) (by kernel_rfl) (by kernel_rfl)) ?_
 intro W base args ds gs before hval0 hW hcnd hsz0 _
 have hsz : (DataW.weightsEach Try.prog (Try.f9.params.toList ++ Rows.metricAsksSpec.plain.varTypes Try.prog) (ds ++ gs)).all (· ≤ reachBytes) = true := hsz0
 have hval : ∀ (j : Nat) t v, Try.f9.params[j]? = some t → args[j]? = some v → Value.okWide Try.prog W .any base t v := hval0
 have hW' := hW
 obtain ⟨p, q, hA0, hV, rfl, hfz, hnd⟩ := hW
 have hA : DataW.TrodAll enc Try.prog W 0 (fun _ => true) true Try.f9.params.toList args.toList ds p := hA0
 rw [Try.params9] at hA hval hsz
 obtain ⟨v0, vs0, d0, ds0, p0, q0, hargs, rfl, rfl, h0, r0⟩ := trodAll_cons hA
 obtain ⟨v1, vs1, d1, ds1, p1, q1, rfl, rfl, rfl, h1, r1⟩ := trodAll_cons r0
 obtain ⟨rfl, rfl, rfl⟩ := trodAll_nil r1
 obtain rfl : args = #[v0, v1] := by cases args; simp_all
 obtain ⟨rfl, rfl⟩ := trodVars_none hV
 have k0 := h0
 have lt0 : ∀ x ∈ p0, x.block < W.heap.size := by obtain ⟨m, hm⟩ := k0; exact DataW.trod_lt m _ _ _ hm
 obtain ⟨x0, K0, O0⟩ := Opn.arg opnS37 hsz (j := 0) (t := 37) rfl rfl h0
 obtain ⟨cs0, rfl, _⟩ := okWide_struct Try.underlying37 (hval 0 37 v0 rfl rfl)
 obtain ⟨A0_6, c0_6, A0_7, c0_7, A0_8, c0_8, e0, hc0_6, hr0_6, hc0_7, hr0_7, hc0_8, hr0_8⟩ := k37_open K0
 obtain rfl : cs0 = #[.int .i64 x0.f0, .int .i64 x0.f1, .int .i64 x0.f2, .int .i64 x0.f3, .int .i64 x0.f4, .int .i64 x0.f5, .slice A0_6 x0.f6.length c0_6, .slice A0_7 x0.f7.length c0_7, .slice A0_8 x0.f8.length c0_8] := Array.ext' e0
 obtain ⟨a1, rfl, rfl, rfl, w1⟩ := open_int Try.underlying3 (hval 1 3 v1 rfl rfl) h1
 clear hA0 hval0 hsz0 hsz
 obtain ⟨k, h⟩ := Pure.MetricAsks x0 a1 O0 w1
 refine (seriflaw04_MetricAsks.calls k x0.f0 x0.f1 x0.f2 x0.f3 x0.f4 x0.f5 _ _ x0.f6 _ _ x0.f7 _ _ x0.f8 a1 true W hr0_6 hc0_6 hr0_7 hc0_7 hr0_8 hc0_8 h).mono ?_
 rintro e W' ⟨rfl, hd⟩
 have bel : Below W.heap.size W W' := hd
 exact ⟨_, rfl, _, _, _, [], _, [], hW', trodAll_mk1 (shut_bool Try.underlying4 _), (trodAll_cons_mk (Below.trod laidOut (by kernel_rfl) (of_decide_eq_true (by kernel_rfl)) k0 bel lt0) (trodAll_cons_mk (shut_int Try.underlying3 w1) trodAll_mk0)), rfl, bel.frame _, fun h => by cases h⟩
theorem over : Rows.metricAsksRow.holds Try.pinned (OpenSpec.ofChange Rows.metricAsksSpec) :=
 OpenClaim.holds_of_wide 9 Try.f9 rfl rfl rfl rfl rfl rfl rfl ⟨rfl, rfl, rfl, rfl, rfl⟩ rfl rfl rfl rfl rfl (by kernel_rfl) Try.func9 (by kernel_rfl)
  (of_decide_eq_true (by kernel_rfl)) (by unfold Func.isWrapper; first | (rw [if_pos (by decide +kernel)]; kernel_rfl) | (rw [if_neg (by decide +kernel)]; exact ⟨rfl, rfl⟩))
  (fun os started H enc _ => lifted os started H enc)
theorem proved : Rows.MetricAsksSaid := over
#print axioms proved
end Go.Proofs.Ytonljpciadeafaa.metricAsks
namespace Go.Proofs.Ytonljpciadeafaa
/-- The row, under a short name, for the claim. -/
theorem metricAsks_holds : Rows.MetricAsksSaid := metricAsks.proved
end Go.Proofs.Ytonljpciadeafaa
