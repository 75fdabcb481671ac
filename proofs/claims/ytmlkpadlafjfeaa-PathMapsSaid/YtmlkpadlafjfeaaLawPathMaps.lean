import Derived.Test.YtmlkpadlafjfeaaPx90
import Derived.Test.YtmlkpadlafjfeaaRows
import Derived.Test.YtmlkpadlafjfeaaOpn
import Derived.Test.YtmlkpadlafjfeaaPathAllP
import Derived.WalkKit
import Derived.ProofKit
import Derived.OpenShut
import Derived.ShutString
import Derived.ChangeOld
import Derived.Below
import Derived.SizedLaws
set_option linter.unusedVariables false
set_option linter.unusedSimpArgs false
namespace Go.Proofs.Ytmlkpadlafjfeaa.pathMaps
open Go.ChangeShapes Go.WideShapes Go.ChangeAt Go.RowKit
open Go.ChangeMaps (open_string shut_string)
open Go.Proofs.Ytmlkpadlafjfeaa.P Go.Proofs.YtmlkpadlafjfeaaW.PrintWords
theorem own : ownKnob Try.prog.godebug = none := by kernel_rfl
theorem laidOut : laidOutB Try.prog = true := by kernel_rfl
def okS40 (x : S40) : Prop := (Lit.int .i64 x.f0).wf = true ∧ (Lit.int .i64 x.f1).wf = true ∧ (Lit.int .i64 x.f2).wf = true
theorem opnS40 : Opn Try.prog 40 k40 okS40 :=
 Opn.iso (fun a => (⟨a.1, a.2.1, a.2.2⟩ : S40)) (fun _ => rfl) (Opn.struct Try.underlying40 (by kernel_rfl) (by kernel_rfl) (Zc.cons (by kernel_rfl) (Opn.int Try.underlying3) (Zc.cons (by kernel_rfl) (Opn.int Try.underlying3) (Zc.one (by kernel_rfl) (Opn.int Try.underlying3)))))
theorem opnM : Opn Try.prog 51 (Kd.pair (Kd.int .i64) (Kd.pair (Kd.int .i64) (Kd.pair (Kd.int .i64) (Kd.int .i64)))) (fun z => (Lit.int .i64 z.1).wf = true ∧ (Lit.int .i64 z.2.1).wf = true ∧ (Lit.int .i64 z.2.2.1).wf = true ∧ (Lit.int .i64 z.2.2.2).wf = true) :=
 Opn.array (P := Try.prog) Try.underlying51 (by kernel_rfl) (by kernel_rfl) (Zc.cons (by kernel_rfl) (Opn.int Try.underlying3) (Zc.cons (by kernel_rfl) (Opn.int Try.underlying3) (Zc.cons (by kernel_rfl) (Opn.int Try.underlying3) (Zc.one (by kernel_rfl) (Opn.int Try.underlying3)))))
set_option maxRecDepth 100000 in
theorem lifted (os : Os) (started : os.Started) (H : Type) (enc : TypeId × Value → H) :
  ReturnsInHanded {} Try.checked os 9 .any (Rows.pathMapsSpec.pre6 enc Try.prog Try.f9 Rows.pathMapsRow.domain false) (Rows.pathMapsSpec.post enc Try.prog Try.f9 false true false false) := by
 refine returnsInHanded_of_change_sized (C := Try.checked) own started (by kernel_rfl) Try.func9
  (ChangeSpec.witness6 (enc := enc) (C := Try.checked) false ⟨#[], #[.slice none 0 0, .agg #[.int .i64 0, .int .i64 0, .int .i64 0, .int .i64 0]], []⟩ 8 (by kernel_rfl) (by kernel_rfl) (by kernel_rfl) (by kernel_rfl)) ?_
 intro W base args ds gs before hval0 hW hcnd hsz0 _
 have hsz : (DataW.weightsEach Try.prog (Try.f9.params.toList ++ Rows.pathMapsSpec.plain.varTypes Try.prog) (ds ++ gs)).all (· ≤ reachBytes) = true := hsz0
 have hval : ∀ (j : Nat) t v, Try.f9.params[j]? = some t → args[j]? = some v → Value.okWide Try.prog W .any base t v := hval0
 have hW' := hW
 obtain ⟨p, q, hA0, hV, rfl, hfz, hnd⟩ := hW
 have hA : DataW.TrodAll enc Try.prog W 0 (fun _ => true) true Try.f9.params.toList args.toList ds p := hA0
 rw [Try.params9] at hA hval hsz
 obtain ⟨v0, vs0, d0, ds0, p0, q0, hargs, rfl, rfl, h0, r0⟩ := trodAll_cons hA
 obtain ⟨v1, vs1, d1, ds1, p1, q1, rfl, rfl, rfl, h1, r1⟩ := trodAll_cons r0
 obtain ⟨rfl, rfl, rfl⟩ := trodAll_nil r1
 obtain rfl : args = #[v0, v1] := by cases args; simp_all
 obtain ⟨rfl, rfl⟩ := trodVars_none hV
 have k0 := h0
 have lt0 : ∀ x ∈ p0, x.block < W.heap.size := by obtain ⟨m, hm⟩ := k0; exact DataW.trod_lt m _ _ _ hm
 obtain ⟨l0, K0, O0⟩ := Opn.arg (Opn.slice (B := 24) Try.underlying23 (by kernel_rfl) (by kernel_rfl) (Opn.slice (B := 24) Try.underlying37 (by kernel_rfl) (by kernel_rfl) opnS40)) hsz (j := 0) (t := 23) rfl rfl h0
 obtain ⟨a0, len0, cap0, rfl⟩ := okWide_slice Try.underlying23 (hval 0 23 v0 rfl rfl)
 obtain ⟨A0, c0, e0, hc0, hr0⟩ := K0
 simp only [Value.cells, List.cons.injEq, and_true, Value.slice.injEq] at e0
 obtain ⟨rfl, rfl, rfl⟩ := e0
 have k1 := h1
 have lt1 : ∀ x ∈ p1, x.block < W.heap.size := by obtain ⟨m, hm⟩ := k1; exact DataW.trod_lt m _ _ _ hm
 obtain ⟨⟨n0, n1, n2, n3⟩, K1, O1⟩ := Opn.arg opnM hsz (j := 1) (t := 51) rfl rfl h1
 obtain ⟨cs1, rfl, _⟩ := okWide_agg Try.underlying51 (hval 1 51 v1 rfl rfl)
 obtain ⟨y0, z0, e1, u0, y1, z1, rfl, u1, y2, z2, rfl, u2, u3⟩ := K1
 simp only [Kd.int] at u0 u1 u2 u3
 subst u0; subst u1; subst u2; subst u3
 obtain rfl : cs1 = #[.int .i64 n0, .int .i64 n1, .int .i64 n2, .int .i64 n3] := Array.ext' e1
 clear hA0 hval0 hsz0 hsz
 have m0 : Qb l0 := ⟨by have := O0.2.1; omega, fun c hc => by have := (O0.2.2 c hc).2.1; omega⟩
 refine (maps_walk l0 _ _ n0 n1 n2 n3 W hr0 hc0 m0 (i64_of_wf O1.1) (i64_of_wf O1.2.1)).mono ?_
 rintro e W' ⟨rfl, hd⟩
 have bel : Below W.heap.size W W' := hd
 exact ⟨_, rfl, _, _, _, [], _, [], hW', trodAll_mk1 (shut_bool Try.underlying4 _), (trodAll_cons_mk (Below.trod laidOut (by kernel_rfl) (of_decide_eq_true (by kernel_rfl)) k0 bel lt0) (trodAll_cons_mk (Below.trod laidOut (by kernel_rfl) (of_decide_eq_true (by kernel_rfl)) k1 bel lt1) trodAll_mk0)), rfl, bel.frame _, fun h => by cases h⟩
theorem over : Rows.pathMapsRow.holds Try.pinned (OpenSpec.ofChange Rows.pathMapsSpec) :=
 OpenClaim.holds_of_wide 9 Try.f9 rfl rfl rfl rfl rfl rfl rfl ⟨rfl, rfl, rfl, rfl, rfl⟩ rfl rfl rfl rfl rfl (by kernel_rfl) Try.func9 (by kernel_rfl)
  (of_decide_eq_true (by kernel_rfl)) (by unfold Func.isWrapper; first | (rw [if_pos (by decide +kernel)]; kernel_rfl) | (rw [if_neg (by decide +kernel)]; exact ⟨rfl, rfl⟩))
  (fun os started H enc _ => lifted os started H enc)
theorem proved : Rows.PathMapsSaid := over
#print axioms proved
end Go.Proofs.Ytmlkpadlafjfeaa.pathMaps
namespace Go.Proofs.Ytmlkpadlafjfeaa
theorem pathMaps_holds : Rows.PathMapsSaid := pathMaps.proved
end Go.Proofs.Ytmlkpadlafjfeaa
