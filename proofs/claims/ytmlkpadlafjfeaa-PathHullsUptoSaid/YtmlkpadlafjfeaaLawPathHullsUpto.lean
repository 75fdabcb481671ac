-- written by a program of this session (wip/xprint.py) over the kit's print
import Derived.Test.YtmlkpadlafjfeaaRows
import Derived.Test.YtmlkpadlafjfeaaOpn
import Derived.Test.YtmlkpadlafjfeaaPx51
import Derived.Test.YtmlkpadlafjfeaaPurePathHulls
import Derived.WalkKit
import Derived.ProofKit
import Derived.OpenShut
import Derived.ShutString
import Derived.ChangeOld
import Derived.Below
import Derived.SizedLaws
import Derived.JoinedCond
import Derived.Deep.CondSized
import Derived.Deep.Slices
set_option linter.unusedVariables false
set_option linter.unusedSimpArgs false
namespace Go.Proofs.Ytmlkpadlafjfeaa.pathHulls
open Go.ChangeShapes Go.WideShapes Go.ChangeAt Go.RowKit
open Go.ChangeMaps (open_string shut_string)
open Go.Proofs.Ytmlkpadlafjfeaa.P Go.Proofs.YtmlkpadlafjfeaaW.PrintWords
theorem own : ownKnob Try.prog.godebug = none := by kernel_rfl
theorem laidOut : laidOutB Try.prog = true := by kernel_rfl
theorem opnS40 : Opn Try.prog 40 k40 okS40 :=
 Opn.iso (fun a => (⟨a.1, a.2.1, a.2.2⟩ : S40)) (fun _ => rfl) (Opn.struct Try.underlying40 (by kernel_rfl) (by kernel_rfl) (OpnAt.cons (by kernel_rfl) (Opn.int Try.underlying3) (OpnAt.cons (by kernel_rfl) (Opn.int Try.underlying3) (OpnAt.one (by kernel_rfl) (Opn.int Try.underlying3)))))
theorem length_le {H : Type} (l : List (DataW H)) : l.length ≤ Rows.uptoBulkAll l := by
 induction l with
 | nil => simp [Rows.uptoBulkAll]
 | cons x r ih =>
  have one : 1 ≤ Rows.uptoBulk x := by
   cases x with
   | lit l => cases l <;> simp [Rows.uptoBulk]
   | nil => simp [Rows.uptoBulk]
   | ptr d => simp [Rows.uptoBulk]
   | slice elems spare => simp [Rows.uptoBulk]
   | agg parts => simp [Rows.uptoBulk]
   | iface t d => simp [Rows.uptoBulk]
   | map entries => simp [Rows.uptoBulk]
   | held h => simp [Rows.uptoBulk]
  simp only [Rows.uptoBulkAll, List.length_cons]; omega
theorem bulk_mem {H : Type} {x : DataW H} : ∀ (l : List (DataW H)), x ∈ l → Rows.uptoBulk x ≤ Rows.uptoBulkAll l
 | [], h => by cases h
 | y :: r, h => by
  simp only [Rows.uptoBulkAll]
  rcases List.mem_cons.1 h with e | e
  · subst e; omega
  · have := bulk_mem r e; omega
/-- What the bound gives: the slice's length. -/
theorem lenT {H : Type} {enc : TypeId × Value → H} {W : World} {fuel t e : Nat} (hu : Try.prog.underlying t = some (.slice e)) {d : DataW H} {p : List MemPlace} {a : Option Addr} {len cap : Nat} (hf : DataW.trod enc Try.prog W 0 (fun _ => true) true fuel t [.slice a len cap] = some (d, p)) (hd : Rows.uptoBulk d ≤ 1048576) : len ≤ 1048576 := by
 rcases Go.Deep.open_slice hu hf with ⟨e, _⟩ | ⟨a', len', cap', m, n, D, Pl, e, _, _, _, _, ex, _⟩
 · simp only [List.cons.injEq, and_true, Value.slice.injEq] at e
   omega
 · simp only [List.cons.injEq, and_true, Value.slice.injEq] at e
   have ed := congrArg Prod.fst ex
   dsimp only at ed
   rw [ed] at hd
   simp only [Rows.uptoBulk] at hd
   have := length_le ((List.range len').map D)
   rw [List.length_map, List.length_range] at this
   omega
theorem lenB {H : Type} {enc : TypeId × Value → H} {W : World} {d : DataW H} {p : List MemPlace} {a : Option Addr} {len cap : Nat} (h : DataW.Trod enc Try.prog W 0 (fun _ => true) true 23 (.slice a len cap) d p) (hd : Rows.uptoBulk d ≤ 1048576) : len ≤ 1048576 := by
 obtain ⟨fuel, hf⟩ := h
 exact lenT Try.underlying23 hf hd
/-- .. and each row's. -/
theorem rowsB {H : Type} {enc : TypeId × Value → H} {W : World} {d : DataW H} {p : List MemPlace} {ad : Addr} {len cap : Nat} (h : DataW.Trod enc Try.prog W 0 (fun _ => true) true 23 (.slice (some ad) len cap) d p) (hd : Rows.uptoBulk d ≤ 1048576) (i : Nat) (hi : i < len) {A : Option Addr} {li ci : Nat} (hc : W.cell? (ad.add i) = some (.slice A li ci)) : li ≤ 1048576 := by
 obtain ⟨fuel, hf⟩ := h
 rcases Go.Deep.open_slice1 Try.underlying23 (by kernel_rfl) hf with ⟨e, _⟩ | ⟨a', len', cap', m, n, V, D, Pl, e, _, hl, _, hm, ex, hel⟩
 · simp only [Value.cells, List.cons.injEq, and_true, Value.slice.injEq] at e
   cases e.1
 · simp only [Value.cells, List.cons.injEq, and_true, Value.slice.injEq, Option.some.injEq] at e
   obtain ⟨e1, e2, e3⟩ := e
   subst e1 e2 e3
   have him : i < m := by rw [hm]; simp; omega
   obtain ⟨h1, h2⟩ := hel i him
   rw [hc] at h1
   injection h1 with h1
   rw [← h1] at h2
   refine lenT Try.underlying37 h2 ?_
   have ed := congrArg Prod.fst ex
   dsimp only at ed
   rw [ed] at hd
   simp only [Rows.uptoBulk] at hd
   have := bulk_mem ((List.range len).map D) (x := D i) (List.mem_map.2 ⟨i, List.mem_range.2 hi, rfl⟩)
   omega
set_option maxRecDepth 100000 in
theorem lifted (os : Os) (started : os.Started) (H : Type) (enc : TypeId × Value → H) (F : Stop.Interp) :
  ReturnsInHanded {} Try.checked os 8 .any ((Rows.OpenSpec.upto Rows.pathHullsSpec).pre6 enc Try.prog Try.f8 Rows.pathHullsUptoRow.domain false) (((Rows.OpenSpec.upto Rows.pathHullsSpec).at F).post enc Try.prog Try.f8 false true false false) := by
 refine returnsInHanded_of_cond_sized (C := Try.checked) (s := (Rows.OpenSpec.upto Rows.pathHullsSpec)) (k := Rows.uptoSmall) rfl own started (by kernel_rfl) Try.func8
  (OpenSpec.witness (enc := enc) (C := Try.checked) (s := (Rows.OpenSpec.upto Rows.pathHullsSpec)) (k := Rows.uptoSmall) rfl false ⟨#[], #[.slice none 0 0], []⟩ 8 (by kernel_rfl) (by kernel_rfl) (by kernel_rfl)
   (x := ([.nil], [], [])) (by kernel_rfl) rfl (by kernel_rfl)) ?_
 intro W base args ds gs before hval0 hW hcnd hk hsz0 _
 show Calls Try.prog 8 args W fun e W' => ∃ v, e = .returned v ∧ Rows.pathHullsSpec.post enc Try.prog Try.f8 false true false false W args v W'
 have hsz : (DataW.weightsEach Try.prog (Try.f8.params.toList ++ Rows.pathHullsSpec.plain.varTypes Try.prog) (ds ++ gs)).all (· ≤ reachBytes) = true := hsz0
 have hval : ∀ (j : Nat) t v, Try.f8.params[j]? = some t → args[j]? = some v → Value.okWide Try.prog W .any base t v := hval0
 have hW' := hW
 obtain ⟨p, q, hA0, hV, rfl, hfz, hnd⟩ := hW
 have hA : DataW.TrodAll enc Try.prog W 0 (fun _ => true) true Try.f8.params.toList args.toList ds p := hA0
 rw [Try.params8] at hA hval hsz
 obtain ⟨v0, vs0, d0, ds0, p0, q0, hargs, rfl, rfl, h0, r0⟩ := trodAll_cons hA
 obtain ⟨rfl, rfl, rfl⟩ := trodAll_nil r0
 obtain rfl : args = #[v0] := by cases args; simp_all
 obtain ⟨rfl, rfl⟩ := trodVars_none hV
 have k0 := h0
 have lt0 : ∀ x ∈ p0, x.block < W.heap.size := by obtain ⟨m, hm⟩ := k0; exact DataW.trod_lt m _ _ _ hm
 obtain ⟨l0, K0, O0⟩ := Opn.arg (Opn.slice (B := 24) Try.underlying23 (by kernel_rfl) (by kernel_rfl) (Opn.slice (B := 24) Try.underlying37 (by kernel_rfl) (by kernel_rfl) opnS40)) hsz (j := 0) (t := 23) rfl rfl h0
 obtain ⟨a0, len0, cap0, rfl⟩ := okWide_slice Try.underlying23 (hval 0 23 v0 rfl rfl)
 obtain ⟨A0, c0, e0, hc0, hr0⟩ := K0
 simp only [Value.cells, List.cons.injEq, and_true, Value.slice.injEq] at e0
 obtain ⟨rfl, rfl, rfl⟩ := e0
 clear hA0 hval0 hsz0 hsz
 have hk0 : Rows.uptoBulkAll ([d0] ++ []) ≤ 1048576 := of_decide_eq_true hk
 simp only [List.append_nil, Rows.uptoBulkAll] at hk0
 have m0 : memO l0 := ⟨by have := O0.2.1; omega, fun c hc => by have := (O0.2.2 c hc).2.1; omega⟩
 have hrows : ∀ r ∈ l0, r.length ≤ 1048576 := fun r hr => by
  obtain ⟨i, hi, rfl⟩ := List.getElem_of_mem hr
  obtain ⟨ad, Ai, ci, ea, x0, _, _⟩ := at_L2 hr0 (i : Int) (by omega) (by omega)
  subst ea
  rw [Int.toNat_natCast, rdL2 hi] at x0
  exact rowsB k0 (by omega) i hi x0
 obtain ⟨k, h⟩ := Pure.hulls_all l0 m0 (lenB k0 (by omega)) hrows
 refine (seriflaw06_PathHulls.calls k _ _ l0 true W hr0 hc0 h).mono ?_
 rintro e W' ⟨rfl, hd⟩
 have bel : Below W.heap.size W W' := hd
 exact ⟨_, rfl, _, _, _, [], _, [], hW', trodAll_mk1 (shut_bool Try.underlying4 _), (trodAll_cons_mk (Below.trod laidOut (by kernel_rfl) (of_decide_eq_true (by kernel_rfl)) k0 bel lt0) trodAll_mk0), rfl, bel.frame _, fun h => by cases h⟩
theorem over : Rows.pathHullsUptoRow.holds Try.pinned (Rows.OpenSpec.upto Rows.pathHullsSpec) :=
 OpenClaim.holds_of_cond 8 Try.f8 rfl rfl rfl rfl rfl rfl rfl ⟨rfl, rfl, rfl, rfl, rfl⟩ rfl rfl rfl rfl rfl (by kernel_rfl) Try.func8 (by kernel_rfl)
  (of_decide_eq_true (by kernel_rfl)) (by unfold Func.isWrapper; first | (rw [if_pos (by decide +kernel)]; kernel_rfl) | (rw [if_neg (by decide +kernel)]; exact ⟨rfl, rfl⟩))
  (fun os started H enc _ F => lifted os started H enc F)
theorem proved : Rows.PathHullsUptoSaid := over
#print axioms proved
end Go.Proofs.Ytmlkpadlafjfeaa.pathHulls
namespace Go.Proofs.Ytmlkpadlafjfeaa
/-- The row, under a short name, for the claim. -/
theorem pathHullsUpto_holds : Rows.PathHullsUptoSaid := pathHulls.proved
end Go.Proofs.Ytmlkpadlafjfeaa
