/- SfntSums answers true for any two rows of bytes that are, together with what they hold, of bulk at most 1048576: every Sum is the document's, and sums join. -/
import Derived.Test.YtonljpciadeafaaRows
import Derived.Test.YtonljpciadeafaaOpn
import Derived.Test.YtonljpciadeafaaSfLS
import Derived.WalkKit
import Derived.ProofKit
import Derived.OpenShut
import Derived.ShutString
import Derived.ChangeOld
import Derived.Below
import Derived.SizedLaws
import Derived.JoinedCond
import Derived.Deep.CondSized
import Derived.Deep.Slices
set_option linter.unusedVariables false
set_option linter.unusedSimpArgs false
namespace Go.Proofs.Ytonljpciadeafaa.sfntSums
open Go.ChangeShapes Go.WideShapes Go.ChangeAt Go.RowKit
open Go.ChangeMaps (open_string shut_string)
open Go.Proofs.Ytonljpciadeafaa.S Go.Proofs.YtonljpciadeafaaW.PrintWords
theorem own : ownKnob Try.prog.godebug = none := by kernel_rfl
theorem laidOut : laidOutB Try.prog = true := by kernel_rfl
theorem length_le {H : Type} (l : List (DataW H)) : l.length ≤ Rows.uptoBulkAll l := by
 induction l with
 | nil => simp [Rows.uptoBulkAll]
 | cons x r ih =>
  have one : 1 ≤ Rows.uptoBulk x := by
   cases x with
   | lit l => cases l <;> simp [Rows.uptoBulk]
   | nil => simp [Rows.uptoBulk]
   | ptr d => simp [Rows.uptoBulk]
   | slice elems spare => simp [Rows.uptoBulk]
   | agg parts => simp [Rows.uptoBulk]
   | iface t d => simp [Rows.uptoBulk]
   | map entries => simp [Rows.uptoBulk]
   | held h => simp [Rows.uptoBulk]
  simp only [Rows.uptoBulkAll, List.length_cons]; omega
/-- What the bound gives: the slice's length. -/
theorem lenB {H : Type} {enc : TypeId × Value → H} {W : World} {d : DataW H} {p : List MemPlace} {a : Option Addr} {len cap : Nat} (h : DataW.Trod enc Try.prog W 0 (fun _ => true) true 23 (.slice a len cap) d p) (hd : Rows.uptoBulk d ≤ 1048576) : len ≤ 1048576 := by
 obtain ⟨fuel, hf⟩ := h
 rcases Go.Deep.open_slice Try.underlying23 hf with ⟨e, _⟩ | ⟨a', len', cap', m, n, D, Pl, e, _, _, _, _, ex, _⟩
 · simp only [Value.cells, List.cons.injEq, and_true, Value.slice.injEq] at e
   omega
 · simp only [Value.cells, List.cons.injEq, and_true, Value.slice.injEq] at e
   have ed := congrArg Prod.fst ex
   dsimp only at ed
   rw [ed] at hd
   simp only [Rows.uptoBulk] at hd
   have := length_le ((List.range len').map D)
   rw [List.length_map, List.length_range] at this
   omega
theorem byte_of_wf {x : Int} (h : (Lit.int .u8 x).wf = true) : 0 ≤ x ∧ x < 256 := by
 simp only [Lit.wf, IntKind.min, IntKind.max, IntKind.signed, IntKind.bits, Bool.and_eq_true, decide_eq_true_eq] at h
 simp at h
 omega
set_option maxRecDepth 100000 in
theorem lifted (os : Os) (started : os.Started) (H : Type) (enc : TypeId × Value → H) (F : Stop.Interp) :
  ReturnsInHanded {} Try.checked os 4 .any ((Rows.OpenSpec.upto Rows.sfntSumsSpec).pre6 enc Try.prog Try.f4 Rows.sfntSumsUptoRow.domain false) (((Rows.OpenSpec.upto Rows.sfntSumsSpec).at F).post enc Try.prog Try.f4 false true false false) := by
 refine returnsInHanded_of_cond_sized (C := Try.checked) (s := (Rows.OpenSpec.upto Rows.sfntSumsSpec)) (k := Rows.uptoSmall) rfl own started (by kernel_rfl) Try.func4
  (OpenSpec.witness (enc := enc) (C := Try.checked) (s := (Rows.OpenSpec.upto Rows.sfntSumsSpec)) (k := Rows.uptoSmall) rfl false ⟨#[], #[.slice none 0 0, .slice none 0 0], []⟩ 8 (by kernel_rfl) (by kernel_rfl) (by kernel_rfl)
   (x := ([.nil, .nil], [], [])) (by kernel_rfl) rfl (by kernel_rfl)) ?_
 intro W base args ds gs before hval0 hW hcnd hk hsz0 _
 show Calls Try.prog 4 args W fun e W' => ∃ v, e = .returned v ∧ Rows.sfntSumsSpec.post enc Try.prog Try.f4 false true false false W args v W'
 have hsz : (DataW.weightsEach Try.prog (Try.f4.params.toList ++ Rows.sfntSumsSpec.plain.varTypes Try.prog) (ds ++ gs)).all (· ≤ reachBytes) = true := hsz0
 have hval : ∀ (j : Nat) t v, Try.f4.params[j]? = some t → args[j]? = some v → Value.okWide Try.prog W .any base t v := hval0
 have hW' := hW
 obtain ⟨p, q, hA0, hV, rfl, hfz, hnd⟩ := hW
 have hA : DataW.TrodAll enc Try.prog W 0 (fun _ => true) true Try.f4.params.toList args.toList ds p := hA0
 rw [Try.params4] at hA hval hsz
 obtain ⟨v0, vs0, d0, ds0, p0, q0, hargs, rfl, rfl, h0, r0⟩ := trodAll_cons hA
 obtain ⟨v1, vs1, d1, ds1, p1, q1, rfl, rfl, rfl, h1, r1⟩ := trodAll_cons r0
 obtain ⟨rfl, rfl, rfl⟩ := trodAll_nil r1
 obtain rfl : args = #[v0, v1] := by cases args; simp_all
 obtain ⟨rfl, rfl⟩ := trodVars_none hV
 have k0 := h0
 have lt0 : ∀ x ∈ p0, x.block < W.heap.size := by obtain ⟨m, hm⟩ := k0; exact DataW.trod_lt m _ _ _ hm
 obtain ⟨l0, K0, O0⟩ := Opn.arg (Opn.slice (B := 1) Try.underlying23 (by kernel_rfl) (by kernel_rfl) (Opn.int Try.underlying5)) hsz (j := 0) (t := 23) rfl rfl h0
 obtain ⟨a0, len0, cap0, rfl⟩ := okWide_slice Try.underlying23 (hval 0 23 v0 rfl rfl)
 obtain ⟨A0, c0, e0, hc0, hr0⟩ := K0
 simp only [Value.cells, List.cons.injEq, and_true, Value.slice.injEq] at e0
 obtain ⟨rfl, rfl, rfl⟩ := e0
 have k1 := h1
 have lt1 : ∀ x ∈ p1, x.block < W.heap.size := by obtain ⟨m, hm⟩ := k1; exact DataW.trod_lt m _ _ _ hm
 obtain ⟨l1, K1, O1⟩ := Opn.arg (Opn.slice (B := 1) Try.underlying23 (by kernel_rfl) (by kernel_rfl) (Opn.int Try.underlying5)) hsz (j := 1) (t := 23) rfl rfl h1
 obtain ⟨a1, len1, cap1, rfl⟩ := okWide_slice Try.underlying23 (hval 1 23 v1 rfl rfl)
 obtain ⟨A1, c1, e1, hc1, hr1⟩ := K1
 simp only [Value.cells, List.cons.injEq, and_true, Value.slice.injEq] at e1
 obtain ⟨rfl, rfl, rfl⟩ := e1
 clear hA0 hval0 hsz0 hsz
 have hk0 : Rows.uptoBulkAll ([d0, d1] ++ []) ≤ 1048576 := of_decide_eq_true hk
 simp only [List.append_nil, Rows.uptoBulkAll] at hk0
 have o0 : okB l0 := fun x hx => byte_of_wf (O0.2.2 x hx)
 have o1 : okB l1 := fun x hx => byte_of_wf (O1.2.2 x hx)
 have z0 := lenB k0 (by omega)
 have z1 := lenB k1 (by omega)
 refine (sums_walk l0 l1 _ _ _ _ W hr0 hc0 hr1 hc1 o0 o1 (by omega)).mono ?_
 rintro e W' ⟨rfl, hd⟩
 have bel : Below W.heap.size W W' := hd
 exact ⟨_, rfl, _, _, _, [], _, [], hW', trodAll_mk1 (shut_bool Try.underlying4 _), (trodAll_cons_mk (Below.trod laidOut (by kernel_rfl) (of_decide_eq_true (by kernel_rfl)) k0 bel lt0) (trodAll_cons_mk (Below.trod laidOut (by kernel_rfl) (of_decide_eq_true (by kernel_rfl)) k1 bel lt1) trodAll_mk0)), rfl, bel.frame _, fun h => by cases h⟩
theorem over : Rows.sfntSumsUptoRow.holds Try.pinned (Rows.OpenSpec.upto Rows.sfntSumsSpec) :=
 OpenClaim.holds_of_cond 4 Try.f4 rfl rfl rfl rfl rfl rfl rfl ⟨rfl, rfl, rfl, rfl, rfl⟩ rfl rfl rfl rfl rfl (by kernel_rfl) Try.func4 (by kernel_rfl)
  (of_decide_eq_true (by kernel_rfl)) (by unfold Func.isWrapper; first | (rw [if_pos (by decide +kernel)]; kernel_rfl) | (rw [if_neg (by decide +kernel)]; exact ⟨rfl, rfl⟩))
  (fun os started H enc _ F => lifted os started H enc F)
theorem proved : Rows.SfntSumsUptoSaid := over
#print axioms proved
end Go.Proofs.Ytonljpciadeafaa.sfntSums
namespace Go.Proofs.Ytonljpciadeafaa
/-- The row, under a short name, for the claim. -/
theorem sfntSumsUpto_holds : Rows.SfntSumsUptoSaid := sfntSums.proved
end Go.Proofs.Ytonljpciadeafaa
