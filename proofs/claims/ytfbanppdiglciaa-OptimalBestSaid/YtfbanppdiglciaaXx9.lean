import Derived.Test.YtfbanppdiglciaaXx0
import Derived.Test.YtfbanppdiglciaaXx7
import Derived.Test.YtfbanppdiglciaaXx8
namespace Go.Proofs.Ytfbanppdiglciaa.X
open Go.RowKit Go.Proofs.YtfbanppdiglciaaW.PrintWords Go.Proofs.YtfbanppdiglciaaW.PrintLast Go.Proofs.YtfbanppdiglciaaW.PrintMore
attribute [local go_sem] jw jv jJ jI jf je jA jC
set_option linter.unusedVariables false
set_option linter.unusedSimpArgs false
def jl.f (s0_0 : List (S31)) (s0_1 : List (S81)) (s0_2 : List Int) (s0_3 : Int) (a1 : Int) (a2 : Int) (a3 : Int) : Option (Int × Int) := (qW.f s0_0 s0_1 s0_2 s0_3 a2).bind fun bt131 => (if bt131.1 ≥ 0 then ((qW.f s0_0 s0_1 s0_2 bt131.2.2 a1).bind fun bt134 => (if bt134.2.1 = true then (if bt131.2.1 = true then (some (wrap64 ((wrap64 ((wrap64 ((wrap64 (10 + a3)) * (wrap64 (10 + a3)))) + (wrap64 (bt131.1 * bt131.1)))) + 3000), bt134.2.2)) else (some (wrap64 ((wrap64 ((wrap64 (10 + a3)) * (wrap64 (10 + a3)))) + (wrap64 (bt131.1 * bt131.1))), bt134.2.2))) else (some (wrap64 ((wrap64 ((wrap64 (10 + a3)) * (wrap64 (10 + a3)))) + (wrap64 (bt131.1 * bt131.1))), bt134.2.2)))) else (if bt131.1 > (-10000) then ((qW.f s0_0 s0_1 s0_2 bt131.2.2 a1).bind fun bt137 => (if bt137.2.1 = true then (if bt131.2.1 = true then (some (wrap64 ((wrap64 ((wrap64 ((wrap64 (10 + a3)) * (wrap64 (10 + a3)))) - (wrap64 (bt131.1 * bt131.1)))) + 3000), bt137.2.2)) else (some (wrap64 ((wrap64 ((wrap64 (10 + a3)) * (wrap64 (10 + a3)))) - (wrap64 (bt131.1 * bt131.1))), bt137.2.2))) else (some (wrap64 ((wrap64 ((wrap64 (10 + a3)) * (wrap64 (10 + a3)))) - (wrap64 (bt131.1 * bt131.1))), bt137.2.2)))) else ((qW.f s0_0 s0_1 s0_2 bt131.2.2 a1).bind fun bt140 => (if bt140.2.1 = true then (if bt131.2.1 = true then (some (wrap64 ((wrap64 ((wrap64 (10 + a3)) * (wrap64 (10 + a3)))) + 3000), bt140.2.2)) else (some (wrap64 ((wrap64 (10 + a3)) * (wrap64 (10 + a3))), bt140.2.2))) else (some (wrap64 ((wrap64 (10 + a3)) * (wrap64 (10 + a3))), bt140.2.2))))))
set_option maxHeartbeats 8000000 in
set_option maxRecDepth 100000 in
theorem jl.calls (g : Nat) (s0_0 : List (S31)) (s0_1 : List (S81)) (s0_2 : List Int) (s0_3 : Int) (a1 : Int) (a2 : Int) (a3 : Int) (r1 : Int) (r2 : Int) (w0 w : World) (hI : qb w0 w g s0_0 s0_1 s0_2 s0_3) (hB : Below w0.heap.size w0 w) (h : jl.f s0_0 s0_1 s0_2 s0_3 a1 a2 a3 = some (r1, r2)) :
  Calls Try.prog 42 #[.pointer (some ⟨g, 0, none⟩), .int .i64 a1, .int .i64 a2, .int .i64 a3] w fun e w' => e = .returned (.int .i64 r1) ∧ qb w0 w' g s0_0 s0_1 s0_2 r2 ∧ Below w0.heap.size w0 w' ∧ qh w w' g none := by
 have HI0 := qa.mk hI
 have HK := qa.mk (qh.refl w g none)
 have HL := qa.mk hB.size
 clear hI
 have HW0 := qa.mk hB.size
 have HB := qa.mk hB
 clear hB
 have H : ((qW.f s0_0 s0_1 s0_2 s0_3 a2).bind fun bt131 => (if bt131.1 ≥ 0 then ((qW.f s0_0 s0_1 s0_2 bt131.2.2 a1).bind fun bt134 => (if bt134.2.1 = true then (if bt131.2.1 = true then (some (wrap64 ((wrap64 ((wrap64 ((wrap64 (10 + a3)) * (wrap64 (10 + a3)))) + (wrap64 (bt131.1 * bt131.1)))) + 3000), bt134.2.2)) else (some (wrap64 ((wrap64 ((wrap64 (10 + a3)) * (wrap64 (10 + a3)))) + (wrap64 (bt131.1 * bt131.1))), bt134.2.2))) else (some (wrap64 ((wrap64 ((wrap64 (10 + a3)) * (wrap64 (10 + a3)))) + (wrap64 (bt131.1 * bt131.1))), bt134.2.2)))) else (if bt131.1 > (-10000) then ((qW.f s0_0 s0_1 s0_2 bt131.2.2 a1).bind fun bt137 => (if bt137.2.1 = true then (if bt131.2.1 = true then (some (wrap64 ((wrap64 ((wrap64 ((wrap64 (10 + a3)) * (wrap64 (10 + a3)))) - (wrap64 (bt131.1 * bt131.1)))) + 3000), bt137.2.2)) else (some (wrap64 ((wrap64 ((wrap64 (10 + a3)) * (wrap64 (10 + a3)))) - (wrap64 (bt131.1 * bt131.1))), bt137.2.2))) else (some (wrap64 ((wrap64 ((wrap64 (10 + a3)) * (wrap64 (10 + a3)))) - (wrap64 (bt131.1 * bt131.1))), bt137.2.2)))) else ((qW.f s0_0 s0_1 s0_2 bt131.2.2 a1).bind fun bt140 => (if bt140.2.1 = true then (if bt131.2.1 = true then (some (wrap64 ((wrap64 ((wrap64 (10 + a3)) * (wrap64 (10 + a3)))) + 3000), bt140.2.2)) else (some (wrap64 ((wrap64 (10 + a3)) * (wrap64 (10 + a3))), bt140.2.2))) else (some (wrap64 ((wrap64 (10 + a3)) * (wrap64 (10 + a3))), bt140.2.2))))))) = some (r1, r2) := h
 clear h
 replace H := Option.bind_eq_some_iff.mp H
 obtain ⟨⟨t131, t132, t133⟩, A50, H⟩ := H
 replace H : (if t131 ≥ 0 then ((qW.f s0_0 s0_1 s0_2 t133 a1).bind fun bt134 => (if bt134.2.1 = true then (if t132 = true then (some (wrap64 ((wrap64 ((wrap64 ((wrap64 (10 + a3)) * (wrap64 (10 + a3)))) + (wrap64 (t131 * t131)))) + 3000), bt134.2.2)) else (some (wrap64 ((wrap64 ((wrap64 (10 + a3)) * (wrap64 (10 + a3)))) + (wrap64 (t131 * t131))), bt134.2.2))) else (some (wrap64 ((wrap64 ((wrap64 (10 + a3)) * (wrap64 (10 + a3)))) + (wrap64 (t131 * t131))), bt134.2.2)))) else (if t131 > (-10000) then ((qW.f s0_0 s0_1 s0_2 t133 a1).bind fun bt137 => (if bt137.2.1 = true then (if t132 = true then (some (wrap64 ((wrap64 ((wrap64 ((wrap64 (10 + a3)) * (wrap64 (10 + a3)))) - (wrap64 (t131 * t131)))) + 3000), bt137.2.2)) else (some (wrap64 ((wrap64 ((wrap64 (10 + a3)) * (wrap64 (10 + a3)))) - (wrap64 (t131 * t131))), bt137.2.2))) else (some (wrap64 ((wrap64 ((wrap64 (10 + a3)) * (wrap64 (10 + a3)))) - (wrap64 (t131 * t131))), bt137.2.2)))) else ((qW.f s0_0 s0_1 s0_2 t133 a1).bind fun bt140 => (if bt140.2.1 = true then (if t132 = true then (some (wrap64 ((wrap64 ((wrap64 (10 + a3)) * (wrap64 (10 + a3)))) + 3000), bt140.2.2)) else (some (wrap64 ((wrap64 (10 + a3)) * (wrap64 (10 + a3))), bt140.2.2))) else (some (wrap64 ((wrap64 (10 + a3)) * (wrap64 (10 + a3))), bt140.2.2)))))) = some (r1, r2) := H
 have A5 := qa.mk A50
 clear A50
 by_cases c6 : t131 ≥ 0
 ·rw [if_pos c6] at H
  have c6b0 : decide (0 ≤ t131) = true := decide_eq_true c6
  clear c6
  replace H := Option.bind_eq_some_iff.mp H
  obtain ⟨⟨t134, t135, t136⟩, A70, H⟩ := H
  replace H : (if t135 = true then (if t132 = true then (some (wrap64 ((wrap64 ((wrap64 ((wrap64 (10 + a3)) * (wrap64 (10 + a3)))) + (wrap64 (t131 * t131)))) + 3000), t136)) else (some (wrap64 ((wrap64 ((wrap64 (10 + a3)) * (wrap64 (10 + a3)))) + (wrap64 (t131 * t131))), t136))) else (some (wrap64 ((wrap64 ((wrap64 (10 + a3)) * (wrap64 (10 + a3)))) + (wrap64 (t131 * t131))), t136))) = some (r1, r2) := H
  have A7 := qa.mk A70
  clear A70
  by_cases c8 : t135 = true
  case neg =>
   replace c8 := Bool.eq_false_iff.mpr c8
   subst c8
   have H1 : (some (wrap64 ((wrap64 ((wrap64 (10 + a3)) * (wrap64 (10 + a3)))) + (wrap64 (t131 * t131))), t136)) = some (r1, r2) := by rw [if_neg (show ¬ (false = true) by decide)] at H; exact H
   clear H
   have H := H1
   clear H1
   simp only [Option.some.injEq, Prod.mk.injEq] at H
   obtain ⟨rfl, rfl⟩ := H
   go_enter Try.func42, Try.ntmps42
   go_wp2_with (first | ((with_reducible refine zl (f := 51) rfl ?_); refine zM (some 22) rfl rfl Try.func51 (by kernel_rfl) rfl #[.pointer (some ⟨g, 0, none⟩), .int .i64 a2] rfl (by (try simp only [List.map_toArray, List.map_cons, List.map_nil]); first | done | rfl | (simp only [List.length_drop, List.length_take]; rfl)) ?_; (with_reducible refine (qW.calls g s0_0 s0_1 s0_2 s0_3 a2 t131 t132 t133 w0 _ ?side1 ?side2 A5.out).mono ?_); (case side1 => repeat (first | (with_reducible first | exact HI0.out | apply qb.alloc | apply qb.drewN | apply qb.drew | apply qb.qO) | exact HI0.out)); (case side2 => repeat (first | (with_reducible first | exact HB.out | apply qA | apply qx | apply qC | refine qm ?_ (qb.ge HI0.out)) | exact HB.out)); rintro e w14 ⟨rfl, hi, hb, hk⟩; refine ⟨_, rfl, ?_⟩; have n0_ := qa.mk (qh.trans (kb HK) hk (.inl rfl)); have n1_ := qa.mk (hb); have n2_ := qa.mk (hi); clear HK; clear HB; clear HI0; have HK := n0_; have HB := n1_; have HI0 := n2_; clear n0_ n1_ n2_; (try clear hb); (try clear hb2); (try clear hk); (try clear hi)) | ((with_reducible refine zl (f := 51) rfl ?_); refine zM (some 44) rfl rfl Try.func51 (by kernel_rfl) rfl #[.pointer (some ⟨g, 0, none⟩), .int .i64 a1] rfl (by (try simp only [List.map_toArray, List.map_cons, List.map_nil]); first | done | rfl | (simp only [List.length_drop, List.length_take]; rfl)) ?_; (with_reducible refine (qW.calls g s0_0 s0_1 s0_2 t133 a1 t134 false t136 w0 _ ?side1 ?side2 A7.out).mono ?_); (case side1 => repeat (first | (with_reducible first | exact HI0.out | apply qb.alloc | apply qb.drewN | apply qb.drew | apply qb.qO) | exact HI0.out)); (case side2 => repeat (first | (with_reducible first | exact HB.out | apply qA | apply qx | apply qC | refine qm ?_ (qb.ge HI0.out)) | exact HB.out)); rintro e w15 ⟨rfl, hi, hb, hk⟩; refine ⟨_, rfl, ?_⟩; have n0_ := qa.mk (qh.trans (kb HK) hk (.inl rfl)); have n1_ := qa.mk (hb); have n2_ := qa.mk (hi); clear HK; clear HB; clear HI0; have HK := n0_; have HB := n1_; have HI0 := n2_; clear n0_ n1_ n2_; (try clear hb); (try clear hb2); (try clear hk); (try clear hi)))
   go_ret
   exact ⟨by first | rfl | (simp [qN, qM] <;> rfl) | (simp [*, qN, qM] <;> rfl), by repeat (first | (with_reducible first | exact HI0.out | apply qb.alloc | apply qb.drewN | apply qb.drew | apply qb.qO) | exact HI0.out), bs HB ⟨qb.ge HI0.out⟩, kb HK⟩
  subst c8
  have H1 : (if t132 = true then (some (wrap64 ((wrap64 ((wrap64 ((wrap64 (10 + a3)) * (wrap64 (10 + a3)))) + (wrap64 (t131 * t131)))) + 3000), t136)) else (some (wrap64 ((wrap64 ((wrap64 (10 + a3)) * (wrap64 (10 + a3)))) + (wrap64 (t131 * t131))), t136))) = some (r1, r2) := by rw [if_pos rfl] at H; exact H
  clear H
  have H := H1
  clear H1
  by_cases c9 : t132 = true
  ·subst c9
   have H1 : (some (wrap64 ((wrap64 ((wrap64 ((wrap64 (10 + a3)) * (wrap64 (10 + a3)))) + (wrap64 (t131 * t131)))) + 3000), t136)) = some (r1, r2) := by rw [if_pos rfl] at H; exact H
   clear H
   have H := H1
   clear H1
   simp only [Option.some.injEq, Prod.mk.injEq] at H
   obtain ⟨rfl, rfl⟩ := H
   go_enter Try.func42, Try.ntmps42
   go_wp2_with (first | ((with_reducible refine zl (f := 51) rfl ?_); refine zM (some 22) rfl rfl Try.func51 (by kernel_rfl) rfl #[.pointer (some ⟨g, 0, none⟩), .int .i64 a2] rfl (by (try simp only [List.map_toArray, List.map_cons, List.map_nil]); first | done | rfl | (simp only [List.length_drop, List.length_take]; rfl)) ?_; (with_reducible refine (qW.calls g s0_0 s0_1 s0_2 s0_3 a2 t131 true t133 w0 _ ?side1 ?side2 A5.out).mono ?_); (case side1 => repeat (first | (with_reducible first | exact HI0.out | apply qb.alloc | apply qb.drewN | apply qb.drew | apply qb.qO) | exact HI0.out)); (case side2 => repeat (first | (with_reducible first | exact HB.out | apply qA | apply qx | apply qC | refine qm ?_ (qb.ge HI0.out)) | exact HB.out)); rintro e w10 ⟨rfl, hi, hb, hk⟩; refine ⟨_, rfl, ?_⟩; have n0_ := qa.mk (qh.trans (kb HK) hk (.inl rfl)); have n1_ := qa.mk (hb); have n2_ := qa.mk (hi); clear HK; clear HB; clear HI0; have HK := n0_; have HB := n1_; have HI0 := n2_; clear n0_ n1_ n2_; (try clear hb); (try clear hb2); (try clear hk); (try clear hi)) | ((with_reducible refine zl (f := 51) rfl ?_); refine zM (some 44) rfl rfl Try.func51 (by kernel_rfl) rfl #[.pointer (some ⟨g, 0, none⟩), .int .i64 a1] rfl (by (try simp only [List.map_toArray, List.map_cons, List.map_nil]); first | done | rfl | (simp only [List.length_drop, List.length_take]; rfl)) ?_; (with_reducible refine (qW.calls g s0_0 s0_1 s0_2 t133 a1 t134 true t136 w0 _ ?side1 ?side2 A7.out).mono ?_); (case side1 => repeat (first | (with_reducible first | exact HI0.out | apply qb.alloc | apply qb.drewN | apply qb.drew | apply qb.qO) | exact HI0.out)); (case side2 => repeat (first | (with_reducible first | exact HB.out | apply qA | apply qx | apply qC | refine qm ?_ (qb.ge HI0.out)) | exact HB.out)); rintro e w11 ⟨rfl, hi, hb, hk⟩; refine ⟨_, rfl, ?_⟩; have n0_ := qa.mk (qh.trans (kb HK) hk (.inl rfl)); have n1_ := qa.mk (hb); have n2_ := qa.mk (hi); clear HK; clear HB; clear HI0; have HK := n0_; have HB := n1_; have HI0 := n2_; clear n0_ n1_ n2_; (try clear hb); (try clear hb2); (try clear hk); (try clear hi)))
   go_ret
   exact ⟨by first | rfl | (simp [qN, qM] <;> rfl) | (simp [*, qN, qM] <;> rfl), by repeat (first | (with_reducible first | exact HI0.out | apply qb.alloc | apply qb.drewN | apply qb.drew | apply qb.qO) | exact HI0.out), bs HB ⟨qb.ge HI0.out⟩, kb HK⟩
  replace c9 := Bool.eq_false_iff.mpr c9
  subst c9
  have H1 : (some (wrap64 ((wrap64 ((wrap64 (10 + a3)) * (wrap64 (10 + a3)))) + (wrap64 (t131 * t131))), t136)) = some (r1, r2) := by rw [if_neg (show ¬ (false = true) by decide)] at H; exact H
  clear H
  have H := H1
  clear H1
  simp only [Option.some.injEq, Prod.mk.injEq] at H
  obtain ⟨rfl, rfl⟩ := H
  go_enter Try.func42, Try.ntmps42
  go_wp2_with (first | ((with_reducible refine zl (f := 51) rfl ?_); refine zM (some 22) rfl rfl Try.func51 (by kernel_rfl) rfl #[.pointer (some ⟨g, 0, none⟩), .int .i64 a2] rfl (by (try simp only [List.map_toArray, List.map_cons, List.map_nil]); first | done | rfl | (simp only [List.length_drop, List.length_take]; rfl)) ?_; (with_reducible refine (qW.calls g s0_0 s0_1 s0_2 s0_3 a2 t131 false t133 w0 _ ?side1 ?side2 A5.out).mono ?_); (case side1 => repeat (first | (with_reducible first | exact HI0.out | apply qb.alloc | apply qb.drewN | apply qb.drew | apply qb.qO) | exact HI0.out)); (case side2 => repeat (first | (with_reducible first | exact HB.out | apply qA | apply qx | apply qC | refine qm ?_ (qb.ge HI0.out)) | exact HB.out)); rintro e w12 ⟨rfl, hi, hb, hk⟩; refine ⟨_, rfl, ?_⟩; have n0_ := qa.mk (qh.trans (kb HK) hk (.inl rfl)); have n1_ := qa.mk (hb); have n2_ := qa.mk (hi); clear HK; clear HB; clear HI0; have HK := n0_; have HB := n1_; have HI0 := n2_; clear n0_ n1_ n2_; (try clear hb); (try clear hb2); (try clear hk); (try clear hi)) | ((with_reducible refine zl (f := 51) rfl ?_); refine zM (some 44) rfl rfl Try.func51 (by kernel_rfl) rfl #[.pointer (some ⟨g, 0, none⟩), .int .i64 a1] rfl (by (try simp only [List.map_toArray, List.map_cons, List.map_nil]); first | done | rfl | (simp only [List.length_drop, List.length_take]; rfl)) ?_; (with_reducible refine (qW.calls g s0_0 s0_1 s0_2 t133 a1 t134 true t136 w0 _ ?side1 ?side2 A7.out).mono ?_); (case side1 => repeat (first | (with_reducible first | exact HI0.out | apply qb.alloc | apply qb.drewN | apply qb.drew | apply qb.qO) | exact HI0.out)); (case side2 => repeat (first | (with_reducible first | exact HB.out | apply qA | apply qx | apply qC | refine qm ?_ (qb.ge HI0.out)) | exact HB.out)); rintro e w13 ⟨rfl, hi, hb, hk⟩; refine ⟨_, rfl, ?_⟩; have n0_ := qa.mk (qh.trans (kb HK) hk (.inl rfl)); have n1_ := qa.mk (hb); have n2_ := qa.mk (hi); clear HK; clear HB; clear HI0; have HK := n0_; have HB := n1_; have HI0 := n2_; clear n0_ n1_ n2_; (try clear hb); (try clear hb2); (try clear hk); (try clear hi)))
  go_ret
  exact ⟨by first | rfl | (simp [qN, qM] <;> rfl) | (simp [*, qN, qM] <;> rfl), by repeat (first | (with_reducible first | exact HI0.out | apply qb.alloc | apply qb.drewN | apply qb.drew | apply qb.qO) | exact HI0.out), bs HB ⟨qb.ge HI0.out⟩, kb HK⟩
 rw [if_neg c6] at H
 have c6b0 : decide (0 ≤ t131) = false := decide_eq_false c6
 clear c6
 by_cases c16 : t131 > (-10000)
 case neg =>
  rw [if_neg c16] at H
  have c16b0 : decide ((-10000) < t131) = false := decide_eq_false c16
  clear c16
  replace H := Option.bind_eq_some_iff.mp H
  obtain ⟨⟨t140, t141, t142⟩, A260, H⟩ := H
  replace H : (if t141 = true then (if t132 = true then (some (wrap64 ((wrap64 ((wrap64 (10 + a3)) * (wrap64 (10 + a3)))) + 3000), t142)) else (some (wrap64 ((wrap64 (10 + a3)) * (wrap64 (10 + a3))), t142))) else (some (wrap64 ((wrap64 (10 + a3)) * (wrap64 (10 + a3))), t142))) = some (r1, r2) := H
  have A26 := qa.mk A260
  clear A260
  by_cases c27 : t141 = true
  case neg =>
   replace c27 := Bool.eq_false_iff.mpr c27
   subst c27
   have H1 : (some (wrap64 ((wrap64 (10 + a3)) * (wrap64 (10 + a3))), t142)) = some (r1, r2) := by rw [if_neg (show ¬ (false = true) by decide)] at H; exact H
   clear H
   have H := H1
   clear H1
   simp only [Option.some.injEq, Prod.mk.injEq] at H
   obtain ⟨rfl, rfl⟩ := H
   go_enter Try.func42, Try.ntmps42
   go_wp2_with (first | ((with_reducible refine zl (f := 51) rfl ?_); refine zM (some 22) rfl rfl Try.func51 (by kernel_rfl) rfl #[.pointer (some ⟨g, 0, none⟩), .int .i64 a2] rfl (by (try simp only [List.map_toArray, List.map_cons, List.map_nil]); first | done | rfl | (simp only [List.length_drop, List.length_take]; rfl)) ?_; (with_reducible refine (qW.calls g s0_0 s0_1 s0_2 s0_3 a2 t131 t132 t133 w0 _ ?side1 ?side2 A5.out).mono ?_); (case side1 => repeat (first | (with_reducible first | exact HI0.out | apply qb.alloc | apply qb.drewN | apply qb.drew | apply qb.qO) | exact HI0.out)); (case side2 => repeat (first | (with_reducible first | exact HB.out | apply qA | apply qx | apply qC | refine qm ?_ (qb.ge HI0.out)) | exact HB.out)); rintro e w33 ⟨rfl, hi, hb, hk⟩; refine ⟨_, rfl, ?_⟩; have n0_ := qa.mk (qh.trans (kb HK) hk (.inl rfl)); have n1_ := qa.mk (hb); have n2_ := qa.mk (hi); clear HK; clear HB; clear HI0; have HK := n0_; have HB := n1_; have HI0 := n2_; clear n0_ n1_ n2_; (try clear hb); (try clear hb2); (try clear hk); (try clear hi)) | ((with_reducible refine zl (f := 51) rfl ?_); refine zM (some 44) rfl rfl Try.func51 (by kernel_rfl) rfl #[.pointer (some ⟨g, 0, none⟩), .int .i64 a1] rfl (by (try simp only [List.map_toArray, List.map_cons, List.map_nil]); first | done | rfl | (simp only [List.length_drop, List.length_take]; rfl)) ?_; (with_reducible refine (qW.calls g s0_0 s0_1 s0_2 t133 a1 t140 false t142 w0 _ ?side1 ?side2 A26.out).mono ?_); (case side1 => repeat (first | (with_reducible first | exact HI0.out | apply qb.alloc | apply qb.drewN | apply qb.drew | apply qb.qO) | exact HI0.out)); (case side2 => repeat (first | (with_reducible first | exact HB.out | apply qA | apply qx | apply qC | refine qm ?_ (qb.ge HI0.out)) | exact HB.out)); rintro e w34 ⟨rfl, hi, hb, hk⟩; refine ⟨_, rfl, ?_⟩; have n0_ := qa.mk (qh.trans (kb HK) hk (.inl rfl)); have n1_ := qa.mk (hb); have n2_ := qa.mk (hi); clear HK; clear HB; clear HI0; have HK := n0_; have HB := n1_; have HI0 := n2_; clear n0_ n1_ n2_; (try clear hb); (try clear hb2); (try clear hk); (try clear hi)))
   go_ret
   exact ⟨by first | rfl | (simp [qN, qM] <;> rfl) | (simp [*, qN, qM] <;> rfl), by repeat (first | (with_reducible first | exact HI0.out | apply qb.alloc | apply qb.drewN | apply qb.drew | apply qb.qO) | exact HI0.out), bs HB ⟨qb.ge HI0.out⟩, kb HK⟩
  subst c27
  have H1 : (if t132 = true then (some (wrap64 ((wrap64 ((wrap64 (10 + a3)) * (wrap64 (10 + a3)))) + 3000), t142)) else (some (wrap64 ((wrap64 (10 + a3)) * (wrap64 (10 + a3))), t142))) = some (r1, r2) := by rw [if_pos rfl] at H; exact H
  clear H
  have H := H1
  clear H1
  by_cases c28 : t132 = true
  ·subst c28
   have H1 : (some (wrap64 ((wrap64 ((wrap64 (10 + a3)) * (wrap64 (10 + a3)))) + 3000), t142)) = some (r1, r2) := by rw [if_pos rfl] at H; exact H
   clear H
   have H := H1
   clear H1
   simp only [Option.some.injEq, Prod.mk.injEq] at H
   obtain ⟨rfl, rfl⟩ := H
   go_enter Try.func42, Try.ntmps42
   go_wp2_with (first | ((with_reducible refine zl (f := 51) rfl ?_); refine zM (some 22) rfl rfl Try.func51 (by kernel_rfl) rfl #[.pointer (some ⟨g, 0, none⟩), .int .i64 a2] rfl (by (try simp only [List.map_toArray, List.map_cons, List.map_nil]); first | done | rfl | (simp only [List.length_drop, List.length_take]; rfl)) ?_; (with_reducible refine (qW.calls g s0_0 s0_1 s0_2 s0_3 a2 t131 true t133 w0 _ ?side1 ?side2 A5.out).mono ?_); (case side1 => repeat (first | (with_reducible first | exact HI0.out | apply qb.alloc | apply qb.drewN | apply qb.drew | apply qb.qO) | exact HI0.out)); (case side2 => repeat (first | (with_reducible first | exact HB.out | apply qA | apply qx | apply qC | refine qm ?_ (qb.ge HI0.out)) | exact HB.out)); rintro e w29 ⟨rfl, hi, hb, hk⟩; refine ⟨_, rfl, ?_⟩; have n0_ := qa.mk (qh.trans (kb HK) hk (.inl rfl)); have n1_ := qa.mk (hb); have n2_ := qa.mk (hi); clear HK; clear HB; clear HI0; have HK := n0_; have HB := n1_; have HI0 := n2_; clear n0_ n1_ n2_; (try clear hb); (try clear hb2); (try clear hk); (try clear hi)) | ((with_reducible refine zl (f := 51) rfl ?_); refine zM (some 44) rfl rfl Try.func51 (by kernel_rfl) rfl #[.pointer (some ⟨g, 0, none⟩), .int .i64 a1] rfl (by (try simp only [List.map_toArray, List.map_cons, List.map_nil]); first | done | rfl | (simp only [List.length_drop, List.length_take]; rfl)) ?_; (with_reducible refine (qW.calls g s0_0 s0_1 s0_2 t133 a1 t140 true t142 w0 _ ?side1 ?side2 A26.out).mono ?_); (case side1 => repeat (first | (with_reducible first | exact HI0.out | apply qb.alloc | apply qb.drewN | apply qb.drew | apply qb.qO) | exact HI0.out)); (case side2 => repeat (first | (with_reducible first | exact HB.out | apply qA | apply qx | apply qC | refine qm ?_ (qb.ge HI0.out)) | exact HB.out)); rintro e w30 ⟨rfl, hi, hb, hk⟩; refine ⟨_, rfl, ?_⟩; have n0_ := qa.mk (qh.trans (kb HK) hk (.inl rfl)); have n1_ := qa.mk (hb); have n2_ := qa.mk (hi); clear HK; clear HB; clear HI0; have HK := n0_; have HB := n1_; have HI0 := n2_; clear n0_ n1_ n2_; (try clear hb); (try clear hb2); (try clear hk); (try clear hi)))
   go_ret
   exact ⟨by first | rfl | (simp [qN, qM] <;> rfl) | (simp [*, qN, qM] <;> rfl), by repeat (first | (with_reducible first | exact HI0.out | apply qb.alloc | apply qb.drewN | apply qb.drew | apply qb.qO) | exact HI0.out), bs HB ⟨qb.ge HI0.out⟩, kb HK⟩
  replace c28 := Bool.eq_false_iff.mpr c28
  subst c28
  have H1 : (some (wrap64 ((wrap64 (10 + a3)) * (wrap64 (10 + a3))), t142)) = some (r1, r2) := by rw [if_neg (show ¬ (false = true) by decide)] at H; exact H
  clear H
  have H := H1
  clear H1
  simp only [Option.some.injEq, Prod.mk.injEq] at H
  obtain ⟨rfl, rfl⟩ := H
  go_enter Try.func42, Try.ntmps42
  go_wp2_with (first | ((with_reducible refine zl (f := 51) rfl ?_); refine zM (some 22) rfl rfl Try.func51 (by kernel_rfl) rfl #[.pointer (some ⟨g, 0, none⟩), .int .i64 a2] rfl (by (try simp only [List.map_toArray, List.map_cons, List.map_nil]); first | done | rfl | (simp only [List.length_drop, List.length_take]; rfl)) ?_; (with_reducible refine (qW.calls g s0_0 s0_1 s0_2 s0_3 a2 t131 false t133 w0 _ ?side1 ?side2 A5.out).mono ?_); (case side1 => repeat (first | (with_reducible first | exact HI0.out | apply qb.alloc | apply qb.drewN | apply qb.drew | apply qb.qO) | exact HI0.out)); (case side2 => repeat (first | (with_reducible first | exact HB.out | apply qA | apply qx | apply qC | refine qm ?_ (qb.ge HI0.out)) | exact HB.out)); rintro e w31 ⟨rfl, hi, hb, hk⟩; refine ⟨_, rfl, ?_⟩; have n0_ := qa.mk (qh.trans (kb HK) hk (.inl rfl)); have n1_ := qa.mk (hb); have n2_ := qa.mk (hi); clear HK; clear HB; clear HI0; have HK := n0_; have HB := n1_; have HI0 := n2_; clear n0_ n1_ n2_; (try clear hb); (try clear hb2); (try clear hk); (try clear hi)) | ((with_reducible refine zl (f := 51) rfl ?_); refine zM (some 44) rfl rfl Try.func51 (by kernel_rfl) rfl #[.pointer (some ⟨g, 0, none⟩), .int .i64 a1] rfl (by (try simp only [List.map_toArray, List.map_cons, List.map_nil]); first | done | rfl | (simp only [List.length_drop, List.length_take]; rfl)) ?_; (with_reducible refine (qW.calls g s0_0 s0_1 s0_2 t133 a1 t140 true t142 w0 _ ?side1 ?side2 A26.out).mono ?_); (case side1 => repeat (first | (with_reducible first | exact HI0.out | apply qb.alloc | apply qb.drewN | apply qb.drew | apply qb.qO) | exact HI0.out)); (case side2 => repeat (first | (with_reducible first | exact HB.out | apply qA | apply qx | apply qC | refine qm ?_ (qb.ge HI0.out)) | exact HB.out)); rintro e w32 ⟨rfl, hi, hb, hk⟩; refine ⟨_, rfl, ?_⟩; have n0_ := qa.mk (qh.trans (kb HK) hk (.inl rfl)); have n1_ := qa.mk (hb); have n2_ := qa.mk (hi); clear HK; clear HB; clear HI0; have HK := n0_; have HB := n1_; have HI0 := n2_; clear n0_ n1_ n2_; (try clear hb); (try clear hb2); (try clear hk); (try clear hi)))
  go_ret
  exact ⟨by first | rfl | (simp [qN, qM] <;> rfl) | (simp [*, qN, qM] <;> rfl), by repeat (first | (with_reducible first | exact HI0.out | apply qb.alloc | apply qb.drewN | apply qb.drew | apply qb.qO) | exact HI0.out), bs HB ⟨qb.ge HI0.out⟩, kb HK⟩
 rw [if_pos c16] at H
 have c16b0 : decide ((-10000) < t131) = true := decide_eq_true c16
 clear c16
 replace H := Option.bind_eq_some_iff.mp H
 obtain ⟨⟨t137, t138, t139⟩, A170, H⟩ := H
 replace H : (if t138 = true then (if t132 = true then (some (wrap64 ((wrap64 ((wrap64 ((wrap64 (10 + a3)) * (wrap64 (10 + a3)))) - (wrap64 (t131 * t131)))) + 3000), t139)) else (some (wrap64 ((wrap64 ((wrap64 (10 + a3)) * (wrap64 (10 + a3)))) - (wrap64 (t131 * t131))), t139))) else (some (wrap64 ((wrap64 ((wrap64 (10 + a3)) * (wrap64 (10 + a3)))) - (wrap64 (t131 * t131))), t139))) = some (r1, r2) := H
 have A17 := qa.mk A170
 clear A170
 by_cases c18 : t138 = true
 case neg =>
  replace c18 := Bool.eq_false_iff.mpr c18
  subst c18
  have H1 : (some (wrap64 ((wrap64 ((wrap64 (10 + a3)) * (wrap64 (10 + a3)))) - (wrap64 (t131 * t131))), t139)) = some (r1, r2) := by rw [if_neg (show ¬ (false = true) by decide)] at H; exact H
  clear H
  have H := H1
  clear H1
  simp only [Option.some.injEq, Prod.mk.injEq] at H
  obtain ⟨rfl, rfl⟩ := H
  go_enter Try.func42, Try.ntmps42
  go_wp2_with (first | ((with_reducible refine zl (f := 51) rfl ?_); refine zM (some 22) rfl rfl Try.func51 (by kernel_rfl) rfl #[.pointer (some ⟨g, 0, none⟩), .int .i64 a2] rfl (by (try simp only [List.map_toArray, List.map_cons, List.map_nil]); first | done | rfl | (simp only [List.length_drop, List.length_take]; rfl)) ?_; (with_reducible refine (qW.calls g s0_0 s0_1 s0_2 s0_3 a2 t131 t132 t133 w0 _ ?side1 ?side2 A5.out).mono ?_); (case side1 => repeat (first | (with_reducible first | exact HI0.out | apply qb.alloc | apply qb.drewN | apply qb.drew | apply qb.qO) | exact HI0.out)); (case side2 => repeat (first | (with_reducible first | exact HB.out | apply qA | apply qx | apply qC | refine qm ?_ (qb.ge HI0.out)) | exact HB.out)); rintro e w24 ⟨rfl, hi, hb, hk⟩; refine ⟨_, rfl, ?_⟩; have n0_ := qa.mk (qh.trans (kb HK) hk (.inl rfl)); have n1_ := qa.mk (hb); have n2_ := qa.mk (hi); clear HK; clear HB; clear HI0; have HK := n0_; have HB := n1_; have HI0 := n2_; clear n0_ n1_ n2_; (try clear hb); (try clear hb2); (try clear hk); (try clear hi)) | ((with_reducible refine zl (f := 51) rfl ?_); refine zM (some 44) rfl rfl Try.func51 (by kernel_rfl) rfl #[.pointer (some ⟨g, 0, none⟩), .int .i64 a1] rfl (by (try simp only [List.map_toArray, List.map_cons, List.map_nil]); first | done | rfl | (simp only [List.length_drop, List.length_take]; rfl)) ?_; (with_reducible refine (qW.calls g s0_0 s0_1 s0_2 t133 a1 t137 false t139 w0 _ ?side1 ?side2 A17.out).mono ?_); (case side1 => repeat (first | (with_reducible first | exact HI0.out | apply qb.alloc | apply qb.drewN | apply qb.drew | apply qb.qO) | exact HI0.out)); (case side2 => repeat (first | (with_reducible first | exact HB.out | apply qA | apply qx | apply qC | refine qm ?_ (qb.ge HI0.out)) | exact HB.out)); rintro e w25 ⟨rfl, hi, hb, hk⟩; refine ⟨_, rfl, ?_⟩; have n0_ := qa.mk (qh.trans (kb HK) hk (.inl rfl)); have n1_ := qa.mk (hb); have n2_ := qa.mk (hi); clear HK; clear HB; clear HI0; have HK := n0_; have HB := n1_; have HI0 := n2_; clear n0_ n1_ n2_; (try clear hb); (try clear hb2); (try clear hk); (try clear hi)))
  go_ret
  exact ⟨by first | rfl | (simp [qN, qM] <;> rfl) | (simp [*, qN, qM] <;> rfl), by repeat (first | (with_reducible first | exact HI0.out | apply qb.alloc | apply qb.drewN | apply qb.drew | apply qb.qO) | exact HI0.out), bs HB ⟨qb.ge HI0.out⟩, kb HK⟩
 subst c18
 have H1 : (if t132 = true then (some (wrap64 ((wrap64 ((wrap64 ((wrap64 (10 + a3)) * (wrap64 (10 + a3)))) - (wrap64 (t131 * t131)))) + 3000), t139)) else (some (wrap64 ((wrap64 ((wrap64 (10 + a3)) * (wrap64 (10 + a3)))) - (wrap64 (t131 * t131))), t139))) = some (r1, r2) := by rw [if_pos rfl] at H; exact H
 clear H
 have H := H1
 clear H1
 by_cases c19 : t132 = true
 ·subst c19
  have H1 : (some (wrap64 ((wrap64 ((wrap64 ((wrap64 (10 + a3)) * (wrap64 (10 + a3)))) - (wrap64 (t131 * t131)))) + 3000), t139)) = some (r1, r2) := by rw [if_pos rfl] at H; exact H
  clear H
  have H := H1
  clear H1
  simp only [Option.some.injEq, Prod.mk.injEq] at H
  obtain ⟨rfl, rfl⟩ := H
  go_enter Try.func42, Try.ntmps42
  go_wp2_with (first | ((with_reducible refine zl (f := 51) rfl ?_); refine zM (some 22) rfl rfl Try.func51 (by kernel_rfl) rfl #[.pointer (some ⟨g, 0, none⟩), .int .i64 a2] rfl (by (try simp only [List.map_toArray, List.map_cons, List.map_nil]); first | done | rfl | (simp only [List.length_drop, List.length_take]; rfl)) ?_; (with_reducible refine (qW.calls g s0_0 s0_1 s0_2 s0_3 a2 t131 true t133 w0 _ ?side1 ?side2 A5.out).mono ?_); (case side1 => repeat (first | (with_reducible first | exact HI0.out | apply qb.alloc | apply qb.drewN | apply qb.drew | apply qb.qO) | exact HI0.out)); (case side2 => repeat (first | (with_reducible first | exact HB.out | apply qA | apply qx | apply qC | refine qm ?_ (qb.ge HI0.out)) | exact HB.out)); rintro e w20 ⟨rfl, hi, hb, hk⟩; refine ⟨_, rfl, ?_⟩; have n0_ := qa.mk (qh.trans (kb HK) hk (.inl rfl)); have n1_ := qa.mk (hb); have n2_ := qa.mk (hi); clear HK; clear HB; clear HI0; have HK := n0_; have HB := n1_; have HI0 := n2_; clear n0_ n1_ n2_; (try clear hb); (try clear hb2); (try clear hk); (try clear hi)) | ((with_reducible refine zl (f := 51) rfl ?_); refine zM (some 44) rfl rfl Try.func51 (by kernel_rfl) rfl #[.pointer (some ⟨g, 0, none⟩), .int .i64 a1] rfl (by (try simp only [List.map_toArray, List.map_cons, List.map_nil]); first | done | rfl | (simp only [List.length_drop, List.length_take]; rfl)) ?_; (with_reducible refine (qW.calls g s0_0 s0_1 s0_2 t133 a1 t137 true t139 w0 _ ?side1 ?side2 A17.out).mono ?_); (case side1 => repeat (first | (with_reducible first | exact HI0.out | apply qb.alloc | apply qb.drewN | apply qb.drew | apply qb.qO) | exact HI0.out)); (case side2 => repeat (first | (with_reducible first | exact HB.out | apply qA | apply qx | apply qC | refine qm ?_ (qb.ge HI0.out)) | exact HB.out)); rintro e w21 ⟨rfl, hi, hb, hk⟩; refine ⟨_, rfl, ?_⟩; have n0_ := qa.mk (qh.trans (kb HK) hk (.inl rfl)); have n1_ := qa.mk (hb); have n2_ := qa.mk (hi); clear HK; clear HB; clear HI0; have HK := n0_; have HB := n1_; have HI0 := n2_; clear n0_ n1_ n2_; (try clear hb); (try clear hb2); (try clear hk); (try clear hi)))
  go_ret
  exact ⟨by first | rfl | (simp [qN, qM] <;> rfl) | (simp [*, qN, qM] <;> rfl), by repeat (first | (with_reducible first | exact HI0.out | apply qb.alloc | apply qb.drewN | apply qb.drew | apply qb.qO) | exact HI0.out), bs HB ⟨qb.ge HI0.out⟩, kb HK⟩
 replace c19 := Bool.eq_false_iff.mpr c19
 subst c19
 have H1 : (some (wrap64 ((wrap64 ((wrap64 (10 + a3)) * (wrap64 (10 + a3)))) - (wrap64 (t131 * t131))), t139)) = some (r1, r2) := by rw [if_neg (show ¬ (false = true) by decide)] at H; exact H
 clear H
 have H := H1
 clear H1
 simp only [Option.some.injEq, Prod.mk.injEq] at H
 obtain ⟨rfl, rfl⟩ := H
 go_enter Try.func42, Try.ntmps42
 go_wp2_with (first | ((with_reducible refine zl (f := 51) rfl ?_); refine zM (some 22) rfl rfl Try.func51 (by kernel_rfl) rfl #[.pointer (some ⟨g, 0, none⟩), .int .i64 a2] rfl (by (try simp only [List.map_toArray, List.map_cons, List.map_nil]); first | done | rfl | (simp only [List.length_drop, List.length_take]; rfl)) ?_; (with_reducible refine (qW.calls g s0_0 s0_1 s0_2 s0_3 a2 t131 false t133 w0 _ ?side1 ?side2 A5.out).mono ?_); (case side1 => repeat (first | (with_reducible first | exact HI0.out | apply qb.alloc | apply qb.drewN | apply qb.drew | apply qb.qO) | exact HI0.out)); (case side2 => repeat (first | (with_reducible first | exact HB.out | apply qA | apply qx | apply qC | refine qm ?_ (qb.ge HI0.out)) | exact HB.out)); rintro e w22 ⟨rfl, hi, hb, hk⟩; refine ⟨_, rfl, ?_⟩; have n0_ := qa.mk (qh.trans (kb HK) hk (.inl rfl)); have n1_ := qa.mk (hb); have n2_ := qa.mk (hi); clear HK; clear HB; clear HI0; have HK := n0_; have HB := n1_; have HI0 := n2_; clear n0_ n1_ n2_; (try clear hb); (try clear hb2); (try clear hk); (try clear hi)) | ((with_reducible refine zl (f := 51) rfl ?_); refine zM (some 44) rfl rfl Try.func51 (by kernel_rfl) rfl #[.pointer (some ⟨g, 0, none⟩), .int .i64 a1] rfl (by (try simp only [List.map_toArray, List.map_cons, List.map_nil]); first | done | rfl | (simp only [List.length_drop, List.length_take]; rfl)) ?_; (with_reducible refine (qW.calls g s0_0 s0_1 s0_2 t133 a1 t137 true t139 w0 _ ?side1 ?side2 A17.out).mono ?_); (case side1 => repeat (first | (with_reducible first | exact HI0.out | apply qb.alloc | apply qb.drewN | apply qb.drew | apply qb.qO) | exact HI0.out)); (case side2 => repeat (first | (with_reducible first | exact HB.out | apply qA | apply qx | apply qC | refine qm ?_ (qb.ge HI0.out)) | exact HB.out)); rintro e w23 ⟨rfl, hi, hb, hk⟩; refine ⟨_, rfl, ?_⟩; have n0_ := qa.mk (qh.trans (kb HK) hk (.inl rfl)); have n1_ := qa.mk (hb); have n2_ := qa.mk (hi); clear HK; clear HB; clear HI0; have HK := n0_; have HB := n1_; have HI0 := n2_; clear n0_ n1_ n2_; (try clear hb); (try clear hb2); (try clear hk); (try clear hi)))
 go_ret
 exact ⟨by first | rfl | (simp [qN, qM] <;> rfl) | (simp [*, qN, qM] <;> rfl), by repeat (first | (with_reducible first | exact HI0.out | apply qb.alloc | apply qb.drewN | apply qb.drew | apply qb.qO) | exact HI0.out), bs HB ⟨qb.ge HI0.out⟩, kb HK⟩
end Go.Proofs.Ytfbanppdiglciaa.X
