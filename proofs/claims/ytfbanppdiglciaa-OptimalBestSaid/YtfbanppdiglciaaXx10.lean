import Derived.Test.YtfbanppdiglciaaXx0
import Derived.Test.YtfbanppdiglciaaXx7
import Derived.Test.YtfbanppdiglciaaXx8
namespace Go.Proofs.Ytfbanppdiglciaa.X
open Go.RowKit Go.Proofs.YtfbanppdiglciaaW.PrintWords Go.Proofs.YtfbanppdiglciaaW.PrintLast Go.Proofs.YtfbanppdiglciaaW.PrintMore
attribute [local go_sem] jw jv jJ jI jf je jA jC
set_option linter.unusedVariables false
set_option linter.unusedSimpArgs false
def zg.f (s0_0 : List (S31)) (s0_1 : List (S81)) (s0_2 : List Int) (s0_3 : Int) (a1 : Int) : Option (Bool × Int) := (qW.f s0_0 s0_1 s0_2 s0_3 a1).bind fun bt143 => (if a1 = (s0_0.length : Int) then (some (true, bt143.2.2)) else (some ((bt143.1 == (-10000)), bt143.2.2)))
set_option maxHeartbeats 8000000 in
set_option maxRecDepth 100000 in
theorem zg.calls (g : Nat) (s0_0 : List (S31)) (s0_1 : List (S81)) (s0_2 : List Int) (s0_3 : Int) (a1 : Int) (r1 : Bool) (r2 : Int) (w0 w : World) (hI : qb w0 w g s0_0 s0_1 s0_2 s0_3) (hB : Below w0.heap.size w0 w) (h : zg.f s0_0 s0_1 s0_2 s0_3 a1 = some (r1, r2)) :
  Calls Try.prog 43 #[.pointer (some ⟨g, 0, none⟩), .int .i64 a1] w fun e w' => e = .returned (.bool r1) ∧ qb w0 w' g s0_0 s0_1 s0_2 r2 ∧ Below w0.heap.size w0 w' ∧ qh w w' g none := by
 have HI0 := qa.mk hI
 have HK := qa.mk (qh.refl w g none)
 have HL := qa.mk hB.size
 clear hI
 have HW0 := qa.mk hB.size
 have HB := qa.mk hB
 clear hB
 have H : ((qW.f s0_0 s0_1 s0_2 s0_3 a1).bind fun bt143 => (if a1 = (s0_0.length : Int) then (some (true, bt143.2.2)) else (some ((bt143.1 == (-10000)), bt143.2.2)))) = some (r1, r2) := h
 clear h
 replace H := Option.bind_eq_some_iff.mp H
 obtain ⟨⟨t143, t144, t145⟩, A30, H⟩ := H
 replace H : (if a1 = (s0_0.length : Int) then (some (true, t145)) else (some ((t143 == (-10000)), t145))) = some (r1, r2) := H
 have A3 := qa.mk A30
 clear A30
 by_cases c4 : a1 = (s0_0.length : Int)
 ·rw [if_pos c4] at H
  have c4b0 : (a1 == (s0_0.length : Int)) = true := beq_iff_eq.mpr c4
  have c4b1 : (a1 != (s0_0.length : Int)) = false := bne_eq_false_iff_eq.mpr c4
  clear c4
  simp only [Option.some.injEq, Prod.mk.injEq] at H
  obtain ⟨rfl, rfl⟩ := H
  go_enter Try.func43, Try.ntmps43
  go_wp2_with (first | ((with_reducible refine zl (f := 51) rfl ?_); refine zM (some 10) rfl rfl Try.func51 (by kernel_rfl) rfl #[.pointer (some ⟨g, 0, none⟩), .int .i64 a1] rfl (by (try simp only [List.map_toArray, List.map_cons, List.map_nil]); first | done | rfl | (simp only [List.length_drop, List.length_take]; rfl)) ?_; (with_reducible refine (qW.calls g s0_0 s0_1 s0_2 s0_3 a1 t143 t144 t145 w0 _ ?side1 ?side2 A3.out).mono ?_); (case side1 => repeat (first | (with_reducible first | exact HI0.out | apply qb.alloc | apply qb.drewN | apply qb.drew | apply qb.qO) | exact HI0.out)); (case side2 => repeat (first | (with_reducible first | exact HB.out | apply qA | apply qx | apply qC | refine qm ?_ (qb.ge HI0.out)) | exact HB.out)); rintro e w5 ⟨rfl, hi, hb, hk⟩; refine ⟨_, rfl, ?_⟩; have n0_ := qa.mk (qh.trans (kb HK) hk (.inl rfl)); have n1_ := qa.mk (hb); have n2_ := qa.mk (hi); clear HK; clear HB; clear HI0; have HK := n0_; have HB := n1_; have HI0 := n2_; clear n0_ n1_ n2_; (try clear hb); (try clear hb2); (try clear hk); (try clear hi); obtain ⟨ASz6_0, cSz6_0, ASz6_1, cSz6_1, ASz6_2, cSz6_2, HGz6, hgz6, HSz6_0, HSz6_1, HSz6_2⟩ := HI0.out; have hcz6_0 := jF HGz6; have hcz6_1 := jH HGz6; have hcz6_2 := jE HGz6; have hcz6_3 := jG HGz6; have hfz6_3 := qg HGz6 3; clear HGz6 hgz6))
  go_ret
  exact ⟨by first | rfl | (simp [qN, qM] <;> rfl) | (simp [*, qN, qM] <;> rfl), by repeat (first | (with_reducible first | exact HI0.out | apply qb.alloc | apply qb.drewN | apply qb.drew | apply qb.qO) | exact HI0.out), bs HB ⟨qb.ge HI0.out⟩, kb HK⟩
 rw [if_neg c4] at H
 have c4b0 : (a1 == (s0_0.length : Int)) = false := beq_eq_false_iff_ne.mpr c4
 have c4b1 : (a1 != (s0_0.length : Int)) = true := bne_iff_ne.mpr c4
 simp only [Option.some.injEq, Prod.mk.injEq] at H
 obtain ⟨rfl, rfl⟩ := H
 go_enter Try.func43, Try.ntmps43
 go_wp2_with (first | ((with_reducible refine zl (f := 51) rfl ?_); refine zM (some 10) rfl rfl Try.func51 (by kernel_rfl) rfl #[.pointer (some ⟨g, 0, none⟩), .int .i64 a1] rfl (by (try simp only [List.map_toArray, List.map_cons, List.map_nil]); first | done | rfl | (simp only [List.length_drop, List.length_take]; rfl)) ?_; (with_reducible refine (qW.calls g s0_0 s0_1 s0_2 s0_3 a1 t143 t144 t145 w0 _ ?side1 ?side2 A3.out).mono ?_); (case side1 => repeat (first | (with_reducible first | exact HI0.out | apply qb.alloc | apply qb.drewN | apply qb.drew | apply qb.qO) | exact HI0.out)); (case side2 => repeat (first | (with_reducible first | exact HB.out | apply qA | apply qx | apply qC | refine qm ?_ (qb.ge HI0.out)) | exact HB.out)); rintro e w7 ⟨rfl, hi, hb, hk⟩; refine ⟨_, rfl, ?_⟩; have n0_ := qa.mk (qh.trans (kb HK) hk (.inl rfl)); have n1_ := qa.mk (hb); have n2_ := qa.mk (hi); clear HK; clear HB; clear HI0; have HK := n0_; have HB := n1_; have HI0 := n2_; clear n0_ n1_ n2_; (try clear hb); (try clear hb2); (try clear hk); (try clear hi); obtain ⟨ASz8_0, cSz8_0, ASz8_1, cSz8_1, ASz8_2, cSz8_2, HGz8, hgz8, HSz8_0, HSz8_1, HSz8_2⟩ := HI0.out; have hcz8_0 := jF HGz8; have hcz8_1 := jH HGz8; have hcz8_2 := jE HGz8; have hcz8_3 := jG HGz8; have hfz8_3 := qg HGz8 3; clear HGz8 hgz8))
 go_ret
 exact ⟨by first | rfl | (simp [qN, qM] <;> rfl) | (simp [*, qN, qM] <;> rfl), by repeat (first | (with_reducible first | exact HI0.out | apply qb.alloc | apply qb.drewN | apply qb.drew | apply qb.qO) | exact HI0.out), bs HB ⟨qb.ge HI0.out⟩, kb HK⟩
end Go.Proofs.Ytfbanppdiglciaa.X
