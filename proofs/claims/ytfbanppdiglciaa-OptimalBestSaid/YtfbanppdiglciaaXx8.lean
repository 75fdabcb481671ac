import Derived.Test.YtfbanppdiglciaaXx0
import Derived.Test.YtfbanppdiglciaaXx7
namespace Go.Proofs.Ytfbanppdiglciaa.X
open Go.RowKit Go.Proofs.YtfbanppdiglciaaW.PrintWords Go.Proofs.YtfbanppdiglciaaW.PrintLast Go.Proofs.YtfbanppdiglciaaW.PrintMore
attribute [local go_sem] jw jv jJ jI jf je jA jC
set_option linter.unusedVariables false
set_option linter.unusedSimpArgs false
def qW.f (s0_0 : List (S31)) (s0_1 : List (S81)) (s0_2 : List Int) (s0_3 : Int) (a1 : Int) : Option (Int × Bool × Int) := if a1 < 0 then (some (0, false, s0_3)) else (if a1 ≥ (s0_0.length : Int) then (some (0, false, s0_3)) else (if 0 ≤ a1 then (if a1 < (s0_0.length : Int) then (if ((qc s0_0 a1).f0) = 3 then (some ((qc s0_0 a1).f4, (qc s0_0 a1).f5, s0_3)) else (some (0, false, s0_3))) else (none)) else (none)))
set_option maxHeartbeats 8000000 in
set_option maxRecDepth 100000 in
theorem qW.calls (g : Nat) (s0_0 : List (S31)) (s0_1 : List (S81)) (s0_2 : List Int) (s0_3 : Int) (a1 : Int) (r1 : Int) (r2 : Bool) (r3 : Int) (w0 w : World) (hI : qb w0 w g s0_0 s0_1 s0_2 s0_3) (hB : Below w0.heap.size w0 w) (h : qW.f s0_0 s0_1 s0_2 s0_3 a1 = some (r1, r2, r3)) :
  Calls Try.prog 51 #[.pointer (some ⟨g, 0, none⟩), .int .i64 a1] w fun e w' => e = .returned (.tuple #[.int .i64 r1, .bool r2]) ∧ qb w0 w' g s0_0 s0_1 s0_2 r3 ∧ Below w0.heap.size w0 w' ∧ qh w w' g none := by
 have HI0 := qa.mk hI
 have HK := qa.mk (qh.refl w g none)
 have HL := qa.mk hB.size
 clear hI
 have HW0 := qa.mk hB.size
 have HB := qa.mk hB
 clear hB
 have H : (if a1 < 0 then (some (0, false, s0_3)) else (if a1 ≥ (s0_0.length : Int) then (some (0, false, s0_3)) else (if 0 ≤ a1 then (if a1 < (s0_0.length : Int) then (if ((qc s0_0 a1).f0) = 3 then (some ((qc s0_0 a1).f4, (qc s0_0 a1).f5, s0_3)) else (some (0, false, s0_3))) else (none)) else (none)))) = some (r1, r2, r3) := h
 clear h
 by_cases c3 : a1 < 0
 ·rw [if_pos c3] at H
  have c3b0 : decide (a1 < 0) = true := decide_eq_true c3
  clear c3
  simp only [Option.some.injEq, Prod.mk.injEq] at H
  obtain ⟨rfl, rfl, rfl⟩ := H
  go_enter Try.func51, Try.ntmps51
  go_wp2
  repeat (go_quiet (fail); try go_wp2)
  go_ret2
  exact ⟨by first | rfl | (simp [qN, qM] <;> rfl) | (simp [*, qN, qM] <;> rfl), by repeat (first | (with_reducible first | exact HI0.out | apply qb.alloc | apply qb.drewN | apply qb.drew | apply qb.qO) | exact HI0.out), bs HB ⟨qb.ge HI0.out⟩, kb HK⟩
 rw [if_neg c3] at H
 have c3b0 : decide (a1 < 0) = false := decide_eq_false c3
 clear c3
 by_cases c4 : a1 ≥ (s0_0.length : Int)
 ·rw [if_pos c4] at H
  have c4b0 : decide ((s0_0.length : Int) ≤ a1) = true := decide_eq_true c4
  clear c4
  simp only [Option.some.injEq, Prod.mk.injEq] at H
  obtain ⟨rfl, rfl, rfl⟩ := H
  obtain ⟨ASz5_0, cSz5_0, ASz5_1, cSz5_1, ASz5_2, cSz5_2, HGz5, hgz5, HSz5_0, HSz5_1, HSz5_2⟩ := HI0.out
  have hcz5_0 := jF HGz5
  have hcz5_1 := jH HGz5
  have hcz5_2 := jE HGz5
  have hcz5_3 := jG HGz5
  have hfz5_3 := qg HGz5 3
  clear HGz5 hgz5
  go_enter Try.func51, Try.ntmps51
  go_wp2
  repeat (go_quiet (fail); try go_wp2)
  go_ret2
  exact ⟨by first | rfl | (simp [qN, qM] <;> rfl) | (simp [*, qN, qM] <;> rfl), by repeat (first | (with_reducible first | exact HI0.out | apply qb.alloc | apply qb.drewN | apply qb.drew | apply qb.qO) | exact HI0.out), bs HB ⟨qb.ge HI0.out⟩, kb HK⟩
 rw [if_neg c4] at H
 have c4b0 : decide ((s0_0.length : Int) ≤ a1) = false := decide_eq_false c4
 clear c4
 by_cases c6 : 0 ≤ a1
 case neg =>
  rw [if_neg c6] at H
  exact absurd H (by simp)
 rw [if_pos c6] at H
 have c6b0 : decide (0 ≤ a1) = true := decide_eq_true c6
 clear c6
 by_cases c7 : a1 < (s0_0.length : Int)
 case neg =>
  rw [if_neg c7] at H
  exact absurd H (by simp)
 rw [if_pos c7] at H
 have c7b0 : decide (a1 < (s0_0.length : Int)) = true := decide_eq_true c7
 clear c7
 by_cases c8 : ((qc s0_0 a1).f0) = 3
 case neg =>
  rw [if_neg c8] at H
  have c8b0 : (((qc s0_0 a1).f0) == 3) = false := beq_eq_false_iff_ne.mpr c8
  have c8b1 : (((qc s0_0 a1).f0) != 3) = true := bne_iff_ne.mpr c8
  simp only [Option.some.injEq, Prod.mk.injEq] at H
  obtain ⟨rfl, rfl, rfl⟩ := H
  obtain ⟨ASz10_0, cSz10_0, ASz10_1, cSz10_1, ASz10_2, cSz10_2, HGz10, hgz10, HSz10_0, HSz10_1, HSz10_2⟩ := HI0.out
  have hcz10_0 := jF HGz10
  have hcz10_1 := jH HGz10
  have hcz10_2 := jE HGz10
  have hcz10_3 := jG HGz10
  have hfz10_3 := qg HGz10 3
  clear HGz10 hgz10
  have p128 : 0 ≤ (a1 : Int) := odt
  have q128 : a1 < (s0_0.length : Int) := odt
  obtain ⟨ad128, e128, hx128_0, hx128_1, hx128_2, hx128_3, hx128_4, hx128_5⟩ := zt HSz10_0 a1 p128 q128
  cases e128
  replace hx128_0 := zA HB.out hx128_0
  replace hx128_1 := zA HB.out hx128_1
  replace hx128_2 := zA HB.out hx128_2
  replace hx128_3 := zA HB.out hx128_3
  replace hx128_4 := zA HB.out hx128_4
  replace hx128_5 := zA HB.out hx128_5
  replace p128 := eq_true p128
  replace q128 := eq_true q128
  go_enter Try.func51, Try.ntmps51
  go_wp2
  repeat (go_quiet (fail); try go_wp2)
  go_ret2
  exact ⟨by first | rfl | (simp [qN, qM] <;> rfl) | (simp [*, qN, qM] <;> rfl), by repeat (first | (with_reducible first | exact HI0.out | apply qb.alloc | apply qb.drewN | apply qb.drew | apply qb.qO) | exact HI0.out), bs HB ⟨qb.ge HI0.out⟩, kb HK⟩
 rw [if_pos c8] at H
 have c8b0 : (((qc s0_0 a1).f0) == 3) = true := beq_iff_eq.mpr c8
 have c8b1 : (((qc s0_0 a1).f0) != 3) = false := bne_eq_false_iff_eq.mpr c8
 clear c8
 simp only [Option.some.injEq, Prod.mk.injEq] at H
 obtain ⟨rfl, rfl, rfl⟩ := H
 obtain ⟨ASz9_0, cSz9_0, ASz9_1, cSz9_1, ASz9_2, cSz9_2, HGz9, hgz9, HSz9_0, HSz9_1, HSz9_2⟩ := HI0.out
 have hcz9_0 := jF HGz9
 have hcz9_1 := jH HGz9
 have hcz9_2 := jE HGz9
 have hcz9_3 := jG HGz9
 have hfz9_3 := qg HGz9 3
 clear HGz9 hgz9
 have p128 : 0 ≤ (a1 : Int) := odt
 have q128 : a1 < (s0_0.length : Int) := odt
 obtain ⟨ad128, e128, hx128_0, hx128_1, hx128_2, hx128_3, hx128_4, hx128_5⟩ := zt HSz9_0 a1 p128 q128
 cases e128
 replace hx128_0 := zA HB.out hx128_0
 replace hx128_1 := zA HB.out hx128_1
 replace hx128_2 := zA HB.out hx128_2
 replace hx128_3 := zA HB.out hx128_3
 replace hx128_4 := zA HB.out hx128_4
 replace hx128_5 := zA HB.out hx128_5
 replace p128 := eq_true p128
 replace q128 := eq_true q128
 have p129 : 0 ≤ (a1 : Int) := odt
 have q129 : a1 < (s0_0.length : Int) := odt
 obtain ⟨ad129, e129, hx129_0, hx129_1, hx129_2, hx129_3, hx129_4, hx129_5⟩ := zt HSz9_0 a1 p129 q129
 obtain rfl : ad128 = ad129 := (by injection e129)
 replace hx129_0 := zA HB.out hx129_0
 replace hx129_1 := zA HB.out hx129_1
 replace hx129_2 := zA HB.out hx129_2
 replace hx129_3 := zA HB.out hx129_3
 replace hx129_4 := zA HB.out hx129_4
 replace hx129_5 := zA HB.out hx129_5
 replace p129 := eq_true p129
 replace q129 := eq_true q129
 have p130 : 0 ≤ (a1 : Int) := odt
 have q130 : a1 < (s0_0.length : Int) := odt
 obtain ⟨ad130, e130, hx130_0, hx130_1, hx130_2, hx130_3, hx130_4, hx130_5⟩ := zt HSz9_0 a1 p130 q130
 obtain rfl : ad128 = ad130 := (by injection e130)
 replace hx130_0 := zA HB.out hx130_0
 replace hx130_1 := zA HB.out hx130_1
 replace hx130_2 := zA HB.out hx130_2
 replace hx130_3 := zA HB.out hx130_3
 replace hx130_4 := zA HB.out hx130_4
 replace hx130_5 := zA HB.out hx130_5
 replace p130 := eq_true p130
 replace q130 := eq_true q130
 go_enter Try.func51, Try.ntmps51
 go_wp2
 repeat (go_quiet (fail); try go_wp2)
 go_ret2
 exact ⟨by first | rfl | (simp [qN, qM] <;> rfl) | (simp [*, qN, qM] <;> rfl), by repeat (first | (with_reducible first | exact HI0.out | apply qb.alloc | apply qb.drewN | apply qb.drew | apply qb.qO) | exact HI0.out), bs HB ⟨qb.ge HI0.out⟩, kb HK⟩
end Go.Proofs.Ytfbanppdiglciaa.X
