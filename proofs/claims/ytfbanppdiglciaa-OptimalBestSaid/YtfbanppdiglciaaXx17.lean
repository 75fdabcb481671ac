import Derived.Test.YtfbanppdiglciaaXx0
namespace Go.Proofs.Ytfbanppdiglciaa.X
open Go.RowKit Go.Proofs.YtfbanppdiglciaaW.PrintWords Go.Proofs.YtfbanppdiglciaaW.PrintLast Go.Proofs.YtfbanppdiglciaaW.PrintMore
attribute [local go_sem] jw jv jJ jI jf je jA jC
set_option linter.unusedVariables false
set_option linter.unusedSimpArgs false
def zZ.f (l0 : List (S31)) (a1 : Int) : Option (Bool) := if a1 = (l0.length : Int) then (some true) else (if 0 ≤ a1 then (if a1 < (l0.length : Int) then (if ((qc l0 a1).f0) = 3 then (some (decide (((qc l0 a1).f4) < 10000))) else (if ((qc l0 a1).f0) = 2 then (if a1 > 0 then (if 0 ≤ (wrap64 (a1 - 1)) then (if (wrap64 (a1 - 1)) < (l0.length : Int) then (some (((qc l0 (wrap64 (a1 - 1))).f0) == 1)) else (none)) else (none)) else (some false)) else (some false))) else (none)) else (none))
set_option maxHeartbeats 8000000 in
set_option maxRecDepth 100000 in
theorem zZ.calls (A0 : Option Addr) (c0 : Nat) (l0 : List (S31)) (a1 : Int) (r : Bool) (w : World) (hr0 : Kd.C k31 w A0 l0.length l0) (hc0 : l0.length ≤ c0) (h : zZ.f l0 a1 = some r) :
  Calls Try.prog 19 #[.slice A0 l0.length c0, .int .i64 a1] w fun e w' => e = .returned (.bool r) ∧ qU w w' := by
 have HR0 := qa.mk hr0
 have HC0 := qa.mk hc0
 clear hr0 hc0
 have H : (if a1 = (l0.length : Int) then (some true) else (if 0 ≤ a1 then (if a1 < (l0.length : Int) then (if ((qc l0 a1).f0) = 3 then (some (decide (((qc l0 a1).f4) < 10000))) else (if ((qc l0 a1).f0) = 2 then (if a1 > 0 then (if 0 ≤ (wrap64 (a1 - 1)) then (if (wrap64 (a1 - 1)) < (l0.length : Int) then (some (((qc l0 (wrap64 (a1 - 1))).f0) == 1)) else (none)) else (none)) else (some false)) else (some false))) else (none)) else (none))) = some r := h
 clear h
 by_cases c3 : a1 = (l0.length : Int)
 ·rw [if_pos c3] at H
  have c3b0 : (a1 == (l0.length : Int)) = true := beq_iff_eq.mpr c3
  have c3b1 : (a1 != (l0.length : Int)) = false := bne_eq_false_iff_eq.mpr c3
  clear c3
  obtain rfl := Option.some.inj H
  go_enter Try.func19, Try.ntmps19
  go_wp2
  go_ret
  exact ⟨by first | rfl | (simp; done) | (simp [*]; done), by repeat (first | exact qU.refl _ | apply qU.step)⟩
 rw [if_neg c3] at H
 have c3b0 : (a1 == (l0.length : Int)) = false := beq_eq_false_iff_ne.mpr c3
 have c3b1 : (a1 != (l0.length : Int)) = true := bne_iff_ne.mpr c3
 by_cases c4 : 0 ≤ a1
 case neg =>
  rw [if_neg c4] at H
  exact absurd H (by simp)
 rw [if_pos c4] at H
 have c4b0 : decide (0 ≤ a1) = true := decide_eq_true c4
 clear c4
 by_cases c5 : a1 < (l0.length : Int)
 case neg =>
  rw [if_neg c5] at H
  exact absurd H (by simp)
 rw [if_pos c5] at H
 have c5b0 : decide (a1 < (l0.length : Int)) = true := decide_eq_true c5
 clear c5
 by_cases c6 : ((qc l0 a1).f0) = 3
 ·rw [if_pos c6] at H
  have c6b0 : (((qc l0 a1).f0) == 3) = true := beq_iff_eq.mpr c6
  have c6b1 : (((qc l0 a1).f0) != 3) = false := bne_eq_false_iff_eq.mpr c6
  clear c6
  obtain rfl := Option.some.inj H
  have p254 : 0 ≤ (a1 : Int) := odt
  have q254 : a1 < (l0.length : Int) := odt
  obtain ⟨ad254, e254, hx254_0, hx254_1, hx254_2, hx254_3, hx254_4, hx254_5⟩ := zt HR0.out a1 p254 q254
  cases e254
  replace p254 := eq_true p254
  replace q254 := eq_true q254
  have p255 : 0 ≤ (a1 : Int) := odt
  have q255 : a1 < (l0.length : Int) := odt
  obtain ⟨ad255, e255, hx255_0, hx255_1, hx255_2, hx255_3, hx255_4, hx255_5⟩ := zt HR0.out a1 p255 q255
  obtain rfl : ad254 = ad255 := (by injection e255)
  replace p255 := eq_true p255
  replace q255 := eq_true q255
  go_enter Try.func19, Try.ntmps19
  go_wp2
  go_ret
  exact ⟨by first | rfl | (simp; done) | (simp [*]; done), by repeat (first | exact qU.refl _ | apply qU.step)⟩
 rw [if_neg c6] at H
 have c6b0 : (((qc l0 a1).f0) == 3) = false := beq_eq_false_iff_ne.mpr c6
 have c6b1 : (((qc l0 a1).f0) != 3) = true := bne_iff_ne.mpr c6
 by_cases c7 : ((qc l0 a1).f0) = 2
 case neg =>
  rw [if_neg c7] at H
  have c7b0 : (((qc l0 a1).f0) == 2) = false := beq_eq_false_iff_ne.mpr c7
  have c7b1 : (((qc l0 a1).f0) != 2) = true := bne_iff_ne.mpr c7
  obtain rfl := Option.some.inj H
  have p254 : 0 ≤ (a1 : Int) := odt
  have q254 : a1 < (l0.length : Int) := odt
  obtain ⟨ad254, e254, hx254_0, hx254_1, hx254_2, hx254_3, hx254_4, hx254_5⟩ := zt HR0.out a1 p254 q254
  cases e254
  replace p254 := eq_true p254
  replace q254 := eq_true q254
  have p256 : 0 ≤ (a1 : Int) := odt
  have q256 : a1 < (l0.length : Int) := odt
  obtain ⟨ad256, e256, hx256_0, hx256_1, hx256_2, hx256_3, hx256_4, hx256_5⟩ := zt HR0.out a1 p256 q256
  obtain rfl : ad254 = ad256 := (by injection e256)
  replace p256 := eq_true p256
  replace q256 := eq_true q256
  go_enter Try.func19, Try.ntmps19
  go_wp2
  go_ret
  exact ⟨by first | rfl | (simp; done) | (simp [*]; done), by repeat (first | exact qU.refl _ | apply qU.step)⟩
 rw [if_pos c7] at H
 have c7b0 : (((qc l0 a1).f0) == 2) = true := beq_iff_eq.mpr c7
 have c7b1 : (((qc l0 a1).f0) != 2) = false := bne_eq_false_iff_eq.mpr c7
 clear c7
 by_cases c8 : a1 > 0
 case neg =>
  rw [if_neg c8] at H
  have c8b0 : decide (0 < a1) = false := decide_eq_false c8
  clear c8
  obtain rfl := Option.some.inj H
  have p254 : 0 ≤ (a1 : Int) := odt
  have q254 : a1 < (l0.length : Int) := odt
  obtain ⟨ad254, e254, hx254_0, hx254_1, hx254_2, hx254_3, hx254_4, hx254_5⟩ := zt HR0.out a1 p254 q254
  cases e254
  replace p254 := eq_true p254
  replace q254 := eq_true q254
  have p256 : 0 ≤ (a1 : Int) := odt
  have q256 : a1 < (l0.length : Int) := odt
  obtain ⟨ad256, e256, hx256_0, hx256_1, hx256_2, hx256_3, hx256_4, hx256_5⟩ := zt HR0.out a1 p256 q256
  obtain rfl : ad254 = ad256 := (by injection e256)
  replace p256 := eq_true p256
  replace q256 := eq_true q256
  go_enter Try.func19, Try.ntmps19
  go_wp2
  go_ret
  exact ⟨by first | rfl | (simp; done) | (simp [*]; done), by repeat (first | exact qU.refl _ | apply qU.step)⟩
 rw [if_pos c8] at H
 have c8b0 : decide (0 < a1) = true := decide_eq_true c8
 clear c8
 obtain ⟨ji9, hji9⟩ : ∃ j_ : Int, (wrap64 (a1 - 1)) = j_ := ⟨_, rfl⟩
 replace H : (if 0 ≤ (ji9) then (if (ji9) < (l0.length : Int) then (some (((qc l0 (ji9)).f0) == 1)) else (none)) else (none)) = some r := by first | (rw [hji9] at H; exact H) | (simp only [hji9] at H ⊢; exact H)
 have hji9w : (IntKind.i64.wrap (a1 - 1)) = ji9 := (zJ _).trans hji9
 by_cases c10 : 0 ≤ (ji9)
 case neg =>
  rw [if_neg c10] at H
  exact absurd H (by simp)
 rw [if_pos c10] at H
 have c10b0 : decide (0 ≤ (ji9)) = true := decide_eq_true c10
 clear c10
 by_cases c11 : (ji9) < (l0.length : Int)
 case neg =>
  rw [if_neg c11] at H
  exact absurd H (by simp)
 rw [if_pos c11] at H
 have c11b0 : decide ((ji9) < (l0.length : Int)) = true := decide_eq_true c11
 clear c11
 obtain rfl := Option.some.inj H
 have p254 : 0 ≤ (a1 : Int) := odt
 have q254 : a1 < (l0.length : Int) := odt
 obtain ⟨ad254, e254, hx254_0, hx254_1, hx254_2, hx254_3, hx254_4, hx254_5⟩ := zt HR0.out a1 p254 q254
 cases e254
 replace p254 := eq_true p254
 replace q254 := eq_true q254
 have p256 : 0 ≤ (a1 : Int) := odt
 have q256 : a1 < (l0.length : Int) := odt
 obtain ⟨ad256, e256, hx256_0, hx256_1, hx256_2, hx256_3, hx256_4, hx256_5⟩ := zt HR0.out a1 p256 q256
 obtain rfl : ad254 = ad256 := (by injection e256)
 replace p256 := eq_true p256
 replace q256 := eq_true q256
 have p257 : 0 ≤ ((ji9) : Int) := odt
 have q257 : (ji9) < (l0.length : Int) := odt
 obtain ⟨ad257, e257, hx257_0, hx257_1, hx257_2, hx257_3, hx257_4, hx257_5⟩ := zt HR0.out (ji9) p257 q257
 obtain rfl : ad254 = ad257 := (by injection e257)
 replace p257 := eq_true p257
 replace q257 := eq_true q257
 go_enter Try.func19, Try.ntmps19
 go_wp2
 go_ret
 exact ⟨by first | rfl | (simp; done) | (simp only [← hji9] <;> (first | rfl | simp)) | (simp [*]; done), by repeat (first | exact qU.refl _ | apply qU.step)⟩
end Go.Proofs.Ytfbanppdiglciaa.X
