import Derived.Test.YtfbanppdiglciaaXx0
namespace Go.Proofs.Ytfbanppdiglciaa.X
open Go.RowKit Go.Proofs.YtfbanppdiglciaaW.PrintWords Go.Proofs.YtfbanppdiglciaaW.PrintLast Go.Proofs.YtfbanppdiglciaaW.PrintMore
attribute [local go_sem] jw jv jJ jI jf je jA jC
set_option linter.unusedVariables false
set_option linter.unusedSimpArgs false
def zx.f (l0 : List (S31)) (a1 : Int) : Option (Bool) := if a1 = (l0.length : Int) then (some true) else (if 0 ≤ a1 then (if a1 < (l0.length : Int) then (if ((qc l0 a1).f0) = 3 then (some (((qc l0 a1).f4) == (-10000))) else (some false)) else (none)) else (none))
set_option maxHeartbeats 8000000 in
set_option maxRecDepth 100000 in
theorem zx.calls (A0 : Option Addr) (c0 : Nat) (l0 : List (S31)) (a1 : Int) (r : Bool) (w : World) (hr0 : Kd.C k31 w A0 l0.length l0) (hc0 : l0.length ≤ c0) (h : zx.f l0 a1 = some r) :
  Calls Try.prog 20 #[.slice A0 l0.length c0, .int .i64 a1] w fun e w' => e = .returned (.bool r) ∧ qU w w' := by
 have HR0 := qa.mk hr0
 have HC0 := qa.mk hc0
 clear hr0 hc0
 have H : (if a1 = (l0.length : Int) then (some true) else (if 0 ≤ a1 then (if a1 < (l0.length : Int) then (if ((qc l0 a1).f0) = 3 then (some (((qc l0 a1).f4) == (-10000))) else (some false)) else (none)) else (none))) = some r := h
 clear h
 by_cases c3 : a1 = (l0.length : Int)
 ·rw [if_pos c3] at H
  have c3b0 : (a1 == (l0.length : Int)) = true := beq_iff_eq.mpr c3
  have c3b1 : (a1 != (l0.length : Int)) = false := bne_eq_false_iff_eq.mpr c3
  clear c3
  obtain rfl := Option.some.inj H
  go_enter Try.func20, Try.ntmps20
  go_wp2
  go_ret
  exact ⟨by first | rfl | (simp; done) | (simp [*]; done), by repeat (first | exact qU.refl _ | apply qU.step)⟩
 rw [if_neg c3] at H
 have c3b0 : (a1 == (l0.length : Int)) = false := beq_eq_false_iff_ne.mpr c3
 have c3b1 : (a1 != (l0.length : Int)) = true := bne_iff_ne.mpr c3
 by_cases c4 : 0 ≤ a1
 case neg =>
  rw [if_neg c4] at H
  exact absurd H (by simp)
 rw [if_pos c4] at H
 have c4b0 : decide (0 ≤ a1) = true := decide_eq_true c4
 clear c4
 by_cases c5 : a1 < (l0.length : Int)
 case neg =>
  rw [if_neg c5] at H
  exact absurd H (by simp)
 rw [if_pos c5] at H
 have c5b0 : decide (a1 < (l0.length : Int)) = true := decide_eq_true c5
 clear c5
 by_cases c6 : ((qc l0 a1).f0) = 3
 case neg =>
  rw [if_neg c6] at H
  have c6b0 : (((qc l0 a1).f0) == 3) = false := beq_eq_false_iff_ne.mpr c6
  have c6b1 : (((qc l0 a1).f0) != 3) = true := bne_iff_ne.mpr c6
  obtain rfl := Option.some.inj H
  have p258 : 0 ≤ (a1 : Int) := odt
  have q258 : a1 < (l0.length : Int) := odt
  obtain ⟨ad258, e258, hx258_0, hx258_1, hx258_2, hx258_3, hx258_4, hx258_5⟩ := zt HR0.out a1 p258 q258
  cases e258
  replace p258 := eq_true p258
  replace q258 := eq_true q258
  go_enter Try.func20, Try.ntmps20
  go_wp2
  go_ret
  exact ⟨by first | rfl | (simp; done) | (simp [*]; done), by repeat (first | exact qU.refl _ | apply qU.step)⟩
 rw [if_pos c6] at H
 have c6b0 : (((qc l0 a1).f0) == 3) = true := beq_iff_eq.mpr c6
 have c6b1 : (((qc l0 a1).f0) != 3) = false := bne_eq_false_iff_eq.mpr c6
 clear c6
 obtain rfl := Option.some.inj H
 have p258 : 0 ≤ (a1 : Int) := odt
 have q258 : a1 < (l0.length : Int) := odt
 obtain ⟨ad258, e258, hx258_0, hx258_1, hx258_2, hx258_3, hx258_4, hx258_5⟩ := zt HR0.out a1 p258 q258
 cases e258
 replace p258 := eq_true p258
 replace q258 := eq_true q258
 have p259 : 0 ≤ (a1 : Int) := odt
 have q259 : a1 < (l0.length : Int) := odt
 obtain ⟨ad259, e259, hx259_0, hx259_1, hx259_2, hx259_3, hx259_4, hx259_5⟩ := zt HR0.out a1 p259 q259
 obtain rfl : ad258 = ad259 := (by injection e259)
 replace p259 := eq_true p259
 replace q259 := eq_true q259
 go_enter Try.func20, Try.ntmps20
 go_wp2
 go_ret
 exact ⟨by first | rfl | (simp; done) | (simp [*]; done), by repeat (first | exact qU.refl _ | apply qU.step)⟩
end Go.Proofs.Ytfbanppdiglciaa.X
