-- written by a program of this session (wip/xprint.py) over the kit's print
import Derived.Test.YtchmhcfdamdjdaaGx0
namespace Go.Proofs.Ytchmhcfdamdjdaa.G
open Go.RowKit Go.Proofs.YtchmhcfdamdjdaaW.PrintWords Go.Proofs.YtchmhcfdamdjdaaW.PrintLast Go.Proofs.YtchmhcfdamdjdaaW.PrintMore
attribute [local go_sem] max2_int min2_int max_two min_two max_three min_three max_four min_four   -- for this text's walks alone
set_option linter.unusedVariables false
set_option linter.unusedSimpArgs false

/-! ### glyf_wide: function 30 -/
def glyf_wide.f (a0 : Int) (a1 : Int) : Option (Bool) := if a0 > a1 then (if (wrap64 (a0 - a1)) < 0 then (some true) else (if a0 < a1 then (if (wrap64 (a0 - a1)) > 0 then (some true) else (if (wrap64 (a0 - a1)) < (-32768) then (some true) else (some (decide ((wrap64 (a0 - a1)) > 32767))))) else (if (wrap64 (a0 - a1)) < (-32768) then (some true) else (some (decide ((wrap64 (a0 - a1)) > 32767)))))) else (if a0 < a1 then (if (wrap64 (a0 - a1)) > 0 then (some true) else (if (wrap64 (a0 - a1)) < (-32768) then (some true) else (some (decide ((wrap64 (a0 - a1)) > 32767))))) else (if (wrap64 (a0 - a1)) < (-32768) then (some true) else (some (decide ((wrap64 (a0 - a1)) > 32767)))))
set_option maxHeartbeats 8000000 in
set_option maxRecDepth 100000 in
theorem glyf_wide.calls (a0 : Int) (a1 : Int) (r : Bool) (w : World) (h : glyf_wide.f a0 a1 = some r) :
  Calls Try.prog 30 #[.int .i64 a0, .int .i64 a1] w fun e w' => e = .returned (.bool r) ∧ Drawn0 w w' := by
 have H : (if a0 > a1 then (if (wrap64 (a0 - a1)) < 0 then (some true) else (if a0 < a1 then (if (wrap64 (a0 - a1)) > 0 then (some true) else (if (wrap64 (a0 - a1)) < (-32768) then (some true) else (some (decide ((wrap64 (a0 - a1)) > 32767))))) else (if (wrap64 (a0 - a1)) < (-32768) then (some true) else (some (decide ((wrap64 (a0 - a1)) > 32767)))))) else (if a0 < a1 then (if (wrap64 (a0 - a1)) > 0 then (some true) else (if (wrap64 (a0 - a1)) < (-32768) then (some true) else (some (decide ((wrap64 (a0 - a1)) > 32767))))) else (if (wrap64 (a0 - a1)) < (-32768) then (some true) else (some (decide ((wrap64 (a0 - a1)) > 32767)))))) = some r := h
 clear h
 by_cases c3 : a0 > a1
 ·rw [if_pos c3] at H
  have c3b0 : decide (a1 < a0) = true := decide_eq_true c3
  clear c3
  by_cases c4 : (wrap64 (a0 - a1)) < 0
  ·rw [if_pos c4] at H
   have c4b0 : decide ((wrap64 (a0 - a1)) < 0) = true := decide_eq_true c4
   clear c4
   obtain rfl := Option.some.inj H
   go_enter Try.func30, Try.ntmps30
   go_wp2
   go_ret
   exact ⟨by first | rfl | (simp; done) | (simp [*]; done), by repeat (first | exact Drawn0.refl _ | apply Drawn0.step)⟩
  ·rw [if_neg c4] at H
   have c4b0 : decide ((wrap64 (a0 - a1)) < 0) = false := decide_eq_false c4
   clear c4
   by_cases c5 : a0 < a1
   ·rw [if_pos c5] at H
    have c5b0 : decide (a0 < a1) = true := decide_eq_true c5
    clear c5
    by_cases c6 : (wrap64 (a0 - a1)) > 0
    ·rw [if_pos c6] at H
     have c6b0 : decide (0 < (wrap64 (a0 - a1))) = true := decide_eq_true c6
     clear c6
     obtain rfl := Option.some.inj H
     go_enter Try.func30, Try.ntmps30
     go_wp2
     go_ret
     exact ⟨by first | rfl | (simp; done) | (simp [*]; done), by repeat (first | exact Drawn0.refl _ | apply Drawn0.step)⟩
    ·rw [if_neg c6] at H
     have c6b0 : decide (0 < (wrap64 (a0 - a1))) = false := decide_eq_false c6
     clear c6
     by_cases c7 : (wrap64 (a0 - a1)) < (-32768)
     ·rw [if_pos c7] at H
      have c7b0 : decide ((wrap64 (a0 - a1)) < (-32768)) = true := decide_eq_true c7
      clear c7
      obtain rfl := Option.some.inj H
      go_enter Try.func30, Try.ntmps30
      go_wp2
      go_ret
      exact ⟨by first | rfl | (simp; done) | (simp [*]; done), by repeat (first | exact Drawn0.refl _ | apply Drawn0.step)⟩
     ·rw [if_neg c7] at H
      have c7b0 : decide ((wrap64 (a0 - a1)) < (-32768)) = false := decide_eq_false c7
      clear c7
      obtain rfl := Option.some.inj H
      go_enter Try.func30, Try.ntmps30
      go_wp2
      go_ret
      exact ⟨by first | rfl | (simp; done) | (simp [*]; done), by repeat (first | exact Drawn0.refl _ | apply Drawn0.step)⟩
   ·rw [if_neg c5] at H
    have c5b0 : decide (a0 < a1) = false := decide_eq_false c5
    clear c5
    by_cases c8 : (wrap64 (a0 - a1)) < (-32768)
    ·rw [if_pos c8] at H
     have c8b0 : decide ((wrap64 (a0 - a1)) < (-32768)) = true := decide_eq_true c8
     clear c8
     obtain rfl := Option.some.inj H
     go_enter Try.func30, Try.ntmps30
     go_wp2
     go_ret
     exact ⟨by first | rfl | (simp; done) | (simp [*]; done), by repeat (first | exact Drawn0.refl _ | apply Drawn0.step)⟩
    ·rw [if_neg c8] at H
     have c8b0 : decide ((wrap64 (a0 - a1)) < (-32768)) = false := decide_eq_false c8
     clear c8
     obtain rfl := Option.some.inj H
     go_enter Try.func30, Try.ntmps30
     go_wp2
     go_ret
     exact ⟨by first | rfl | (simp; done) | (simp [*]; done), by repeat (first | exact Drawn0.refl _ | apply Drawn0.step)⟩
 ·rw [if_neg c3] at H
  have c3b0 : decide (a1 < a0) = false := decide_eq_false c3
  clear c3
  by_cases c9 : a0 < a1
  ·rw [if_pos c9] at H
   have c9b0 : decide (a0 < a1) = true := decide_eq_true c9
   clear c9
   by_cases c10 : (wrap64 (a0 - a1)) > 0
   ·rw [if_pos c10] at H
    have c10b0 : decide (0 < (wrap64 (a0 - a1))) = true := decide_eq_true c10
    clear c10
    obtain rfl := Option.some.inj H
    go_enter Try.func30, Try.ntmps30
    go_wp2
    go_ret
    exact ⟨by first | rfl | (simp; done) | (simp [*]; done), by repeat (first | exact Drawn0.refl _ | apply Drawn0.step)⟩
   ·rw [if_neg c10] at H
    have c10b0 : decide (0 < (wrap64 (a0 - a1))) = false := decide_eq_false c10
    clear c10
    by_cases c11 : (wrap64 (a0 - a1)) < (-32768)
    ·rw [if_pos c11] at H
     have c11b0 : decide ((wrap64 (a0 - a1)) < (-32768)) = true := decide_eq_true c11
     clear c11
     obtain rfl := Option.some.inj H
     go_enter Try.func30, Try.ntmps30
     go_wp2
     go_ret
     exact ⟨by first | rfl | (simp; done) | (simp [*]; done), by repeat (first | exact Drawn0.refl _ | apply Drawn0.step)⟩
    ·rw [if_neg c11] at H
     have c11b0 : decide ((wrap64 (a0 - a1)) < (-32768)) = false := decide_eq_false c11
     clear c11
     obtain rfl := Option.some.inj H
     go_enter Try.func30, Try.ntmps30
     go_wp2
     go_ret
     exact ⟨by first | rfl | (simp; done) | (simp [*]; done), by repeat (first | exact Drawn0.refl _ | apply Drawn0.step)⟩
  ·rw [if_neg c9] at H
   have c9b0 : decide (a0 < a1) = false := decide_eq_false c9
   clear c9
   by_cases c12 : (wrap64 (a0 - a1)) < (-32768)
   ·rw [if_pos c12] at H
    have c12b0 : decide ((wrap64 (a0 - a1)) < (-32768)) = true := decide_eq_true c12
    clear c12
    obtain rfl := Option.some.inj H
    go_enter Try.func30, Try.ntmps30
    go_wp2
    go_ret
    exact ⟨by first | rfl | (simp; done) | (simp [*]; done), by repeat (first | exact Drawn0.refl _ | apply Drawn0.step)⟩
   ·rw [if_neg c12] at H
    have c12b0 : decide ((wrap64 (a0 - a1)) < (-32768)) = false := decide_eq_false c12
    clear c12
    obtain rfl := Option.some.inj H
    go_enter Try.func30, Try.ntmps30
    go_wp2
    go_ret
    exact ⟨by first | rfl | (simp; done) | (simp [*]; done), by repeat (first | exact Drawn0.refl _ | apply Drawn0.step)⟩

end Go.Proofs.Ytchmhcfdamdjdaa.G
