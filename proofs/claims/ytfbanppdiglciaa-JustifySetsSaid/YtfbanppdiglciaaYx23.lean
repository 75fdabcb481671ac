-- written by a program of this session (wip/xprint.py) over the kit's print
import Derived.Test.YtfbanppdiglciaaYx0
namespace Go.Proofs.Ytfbanppdiglciaa.Y
open Go.RowKit Go.Proofs.YtfbanppdiglciaaW.PrintWords Go.Proofs.YtfbanppdiglciaaW.PrintLast Go.Proofs.YtfbanppdiglciaaW.PrintMore
attribute [local go_sem] max2_int min2_int max_two min_two max_three min_three max_four min_four   -- for this text's walks alone
set_option linter.unusedVariables false
set_option linter.unusedSimpArgs false

/-! ### serifref01_Under: function 47 -/
section
attribute [local go_sem] setCell_drewN
set_option maxHeartbeats 8000000 in
set_option maxRecDepth 100000 in
theorem under_walk (a0_0 : Int) (a0_1 : Int) (a0_2 : Int) (a0_3 : Int) (a0_4 : Int) (a0_5 : Int) (a0_6 : Int) (a0_7 : Int) (a0_8 : Int) (a0_9 : Int) (a1_0 : Int) (a1_1 : Int) (a1_2 : Int) (a1_3 : Int) (a1_4 : Int) (a1_5 : Int) (a1_6 : Int) (a1_7 : Int) (a1_8 : Int) (a1_9 : Int) (d0_0 : Aside0 (isDig a0_0 = true)) (d0_1 : Aside0 (isDig a0_1 = true)) (d0_2 : Aside0 (isDig a0_2 = true)) (d0_3 : Aside0 (isDig a0_3 = true)) (d0_4 : Aside0 (isDig a0_4 = true)) (d0_5 : Aside0 (isDig a0_5 = true)) (d0_6 : Aside0 (isDig a0_6 = true)) (d0_7 : Aside0 (isDig a0_7 = true)) (d0_8 : Aside0 (isDig a0_8 = true)) (d0_9 : Aside0 (isDig a0_9 = true)) (d1_0 : Aside0 (isDig a1_0 = true)) (d1_1 : Aside0 (isDig a1_1 = true)) (d1_2 : Aside0 (isDig a1_2 = true)) (d1_3 : Aside0 (isDig a1_3 = true)) (d1_4 : Aside0 (isDig a1_4 = true)) (d1_5 : Aside0 (isDig a1_5 = true)) (d1_6 : Aside0 (isDig a1_6 = true)) (d1_7 : Aside0 (isDig a1_7 = true)) (d1_8 : Aside0 (isDig a1_8 = true)) (d1_9 : Aside0 (isDig a1_9 = true)) (r : Bool) (hr : Aside0 (decide (val10 a0_0 a0_1 a0_2 a0_3 a0_4 a0_5 a0_6 a0_7 a0_8 a0_9 < val10 a1_0 a1_1 a1_2 a1_3 a1_4 a1_5 a1_6 a1_7 a1_8 a1_9) = r)) (w : World) :
  Calls Try.prog 47 #[.agg #[.int .i64 a0_0, .int .i64 a0_1, .int .i64 a0_2, .int .i64 a0_3, .int .i64 a0_4, .int .i64 a0_5, .int .i64 a0_6, .int .i64 a0_7, .int .i64 a0_8, .int .i64 a0_9], .agg #[.int .i64 a1_0, .int .i64 a1_1, .int .i64 a1_2, .int .i64 a1_3, .int .i64 a1_4, .int .i64 a1_5, .int .i64 a1_6, .int .i64 a1_7, .int .i64 a1_8, .int .i64 a1_9]] w fun e w' => e = .returned (.bool r) ∧ Below w.heap.size w w' := by
 have hu := Try.underlying84
 go_enter Try.func47, Try.ntmps47
 go_wp2
 refine wp_loop_rounds 11 ?_
 rw [rounds_succ]
 go_wp2
 by_cases q9 : a0_9 = a1_9
 ·subst q9
  go_quiet (fail)
  go_wp2
  rw [rounds_succ]
  go_wp2
  by_cases q8 : a0_8 = a1_8
  ·subst q8
   go_quiet (fail)
   go_wp2
   rw [rounds_succ]
   go_wp2
   by_cases q7 : a0_7 = a1_7
   ·subst q7
    go_quiet (fail)
    go_wp2
    rw [rounds_succ]
    go_wp2
    by_cases q6 : a0_6 = a1_6
    ·subst q6
     go_quiet (fail)
     go_wp2
     rw [rounds_succ]
     go_wp2
     by_cases q5 : a0_5 = a1_5
     ·subst q5
      go_quiet (fail)
      go_wp2
      rw [rounds_succ]
      go_wp2
      by_cases q4 : a0_4 = a1_4
      ·subst q4
       go_quiet (fail)
       go_wp2
       rw [rounds_succ]
       go_wp2
       by_cases q3 : a0_3 = a1_3
       ·subst q3
        go_quiet (fail)
        go_wp2
        rw [rounds_succ]
        go_wp2
        by_cases q2 : a0_2 = a1_2
        ·subst q2
         go_quiet (fail)
         go_wp2
         rw [rounds_succ]
         go_wp2
         by_cases q1 : a0_1 = a1_1
         ·subst q1
          go_quiet (fail)
          go_wp2
          rw [rounds_succ]
          go_wp2
          by_cases q0 : a0_0 = a1_0
          ·subst q0
           go_quiet (fail)
           go_wp2
           rw [rounds_succ]
           go_wp2
           go_ret
           exact ⟨by rw [← hr.out]; simp, (by repeat (first | exact Below.refl _ _ | apply below_alloc | apply pw_below_drewN))⟩
          ·have x1 : (a0_0 == a1_0) = false := beq_eq_false_iff_ne.2 q0
           have x2 : (a0_0 != a1_0) = true := bne_iff_ne.2 q0
           have x3 : decide (a0_0 < a1_0) = r := by rw [← hr.out]; exact under_at0 d0_0.out d1_0.out q0
           have X := Aside0.mk x3
           clear q0 x3
           go_quiet (fail)
           go_wp2
           go_quiet (fail)
           go_wp2
           go_ret
           exact ⟨by rw [← X.out]; rfl, (by repeat (first | exact Below.refl _ _ | apply below_alloc | apply pw_below_drewN))⟩
         ·have x1 : (a0_1 == a1_1) = false := beq_eq_false_iff_ne.2 q1
          have x2 : (a0_1 != a1_1) = true := bne_iff_ne.2 q1
          have x3 : decide (a0_1 < a1_1) = r := by rw [← hr.out]; exact under_at1 d0_0.out d0_1.out d1_0.out d1_1.out q1
          have X := Aside0.mk x3
          clear q1 x3
          go_quiet (fail)
          go_wp2
          go_quiet (fail)
          go_wp2
          go_ret
          exact ⟨by rw [← X.out]; rfl, (by repeat (first | exact Below.refl _ _ | apply below_alloc | apply pw_below_drewN))⟩
        ·have x1 : (a0_2 == a1_2) = false := beq_eq_false_iff_ne.2 q2
         have x2 : (a0_2 != a1_2) = true := bne_iff_ne.2 q2
         have x3 : decide (a0_2 < a1_2) = r := by rw [← hr.out]; exact under_at2 d0_0.out d0_1.out d0_2.out d1_0.out d1_1.out d1_2.out q2
         have X := Aside0.mk x3
         clear q2 x3
         go_quiet (fail)
         go_wp2
         go_quiet (fail)
         go_wp2
         go_ret
         exact ⟨by rw [← X.out]; rfl, (by repeat (first | exact Below.refl _ _ | apply below_alloc | apply pw_below_drewN))⟩
       ·have x1 : (a0_3 == a1_3) = false := beq_eq_false_iff_ne.2 q3
        have x2 : (a0_3 != a1_3) = true := bne_iff_ne.2 q3
        have x3 : decide (a0_3 < a1_3) = r := by rw [← hr.out]; exact under_at3 d0_0.out d0_1.out d0_2.out d0_3.out d1_0.out d1_1.out d1_2.out d1_3.out q3
        have X := Aside0.mk x3
        clear q3 x3
        go_quiet (fail)
        go_wp2
        go_quiet (fail)
        go_wp2
        go_ret
        exact ⟨by rw [← X.out]; rfl, (by repeat (first | exact Below.refl _ _ | apply below_alloc | apply pw_below_drewN))⟩
      ·have x1 : (a0_4 == a1_4) = false := beq_eq_false_iff_ne.2 q4
       have x2 : (a0_4 != a1_4) = true := bne_iff_ne.2 q4
       have x3 : decide (a0_4 < a1_4) = r := by rw [← hr.out]; exact under_at4 d0_0.out d0_1.out d0_2.out d0_3.out d0_4.out d1_0.out d1_1.out d1_2.out d1_3.out d1_4.out q4
       have X := Aside0.mk x3
       clear q4 x3
       go_quiet (fail)
       go_wp2
       go_quiet (fail)
       go_wp2
       go_ret
       exact ⟨by rw [← X.out]; rfl, (by repeat (first | exact Below.refl _ _ | apply below_alloc | apply pw_below_drewN))⟩
     ·have x1 : (a0_5 == a1_5) = false := beq_eq_false_iff_ne.2 q5
      have x2 : (a0_5 != a1_5) = true := bne_iff_ne.2 q5
      have x3 : decide (a0_5 < a1_5) = r := by rw [← hr.out]; exact under_at5 d0_0.out d0_1.out d0_2.out d0_3.out d0_4.out d0_5.out d1_0.out d1_1.out d1_2.out d1_3.out d1_4.out d1_5.out q5
      have X := Aside0.mk x3
      clear q5 x3
      go_quiet (fail)
      go_wp2
      go_quiet (fail)
      go_wp2
      go_ret
      exact ⟨by rw [← X.out]; rfl, (by repeat (first | exact Below.refl _ _ | apply below_alloc | apply pw_below_drewN))⟩
    ·have x1 : (a0_6 == a1_6) = false := beq_eq_false_iff_ne.2 q6
     have x2 : (a0_6 != a1_6) = true := bne_iff_ne.2 q6
     have x3 : decide (a0_6 < a1_6) = r := by rw [← hr.out]; exact under_at6 d0_0.out d0_1.out d0_2.out d0_3.out d0_4.out d0_5.out d0_6.out d1_0.out d1_1.out d1_2.out d1_3.out d1_4.out d1_5.out d1_6.out q6
     have X := Aside0.mk x3
     clear q6 x3
     go_quiet (fail)
     go_wp2
     go_quiet (fail)
     go_wp2
     go_ret
     exact ⟨by rw [← X.out]; rfl, (by repeat (first | exact Below.refl _ _ | apply below_alloc | apply pw_below_drewN))⟩
   ·have x1 : (a0_7 == a1_7) = false := beq_eq_false_iff_ne.2 q7
    have x2 : (a0_7 != a1_7) = true := bne_iff_ne.2 q7
    have x3 : decide (a0_7 < a1_7) = r := by rw [← hr.out]; exact under_at7 d0_0.out d0_1.out d0_2.out d0_3.out d0_4.out d0_5.out d0_6.out d0_7.out d1_0.out d1_1.out d1_2.out d1_3.out d1_4.out d1_5.out d1_6.out d1_7.out q7
    have X := Aside0.mk x3
    clear q7 x3
    go_quiet (fail)
    go_wp2
    go_quiet (fail)
    go_wp2
    go_ret
    exact ⟨by rw [← X.out]; rfl, (by repeat (first | exact Below.refl _ _ | apply below_alloc | apply pw_below_drewN))⟩
  ·have x1 : (a0_8 == a1_8) = false := beq_eq_false_iff_ne.2 q8
   have x2 : (a0_8 != a1_8) = true := bne_iff_ne.2 q8
   have x3 : decide (a0_8 < a1_8) = r := by rw [← hr.out]; exact under_at8 d0_0.out d0_1.out d0_2.out d0_3.out d0_4.out d0_5.out d0_6.out d0_7.out d0_8.out d1_0.out d1_1.out d1_2.out d1_3.out d1_4.out d1_5.out d1_6.out d1_7.out d1_8.out q8
   have X := Aside0.mk x3
   clear q8 x3
   go_quiet (fail)
   go_wp2
   go_quiet (fail)
   go_wp2
   go_ret
   exact ⟨by rw [← X.out]; rfl, (by repeat (first | exact Below.refl _ _ | apply below_alloc | apply pw_below_drewN))⟩
 ·have x1 : (a0_9 == a1_9) = false := beq_eq_false_iff_ne.2 q9
  have x2 : (a0_9 != a1_9) = true := bne_iff_ne.2 q9
  have x3 : decide (a0_9 < a1_9) = r := by rw [← hr.out]; exact under_at9 d0_0.out d0_1.out d0_2.out d0_3.out d0_4.out d0_5.out d0_6.out d0_7.out d0_8.out d0_9.out d1_0.out d1_1.out d1_2.out d1_3.out d1_4.out d1_5.out d1_6.out d1_7.out d1_8.out d1_9.out q9
  have X := Aside0.mk x3
  clear q9 x3
  go_quiet (fail)
  go_wp2
  go_quiet (fail)
  go_wp2
  go_ret
  exact ⟨by rw [← X.out]; rfl, (by repeat (first | exact Below.refl _ _ | apply below_alloc | apply pw_below_drewN))⟩
end
def serifref01_Under.f (a0_0 a0_1 a0_2 a0_3 a0_4 a0_5 a0_6 a0_7 a0_8 a0_9 a1_0 a1_1 a1_2 a1_3 a1_4 a1_5 a1_6 a1_7 a1_8 a1_9 : Int) : Option Bool := underL a0_0 a0_1 a0_2 a0_3 a0_4 a0_5 a0_6 a0_7 a0_8 a0_9 a1_0 a1_1 a1_2 a1_3 a1_4 a1_5 a1_6 a1_7 a1_8 a1_9
theorem serifref01_Under.calls (a0_0 a0_1 a0_2 a0_3 a0_4 a0_5 a0_6 a0_7 a0_8 a0_9 a1_0 a1_1 a1_2 a1_3 a1_4 a1_5 a1_6 a1_7 a1_8 a1_9 : Int) (r : Bool) (w : World) (h : serifref01_Under.f a0_0 a0_1 a0_2 a0_3 a0_4 a0_5 a0_6 a0_7 a0_8 a0_9 a1_0 a1_1 a1_2 a1_3 a1_4 a1_5 a1_6 a1_7 a1_8 a1_9 = some r) :
  Calls Try.prog 47 #[.agg #[.int .i64 a0_0, .int .i64 a0_1, .int .i64 a0_2, .int .i64 a0_3, .int .i64 a0_4, .int .i64 a0_5, .int .i64 a0_6, .int .i64 a0_7, .int .i64 a0_8, .int .i64 a0_9], .agg #[.int .i64 a1_0, .int .i64 a1_1, .int .i64 a1_2, .int .i64 a1_3, .int .i64 a1_4, .int .i64 a1_5, .int .i64 a1_6, .int .i64 a1_7, .int .i64 a1_8, .int .i64 a1_9]] w fun e w' => e = .returned (.bool r) ∧ Below w.heap.size w w' := by
 unfold serifref01_Under.f underL at h
 split at h
 ·rename_i hd
  simp only [allDig, List.all_cons, List.all_nil, Bool.and_true, Bool.and_eq_true] at hd
  obtain ⟨d0, d1, d2, d3, d4, d5, d6, d7, d8, d9, d10, d11, d12, d13, d14, d15, d16, d17, d18, d19⟩ := hd
  exact under_walk a0_0 a0_1 a0_2 a0_3 a0_4 a0_5 a0_6 a0_7 a0_8 a0_9 a1_0 a1_1 a1_2 a1_3 a1_4 a1_5 a1_6 a1_7 a1_8 a1_9 ⟨d0⟩ ⟨d1⟩ ⟨d2⟩ ⟨d3⟩ ⟨d4⟩ ⟨d5⟩ ⟨d6⟩ ⟨d7⟩ ⟨d8⟩ ⟨d9⟩ ⟨d10⟩ ⟨d11⟩ ⟨d12⟩ ⟨d13⟩ ⟨d14⟩ ⟨d15⟩ ⟨d16⟩ ⟨d17⟩ ⟨d18⟩ ⟨d19⟩ r ⟨Option.some.inj h⟩ w
 ·exact absurd h (by simp)


end Go.Proofs.Ytfbanppdiglciaa.Y
