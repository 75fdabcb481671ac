-- written by a program of this session (wip/xprint.py) over the kit's print
import Derived.Test.YtfbanppdiglciaaYx0
namespace Go.Proofs.Ytfbanppdiglciaa.Y
open Go.RowKit Go.Proofs.YtfbanppdiglciaaW.PrintWords Go.Proofs.YtfbanppdiglciaaW.PrintLast Go.Proofs.YtfbanppdiglciaaW.PrintMore
attribute [local go_sem] max2_int min2_int max_two min_two max_three min_three max_four min_four   -- for this text's walks alone
set_option linter.unusedVariables false
set_option linter.unusedSimpArgs false

/-! ### optimal_right: function 41 -/
def rightS (k w s h p : Int) : Bool := decide (0 ≤ w) && decide (w ≤ 2147483647) && decide (0 ≤ s) && decide (s ≤ 2147483647) && decide (0 ≤ h) && decide (h ≤ 2147483647) && decide (1 ≤ k) && decide (k ≤ 3) && decide (-10000 ≤ p) && decide (p ≤ 10000)
def optimal_right.f (a0_0 a0_1 a0_2 a0_3 a0_4 : Int) (a0_5 : Bool) : Option Bool := some (rightS a0_0 a0_1 a0_2 a0_3 a0_4)
set_option maxHeartbeats 8000000 in
set_option maxRecDepth 100000 in
theorem right_walk0 (a0_0 a0_1 a0_2 a0_3 a0_4 : Int) (a0_5 : Bool) (h0 : a0_1 < 0) (w : World) :
  Calls Try.prog 41 #[.agg #[.int .i64 a0_0, .int .i64 a0_1, .int .i64 a0_2, .int .i64 a0_3, .int .i64 a0_4, .bool a0_5]] w fun e w' => e = .returned (.bool false) ∧ Below w.heap.size w w' := by
 have d0 : decide (0 ≤ a0_1) = false := decide_eq_false (by omega)
 have i0 : ∀ w, (Instr.index 90 (.agg #[.int .i64 a0_1, .int .i64 a0_2, .int .i64 a0_3]) (.int .i64 0)).run Try.prog w = .ok (.int .i64 a0_1) w := fun _ => by kernel_rfl
 have i1 : ∀ w, (Instr.index 90 (.agg #[.int .i64 a0_1, .int .i64 a0_2, .int .i64 a0_3]) (.int .i64 1)).run Try.prog w = .ok (.int .i64 a0_2) w := fun _ => by kernel_rfl
 have i2 : ∀ w, (Instr.index 90 (.agg #[.int .i64 a0_1, .int .i64 a0_2, .int .i64 a0_3]) (.int .i64 2)).run Try.prog w = .ok (.int .i64 a0_3) w := fun _ => by kernel_rfl
 have hu := Try.underlying31
 go_enter Try.func41, Try.ntmps41
 go_wp2
 refine wp_loop_rounds 4 ?_
 rw [rounds_succ]
 go_wp2
 rw [rounds_succ]
 go_wp2
 rw [rounds_succ]
 go_wp2
 rw [rounds_succ]
 go_wp2
 go_ret
 exact ⟨rfl, by repeat (first | exact Below.refl _ _ | apply below_alloc | apply pw_below_drewN)⟩
set_option maxHeartbeats 8000000 in
set_option maxRecDepth 100000 in
theorem right_walk1 (a0_0 a0_1 a0_2 a0_3 a0_4 : Int) (a0_5 : Bool) (h0 : 0 ≤ a0_1) (h1 : 2147483647 < a0_1) (w : World) :
  Calls Try.prog 41 #[.agg #[.int .i64 a0_0, .int .i64 a0_1, .int .i64 a0_2, .int .i64 a0_3, .int .i64 a0_4, .bool a0_5]] w fun e w' => e = .returned (.bool false) ∧ Below w.heap.size w w' := by
 have d0 : decide (0 ≤ a0_1) = true := decide_eq_true h0
 have d1 : decide (a0_1 ≤ 2147483647) = false := decide_eq_false (by omega)
 have i0 : ∀ w, (Instr.index 90 (.agg #[.int .i64 a0_1, .int .i64 a0_2, .int .i64 a0_3]) (.int .i64 0)).run Try.prog w = .ok (.int .i64 a0_1) w := fun _ => by kernel_rfl
 have i1 : ∀ w, (Instr.index 90 (.agg #[.int .i64 a0_1, .int .i64 a0_2, .int .i64 a0_3]) (.int .i64 1)).run Try.prog w = .ok (.int .i64 a0_2) w := fun _ => by kernel_rfl
 have i2 : ∀ w, (Instr.index 90 (.agg #[.int .i64 a0_1, .int .i64 a0_2, .int .i64 a0_3]) (.int .i64 2)).run Try.prog w = .ok (.int .i64 a0_3) w := fun _ => by kernel_rfl
 have hu := Try.underlying31
 go_enter Try.func41, Try.ntmps41
 go_wp2
 refine wp_loop_rounds 4 ?_
 rw [rounds_succ]
 go_wp2
 rw [rounds_succ]
 go_wp2
 rw [rounds_succ]
 go_wp2
 rw [rounds_succ]
 go_wp2
 go_ret
 exact ⟨rfl, by repeat (first | exact Below.refl _ _ | apply below_alloc | apply pw_below_drewN)⟩
set_option maxHeartbeats 8000000 in
set_option maxRecDepth 100000 in
theorem right_walk2 (a0_0 a0_1 a0_2 a0_3 a0_4 : Int) (a0_5 : Bool) (h0 : 0 ≤ a0_1) (h1 : a0_1 ≤ 2147483647) (h2 : a0_2 < 0) (w : World) :
  Calls Try.prog 41 #[.agg #[.int .i64 a0_0, .int .i64 a0_1, .int .i64 a0_2, .int .i64 a0_3, .int .i64 a0_4, .bool a0_5]] w fun e w' => e = .returned (.bool false) ∧ Below w.heap.size w w' := by
 have d0 : decide (0 ≤ a0_1) = true := decide_eq_true h0
 have d1 : decide (a0_1 ≤ 2147483647) = true := decide_eq_true h1
 have d2 : decide (0 ≤ a0_2) = false := decide_eq_false (by omega)
 have i0 : ∀ w, (Instr.index 90 (.agg #[.int .i64 a0_1, .int .i64 a0_2, .int .i64 a0_3]) (.int .i64 0)).run Try.prog w = .ok (.int .i64 a0_1) w := fun _ => by kernel_rfl
 have i1 : ∀ w, (Instr.index 90 (.agg #[.int .i64 a0_1, .int .i64 a0_2, .int .i64 a0_3]) (.int .i64 1)).run Try.prog w = .ok (.int .i64 a0_2) w := fun _ => by kernel_rfl
 have i2 : ∀ w, (Instr.index 90 (.agg #[.int .i64 a0_1, .int .i64 a0_2, .int .i64 a0_3]) (.int .i64 2)).run Try.prog w = .ok (.int .i64 a0_3) w := fun _ => by kernel_rfl
 have hu := Try.underlying31
 go_enter Try.func41, Try.ntmps41
 go_wp2
 refine wp_loop_rounds 4 ?_
 rw [rounds_succ]
 go_wp2
 rw [rounds_succ]
 go_wp2
 rw [rounds_succ]
 go_wp2
 rw [rounds_succ]
 go_wp2
 go_ret
 exact ⟨rfl, by repeat (first | exact Below.refl _ _ | apply below_alloc | apply pw_below_drewN)⟩
set_option maxHeartbeats 8000000 in
set_option maxRecDepth 100000 in
theorem right_walk3 (a0_0 a0_1 a0_2 a0_3 a0_4 : Int) (a0_5 : Bool) (h0 : 0 ≤ a0_1) (h1 : a0_1 ≤ 2147483647) (h2 : 0 ≤ a0_2) (h3 : 2147483647 < a0_2) (w : World) :
  Calls Try.prog 41 #[.agg #[.int .i64 a0_0, .int .i64 a0_1, .int .i64 a0_2, .int .i64 a0_3, .int .i64 a0_4, .bool a0_5]] w fun e w' => e = .returned (.bool false) ∧ Below w.heap.size w w' := by
 have d0 : decide (0 ≤ a0_1) = true := decide_eq_true h0
 have d1 : decide (a0_1 ≤ 2147483647) = true := decide_eq_true h1
 have d2 : decide (0 ≤ a0_2) = true := decide_eq_true h2
 have d3 : decide (a0_2 ≤ 2147483647) = false := decide_eq_false (by omega)
 have i0 : ∀ w, (Instr.index 90 (.agg #[.int .i64 a0_1, .int .i64 a0_2, .int .i64 a0_3]) (.int .i64 0)).run Try.prog w = .ok (.int .i64 a0_1) w := fun _ => by kernel_rfl
 have i1 : ∀ w, (Instr.index 90 (.agg #[.int .i64 a0_1, .int .i64 a0_2, .int .i64 a0_3]) (.int .i64 1)).run Try.prog w = .ok (.int .i64 a0_2) w := fun _ => by kernel_rfl
 have i2 : ∀ w, (Instr.index 90 (.agg #[.int .i64 a0_1, .int .i64 a0_2, .int .i64 a0_3]) (.int .i64 2)).run Try.prog w = .ok (.int .i64 a0_3) w := fun _ => by kernel_rfl
 have hu := Try.underlying31
 go_enter Try.func41, Try.ntmps41
 go_wp2
 refine wp_loop_rounds 4 ?_
 rw [rounds_succ]
 go_wp2
 rw [rounds_succ]
 go_wp2
 rw [rounds_succ]
 go_wp2
 rw [rounds_succ]
 go_wp2
 go_ret
 exact ⟨rfl, by repeat (first | exact Below.refl _ _ | apply below_alloc | apply pw_below_drewN)⟩
set_option maxHeartbeats 8000000 in
set_option maxRecDepth 100000 in
theorem right_walk4 (a0_0 a0_1 a0_2 a0_3 a0_4 : Int) (a0_5 : Bool) (h0 : 0 ≤ a0_1) (h1 : a0_1 ≤ 2147483647) (h2 : 0 ≤ a0_2) (h3 : a0_2 ≤ 2147483647) (h4 : a0_3 < 0) (w : World) :
  Calls Try.prog 41 #[.agg #[.int .i64 a0_0, .int .i64 a0_1, .int .i64 a0_2, .int .i64 a0_3, .int .i64 a0_4, .bool a0_5]] w fun e w' => e = .returned (.bool false) ∧ Below w.heap.size w w' := by
 have d0 : decide (0 ≤ a0_1) = true := decide_eq_true h0
 have d1 : decide (a0_1 ≤ 2147483647) = true := decide_eq_true h1
 have d2 : decide (0 ≤ a0_2) = true := decide_eq_true h2
 have d3 : decide (a0_2 ≤ 2147483647) = true := decide_eq_true h3
 have d4 : decide (0 ≤ a0_3) = false := decide_eq_false (by omega)
 have i0 : ∀ w, (Instr.index 90 (.agg #[.int .i64 a0_1, .int .i64 a0_2, .int .i64 a0_3]) (.int .i64 0)).run Try.prog w = .ok (.int .i64 a0_1) w := fun _ => by kernel_rfl
 have i1 : ∀ w, (Instr.index 90 (.agg #[.int .i64 a0_1, .int .i64 a0_2, .int .i64 a0_3]) (.int .i64 1)).run Try.prog w = .ok (.int .i64 a0_2) w := fun _ => by kernel_rfl
 have i2 : ∀ w, (Instr.index 90 (.agg #[.int .i64 a0_1, .int .i64 a0_2, .int .i64 a0_3]) (.int .i64 2)).run Try.prog w = .ok (.int .i64 a0_3) w := fun _ => by kernel_rfl
 have hu := Try.underlying31
 go_enter Try.func41, Try.ntmps41
 go_wp2
 refine wp_loop_rounds 4 ?_
 rw [rounds_succ]
 go_wp2
 rw [rounds_succ]
 go_wp2
 rw [rounds_succ]
 go_wp2
 rw [rounds_succ]
 go_wp2
 go_ret
 exact ⟨rfl, by repeat (first | exact Below.refl _ _ | apply below_alloc | apply pw_below_drewN)⟩
set_option maxHeartbeats 8000000 in
set_option maxRecDepth 100000 in
theorem right_walk5 (a0_0 a0_1 a0_2 a0_3 a0_4 : Int) (a0_5 : Bool) (h0 : 0 ≤ a0_1) (h1 : a0_1 ≤ 2147483647) (h2 : 0 ≤ a0_2) (h3 : a0_2 ≤ 2147483647) (h4 : 0 ≤ a0_3) (h5 : 2147483647 < a0_3) (w : World) :
  Calls Try.prog 41 #[.agg #[.int .i64 a0_0, .int .i64 a0_1, .int .i64 a0_2, .int .i64 a0_3, .int .i64 a0_4, .bool a0_5]] w fun e w' => e = .returned (.bool false) ∧ Below w.heap.size w w' := by
 have d0 : decide (0 ≤ a0_1) = true := decide_eq_true h0
 have d1 : decide (a0_1 ≤ 2147483647) = true := decide_eq_true h1
 have d2 : decide (0 ≤ a0_2) = true := decide_eq_true h2
 have d3 : decide (a0_2 ≤ 2147483647) = true := decide_eq_true h3
 have d4 : decide (0 ≤ a0_3) = true := decide_eq_true h4
 have d5 : decide (a0_3 ≤ 2147483647) = false := decide_eq_false (by omega)
 have i0 : ∀ w, (Instr.index 90 (.agg #[.int .i64 a0_1, .int .i64 a0_2, .int .i64 a0_3]) (.int .i64 0)).run Try.prog w = .ok (.int .i64 a0_1) w := fun _ => by kernel_rfl
 have i1 : ∀ w, (Instr.index 90 (.agg #[.int .i64 a0_1, .int .i64 a0_2, .int .i64 a0_3]) (.int .i64 1)).run Try.prog w = .ok (.int .i64 a0_2) w := fun _ => by kernel_rfl
 have i2 : ∀ w, (Instr.index 90 (.agg #[.int .i64 a0_1, .int .i64 a0_2, .int .i64 a0_3]) (.int .i64 2)).run Try.prog w = .ok (.int .i64 a0_3) w := fun _ => by kernel_rfl
 have hu := Try.underlying31
 go_enter Try.func41, Try.ntmps41
 go_wp2
 refine wp_loop_rounds 4 ?_
 rw [rounds_succ]
 go_wp2
 rw [rounds_succ]
 go_wp2
 rw [rounds_succ]
 go_wp2
 rw [rounds_succ]
 go_wp2
 go_ret
 exact ⟨rfl, by repeat (first | exact Below.refl _ _ | apply below_alloc | apply pw_below_drewN)⟩
set_option maxHeartbeats 8000000 in
set_option maxRecDepth 100000 in
theorem right_walk6 (a0_0 a0_1 a0_2 a0_3 a0_4 : Int) (a0_5 : Bool) (h0 : 0 ≤ a0_1) (h1 : a0_1 ≤ 2147483647) (h2 : 0 ≤ a0_2) (h3 : a0_2 ≤ 2147483647) (h4 : 0 ≤ a0_3) (h5 : a0_3 ≤ 2147483647) (h6 : a0_0 < 1) (w : World) :
  Calls Try.prog 41 #[.agg #[.int .i64 a0_0, .int .i64 a0_1, .int .i64 a0_2, .int .i64 a0_3, .int .i64 a0_4, .bool a0_5]] w fun e w' => e = .returned (.bool false) ∧ Below w.heap.size w w' := by
 have d0 : decide (0 ≤ a0_1) = true := decide_eq_true h0
 have d1 : decide (a0_1 ≤ 2147483647) = true := decide_eq_true h1
 have d2 : decide (0 ≤ a0_2) = true := decide_eq_true h2
 have d3 : decide (a0_2 ≤ 2147483647) = true := decide_eq_true h3
 have d4 : decide (0 ≤ a0_3) = true := decide_eq_true h4
 have d5 : decide (a0_3 ≤ 2147483647) = true := decide_eq_true h5
 have d6 : decide (1 ≤ a0_0) = false := decide_eq_false (by omega)
 have i0 : ∀ w, (Instr.index 90 (.agg #[.int .i64 a0_1, .int .i64 a0_2, .int .i64 a0_3]) (.int .i64 0)).run Try.prog w = .ok (.int .i64 a0_1) w := fun _ => by kernel_rfl
 have i1 : ∀ w, (Instr.index 90 (.agg #[.int .i64 a0_1, .int .i64 a0_2, .int .i64 a0_3]) (.int .i64 1)).run Try.prog w = .ok (.int .i64 a0_2) w := fun _ => by kernel_rfl
 have i2 : ∀ w, (Instr.index 90 (.agg #[.int .i64 a0_1, .int .i64 a0_2, .int .i64 a0_3]) (.int .i64 2)).run Try.prog w = .ok (.int .i64 a0_3) w := fun _ => by kernel_rfl
 have hu := Try.underlying31
 go_enter Try.func41, Try.ntmps41
 go_wp2
 refine wp_loop_rounds 4 ?_
 rw [rounds_succ]
 go_wp2
 rw [rounds_succ]
 go_wp2
 rw [rounds_succ]
 go_wp2
 rw [rounds_succ]
 go_wp2
 go_ret
 exact ⟨rfl, by repeat (first | exact Below.refl _ _ | apply below_alloc | apply pw_below_drewN)⟩
set_option maxHeartbeats 8000000 in
set_option maxRecDepth 100000 in
theorem right_walk7 (a0_0 a0_1 a0_2 a0_3 a0_4 : Int) (a0_5 : Bool) (h0 : 0 ≤ a0_1) (h1 : a0_1 ≤ 2147483647) (h2 : 0 ≤ a0_2) (h3 : a0_2 ≤ 2147483647) (h4 : 0 ≤ a0_3) (h5 : a0_3 ≤ 2147483647) (h6 : 1 ≤ a0_0) (h7 : 3 < a0_0) (w : World) :
  Calls Try.prog 41 #[.agg #[.int .i64 a0_0, .int .i64 a0_1, .int .i64 a0_2, .int .i64 a0_3, .int .i64 a0_4, .bool a0_5]] w fun e w' => e = .returned (.bool false) ∧ Below w.heap.size w w' := by
 have d0 : decide (0 ≤ a0_1) = true := decide_eq_true h0
 have d1 : decide (a0_1 ≤ 2147483647) = true := decide_eq_true h1
 have d2 : decide (0 ≤ a0_2) = true := decide_eq_true h2
 have d3 : decide (a0_2 ≤ 2147483647) = true := decide_eq_true h3
 have d4 : decide (0 ≤ a0_3) = true := decide_eq_true h4
 have d5 : decide (a0_3 ≤ 2147483647) = true := decide_eq_true h5
 have d6 : decide (1 ≤ a0_0) = true := decide_eq_true h6
 have d7 : decide (a0_0 ≤ 3) = false := decide_eq_false (by omega)
 have i0 : ∀ w, (Instr.index 90 (.agg #[.int .i64 a0_1, .int .i64 a0_2, .int .i64 a0_3]) (.int .i64 0)).run Try.prog w = .ok (.int .i64 a0_1) w := fun _ => by kernel_rfl
 have i1 : ∀ w, (Instr.index 90 (.agg #[.int .i64 a0_1, .int .i64 a0_2, .int .i64 a0_3]) (.int .i64 1)).run Try.prog w = .ok (.int .i64 a0_2) w := fun _ => by kernel_rfl
 have i2 : ∀ w, (Instr.index 90 (.agg #[.int .i64 a0_1, .int .i64 a0_2, .int .i64 a0_3]) (.int .i64 2)).run Try.prog w = .ok (.int .i64 a0_3) w := fun _ => by kernel_rfl
 have hu := Try.underlying31
 go_enter Try.func41, Try.ntmps41
 go_wp2
 refine wp_loop_rounds 4 ?_
 rw [rounds_succ]
 go_wp2
 rw [rounds_succ]
 go_wp2
 rw [rounds_succ]
 go_wp2
 rw [rounds_succ]
 go_wp2
 go_ret
 exact ⟨rfl, by repeat (first | exact Below.refl _ _ | apply below_alloc | apply pw_below_drewN)⟩
set_option maxHeartbeats 8000000 in
set_option maxRecDepth 100000 in
theorem right_walk8 (a0_0 a0_1 a0_2 a0_3 a0_4 : Int) (a0_5 : Bool) (h0 : 0 ≤ a0_1) (h1 : a0_1 ≤ 2147483647) (h2 : 0 ≤ a0_2) (h3 : a0_2 ≤ 2147483647) (h4 : 0 ≤ a0_3) (h5 : a0_3 ≤ 2147483647) (h6 : 1 ≤ a0_0) (h7 : a0_0 ≤ 3) (h8 : a0_4 < -10000) (w : World) :
  Calls Try.prog 41 #[.agg #[.int .i64 a0_0, .int .i64 a0_1, .int .i64 a0_2, .int .i64 a0_3, .int .i64 a0_4, .bool a0_5]] w fun e w' => e = .returned (.bool false) ∧ Below w.heap.size w w' := by
 have d0 : decide (0 ≤ a0_1) = true := decide_eq_true h0
 have d1 : decide (a0_1 ≤ 2147483647) = true := decide_eq_true h1
 have d2 : decide (0 ≤ a0_2) = true := decide_eq_true h2
 have d3 : decide (a0_2 ≤ 2147483647) = true := decide_eq_true h3
 have d4 : decide (0 ≤ a0_3) = true := decide_eq_true h4
 have d5 : decide (a0_3 ≤ 2147483647) = true := decide_eq_true h5
 have d6 : decide (1 ≤ a0_0) = true := decide_eq_true h6
 have d7 : decide (a0_0 ≤ 3) = true := decide_eq_true h7
 have d8 : decide (-10000 ≤ a0_4) = false := decide_eq_false (by omega)
 have i0 : ∀ w, (Instr.index 90 (.agg #[.int .i64 a0_1, .int .i64 a0_2, .int .i64 a0_3]) (.int .i64 0)).run Try.prog w = .ok (.int .i64 a0_1) w := fun _ => by kernel_rfl
 have i1 : ∀ w, (Instr.index 90 (.agg #[.int .i64 a0_1, .int .i64 a0_2, .int .i64 a0_3]) (.int .i64 1)).run Try.prog w = .ok (.int .i64 a0_2) w := fun _ => by kernel_rfl
 have i2 : ∀ w, (Instr.index 90 (.agg #[.int .i64 a0_1, .int .i64 a0_2, .int .i64 a0_3]) (.int .i64 2)).run Try.prog w = .ok (.int .i64 a0_3) w := fun _ => by kernel_rfl
 have hu := Try.underlying31
 go_enter Try.func41, Try.ntmps41
 go_wp2
 refine wp_loop_rounds 4 ?_
 rw [rounds_succ]
 go_wp2
 rw [rounds_succ]
 go_wp2
 rw [rounds_succ]
 go_wp2
 rw [rounds_succ]
 go_wp2
 go_ret
 exact ⟨rfl, by repeat (first | exact Below.refl _ _ | apply below_alloc | apply pw_below_drewN)⟩
set_option maxHeartbeats 8000000 in
set_option maxRecDepth 100000 in
theorem right_walk9 (a0_0 a0_1 a0_2 a0_3 a0_4 : Int) (a0_5 : Bool) (h0 : 0 ≤ a0_1) (h1 : a0_1 ≤ 2147483647) (h2 : 0 ≤ a0_2) (h3 : a0_2 ≤ 2147483647) (h4 : 0 ≤ a0_3) (h5 : a0_3 ≤ 2147483647) (h6 : 1 ≤ a0_0) (h7 : a0_0 ≤ 3) (h8 : -10000 ≤ a0_4) (h9 : 10000 < a0_4) (w : World) :
  Calls Try.prog 41 #[.agg #[.int .i64 a0_0, .int .i64 a0_1, .int .i64 a0_2, .int .i64 a0_3, .int .i64 a0_4, .bool a0_5]] w fun e w' => e = .returned (.bool false) ∧ Below w.heap.size w w' := by
 have d0 : decide (0 ≤ a0_1) = true := decide_eq_true h0
 have d1 : decide (a0_1 ≤ 2147483647) = true := decide_eq_true h1
 have d2 : decide (0 ≤ a0_2) = true := decide_eq_true h2
 have d3 : decide (a0_2 ≤ 2147483647) = true := decide_eq_true h3
 have d4 : decide (0 ≤ a0_3) = true := decide_eq_true h4
 have d5 : decide (a0_3 ≤ 2147483647) = true := decide_eq_true h5
 have d6 : decide (1 ≤ a0_0) = true := decide_eq_true h6
 have d7 : decide (a0_0 ≤ 3) = true := decide_eq_true h7
 have d8 : decide (-10000 ≤ a0_4) = true := decide_eq_true h8
 have d9 : decide (a0_4 ≤ 10000) = false := decide_eq_false (by omega)
 have i0 : ∀ w, (Instr.index 90 (.agg #[.int .i64 a0_1, .int .i64 a0_2, .int .i64 a0_3]) (.int .i64 0)).run Try.prog w = .ok (.int .i64 a0_1) w := fun _ => by kernel_rfl
 have i1 : ∀ w, (Instr.index 90 (.agg #[.int .i64 a0_1, .int .i64 a0_2, .int .i64 a0_3]) (.int .i64 1)).run Try.prog w = .ok (.int .i64 a0_2) w := fun _ => by kernel_rfl
 have i2 : ∀ w, (Instr.index 90 (.agg #[.int .i64 a0_1, .int .i64 a0_2, .int .i64 a0_3]) (.int .i64 2)).run Try.prog w = .ok (.int .i64 a0_3) w := fun _ => by kernel_rfl
 have hu := Try.underlying31
 go_enter Try.func41, Try.ntmps41
 go_wp2
 refine wp_loop_rounds 4 ?_
 rw [rounds_succ]
 go_wp2
 rw [rounds_succ]
 go_wp2
 rw [rounds_succ]
 go_wp2
 rw [rounds_succ]
 go_wp2
 go_ret
 exact ⟨rfl, by repeat (first | exact Below.refl _ _ | apply below_alloc | apply pw_below_drewN)⟩
set_option maxHeartbeats 8000000 in
set_option maxRecDepth 100000 in
theorem right_walk10 (a0_0 a0_1 a0_2 a0_3 a0_4 : Int) (a0_5 : Bool) (h0 : 0 ≤ a0_1) (h1 : a0_1 ≤ 2147483647) (h2 : 0 ≤ a0_2) (h3 : a0_2 ≤ 2147483647) (h4 : 0 ≤ a0_3) (h5 : a0_3 ≤ 2147483647) (h6 : 1 ≤ a0_0) (h7 : a0_0 ≤ 3) (h8 : -10000 ≤ a0_4) (h9 : a0_4 ≤ 10000) (w : World) :
  Calls Try.prog 41 #[.agg #[.int .i64 a0_0, .int .i64 a0_1, .int .i64 a0_2, .int .i64 a0_3, .int .i64 a0_4, .bool a0_5]] w fun e w' => e = .returned (.bool true) ∧ Below w.heap.size w w' := by
 have d0 : decide (0 ≤ a0_1) = true := decide_eq_true h0
 have d1 : decide (a0_1 ≤ 2147483647) = true := decide_eq_true h1
 have d2 : decide (0 ≤ a0_2) = true := decide_eq_true h2
 have d3 : decide (a0_2 ≤ 2147483647) = true := decide_eq_true h3
 have d4 : decide (0 ≤ a0_3) = true := decide_eq_true h4
 have d5 : decide (a0_3 ≤ 2147483647) = true := decide_eq_true h5
 have d6 : decide (1 ≤ a0_0) = true := decide_eq_true h6
 have d7 : decide (a0_0 ≤ 3) = true := decide_eq_true h7
 have d8 : decide (-10000 ≤ a0_4) = true := decide_eq_true h8
 have d9 : decide (a0_4 ≤ 10000) = true := decide_eq_true h9
 have i0 : ∀ w, (Instr.index 90 (.agg #[.int .i64 a0_1, .int .i64 a0_2, .int .i64 a0_3]) (.int .i64 0)).run Try.prog w = .ok (.int .i64 a0_1) w := fun _ => by kernel_rfl
 have i1 : ∀ w, (Instr.index 90 (.agg #[.int .i64 a0_1, .int .i64 a0_2, .int .i64 a0_3]) (.int .i64 1)).run Try.prog w = .ok (.int .i64 a0_2) w := fun _ => by kernel_rfl
 have i2 : ∀ w, (Instr.index 90 (.agg #[.int .i64 a0_1, .int .i64 a0_2, .int .i64 a0_3]) (.int .i64 2)).run Try.prog w = .ok (.int .i64 a0_3) w := fun _ => by kernel_rfl
 have hu := Try.underlying31
 go_enter Try.func41, Try.ntmps41
 go_wp2
 refine wp_loop_rounds 4 ?_
 rw [rounds_succ]
 go_wp2
 rw [rounds_succ]
 go_wp2
 rw [rounds_succ]
 go_wp2
 rw [rounds_succ]
 go_wp2
 go_ret
 exact ⟨rfl, by repeat (first | exact Below.refl _ _ | apply below_alloc | apply pw_below_drewN)⟩
theorem optimal_right.calls (a0_0 a0_1 a0_2 a0_3 a0_4 : Int) (a0_5 : Bool) (r : Bool) (w : World) (h : optimal_right.f a0_0 a0_1 a0_2 a0_3 a0_4 a0_5 = some r) :
  Calls Try.prog 41 #[.agg #[.int .i64 a0_0, .int .i64 a0_1, .int .i64 a0_2, .int .i64 a0_3, .int .i64 a0_4, .bool a0_5]] w fun e w' => e = .returned (.bool r) ∧ Below w.heap.size w w' := by
 obtain rfl := Option.some.inj h
 clear h
 by_cases h0 : 0 ≤ a0_1
 case neg =>
  have e : rightS a0_0 a0_1 a0_2 a0_3 a0_4 = false := by unfold rightS; simp [h0]
  rw [e]; exact right_walk0 a0_0 a0_1 a0_2 a0_3 a0_4 a0_5  (by omega) w
 by_cases h1 : a0_1 ≤ 2147483647
 case neg =>
  have e : rightS a0_0 a0_1 a0_2 a0_3 a0_4 = false := by unfold rightS; simp [h1]
  rw [e]; exact right_walk1 a0_0 a0_1 a0_2 a0_3 a0_4 a0_5 h0 (by omega) w
 by_cases h2 : 0 ≤ a0_2
 case neg =>
  have e : rightS a0_0 a0_1 a0_2 a0_3 a0_4 = false := by unfold rightS; simp [h2]
  rw [e]; exact right_walk2 a0_0 a0_1 a0_2 a0_3 a0_4 a0_5 h0 h1 (by omega) w
 by_cases h3 : a0_2 ≤ 2147483647
 case neg =>
  have e : rightS a0_0 a0_1 a0_2 a0_3 a0_4 = false := by unfold rightS; simp [h3]
  rw [e]; exact right_walk3 a0_0 a0_1 a0_2 a0_3 a0_4 a0_5 h0 h1 h2 (by omega) w
 by_cases h4 : 0 ≤ a0_3
 case neg =>
  have e : rightS a0_0 a0_1 a0_2 a0_3 a0_4 = false := by unfold rightS; simp [h4]
  rw [e]; exact right_walk4 a0_0 a0_1 a0_2 a0_3 a0_4 a0_5 h0 h1 h2 h3 (by omega) w
 by_cases h5 : a0_3 ≤ 2147483647
 case neg =>
  have e : rightS a0_0 a0_1 a0_2 a0_3 a0_4 = false := by unfold rightS; simp [h5]
  rw [e]; exact right_walk5 a0_0 a0_1 a0_2 a0_3 a0_4 a0_5 h0 h1 h2 h3 h4 (by omega) w
 by_cases h6 : 1 ≤ a0_0
 case neg =>
  have e : rightS a0_0 a0_1 a0_2 a0_3 a0_4 = false := by unfold rightS; simp [h6]
  rw [e]; exact right_walk6 a0_0 a0_1 a0_2 a0_3 a0_4 a0_5 h0 h1 h2 h3 h4 h5 (by omega) w
 by_cases h7 : a0_0 ≤ 3
 case neg =>
  have e : rightS a0_0 a0_1 a0_2 a0_3 a0_4 = false := by unfold rightS; simp [h7]
  rw [e]; exact right_walk7 a0_0 a0_1 a0_2 a0_3 a0_4 a0_5 h0 h1 h2 h3 h4 h5 h6 (by omega) w
 by_cases h8 : -10000 ≤ a0_4
 case neg =>
  have e : rightS a0_0 a0_1 a0_2 a0_3 a0_4 = false := by unfold rightS; simp [h8]
  rw [e]; exact right_walk8 a0_0 a0_1 a0_2 a0_3 a0_4 a0_5 h0 h1 h2 h3 h4 h5 h6 h7 (by omega) w
 by_cases h9 : a0_4 ≤ 10000
 case neg =>
  have e : rightS a0_0 a0_1 a0_2 a0_3 a0_4 = false := by unfold rightS; simp [h9]
  rw [e]; exact right_walk9 a0_0 a0_1 a0_2 a0_3 a0_4 a0_5 h0 h1 h2 h3 h4 h5 h6 h7 h8 (by omega) w
 have e : rightS a0_0 a0_1 a0_2 a0_3 a0_4 = true := by unfold rightS; simp [h0, h1, h2, h3, h4, h5, h6, h7, h8, h9]
 rw [e]; exact right_walk10 a0_0 a0_1 a0_2 a0_3 a0_4 a0_5 h0 h1 h2 h3 h4 h5 h6 h7 h8 h9 w


end Go.Proofs.Ytfbanppdiglciaa.Y
