-- written by a program of this session (wip/xprint.py) over the kit's print
import Derived.Test.YtfbanppdiglciaaYx0
import Derived.Test.YtfbanppdiglciaaYx14
namespace Go.Proofs.Ytfbanppdiglciaa.Y
open Go.RowKit Go.Proofs.YtfbanppdiglciaaW.PrintWords Go.Proofs.YtfbanppdiglciaaW.PrintLast Go.Proofs.YtfbanppdiglciaaW.PrintMore
attribute [local go_sem] max2_int min2_int max_two min_two max_three min_three max_four min_four   -- for this text's walks alone
set_option linter.unusedVariables false
set_option linter.unusedSimpArgs false

/-! ### justify_Shift: function 24 -/
mutual
def justify_Shift.j0 : Nat → Int → Int → Int → Bool → Option (Int)
 | 0, _, _, _, _ => none
 | k + 1, x0, x1, x2, x7 => if x7 = true then (justify_Shift.j1 k x0 x1 x2 true) else (justify_Shift.j1 k x0 x1 x2 (decide (x0 ≥ x1)))
def justify_Shift.j1 : Nat → Int → Int → Int → Bool → Option (Int)
 | 0, _, _, _, _ => none
 | k + 1, x0, x1, x2, x16 => if x16 = true then (some 0) else (if x2 = 1 then (some (wrap64 (Int.tdiv (wrap64 (x1 - x0)) 2))) else (if x2 = 2 then (some (wrap64 (x1 - x0))) else (some 0)))
end
def justify_Shift.f (k : Nat) (a0 : Int) (a1 : Int) (a2 : Int) : Option (Int) := (fixed_Check.f a0).bind fun t130 => (if t130 = 0 then ((fixed_Check.f a1).bind fun t131 => (justify_Shift.j0 k a0 a1 a2 (t131 != 0))) else (justify_Shift.j0 k a0 a1 a2 true))
theorem justify_Shift.mono_l : ∀ k, (∀ y0 y1 y2 y3, LeO (justify_Shift.j0 k y0 y1 y2 y3) (justify_Shift.j0 (k + 1) y0 y1 y2 y3)) ∧ (∀ y0 y1 y2 y3, LeO (justify_Shift.j1 k y0 y1 y2 y3) (justify_Shift.j1 (k + 1) y0 y1 y2 y3))
 | 0 => ⟨fun _ _ _ _ r h => by simp [justify_Shift.j0] at h, fun _ _ _ _ r h => by simp [justify_Shift.j1] at h⟩
 | k + 1 => by
  obtain ⟨ih0, ih1⟩ := justify_Shift.mono_l k
  refine ⟨?_, ?_⟩
  ·intro y0 y1 y2 y3
   unfold justify_Shift.j0
   repeat' first
   | (with_reducible exact ih0 _ _ _ _)
   | (with_reducible exact ih1 _ _ _ _)
   | (with_reducible exact LeO.refl _)
   | (with_reducible exact LeO.none _)
   | (with_reducible refine LeO.ite ?_ ?_)
   | (with_reducible refine LeO.bind ?_ (fun _ => ?_))
   | exact ih0 _ _ _ _
   | exact ih1 _ _ _ _
   | exact LeO.none _
   | refine LeO.ite ?_ ?_
   | refine LeO.bind ?_ (fun _ => ?_)
  ·intro y0 y1 y2 y3
   unfold justify_Shift.j1
   repeat' first
   | (with_reducible exact ih0 _ _ _ _)
   | (with_reducible exact ih1 _ _ _ _)
   | (with_reducible exact LeO.refl _)
   | (with_reducible exact LeO.none _)
   | (with_reducible refine LeO.ite ?_ ?_)
   | (with_reducible refine LeO.bind ?_ (fun _ => ?_))
   | exact ih0 _ _ _ _
   | exact ih1 _ _ _ _
   | exact LeO.none _
   | refine LeO.ite ?_ ?_
   | refine LeO.bind ?_ (fun _ => ?_)
theorem justify_Shift.mono : ∀ a0 a1 a2 k, LeO (justify_Shift.f k a0 a1 a2) (justify_Shift.f (k + 1) a0 a1 a2) := by
 intro a0 a1 a2 k
 obtain ⟨ih0, ih1⟩ := justify_Shift.mono_l k
 unfold justify_Shift.f
 repeat' first
   | (with_reducible exact ih0 _ _ _ _)
   | (with_reducible exact ih1 _ _ _ _)
   | (with_reducible exact LeO.refl _)
   | (with_reducible exact LeO.none _)
   | (with_reducible refine LeO.ite ?_ ?_)
   | (with_reducible refine LeO.bind ?_ (fun _ => ?_))
   | exact ih0 _ _ _ _
   | exact ih1 _ _ _ _
   | exact LeO.none _
   | refine LeO.ite ?_ ?_
   | refine LeO.bind ?_ (fun _ => ?_)
set_option maxHeartbeats 8000000 in
set_option maxRecDepth 100000 in
theorem justify_Shift.calls (k : Nat) (a0 : Int) (a1 : Int) (a2 : Int) (r : Int) (w : World) (h : justify_Shift.f k a0 a1 a2 = some r) :
  Calls Try.prog 24 #[.int .i64 a0, .int .i64 a1, .int .i64 a2] w fun e w' => e = .returned (.int .i64 r) ∧ Drawn0 w w' := by
 have H : ((fixed_Check.f a0).bind fun t130 => (if t130 = 0 then ((fixed_Check.f a1).bind fun t131 => (justify_Shift.j0 k a0 a1 a2 (t131 != 0))) else (justify_Shift.j0 k a0 a1 a2 true))) = some r := h
 clear h
 have HC4 := Aside0.mk H
 clear H
 go_enter Try.func24, Try.ntmps24
 go_upto_region 1 with (fail)
 go_cut [7] (fun v7 wc => ∃ (kq : Nat) (x7_3 : Bool), v7 = .bool x7_3 ∧ Aside0 (justify_Shift.j0 kq a0 a1 a2 x7_3 = some r) ∧ Aside0 (kq ≤ k) ∧ Drawn0 w wc)
 case first =>
  have H := HC4.out
  clear HC4
  replace H := Option.bind_eq_some_iff.mp H
  obtain ⟨t130, A50, H⟩ := H
  replace H : (if t130 = 0 then ((fixed_Check.f a1).bind fun t131 => (justify_Shift.j0 k a0 a1 a2 (t131 != 0))) else (justify_Shift.j0 k a0 a1 a2 true)) = some r := H
  have A5 := Aside0.mk A50
  clear A50
  by_cases c6 : t130 = 0
  ·rw [if_pos c6] at H
   have c6b0 : (t130 == 0) = true := beq_iff_eq.mpr c6
   have c6b1 : (t130 != 0) = false := bne_eq_false_iff_eq.mpr c6
   clear c6
   (first | rw [c6b0] | (simp only [i64_w, i32_w]; rw [c6b0]) | skip)
   replace H := Option.bind_eq_some_iff.mp H
   obtain ⟨t131, A70, H⟩ := H
   replace H : (justify_Shift.j0 k a0 a1 a2 (t131 != 0)) = some r := H
   have A7 := Aside0.mk A70
   clear A70
   have H' := Aside0.mk H
   clear H
   go_wp2_with (first | ((with_reducible refine gate_callee (f := 38) rfl ?_); refine goesL_ (some 9) rfl rfl Try.func38 (by kernel_rfl) rfl #[.int .i64 a0] rfl (by (try simp only [List.map_toArray, List.map_cons, List.map_nil]); first | done | rfl | (simp only [List.length_drop, List.length_take]; rfl)) ?_; (with_reducible refine (fixed_Check.calls a0 t130 _ A5.out).mono ?_); rintro e w' ⟨rfl, ⟨nd, rfl⟩⟩; refine ⟨_, rfl, ?_⟩) | (go_at_call 38; (with_reducible refine (fixed_Check.calls a1 t131 _ A7.out).mono ?_); rintro e w' ⟨rfl, ⟨nd, rfl⟩⟩))
   go_meet
   case rel => exact ⟨_, ((t131 != 0)), (by first | rfl | (simp; done) | (simp [*]; done)), H', ⟨by first | omega | exact Nat.le_refl _⟩, by repeat (first | exact Drawn0.refl _ | apply Drawn0.step)⟩
  ·rw [if_neg c6] at H
   have c6b0 : (t130 == 0) = false := beq_eq_false_iff_ne.mpr c6
   have c6b1 : (t130 != 0) = true := bne_iff_ne.mpr c6
   (first | rw [c6b0] | (simp only [i64_w, i32_w]; rw [c6b0]) | skip)
   have H' := Aside0.mk H
   clear H
   go_wp2_with (first | ((with_reducible refine gate_callee (f := 38) rfl ?_); refine goesL_ (some 9) rfl rfl Try.func38 (by kernel_rfl) rfl #[.int .i64 a0] rfl (by (try simp only [List.map_toArray, List.map_cons, List.map_nil]); first | done | rfl | (simp only [List.length_drop, List.length_take]; rfl)) ?_; (with_reducible refine (fixed_Check.calls a0 t130 _ A5.out).mono ?_); rintro e w' ⟨rfl, ⟨nd, rfl⟩⟩; refine ⟨_, rfl, ?_⟩))
   go_meet
   case rel => exact ⟨_, (true), (by first | rfl | (simp; done) | (simp [*]; done)), H', ⟨by first | omega | exact Nat.le_refl _⟩, by repeat (first | exact Drawn0.refl _ | apply Drawn0.step)⟩
 case rest =>
  clear HC4
  try clear c2
  try clear p2
  try clear c3
  try clear c6
  try clear c6b0
  try clear c6b1
  obtain ⟨kq, x7_3, rfl, HA, HJ3, ⟨mc3, rfl⟩⟩ := hcut
  cases kq with
  | zero => exact absurd HA.out (by simp [justify_Shift.j0])
  | succ kj3 =>
   have H := HA.out
   clear HA
   simp only [justify_Shift.j0] at H
   have HC8 := Aside0.mk H
   clear H
   go_upto_region 2 with (fail)
   go_cut [16] (fun v16 wc => ∃ (kq : Nat) (x16_7 : Bool), v16 = .bool x16_7 ∧ Aside0 (justify_Shift.j1 kq a0 a1 a2 x16_7 = some r) ∧ Aside0 (kq ≤ kj3) ∧ Drawn0 w wc)
   case first =>
    have H := HC8.out
    clear HC8
    by_cases c9 : x7_3 = true
    ·subst c9
     have H1 : (justify_Shift.j1 kj3 a0 a1 a2 true) = some r := by rw [if_pos rfl] at H; exact H
     clear H
     have H := H1
     clear H1
     have H' := Aside0.mk H
     clear H
     go_wp2
     go_meet
     case rel => exact ⟨_, (true), (by first | rfl | (simp; done) | (simp [*]; done)), H', ⟨by have := HJ3.out; first | omega | exact Nat.le_refl _⟩, by repeat (first | exact Drawn0.refl _ | apply Drawn0.step)⟩
    ·replace c9 := Bool.eq_false_iff.mpr c9
     subst c9
     have H1 : (justify_Shift.j1 kj3 a0 a1 a2 (decide (a0 ≥ a1))) = some r := by rw [if_neg (show ¬ (false = true) by decide)] at H; exact H
     clear H
     have H := H1
     clear H1
     have H' := Aside0.mk H
     clear H
     go_wp2
     go_meet
     case rel => exact ⟨_, (decide (a0 ≥ a1)), (by first | rfl | (simp; done) | (simp [*]; done)), H', ⟨by have := HJ3.out; first | omega | exact Nat.le_refl _⟩, by repeat (first | exact Drawn0.refl _ | apply Drawn0.step)⟩
   case rest =>
    clear HC8
    try clear c2
    try clear p2
    try clear c3
    try clear c6
    try clear c6b0
    try clear c6b1
    try clear c9
    try clear p2
    obtain ⟨kq, x16_7, rfl, HA, HJ7, ⟨mc7, rfl⟩⟩ := hcut
    cases kq with
    | zero => exact absurd HA.out (by simp [justify_Shift.j1])
    | succ kj7 =>
     have H := HA.out
     clear HA
     simp only [justify_Shift.j1] at H
     by_cases c10 : x16_7 = true
     ·subst c10
      have H1 : (some 0) = some r := by rw [if_pos rfl] at H; exact H
      clear H
      have H := H1
      clear H1
      obtain rfl := Option.some.inj H
      go_wp2
      go_ret
      exact ⟨by first | rfl | (simp; done) | (simp [*]; done), by repeat (first | exact Drawn0.refl _ | apply Drawn0.step)⟩
     ·replace c10 := Bool.eq_false_iff.mpr c10
      subst c10
      have H1 : (if a2 = 1 then (some (wrap64 (Int.tdiv (wrap64 (a1 - a0)) 2))) else (if a2 = 2 then (some (wrap64 (a1 - a0))) else (some 0))) = some r := by rw [if_neg (show ¬ (false = true) by decide)] at H; exact H
      clear H
      have H := H1
      clear H1
      by_cases c11 : a2 = 1
      ·rw [if_pos c11] at H
       have c11b0 : (a2 == 1) = true := beq_iff_eq.mpr c11
       have c11b1 : (a2 != 1) = false := bne_eq_false_iff_eq.mpr c11
       clear c11
       obtain rfl := Option.some.inj H
       go_wp2
       go_ret
       exact ⟨by first | rfl | (simp; done) | (simp [*]; done), by repeat (first | exact Drawn0.refl _ | apply Drawn0.step)⟩
      ·rw [if_neg c11] at H
       have c11b0 : (a2 == 1) = false := beq_eq_false_iff_ne.mpr c11
       have c11b1 : (a2 != 1) = true := bne_iff_ne.mpr c11
       by_cases c12 : a2 = 2
       ·rw [if_pos c12] at H
        have c12b0 : (a2 == 2) = true := beq_iff_eq.mpr c12
        have c12b1 : (a2 != 2) = false := bne_eq_false_iff_eq.mpr c12
        clear c12
        obtain rfl := Option.some.inj H
        go_wp2
        go_ret
        exact ⟨by first | rfl | (simp; done) | (simp [*]; done), by repeat (first | exact Drawn0.refl _ | apply Drawn0.step)⟩
       ·rw [if_neg c12] at H
        have c12b0 : (a2 == 2) = false := beq_eq_false_iff_ne.mpr c12
        have c12b1 : (a2 != 2) = true := bne_iff_ne.mpr c12
        obtain rfl := Option.some.inj H
        go_wp2
        go_ret
        exact ⟨by first | rfl | (simp; done) | (simp [*]; done), by repeat (first | exact Drawn0.refl _ | apply Drawn0.step)⟩

end Go.Proofs.Ytfbanppdiglciaa.Y
