import Derived.Test.YtmlkpadlafjfeaaPx90
namespace Go.Proofs.Ytmlkpadlafjfeaa.P
open Go.RowKit Go.Proofs.YtmlkpadlafjfeaaW.PrintWords Go.Proofs.YtmlkpadlafjfeaaW.PrintLast Go.Proofs.YtmlkpadlafjfeaaW.PrintMore
attribute [local go_sem] zH zK zU zT zB zC zJ zI
set_option linter.unusedVariables false
set_option linter.unusedSimpArgs false
def qO.j0 : Nat → Int → Int → Int → Int → Bool → Option (Int × Int)
 | 0, _, _, _, _, _ => none
 | k + 1, x0, x1, x2, x3, x30 => if x30 = true then (some (0, 14)) else (if (wrap64 ((wrap64 (x0 * x2)) + (wrap64 (x1 * x3)))) < 0 then (if (Int.tmod (wrap64 (-(wrap64 ((wrap64 (x0 * x2)) + (wrap64 (x1 * x3)))))) 16384) ≥ 8192 then (if (wrap64 ((wrap64 (Int.tdiv (wrap64 (-(wrap64 ((wrap64 (x0 * x2)) + (wrap64 (x1 * x3)))))) 16384)) + 1)) > 2147483647 then (some (0, 14)) else (some (wrap64 (-(wrap64 ((wrap64 (Int.tdiv (wrap64 (-(wrap64 ((wrap64 (x0 * x2)) + (wrap64 (x1 * x3)))))) 16384)) + 1))), 0))) else (if (wrap64 (Int.tdiv (wrap64 (-(wrap64 ((wrap64 (x0 * x2)) + (wrap64 (x1 * x3)))))) 16384)) > 2147483647 then (some (0, 14)) else (some (wrap64 (-(wrap64 (Int.tdiv (wrap64 (-(wrap64 ((wrap64 (x0 * x2)) + (wrap64 (x1 * x3)))))) 16384))), 0)))) else (if (Int.tmod (wrap64 ((wrap64 (x0 * x2)) + (wrap64 (x1 * x3)))) 16384) ≥ 8192 then (if (wrap64 ((wrap64 (Int.tdiv (wrap64 ((wrap64 (x0 * x2)) + (wrap64 (x1 * x3)))) 16384)) + 1)) > 2147483647 then (some (0, 14)) else (some (wrap64 ((wrap64 (Int.tdiv (wrap64 ((wrap64 (x0 * x2)) + (wrap64 (x1 * x3)))) 16384)) + 1), 0))) else (if (wrap64 (Int.tdiv (wrap64 ((wrap64 (x0 * x2)) + (wrap64 (x1 * x3)))) 16384)) > 2147483647 then (some (0, 14)) else (some (wrap64 (Int.tdiv (wrap64 ((wrap64 (x0 * x2)) + (wrap64 (x1 * x3)))) 16384), 0)))))
def qO.f (k : Nat) (a0 : Int) (a1 : Int) (a2 : Int) (a3 : Int) : Option (Int × Int) := (qM.f a0).bind fun t536 => (if t536 = true then ((qM.f a1).bind fun t537 => (if t537 = true then ((qM.f a2).bind fun t538 => (if t538 = true then ((qM.f a3).bind fun t539 => (qO.j0 k a0 a1 a2 a3 (!t539))) else (qO.j0 k a0 a1 a2 a3 true))) else (qO.j0 k a0 a1 a2 a3 true))) else (qO.j0 k a0 a1 a2 a3 true))
theorem qO.zW : ∀ k, (∀ y0 y1 y2 y3 y4, LeO (qO.j0 k y0 y1 y2 y3 y4) (qO.j0 (k + 1) y0 y1 y2 y3 y4))
 | 0 => fun _ _ _ _ _ r h => by simp [qO.j0] at h
 | k + 1 => by
  have ih0 := qO.zW k
  ·intro y0 y1 y2 y3 y4
   unfold qO.j0
   repeat' first
   | (with_reducible exact ih0 _ _ _ _ _)
   | (with_reducible exact LeO.refl _)
   | (with_reducible exact LeO.none _)
   | (with_reducible refine LeO.ite ?_ ?_)
   | (with_reducible refine LeO.bind ?_ (fun _ => ?_))
   | exact ih0 _ _ _ _ _
   | exact LeO.none _
   | refine LeO.ite ?_ ?_
   | refine LeO.bind ?_ (fun _ => ?_)
theorem qO.mono : ∀ a0 a1 a2 a3 k, LeO (qO.f k a0 a1 a2 a3) (qO.f (k + 1) a0 a1 a2 a3) := by
 intro a0 a1 a2 a3 k
 have ih0 := qO.zW k
 unfold qO.f
 repeat' first
   | (with_reducible exact ih0 _ _ _ _ _)
   | (with_reducible exact LeO.refl _)
   | (with_reducible exact LeO.none _)
   | (with_reducible refine LeO.ite ?_ ?_)
   | (with_reducible refine LeO.bind ?_ (fun _ => ?_))
   | exact ih0 _ _ _ _ _
   | exact LeO.none _
   | refine LeO.ite ?_ ?_
   | refine LeO.bind ?_ (fun _ => ?_)
set_option maxHeartbeats 8000000 in
set_option maxRecDepth 100000 in
theorem qO.calls (k : Nat) (a0 : Int) (a1 : Int) (a2 : Int) (a3 : Int) (r1 : Int) (r2 : Int) (w : World) (h : qO.f k a0 a1 a2 a3 = some (r1, r2)) :
  Calls Try.prog 55 #[.int .i64 a0, .int .i64 a1, .int .i64 a2, .int .i64 a3] w fun e w' => e = .returned (.tuple #[.int .i64 r1, .int .i64 r2]) ∧ qE w w' := by
 have H : ((qM.f a0).bind fun t536 => (if t536 = true then ((qM.f a1).bind fun t537 => (if t537 = true then ((qM.f a2).bind fun t538 => (if t538 = true then ((qM.f a3).bind fun t539 => (qO.j0 k a0 a1 a2 a3 (!t539))) else (qO.j0 k a0 a1 a2 a3 true))) else (qO.j0 k a0 a1 a2 a3 true))) else (qO.j0 k a0 a1 a2 a3 true))) = some (r1, r2) := h
 clear h
 have HC5 := qa.mk H
 clear H
 go_enter Try.func55, Try.ntmps55
 go_upto_region 1 with (fail)
 go_cut [30] (fun v30 wc => ∃ (kq : Nat) (x30_4 : Bool), v30 = .bool x30_4 ∧ qa (qO.j0 kq a0 a1 a2 a3 x30_4 = some (r1, r2)) ∧ qa (kq ≤ k) ∧ qE w wc)
 case first =>
  have H := HC5.out
  clear HC5
  replace H := Option.bind_eq_some_iff.mp H
  obtain ⟨t536, A60, H⟩ := H
  replace H : (if t536 = true then ((qM.f a1).bind fun t537 => (if t537 = true then ((qM.f a2).bind fun t538 => (if t538 = true then ((qM.f a3).bind fun t539 => (qO.j0 k a0 a1 a2 a3 (!t539))) else (qO.j0 k a0 a1 a2 a3 true))) else (qO.j0 k a0 a1 a2 a3 true))) else (qO.j0 k a0 a1 a2 a3 true)) = some (r1, r2) := H
  have A6 := qa.mk A60
  clear A60
  by_cases c7 : t536 = true
  case neg =>
   replace c7 := Bool.eq_false_iff.mpr c7
   subst c7
   have H1 : (qO.j0 k a0 a1 a2 a3 true) = some (r1, r2) := by rw [if_neg (show ¬ (false = true) by decide)] at H; exact H
   clear H
   have H := H1
   clear H1
   have H' := qa.mk H
   clear H
   go_wp2_with (first | ((with_reducible refine zf (f := 16) rfl ?_); refine zR (some 14) rfl rfl Try.func16 (by kernel_rfl) rfl #[.int .i64 a0] rfl (by (try simp only [List.map_toArray, List.map_cons, List.map_nil]); first | done | rfl | (simp only [List.length_drop, List.length_take]; rfl)) ?_; (with_reducible refine (qM.calls a0 false _ A6.out).mono ?_); rintro e w' ⟨rfl, ⟨nd, rfl⟩⟩; refine ⟨_, rfl, ?_⟩))
   go_meet
   case rel => exact ⟨_, (true), (by first | rfl | (simp; done) | (simp [*]; done)), H', ⟨by first | omega | exact Nat.le_refl _⟩, by repeat (first | exact qE.refl _ | apply qE.step)⟩
  subst c7
  have H1 : ((qM.f a1).bind fun t537 => (if t537 = true then ((qM.f a2).bind fun t538 => (if t538 = true then ((qM.f a3).bind fun t539 => (qO.j0 k a0 a1 a2 a3 (!t539))) else (qO.j0 k a0 a1 a2 a3 true))) else (qO.j0 k a0 a1 a2 a3 true))) = some (r1, r2) := by rw [if_pos rfl] at H; exact H
  clear H
  have H := H1
  clear H1
  replace H := Option.bind_eq_some_iff.mp H
  obtain ⟨t537, A80, H⟩ := H
  replace H : (if t537 = true then ((qM.f a2).bind fun t538 => (if t538 = true then ((qM.f a3).bind fun t539 => (qO.j0 k a0 a1 a2 a3 (!t539))) else (qO.j0 k a0 a1 a2 a3 true))) else (qO.j0 k a0 a1 a2 a3 true)) = some (r1, r2) := H
  have A8 := qa.mk A80
  clear A80
  by_cases c9 : t537 = true
  case neg =>
   replace c9 := Bool.eq_false_iff.mpr c9
   subst c9
   have H1 : (qO.j0 k a0 a1 a2 a3 true) = some (r1, r2) := by rw [if_neg (show ¬ (false = true) by decide)] at H; exact H
   clear H
   have H := H1
   clear H1
   have H' := qa.mk H
   clear H
   go_wp2_with (first | ((with_reducible refine zf (f := 16) rfl ?_); refine zR (some 14) rfl rfl Try.func16 (by kernel_rfl) rfl #[.int .i64 a0] rfl (by (try simp only [List.map_toArray, List.map_cons, List.map_nil]); first | done | rfl | (simp only [List.length_drop, List.length_take]; rfl)) ?_; (with_reducible refine (qM.calls a0 true _ A6.out).mono ?_); rintro e w' ⟨rfl, ⟨nd, rfl⟩⟩; refine ⟨_, rfl, ?_⟩) | (go_at_call 16; (with_reducible refine (qM.calls a1 false _ A8.out).mono ?_); rintro e w' ⟨rfl, ⟨nd, rfl⟩⟩))
   go_meet
   case rel => exact ⟨_, (true), (by first | rfl | (simp; done) | (simp [*]; done)), H', ⟨by first | omega | exact Nat.le_refl _⟩, by repeat (first | exact qE.refl _ | apply qE.step)⟩
  subst c9
  have H1 : ((qM.f a2).bind fun t538 => (if t538 = true then ((qM.f a3).bind fun t539 => (qO.j0 k a0 a1 a2 a3 (!t539))) else (qO.j0 k a0 a1 a2 a3 true))) = some (r1, r2) := by rw [if_pos rfl] at H; exact H
  clear H
  have H := H1
  clear H1
  replace H := Option.bind_eq_some_iff.mp H
  obtain ⟨t538, A100, H⟩ := H
  replace H : (if t538 = true then ((qM.f a3).bind fun t539 => (qO.j0 k a0 a1 a2 a3 (!t539))) else (qO.j0 k a0 a1 a2 a3 true)) = some (r1, r2) := H
  have A10 := qa.mk A100
  clear A100
  by_cases c11 : t538 = true
  case neg =>
   replace c11 := Bool.eq_false_iff.mpr c11
   subst c11
   have H1 : (qO.j0 k a0 a1 a2 a3 true) = some (r1, r2) := by rw [if_neg (show ¬ (false = true) by decide)] at H; exact H
   clear H
   have H := H1
   clear H1
   have H' := qa.mk H
   clear H
   go_wp2_with (first | ((with_reducible refine zf (f := 16) rfl ?_); refine zR (some 14) rfl rfl Try.func16 (by kernel_rfl) rfl #[.int .i64 a0] rfl (by (try simp only [List.map_toArray, List.map_cons, List.map_nil]); first | done | rfl | (simp only [List.length_drop, List.length_take]; rfl)) ?_; (with_reducible refine (qM.calls a0 true _ A6.out).mono ?_); rintro e w' ⟨rfl, ⟨nd, rfl⟩⟩; refine ⟨_, rfl, ?_⟩) | (go_at_call 16; (with_reducible refine (qM.calls a1 true _ A8.out).mono ?_); rintro e w' ⟨rfl, ⟨nd, rfl⟩⟩) | (go_at_call 16; (with_reducible refine (qM.calls a2 false _ A10.out).mono ?_); rintro e w' ⟨rfl, ⟨nd, rfl⟩⟩))
   go_meet
   case rel => exact ⟨_, (true), (by first | rfl | (simp; done) | (simp [*]; done)), H', ⟨by first | omega | exact Nat.le_refl _⟩, by repeat (first | exact qE.refl _ | apply qE.step)⟩
  subst c11
  have H1 : ((qM.f a3).bind fun t539 => (qO.j0 k a0 a1 a2 a3 (!t539))) = some (r1, r2) := by rw [if_pos rfl] at H; exact H
  clear H
  have H := H1
  clear H1
  replace H := Option.bind_eq_some_iff.mp H
  obtain ⟨t539, A120, H⟩ := H
  replace H : (qO.j0 k a0 a1 a2 a3 (!t539)) = some (r1, r2) := H
  have A12 := qa.mk A120
  clear A120
  have H' := qa.mk H
  clear H
  go_wp2_with (first | ((with_reducible refine zf (f := 16) rfl ?_); refine zR (some 14) rfl rfl Try.func16 (by kernel_rfl) rfl #[.int .i64 a0] rfl (by (try simp only [List.map_toArray, List.map_cons, List.map_nil]); first | done | rfl | (simp only [List.length_drop, List.length_take]; rfl)) ?_; (with_reducible refine (qM.calls a0 true _ A6.out).mono ?_); rintro e w' ⟨rfl, ⟨nd, rfl⟩⟩; refine ⟨_, rfl, ?_⟩) | (go_at_call 16; (with_reducible refine (qM.calls a1 true _ A8.out).mono ?_); rintro e w' ⟨rfl, ⟨nd, rfl⟩⟩) | (go_at_call 16; (with_reducible refine (qM.calls a2 true _ A10.out).mono ?_); rintro e w' ⟨rfl, ⟨nd, rfl⟩⟩) | (go_at_call 16; (with_reducible refine (qM.calls a3 t539 _ A12.out).mono ?_); rintro e w' ⟨rfl, ⟨nd, rfl⟩⟩))
  go_meet
  case rel => exact ⟨_, (!t539), (by first | rfl | (simp; done) | (simp [*]; done)), H', ⟨by first | omega | exact Nat.le_refl _⟩, by repeat (first | exact qE.refl _ | apply qE.step)⟩
 case rest =>
  clear HC5
  try clear c1
  try clear p2
  try clear c5
  try clear c7
  try clear c9
  try clear c11
  obtain ⟨kq, x30_4, rfl, HA, HJ4, ⟨mc4, rfl⟩⟩ := hcut
  cases kq with
  | zero => exact absurd HA.out (by simp [qO.j0])
  | succ kj4 =>
   have H := HA.out
   clear HA
   simp only [qO.j0] at H
   by_cases c13 : x30_4 = true
   ·subst c13
    have H1 : (some (0, 14)) = some (r1, r2) := by rw [if_pos rfl] at H; exact H
    clear H
    have H := H1
    clear H1
    simp only [Option.some.injEq, Prod.mk.injEq] at H
    obtain ⟨rfl, rfl⟩ := H
    go_wp2
    go_ret2
    exact ⟨by first | rfl | (simp; done) | (simp [*]; done), by repeat (first | exact qE.refl _ | apply qE.step)⟩
   replace c13 := Bool.eq_false_iff.mpr c13
   subst c13
   have H1 : (if (wrap64 ((wrap64 (a0 * a2)) + (wrap64 (a1 * a3)))) < 0 then (if (Int.tmod (wrap64 (-(wrap64 ((wrap64 (a0 * a2)) + (wrap64 (a1 * a3)))))) 16384) ≥ 8192 then (if (wrap64 ((wrap64 (Int.tdiv (wrap64 (-(wrap64 ((wrap64 (a0 * a2)) + (wrap64 (a1 * a3)))))) 16384)) + 1)) > 2147483647 then (some (0, 14)) else (some (wrap64 (-(wrap64 ((wrap64 (Int.tdiv (wrap64 (-(wrap64 ((wrap64 (a0 * a2)) + (wrap64 (a1 * a3)))))) 16384)) + 1))), 0))) else (if (wrap64 (Int.tdiv (wrap64 (-(wrap64 ((wrap64 (a0 * a2)) + (wrap64 (a1 * a3)))))) 16384)) > 2147483647 then (some (0, 14)) else (some (wrap64 (-(wrap64 (Int.tdiv (wrap64 (-(wrap64 ((wrap64 (a0 * a2)) + (wrap64 (a1 * a3)))))) 16384))), 0)))) else (if (Int.tmod (wrap64 ((wrap64 (a0 * a2)) + (wrap64 (a1 * a3)))) 16384) ≥ 8192 then (if (wrap64 ((wrap64 (Int.tdiv (wrap64 ((wrap64 (a0 * a2)) + (wrap64 (a1 * a3)))) 16384)) + 1)) > 2147483647 then (some (0, 14)) else (some (wrap64 ((wrap64 (Int.tdiv (wrap64 ((wrap64 (a0 * a2)) + (wrap64 (a1 * a3)))) 16384)) + 1), 0))) else (if (wrap64 (Int.tdiv (wrap64 ((wrap64 (a0 * a2)) + (wrap64 (a1 * a3)))) 16384)) > 2147483647 then (some (0, 14)) else (some (wrap64 (Int.tdiv (wrap64 ((wrap64 (a0 * a2)) + (wrap64 (a1 * a3)))) 16384), 0))))) = some (r1, r2) := by rw [if_neg (show ¬ (false = true) by decide)] at H; exact H
   clear H
   have H := H1
   clear H1
   by_cases c14 : (wrap64 ((wrap64 (a0 * a2)) + (wrap64 (a1 * a3)))) < 0
   case neg =>
    rw [if_neg c14] at H
    have c14b0 : decide ((wrap64 ((wrap64 (a0 * a2)) + (wrap64 (a1 * a3)))) < 0) = false := decide_eq_false c14
    clear c14
    by_cases c18 : (Int.tmod (wrap64 ((wrap64 (a0 * a2)) + (wrap64 (a1 * a3)))) 16384) ≥ 8192
    case neg =>
     rw [if_neg c18] at H
     have c18b0 : decide (8192 ≤ (Int.tmod (wrap64 ((wrap64 (a0 * a2)) + (wrap64 (a1 * a3)))) 16384)) = false := decide_eq_false c18
     clear c18
     by_cases c20 : (wrap64 (Int.tdiv (wrap64 ((wrap64 (a0 * a2)) + (wrap64 (a1 * a3)))) 16384)) > 2147483647
     ·rw [if_pos c20] at H
      have c20b0 : decide (2147483647 < (wrap64 (Int.tdiv (wrap64 ((wrap64 (a0 * a2)) + (wrap64 (a1 * a3)))) 16384))) = true := decide_eq_true c20
      clear c20
      simp only [Option.some.injEq, Prod.mk.injEq] at H
      obtain ⟨rfl, rfl⟩ := H
      go_wp2
      go_ret2
      exact ⟨by first | rfl | (simp; done) | (simp [*]; done), by repeat (first | exact qE.refl _ | apply qE.step)⟩
     rw [if_neg c20] at H
     have c20b0 : decide (2147483647 < (wrap64 (Int.tdiv (wrap64 ((wrap64 (a0 * a2)) + (wrap64 (a1 * a3)))) 16384))) = false := decide_eq_false c20
     clear c20
     simp only [Option.some.injEq, Prod.mk.injEq] at H
     obtain ⟨rfl, rfl⟩ := H
     go_wp2
     go_ret2
     exact ⟨by first | rfl | (simp; done) | (simp [*]; done), by repeat (first | exact qE.refl _ | apply qE.step)⟩
    rw [if_pos c18] at H
    have c18b0 : decide (8192 ≤ (Int.tmod (wrap64 ((wrap64 (a0 * a2)) + (wrap64 (a1 * a3)))) 16384)) = true := decide_eq_true c18
    clear c18
    by_cases c19 : (wrap64 ((wrap64 (Int.tdiv (wrap64 ((wrap64 (a0 * a2)) + (wrap64 (a1 * a3)))) 16384)) + 1)) > 2147483647
    ·rw [if_pos c19] at H
     have c19b0 : decide (2147483647 < (wrap64 ((wrap64 (Int.tdiv (wrap64 ((wrap64 (a0 * a2)) + (wrap64 (a1 * a3)))) 16384)) + 1))) = true := decide_eq_true c19
     clear c19
     simp only [Option.some.injEq, Prod.mk.injEq] at H
     obtain ⟨rfl, rfl⟩ := H
     go_wp2
     go_ret2
     exact ⟨by first | rfl | (simp; done) | (simp [*]; done), by repeat (first | exact qE.refl _ | apply qE.step)⟩
    rw [if_neg c19] at H
    have c19b0 : decide (2147483647 < (wrap64 ((wrap64 (Int.tdiv (wrap64 ((wrap64 (a0 * a2)) + (wrap64 (a1 * a3)))) 16384)) + 1))) = false := decide_eq_false c19
    clear c19
    simp only [Option.some.injEq, Prod.mk.injEq] at H
    obtain ⟨rfl, rfl⟩ := H
    go_wp2
    go_ret2
    exact ⟨by first | rfl | (simp; done) | (simp [*]; done), by repeat (first | exact qE.refl _ | apply qE.step)⟩
   rw [if_pos c14] at H
   have c14b0 : decide ((wrap64 ((wrap64 (a0 * a2)) + (wrap64 (a1 * a3)))) < 0) = true := decide_eq_true c14
   clear c14
   by_cases c15 : (Int.tmod (wrap64 (-(wrap64 ((wrap64 (a0 * a2)) + (wrap64 (a1 * a3)))))) 16384) ≥ 8192
   case neg =>
    rw [if_neg c15] at H
    have c15b0 : decide (8192 ≤ (Int.tmod (wrap64 (-(wrap64 ((wrap64 (a0 * a2)) + (wrap64 (a1 * a3)))))) 16384)) = false := decide_eq_false c15
    clear c15
    by_cases c17 : (wrap64 (Int.tdiv (wrap64 (-(wrap64 ((wrap64 (a0 * a2)) + (wrap64 (a1 * a3)))))) 16384)) > 2147483647
    ·rw [if_pos c17] at H
     have c17b0 : decide (2147483647 < (wrap64 (Int.tdiv (wrap64 (-(wrap64 ((wrap64 (a0 * a2)) + (wrap64 (a1 * a3)))))) 16384))) = true := decide_eq_true c17
     clear c17
     simp only [Option.some.injEq, Prod.mk.injEq] at H
     obtain ⟨rfl, rfl⟩ := H
     go_wp2
     go_ret2
     exact ⟨by first | rfl | (simp; done) | (simp [*]; done), by repeat (first | exact qE.refl _ | apply qE.step)⟩
    rw [if_neg c17] at H
    have c17b0 : decide (2147483647 < (wrap64 (Int.tdiv (wrap64 (-(wrap64 ((wrap64 (a0 * a2)) + (wrap64 (a1 * a3)))))) 16384))) = false := decide_eq_false c17
    clear c17
    simp only [Option.some.injEq, Prod.mk.injEq] at H
    obtain ⟨rfl, rfl⟩ := H
    go_wp2
    go_ret2
    exact ⟨by first | rfl | (simp; done) | (simp [*]; done), by repeat (first | exact qE.refl _ | apply qE.step)⟩
   rw [if_pos c15] at H
   have c15b0 : decide (8192 ≤ (Int.tmod (wrap64 (-(wrap64 ((wrap64 (a0 * a2)) + (wrap64 (a1 * a3)))))) 16384)) = true := decide_eq_true c15
   clear c15
   by_cases c16 : (wrap64 ((wrap64 (Int.tdiv (wrap64 (-(wrap64 ((wrap64 (a0 * a2)) + (wrap64 (a1 * a3)))))) 16384)) + 1)) > 2147483647
   ·rw [if_pos c16] at H
    have c16b0 : decide (2147483647 < (wrap64 ((wrap64 (Int.tdiv (wrap64 (-(wrap64 ((wrap64 (a0 * a2)) + (wrap64 (a1 * a3)))))) 16384)) + 1))) = true := decide_eq_true c16
    clear c16
    simp only [Option.some.injEq, Prod.mk.injEq] at H
    obtain ⟨rfl, rfl⟩ := H
    go_wp2
    go_ret2
    exact ⟨by first | rfl | (simp; done) | (simp [*]; done), by repeat (first | exact qE.refl _ | apply qE.step)⟩
   rw [if_neg c16] at H
   have c16b0 : decide (2147483647 < (wrap64 ((wrap64 (Int.tdiv (wrap64 (-(wrap64 ((wrap64 (a0 * a2)) + (wrap64 (a1 * a3)))))) 16384)) + 1))) = false := decide_eq_false c16
   clear c16
   simp only [Option.some.injEq, Prod.mk.injEq] at H
   obtain ⟨rfl, rfl⟩ := H
   go_wp2
   go_ret2
   exact ⟨by first | rfl | (simp; done) | (simp [*]; done), by repeat (first | exact qE.refl _ | apply qE.step)⟩
end Go.Proofs.Ytmlkpadlafjfeaa.P
