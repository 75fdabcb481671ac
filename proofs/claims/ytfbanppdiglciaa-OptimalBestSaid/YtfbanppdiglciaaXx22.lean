import Derived.Test.YtfbanppdiglciaaXx0
import Derived.Test.YtfbanppdiglciaaXx21
namespace Go.Proofs.Ytfbanppdiglciaa.X
open Go.RowKit Go.Proofs.YtfbanppdiglciaaW.PrintWords Go.Proofs.YtfbanppdiglciaaW.PrintLast Go.Proofs.YtfbanppdiglciaaW.PrintMore
attribute [local go_sem] jw jv jJ jI jf je jA jC
set_option linter.unusedVariables false
set_option linter.unusedSimpArgs false
mutual
def qY.j0 : Nat → Int → Int → Int → Option (Int × Int × Bool)
 | 0, _, _, _ => none
 | k + 1, x14, x15, x16 => if x15 = 0 then (some (0, 0, false)) else (if x16 < 0 then (qY.j1 k x14 x15 x16 (wrap64 (Int.tdiv (wrap64 (1000 * x14)) x15)) ((Int.tmod (wrap64 (1000 * x14)) x15) != 0)) else (qY.j1 k x14 x15 x16 (wrap64 (Int.tdiv (wrap64 (1000 * x14)) x15)) false))
def qY.j1 : Nat → Int → Int → Int → Int → Bool → Option (Int × Int × Bool)
 | 0, _, _, _, _, _ => none
 | k + 1, x14, x15, x16, x17, x58 => if x58 = true then (if x16 > 0 then (if (wrap64 (x17 + 1)) > 10000 then (some (0, 0, false)) else (if x15 = 0 then (none) else (some (wrap64 (x16 * (wrap64 (x17 + 1))), wrap64 (Int.tdiv (wrap64 ((wrap64 ((wrap64 (100 * (wrap64 (Int.tdiv (wrap64 (256 * x14)) x15)))) * (wrap64 (Int.tdiv (wrap64 (256 * x14)) x15)))) * (wrap64 (Int.tdiv (wrap64 (256 * x14)) x15)))) 16777216), true)))) else (if x15 = 0 then (none) else (some (wrap64 (x16 * (wrap64 (x17 + 1))), wrap64 (Int.tdiv (wrap64 ((wrap64 ((wrap64 (100 * (wrap64 (Int.tdiv (wrap64 (256 * x14)) x15)))) * (wrap64 (Int.tdiv (wrap64 (256 * x14)) x15)))) * (wrap64 (Int.tdiv (wrap64 (256 * x14)) x15)))) 16777216), true)))) else (if x16 > 0 then (if x17 > 10000 then (some (0, 0, false)) else (if x15 = 0 then (none) else (some (wrap64 (x16 * x17), wrap64 (Int.tdiv (wrap64 ((wrap64 ((wrap64 (100 * (wrap64 (Int.tdiv (wrap64 (256 * x14)) x15)))) * (wrap64 (Int.tdiv (wrap64 (256 * x14)) x15)))) * (wrap64 (Int.tdiv (wrap64 (256 * x14)) x15)))) 16777216), true)))) else (if x15 = 0 then (none) else (some (wrap64 (x16 * x17), wrap64 (Int.tdiv (wrap64 ((wrap64 ((wrap64 (100 * (wrap64 (Int.tdiv (wrap64 (256 * x14)) x15)))) * (wrap64 (Int.tdiv (wrap64 (256 * x14)) x15)))) * (wrap64 (Int.tdiv (wrap64 (256 * x14)) x15)))) 16777216), true))))
end
def qY.f (k : Nat) (l0 : List (S31)) (a1 : Int) (a2 : Int) (a3 : Int) : Option (Int × Int × Bool) := (qF.f k l0 a1 a2).bind fun bt290 => (if bt290.1 = a3 then (some (0, 0, true)) else (if bt290.1 > a3 then (if (wrap64 (bt290.1 - a3)) > bt290.2.2 then (some (0, 0, false)) else (qY.j0 k (wrap64 (bt290.1 - a3)) bt290.2.2 (-1))) else (qY.j0 k (wrap64 (a3 - bt290.1)) bt290.2.1 1)))
theorem qY.zT : ∀ k, (∀ y0 y1 y2, LeO (qY.j0 k y0 y1 y2) (qY.j0 (k + 1) y0 y1 y2)) ∧ (∀ y0 y1 y2 y3 y4, LeO (qY.j1 k y0 y1 y2 y3 y4) (qY.j1 (k + 1) y0 y1 y2 y3 y4))
 | 0 => ⟨fun _ _ _ r h => by simp [qY.j0] at h, fun _ _ _ _ _ r h => by simp [qY.j1] at h⟩
 | k + 1 => by
  obtain ⟨ih0, ih1⟩ := qY.zT k
  refine ⟨?_, ?_⟩
  ·intro y0 y1 y2
   unfold qY.j0
   repeat' first
   | (with_reducible exact ih0 _ _ _)
   | (with_reducible exact ih1 _ _ _ _ _)
   | (with_reducible exact qF.mono _ _ _ _)
   | (with_reducible exact LeO.refl _)
   | (with_reducible exact LeO.none _)
   | (with_reducible refine LeO.ite ?_ ?_)
   | (with_reducible refine LeO.bind ?_ (fun _ => ?_))
   | exact ih0 _ _ _
   | exact ih1 _ _ _ _ _
   | exact qF.mono _ _ _ _
   | exact LeO.none _
   | refine LeO.ite ?_ ?_
   | refine LeO.bind ?_ (fun _ => ?_)
  ·intro y0 y1 y2 y3 y4
   unfold qY.j1
   repeat' first
   | (with_reducible exact ih0 _ _ _)
   | (with_reducible exact ih1 _ _ _ _ _)
   | (with_reducible exact qF.mono _ _ _ _)
   | (with_reducible exact LeO.refl _)
   | (with_reducible exact LeO.none _)
   | (with_reducible refine LeO.ite ?_ ?_)
   | (with_reducible refine LeO.bind ?_ (fun _ => ?_))
   | exact ih0 _ _ _
   | exact ih1 _ _ _ _ _
   | exact qF.mono _ _ _ _
   | exact LeO.none _
   | refine LeO.ite ?_ ?_
   | refine LeO.bind ?_ (fun _ => ?_)
theorem qY.mono : ∀ a0 a1 a2 a3 k, LeO (qY.f k a0 a1 a2 a3) (qY.f (k + 1) a0 a1 a2 a3) := by
 intro a0 a1 a2 a3 k
 obtain ⟨ih0, ih1⟩ := qY.zT k
 unfold qY.f
 repeat' first
   | (with_reducible exact ih0 _ _ _)
   | (with_reducible exact ih1 _ _ _ _ _)
   | (with_reducible exact qF.mono _ _ _ _)
   | (with_reducible exact LeO.refl _)
   | (with_reducible exact LeO.none _)
   | (with_reducible refine LeO.ite ?_ ?_)
   | (with_reducible refine LeO.bind ?_ (fun _ => ?_))
   | exact ih0 _ _ _
   | exact ih1 _ _ _ _ _
   | exact qF.mono _ _ _ _
   | exact LeO.none _
   | refine LeO.ite ?_ ?_
   | refine LeO.bind ?_ (fun _ => ?_)
set_option maxHeartbeats 8000000 in
set_option maxRecDepth 100000 in
theorem qY.calls (k : Nat) (A0 : Option Addr) (c0 : Nat) (l0 : List (S31)) (a1 : Int) (a2 : Int) (a3 : Int) (r1 : Int) (r2 : Int) (r3 : Bool) (w : World) (hr0 : Kd.C k31 w A0 l0.length l0) (hc0 : l0.length ≤ c0) (h : qY.f k l0 a1 a2 a3 = some (r1, r2, r3)) :
  Calls Try.prog 32 #[.slice A0 l0.length c0, .int .i64 a1, .int .i64 a2, .int .i64 a3] w fun e w' => e = .returned (.tuple #[.int .i64 r1, .int .i64 r2, .bool r3]) ∧ qU w w' := by
 have HR0 := qa.mk hr0
 have HC0 := qa.mk hc0
 clear hr0 hc0
 have H : ((qF.f k l0 a1 a2).bind fun bt290 => (if bt290.1 = a3 then (some (0, 0, true)) else (if bt290.1 > a3 then (if (wrap64 (bt290.1 - a3)) > bt290.2.2 then (some (0, 0, false)) else (qY.j0 k (wrap64 (bt290.1 - a3)) bt290.2.2 (-1))) else (qY.j0 k (wrap64 (a3 - bt290.1)) bt290.2.1 1)))) = some (r1, r2, r3) := h
 clear h
 replace H := Option.bind_eq_some_iff.mp H
 obtain ⟨⟨t290, t291, t292⟩, A50, H⟩ := H
 replace H : (if t290 = a3 then (some (0, 0, true)) else (if t290 > a3 then (if (wrap64 (t290 - a3)) > t292 then (some (0, 0, false)) else (qY.j0 k (wrap64 (t290 - a3)) t292 (-1))) else (qY.j0 k (wrap64 (a3 - t290)) t291 1))) = some (r1, r2, r3) := H
 have A5 := qa.mk A50
 clear A50
 by_cases c6 : t290 = a3
 ·rw [if_pos c6] at H
  have c6b0 : (t290 == a3) = true := beq_iff_eq.mpr c6
  have c6b1 : (t290 != a3) = false := bne_eq_false_iff_eq.mpr c6
  clear c6
  simp only [Option.some.injEq, Prod.mk.injEq] at H
  obtain ⟨rfl, rfl, rfl⟩ := H
  go_enter Try.func32, Try.ntmps32
  go_wp2_with (first | ((with_reducible refine zl (f := 35) rfl ?_); refine zM (some 23) rfl rfl Try.func35 (by kernel_rfl) rfl #[.slice A0 l0.length c0, .int .i64 a1, .int .i64 a2] rfl (by (try simp only [List.map_toArray, List.map_cons, List.map_nil]); first | done | rfl | (simp only [List.length_drop, List.length_take]; rfl)) ?_; (with_reducible refine (qF.calls k _ _ l0 a1 a2 t290 t291 t292 _ ?side1 ?side2 A5.out).mono ?_); (case side1 => repeat (first | exact HR0.out | (with_reducible refine Kd.zI ?_ _) | (with_reducible refine Kd.zH ?_ _) | (with_reducible refine Kd.zL ?_))); (case side2 => exact HC0.out); rintro e w' ⟨rfl, ⟨nd, rfl⟩⟩; refine ⟨_, rfl, ?_⟩))
  go_ret3
  exact ⟨by first | rfl | (simp; done) | (simp [*]; done), by repeat (first | exact qU.refl _ | apply qU.step)⟩
 rw [if_neg c6] at H
 have c6b0 : (t290 == a3) = false := beq_eq_false_iff_ne.mpr c6
 have c6b1 : (t290 != a3) = true := bne_iff_ne.mpr c6
 have HC7 := qa.mk H
 clear H
 go_enter Try.func32, Try.ntmps32
 go_upto_if 36 with (first | ((with_reducible refine zl (f := 35) rfl ?_); refine zM (some 23) rfl rfl Try.func35 (by kernel_rfl) rfl #[.slice A0 l0.length c0, .int .i64 a1, .int .i64 a2] rfl (by (try simp only [List.map_toArray, List.map_cons, List.map_nil]); first | done | rfl | (simp only [List.length_drop, List.length_take]; rfl)) ?_; (with_reducible refine (qF.calls k _ _ l0 a1 a2 t290 t291 t292 _ ?side1 ?side2 A5.out).mono ?_); (case side1 => repeat (first | exact HR0.out | (with_reducible refine Kd.zI ?_ _) | (with_reducible refine Kd.zH ?_ _) | (with_reducible refine Kd.zL ?_))); (case side2 => exact HC0.out); rintro e w' ⟨rfl, ⟨nd, rfl⟩⟩; refine ⟨_, rfl, ?_⟩))
 (try simp only [Act.put, List.setIfInBounds_toArray, List.set_cons_zero, List.set_cons_succ])
 go_cut [14, 15, 16] (fun v14 v15 v16 wc => ∃ (kq : Nat) (x14_6 : Int) (x15_6 : Int) (x16_6 : Int), v14 = .int .i64 x14_6 ∧ v15 = .int .i64 x15_6 ∧ v16 = .int .i64 x16_6 ∧ qa (qY.j0 kq x14_6 x15_6 x16_6 = some (r1, r2, r3)) ∧ qa (kq ≤ k) ∧ qU w wc)
 case first =>
  have H := HC7.out
  clear HC7
  by_cases c8 : t290 > a3
  case neg =>
   rw [if_neg c8] at H
   have c8b0 : decide (a3 < t290) = false := decide_eq_false c8
   clear c8
   (first | rw [c8b0] | (simp only [zJ, zN]; rw [c8b0]) | skip)
   have H' := qa.mk H
   clear H
   go_wp2
   go_meet
   case rel => exact ⟨_, (wrap64 (a3 - t290)), (t291), (1), (by first | rfl | (simp; done) | (simp [*]; done)), (by first | rfl | (simp; done) | (simp [*]; done)), (by first | rfl | (simp; done) | (simp [*]; done)), H', ⟨by first | omega | exact Nat.le_refl _⟩, by repeat (first | exact qU.refl _ | apply qU.step)⟩
  rw [if_pos c8] at H
  have c8b0 : decide (a3 < t290) = true := decide_eq_true c8
  clear c8
  (first | rw [c8b0] | (simp only [zJ, zN]; rw [c8b0]) | skip)
  by_cases c9 : (wrap64 (t290 - a3)) > t292
  ·rw [if_pos c9] at H
   have c9b0 : decide (t292 < (wrap64 (t290 - a3))) = true := decide_eq_true c9
   clear c9
   simp only [Option.some.injEq, Prod.mk.injEq] at H
   obtain ⟨rfl, rfl, rfl⟩ := H
   go_wp2
   go_ret3
   exact ⟨by first | rfl | (simp; done) | (simp [*]; done), by repeat (first | exact qU.refl _ | apply qU.step)⟩
  rw [if_neg c9] at H
  have c9b0 : decide (t292 < (wrap64 (t290 - a3))) = false := decide_eq_false c9
  clear c9
  have H' := qa.mk H
  clear H
  go_wp2
  go_meet
  case rel => exact ⟨_, (wrap64 (t290 - a3)), (t292), ((-1)), (by first | rfl | (simp; done) | (simp [*]; done)), (by first | rfl | (simp; done) | (simp [*]; done)), (by first | rfl | (simp; done) | (simp [*]; done)), H', ⟨by first | omega | exact Nat.le_refl _⟩, by repeat (first | exact qU.refl _ | apply qU.step)⟩
 case rest =>
  clear HC7
  try clear p2
  try clear c3
  try clear c6
  try clear c6b0
  try clear c6b1
  try clear p6
  try clear c8
  try clear c8b0
  try clear c9
  try clear c9b0
  obtain ⟨kq, x14_6, x15_6, x16_6, rfl, rfl, rfl, HA, HJ6, ⟨mc6, rfl⟩⟩ := hcut
  cases kq with
  | zero => exact absurd HA.out (by simp [qY.j0])
  | succ kj6 =>
   have H := HA.out
   clear HA
   simp only [qY.j0] at H
   by_cases c10 : x15_6 = 0
   ·rw [if_pos c10] at H
    have c10b0 : (x15_6 == 0) = true := beq_iff_eq.mpr c10
    have c10b1 : (x15_6 != 0) = false := bne_eq_false_iff_eq.mpr c10
    clear c10
    simp only [Option.some.injEq, Prod.mk.injEq] at H
    obtain ⟨rfl, rfl, rfl⟩ := H
    go_wp2
    go_ret3
    exact ⟨by first | rfl | (simp; done) | (simp [*]; done), by repeat (first | exact qU.refl _ | apply qU.step)⟩
   rw [if_neg c10] at H
   have c10b0 : (x15_6 == 0) = false := beq_eq_false_iff_ne.mpr c10
   have c10b1 : (x15_6 != 0) = true := bne_iff_ne.mpr c10
   have HC11 := qa.mk H
   clear H
   go_upto_region 12 with (fail)
   go_cut [58] (fun v58 wc => ∃ (kq : Nat) (x58_10 : Bool), v58 = .bool x58_10 ∧ qa (qY.j1 kq x14_6 x15_6 x16_6 (wrap64 (Int.tdiv (wrap64 (1000 * x14_6)) x15_6)) x58_10 = some (r1, r2, r3)) ∧ qa (kq ≤ kj6) ∧ qU w wc)
   case first =>
    have H := HC11.out
    clear HC11
    by_cases c12 : x16_6 < 0
    case neg =>
     rw [if_neg c12] at H
     have c12b0 : decide (x16_6 < 0) = false := decide_eq_false c12
     clear c12
     (first | rw [c12b0] | (simp only [zJ, zN]; rw [c12b0]) | skip)
     have H' := qa.mk H
     clear H
     go_wp2
     go_meet
     case rel => exact ⟨_, (false), (by first | rfl | (simp; done) | (simp [*]; done)), H', ⟨by have := HJ6.out; first | omega | exact Nat.le_refl _⟩, by repeat (first | exact qU.refl _ | apply qU.step)⟩
    rw [if_pos c12] at H
    have c12b0 : decide (x16_6 < 0) = true := decide_eq_true c12
    clear c12
    (first | rw [c12b0] | (simp only [zJ, zN]; rw [c12b0]) | skip)
    have H' := qa.mk H
    clear H
    go_wp2
    go_meet
    case rel => exact ⟨_, (((Int.tmod (wrap64 (1000 * x14_6)) x15_6) != 0)), (by first | rfl | (simp; done) | (simp [*]; done)), H', ⟨by have := HJ6.out; first | omega | exact Nat.le_refl _⟩, by repeat (first | exact qU.refl _ | apply qU.step)⟩
   case rest =>
    clear HC11
    try clear c1
    try clear p2
    try clear c3
    try clear c6
    try clear c6b0
    try clear c6b1
    try clear p6
    try clear c8
    try clear c8b0
    try clear c9
    try clear c9b0
    try clear c10
    try clear c10b0
    try clear c10b1
    try clear c12
    try clear c12b0
    try clear p2
    try clear p6
    obtain ⟨kq, x58_10, rfl, HA, HJ10, ⟨mc10, rfl⟩⟩ := hcut
    cases kq with
    | zero => exact absurd HA.out (by simp [qY.j1])
    | succ kj10 =>
     have H := HA.out
     clear HA
     simp only [qY.j1] at H
     by_cases c13 : x58_10 = true
     case neg =>
      replace c13 := Bool.eq_false_iff.mpr c13
      subst c13
      have H1 : (if x16_6 > 0 then (if (wrap64 (Int.tdiv (wrap64 (1000 * x14_6)) x15_6)) > 10000 then (some (0, 0, false)) else (if x15_6 = 0 then (none) else (some (wrap64 (x16_6 * (wrap64 (Int.tdiv (wrap64 (1000 * x14_6)) x15_6))), wrap64 (Int.tdiv (wrap64 ((wrap64 ((wrap64 (100 * (wrap64 (Int.tdiv (wrap64 (256 * x14_6)) x15_6)))) * (wrap64 (Int.tdiv (wrap64 (256 * x14_6)) x15_6)))) * (wrap64 (Int.tdiv (wrap64 (256 * x14_6)) x15_6)))) 16777216), true)))) else (if x15_6 = 0 then (none) else (some (wrap64 (x16_6 * (wrap64 (Int.tdiv (wrap64 (1000 * x14_6)) x15_6))), wrap64 (Int.tdiv (wrap64 ((wrap64 ((wrap64 (100 * (wrap64 (Int.tdiv (wrap64 (256 * x14_6)) x15_6)))) * (wrap64 (Int.tdiv (wrap64 (256 * x14_6)) x15_6)))) * (wrap64 (Int.tdiv (wrap64 (256 * x14_6)) x15_6)))) 16777216), true)))) = some (r1, r2, r3) := by rw [if_neg (show ¬ (false = true) by decide)] at H; exact H
      clear H
      have H := H1
      clear H1
      by_cases c18 : x16_6 > 0
      case neg =>
       rw [if_neg c18] at H
       have c18b0 : decide (0 < x16_6) = false := decide_eq_false c18
       clear c18
       by_cases c21 : x15_6 = 0
       ·rw [if_pos c21] at H
        exact absurd H (by simp)
       rw [if_neg c21] at H
       have c21b0 : (x15_6 == 0) = false := beq_eq_false_iff_ne.mpr c21
       have c21b1 : (x15_6 != 0) = true := bne_iff_ne.mpr c21
       simp only [Option.some.injEq, Prod.mk.injEq] at H
       obtain ⟨rfl, rfl, rfl⟩ := H
       go_wp2
       go_ret3
       exact ⟨by first | rfl | (simp; done) | (simp [*]; done), by repeat (first | exact qU.refl _ | apply qU.step)⟩
      rw [if_pos c18] at H
      have c18b0 : decide (0 < x16_6) = true := decide_eq_true c18
      clear c18
      by_cases c19 : (wrap64 (Int.tdiv (wrap64 (1000 * x14_6)) x15_6)) > 10000
      ·rw [if_pos c19] at H
       have c19b0 : decide (10000 < (wrap64 (Int.tdiv (wrap64 (1000 * x14_6)) x15_6))) = true := decide_eq_true c19
       clear c19
       simp only [Option.some.injEq, Prod.mk.injEq] at H
       obtain ⟨rfl, rfl, rfl⟩ := H
       go_wp2
       go_ret3
       exact ⟨by first | rfl | (simp; done) | (simp [*]; done), by repeat (first | exact qU.refl _ | apply qU.step)⟩
      rw [if_neg c19] at H
      have c19b0 : decide (10000 < (wrap64 (Int.tdiv (wrap64 (1000 * x14_6)) x15_6))) = false := decide_eq_false c19
      clear c19
      by_cases c20 : x15_6 = 0
      ·rw [if_pos c20] at H
       exact absurd H (by simp)
      rw [if_neg c20] at H
      have c20b0 : (x15_6 == 0) = false := beq_eq_false_iff_ne.mpr c20
      have c20b1 : (x15_6 != 0) = true := bne_iff_ne.mpr c20
      simp only [Option.some.injEq, Prod.mk.injEq] at H
      obtain ⟨rfl, rfl, rfl⟩ := H
      go_wp2
      go_ret3
      exact ⟨by first | rfl | (simp; done) | (simp [*]; done), by repeat (first | exact qU.refl _ | apply qU.step)⟩
     subst c13
     have H1 : (if x16_6 > 0 then (if (wrap64 ((wrap64 (Int.tdiv (wrap64 (1000 * x14_6)) x15_6)) + 1)) > 10000 then (some (0, 0, false)) else (if x15_6 = 0 then (none) else (some (wrap64 (x16_6 * (wrap64 ((wrap64 (Int.tdiv (wrap64 (1000 * x14_6)) x15_6)) + 1))), wrap64 (Int.tdiv (wrap64 ((wrap64 ((wrap64 (100 * (wrap64 (Int.tdiv (wrap64 (256 * x14_6)) x15_6)))) * (wrap64 (Int.tdiv (wrap64 (256 * x14_6)) x15_6)))) * (wrap64 (Int.tdiv (wrap64 (256 * x14_6)) x15_6)))) 16777216), true)))) else (if x15_6 = 0 then (none) else (some (wrap64 (x16_6 * (wrap64 ((wrap64 (Int.tdiv (wrap64 (1000 * x14_6)) x15_6)) + 1))), wrap64 (Int.tdiv (wrap64 ((wrap64 ((wrap64 (100 * (wrap64 (Int.tdiv (wrap64 (256 * x14_6)) x15_6)))) * (wrap64 (Int.tdiv (wrap64 (256 * x14_6)) x15_6)))) * (wrap64 (Int.tdiv (wrap64 (256 * x14_6)) x15_6)))) 16777216), true)))) = some (r1, r2, r3) := by rw [if_pos rfl] at H; exact H
     clear H
     have H := H1
     clear H1
     by_cases c14 : x16_6 > 0
     case neg =>
      rw [if_neg c14] at H
      have c14b0 : decide (0 < x16_6) = false := decide_eq_false c14
      clear c14
      by_cases c17 : x15_6 = 0
      ·rw [if_pos c17] at H
       exact absurd H (by simp)
      rw [if_neg c17] at H
      have c17b0 : (x15_6 == 0) = false := beq_eq_false_iff_ne.mpr c17
      have c17b1 : (x15_6 != 0) = true := bne_iff_ne.mpr c17
      simp only [Option.some.injEq, Prod.mk.injEq] at H
      obtain ⟨rfl, rfl, rfl⟩ := H
      go_wp2
      go_ret3
      exact ⟨by first | rfl | (simp; done) | (simp [*]; done), by repeat (first | exact qU.refl _ | apply qU.step)⟩
     rw [if_pos c14] at H
     have c14b0 : decide (0 < x16_6) = true := decide_eq_true c14
     clear c14
     by_cases c15 : (wrap64 ((wrap64 (Int.tdiv (wrap64 (1000 * x14_6)) x15_6)) + 1)) > 10000
     ·rw [if_pos c15] at H
      have c15b0 : decide (10000 < (wrap64 ((wrap64 (Int.tdiv (wrap64 (1000 * x14_6)) x15_6)) + 1))) = true := decide_eq_true c15
      clear c15
      simp only [Option.some.injEq, Prod.mk.injEq] at H
      obtain ⟨rfl, rfl, rfl⟩ := H
      go_wp2
      go_ret3
      exact ⟨by first | rfl | (simp; done) | (simp [*]; done), by repeat (first | exact qU.refl _ | apply qU.step)⟩
     rw [if_neg c15] at H
     have c15b0 : decide (10000 < (wrap64 ((wrap64 (Int.tdiv (wrap64 (1000 * x14_6)) x15_6)) + 1))) = false := decide_eq_false c15
     clear c15
     by_cases c16 : x15_6 = 0
     ·rw [if_pos c16] at H
      exact absurd H (by simp)
     rw [if_neg c16] at H
     have c16b0 : (x15_6 == 0) = false := beq_eq_false_iff_ne.mpr c16
     have c16b1 : (x15_6 != 0) = true := bne_iff_ne.mpr c16
     simp only [Option.some.injEq, Prod.mk.injEq] at H
     obtain ⟨rfl, rfl, rfl⟩ := H
     go_wp2
     go_ret3
     exact ⟨by first | rfl | (simp; done) | (simp [*]; done), by repeat (first | exact qU.refl _ | apply qU.step)⟩
end Go.Proofs.Ytfbanppdiglciaa.X
