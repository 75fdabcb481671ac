import Derived.Test.YtfbanppdiglciaaXx0
namespace Go.Proofs.Ytfbanppdiglciaa.X
open Go.RowKit Go.Proofs.YtfbanppdiglciaaW.PrintWords Go.Proofs.YtfbanppdiglciaaW.PrintLast Go.Proofs.YtfbanppdiglciaaW.PrintMore
attribute [local go_sem] jw jv jJ jI jf je jA jC
set_option linter.unusedVariables false
set_option linter.unusedSimpArgs false
def qQ.j0 : Nat → List (S31) → Int → Int → Int → Bool → Option (Int)
 | 0, _, _, _, _, _ => none
 | k + 1, x0, x1, x2, x9, x27 => if x27 = true then (some x9) else (if 0 ≤ x2 then (if x2 < (x0.length : Int) then (if ((qc x0 x2).f4) ≥ 0 then (if x1 ≥ 0 then (if 0 ≤ x1 then (if x1 < (x0.length : Int) then (if ((qc x0 x1).f0) = 3 then (if (qc x0 x1).f5 = true then (if (qc x0 x2).f5 = true then (some (wrap64 ((wrap64 (x9 + (wrap64 (((qc x0 x2).f4) * ((qc x0 x2).f4))))) + 3000))) else (some (wrap64 (x9 + (wrap64 (((qc x0 x2).f4) * ((qc x0 x2).f4))))))) else (some (wrap64 (x9 + (wrap64 (((qc x0 x2).f4) * ((qc x0 x2).f4))))))) else (some (wrap64 (x9 + (wrap64 (((qc x0 x2).f4) * ((qc x0 x2).f4))))))) else (none)) else (none)) else (some (wrap64 (x9 + (wrap64 (((qc x0 x2).f4) * ((qc x0 x2).f4))))))) else (if ((qc x0 x2).f4) = (-10000) then (if x1 ≥ 0 then (if 0 ≤ x1 then (if x1 < (x0.length : Int) then (if ((qc x0 x1).f0) = 3 then (if (qc x0 x1).f5 = true then (if (qc x0 x2).f5 = true then (some (wrap64 (x9 + 3000))) else (some x9)) else (some x9)) else (some x9)) else (none)) else (none)) else (some x9)) else (if x1 ≥ 0 then (if 0 ≤ x1 then (if x1 < (x0.length : Int) then (if ((qc x0 x1).f0) = 3 then (if (qc x0 x1).f5 = true then (if (qc x0 x2).f5 = true then (some (wrap64 ((wrap64 (x9 - (wrap64 (((qc x0 x2).f4) * ((qc x0 x2).f4))))) + 3000))) else (some (wrap64 (x9 - (wrap64 (((qc x0 x2).f4) * ((qc x0 x2).f4))))))) else (some (wrap64 (x9 - (wrap64 (((qc x0 x2).f4) * ((qc x0 x2).f4))))))) else (some (wrap64 (x9 - (wrap64 (((qc x0 x2).f4) * ((qc x0 x2).f4))))))) else (none)) else (none)) else (some (wrap64 (x9 - (wrap64 (((qc x0 x2).f4) * ((qc x0 x2).f4))))))))) else (none)) else (none))
def qQ.f (k : Nat) (l0 : List (S31)) (a1 : Int) (a2 : Int) (a3 : Int) : Option (Int) := if a2 = (l0.length : Int) then (qQ.j0 k l0 a1 a2 (wrap64 ((wrap64 (10 + a3)) * (wrap64 (10 + a3)))) true) else (if 0 ≤ a2 then (if a2 < (l0.length : Int) then (qQ.j0 k l0 a1 a2 (wrap64 ((wrap64 (10 + a3)) * (wrap64 (10 + a3)))) (((qc l0 a2).f0) != 3)) else (none)) else (none))
theorem qQ.zT : ∀ k, (∀ y0 y1 y2 y3 y4, LeO (qQ.j0 k y0 y1 y2 y3 y4) (qQ.j0 (k + 1) y0 y1 y2 y3 y4))
 | 0 => fun _ _ _ _ _ r h => by simp [qQ.j0] at h
 | k + 1 => by
  have ih0 := qQ.zT k
  ·intro y0 y1 y2 y3 y4
   unfold qQ.j0
   repeat' first
   | (with_reducible exact ih0 _ _ _ _ _)
   | (with_reducible exact LeO.refl _)
   | (with_reducible exact LeO.none _)
   | (with_reducible refine LeO.ite ?_ ?_)
   | (with_reducible refine LeO.bind ?_ (fun _ => ?_))
   | exact ih0 _ _ _ _ _
   | exact LeO.none _
   | refine LeO.ite ?_ ?_
   | refine LeO.bind ?_ (fun _ => ?_)
theorem qQ.mono : ∀ a0 a1 a2 a3 k, LeO (qQ.f k a0 a1 a2 a3) (qQ.f (k + 1) a0 a1 a2 a3) := by
 intro a0 a1 a2 a3 k
 have ih0 := qQ.zT k
 unfold qQ.f
 repeat' first
   | (with_reducible exact ih0 _ _ _ _ _)
   | (with_reducible exact LeO.refl _)
   | (with_reducible exact LeO.none _)
   | (with_reducible refine LeO.ite ?_ ?_)
   | (with_reducible refine LeO.bind ?_ (fun _ => ?_))
   | exact ih0 _ _ _ _ _
   | exact LeO.none _
   | refine LeO.ite ?_ ?_
   | refine LeO.bind ?_ (fun _ => ?_)
set_option maxHeartbeats 8000000 in
set_option maxRecDepth 100000 in
theorem qQ.calls (k : Nat) (A0 : Option Addr) (c0 : Nat) (l0 : List (S31)) (a1 : Int) (a2 : Int) (a3 : Int) (r : Int) (w : World) (hr0 : Kd.C k31 w A0 l0.length l0) (hc0 : l0.length ≤ c0) (h : qQ.f k l0 a1 a2 a3 = some r) :
  Calls Try.prog 33 #[.slice A0 l0.length c0, .int .i64 a1, .int .i64 a2, .int .i64 a3] w fun e w' => e = .returned (.int .i64 r) ∧ qU w w' := by
 have HR0 := qa.mk hr0
 have HC0 := qa.mk hc0
 clear hr0 hc0
 have H : (if a2 = (l0.length : Int) then (qQ.j0 k l0 a1 a2 (wrap64 ((wrap64 (10 + a3)) * (wrap64 (10 + a3)))) true) else (if 0 ≤ a2 then (if a2 < (l0.length : Int) then (qQ.j0 k l0 a1 a2 (wrap64 ((wrap64 (10 + a3)) * (wrap64 (10 + a3)))) (((qc l0 a2).f0) != 3)) else (none)) else (none))) = some r := h
 clear h
 have HC5 := qa.mk H
 clear H
 go_enter Try.func33, Try.ntmps33
 go_upto_region 2 with (fail)
 go_cut [27] (fun v27 wc => ∃ (kq : Nat) (x27_4 : Bool), v27 = .bool x27_4 ∧ qa (qQ.j0 kq l0 a1 a2 (wrap64 ((wrap64 (10 + a3)) * (wrap64 (10 + a3)))) x27_4 = some r) ∧ qa (kq ≤ k) ∧ qU w wc)
 case first =>
  have H := HC5.out
  clear HC5
  by_cases c6 : a2 = (l0.length : Int)
  ·rw [if_pos c6] at H
   have c6b0 : (a2 == (l0.length : Int)) = true := beq_iff_eq.mpr c6
   have c6b1 : (a2 != (l0.length : Int)) = false := bne_eq_false_iff_eq.mpr c6
   clear c6
   (first | rw [c6b0] | (simp only [zJ, zN]; rw [c6b0]) | skip)
   have H' := qa.mk H
   clear H
   go_wp2
   go_meet
   case rel => exact ⟨_, (true), (by first | rfl | (simp; done) | (simp [*]; done)), H', ⟨by first | omega | exact Nat.le_refl _⟩, by repeat (first | exact qU.refl _ | apply qU.step)⟩
  rw [if_neg c6] at H
  have c6b0 : (a2 == (l0.length : Int)) = false := beq_eq_false_iff_ne.mpr c6
  have c6b1 : (a2 != (l0.length : Int)) = true := bne_iff_ne.mpr c6
  (first | rw [c6b0] | (simp only [zJ, zN]; rw [c6b0]) | skip)
  by_cases c7 : 0 ≤ a2
  case neg =>
   rw [if_neg c7] at H
   exact absurd H (by simp)
  rw [if_pos c7] at H
  have c7b0 : decide (0 ≤ a2) = true := decide_eq_true c7
  clear c7
  by_cases c8 : a2 < (l0.length : Int)
  case neg =>
   rw [if_neg c8] at H
   exact absurd H (by simp)
  rw [if_pos c8] at H
  have c8b0 : decide (a2 < (l0.length : Int)) = true := decide_eq_true c8
  clear c8
  have H' := qa.mk H
  clear H
  have p293 : 0 ≤ (a2 : Int) := odt
  have q293 : a2 < (l0.length : Int) := odt
  obtain ⟨ad293, e293, hx293_0, hx293_1, hx293_2, hx293_3, hx293_4, hx293_5⟩ := zt HR0.out a2 p293 q293
  cases e293
  replace p293 := eq_true p293
  replace q293 := eq_true q293
  go_wp2
  go_meet
  case rel => exact ⟨_, ((((qc l0 a2).f0) != 3)), (by first | rfl | (simp; done) | (simp [*]; done)), H', ⟨by first | omega | exact Nat.le_refl _⟩, by repeat (first | exact qU.refl _ | apply qU.step)⟩
 case rest =>
  clear HC5
  try clear p2
  try clear q2
  try clear hx2
  try clear c3
  try clear c6
  try clear c6b0
  try clear c6b1
  try clear p6
  try clear c7
  try clear c7b0
  try clear c8
  try clear c8b0
  try clear hx293_0
  try clear hx293_1
  try clear hx293_2
  try clear hx293_3
  try clear hx293_4
  try clear hx293_5
  try clear p293
  try clear q293
  obtain ⟨kq, x27_4, rfl, HA, HJ4, ⟨mc4, rfl⟩⟩ := hcut
  cases kq with
  | zero => exact absurd HA.out (by simp [qQ.j0])
  | succ kj4 =>
   have H := HA.out
   clear HA
   simp only [qQ.j0] at H
   by_cases c9 : x27_4 = true
   ·subst c9
    have H1 : (some (wrap64 ((wrap64 (10 + a3)) * (wrap64 (10 + a3))))) = some r := by rw [if_pos rfl] at H; exact H
    clear H
    have H := H1
    clear H1
    obtain rfl := Option.some.inj H
    go_wp2
    go_ret
    exact ⟨by first | rfl | (simp; done) | (simp [*]; done), by repeat (first | exact qU.refl _ | apply qU.step)⟩
   replace c9 := Bool.eq_false_iff.mpr c9
   subst c9
   have H1 : (if 0 ≤ a2 then (if a2 < (l0.length : Int) then (if ((qc l0 a2).f4) ≥ 0 then (if a1 ≥ 0 then (if 0 ≤ a1 then (if a1 < (l0.length : Int) then (if ((qc l0 a1).f0) = 3 then (if (qc l0 a1).f5 = true then (if (qc l0 a2).f5 = true then (some (wrap64 ((wrap64 ((wrap64 ((wrap64 (10 + a3)) * (wrap64 (10 + a3)))) + (wrap64 (((qc l0 a2).f4) * ((qc l0 a2).f4))))) + 3000))) else (some (wrap64 ((wrap64 ((wrap64 (10 + a3)) * (wrap64 (10 + a3)))) + (wrap64 (((qc l0 a2).f4) * ((qc l0 a2).f4))))))) else (some (wrap64 ((wrap64 ((wrap64 (10 + a3)) * (wrap64 (10 + a3)))) + (wrap64 (((qc l0 a2).f4) * ((qc l0 a2).f4))))))) else (some (wrap64 ((wrap64 ((wrap64 (10 + a3)) * (wrap64 (10 + a3)))) + (wrap64 (((qc l0 a2).f4) * ((qc l0 a2).f4))))))) else (none)) else (none)) else (some (wrap64 ((wrap64 ((wrap64 (10 + a3)) * (wrap64 (10 + a3)))) + (wrap64 (((qc l0 a2).f4) * ((qc l0 a2).f4))))))) else (if ((qc l0 a2).f4) = (-10000) then (if a1 ≥ 0 then (if 0 ≤ a1 then (if a1 < (l0.length : Int) then (if ((qc l0 a1).f0) = 3 then (if (qc l0 a1).f5 = true then (if (qc l0 a2).f5 = true then (some (wrap64 ((wrap64 ((wrap64 (10 + a3)) * (wrap64 (10 + a3)))) + 3000))) else (some (wrap64 ((wrap64 (10 + a3)) * (wrap64 (10 + a3)))))) else (some (wrap64 ((wrap64 (10 + a3)) * (wrap64 (10 + a3)))))) else (some (wrap64 ((wrap64 (10 + a3)) * (wrap64 (10 + a3)))))) else (none)) else (none)) else (some (wrap64 ((wrap64 (10 + a3)) * (wrap64 (10 + a3)))))) else (if a1 ≥ 0 then (if 0 ≤ a1 then (if a1 < (l0.length : Int) then (if ((qc l0 a1).f0) = 3 then (if (qc l0 a1).f5 = true then (if (qc l0 a2).f5 = true then (some (wrap64 ((wrap64 ((wrap64 ((wrap64 (10 + a3)) * (wrap64 (10 + a3)))) - (wrap64 (((qc l0 a2).f4) * ((qc l0 a2).f4))))) + 3000))) else (some (wrap64 ((wrap64 ((wrap64 (10 + a3)) * (wrap64 (10 + a3)))) - (wrap64 (((qc l0 a2).f4) * ((qc l0 a2).f4))))))) else (some (wrap64 ((wrap64 ((wrap64 (10 + a3)) * (wrap64 (10 + a3)))) - (wrap64 (((qc l0 a2).f4) * ((qc l0 a2).f4))))))) else (some (wrap64 ((wrap64 ((wrap64 (10 + a3)) * (wrap64 (10 + a3)))) - (wrap64 (((qc l0 a2).f4) * ((qc l0 a2).f4))))))) else (none)) else (none)) else (some (wrap64 ((wrap64 ((wrap64 (10 + a3)) * (wrap64 (10 + a3)))) - (wrap64 (((qc l0 a2).f4) * ((qc l0 a2).f4))))))))) else (none)) else (none)) = some r := by rw [if_neg (show ¬ (false = true) by decide)] at H; exact H
   clear H
   have H := H1
   clear H1
   by_cases c10 : 0 ≤ a2
   case neg =>
    rw [if_neg c10] at H
    exact absurd H (by simp)
   rw [if_pos c10] at H
   have c10b0 : decide (0 ≤ a2) = true := decide_eq_true c10
   clear c10
   by_cases c11 : a2 < (l0.length : Int)
   case neg =>
    rw [if_neg c11] at H
    exact absurd H (by simp)
   rw [if_pos c11] at H
   have c11b0 : decide (a2 < (l0.length : Int)) = true := decide_eq_true c11
   clear c11
   by_cases c12 : ((qc l0 a2).f4) ≥ 0
   ·rw [if_pos c12] at H
    have c12b0 : decide (0 ≤ ((qc l0 a2).f4)) = true := decide_eq_true c12
    clear c12
    by_cases c13 : a1 ≥ 0
    case neg =>
     rw [if_neg c13] at H
     have c13b0 : decide (0 ≤ a1) = false := decide_eq_false c13
     clear c13
     obtain rfl := Option.some.inj H
     have p294 : 0 ≤ (a2 : Int) := odt
     have q294 : a2 < (l0.length : Int) := odt
     obtain ⟨ad294, e294, hx294_0, hx294_1, hx294_2, hx294_3, hx294_4, hx294_5⟩ := zt HR0.out a2 p294 q294
     cases e294
     replace p294 := eq_true p294
     replace q294 := eq_true q294
     go_wp2
     go_ret
     exact ⟨by first | rfl | (simp; done) | (simp [*]; done), by repeat (first | exact qU.refl _ | apply qU.step)⟩
    rw [if_pos c13] at H
    have c13b0 : decide (0 ≤ a1) = true := decide_eq_true c13
    clear c13
    by_cases c14 : 0 ≤ a1
    case neg =>
     rw [if_neg c14] at H
     exact absurd H (by simp)
    rw [if_pos c14] at H
    have c14b0 : decide (0 ≤ a1) = true := decide_eq_true c14
    clear c14
    by_cases c15 : a1 < (l0.length : Int)
    case neg =>
     rw [if_neg c15] at H
     exact absurd H (by simp)
    rw [if_pos c15] at H
    have c15b0 : decide (a1 < (l0.length : Int)) = true := decide_eq_true c15
    clear c15
    by_cases c16 : ((qc l0 a1).f0) = 3
    case neg =>
     rw [if_neg c16] at H
     have c16b0 : (((qc l0 a1).f0) == 3) = false := beq_eq_false_iff_ne.mpr c16
     have c16b1 : (((qc l0 a1).f0) != 3) = true := bne_iff_ne.mpr c16
     obtain rfl := Option.some.inj H
     have p294 : 0 ≤ (a2 : Int) := odt
     have q294 : a2 < (l0.length : Int) := odt
     obtain ⟨ad294, e294, hx294_0, hx294_1, hx294_2, hx294_3, hx294_4, hx294_5⟩ := zt HR0.out a2 p294 q294
     cases e294
     replace p294 := eq_true p294
     replace q294 := eq_true q294
     have p295 : 0 ≤ (a1 : Int) := odt
     have q295 : a1 < (l0.length : Int) := odt
     obtain ⟨ad295, e295, hx295_0, hx295_1, hx295_2, hx295_3, hx295_4, hx295_5⟩ := zt HR0.out a1 p295 q295
     obtain rfl : ad294 = ad295 := (by injection e295)
     replace p295 := eq_true p295
     replace q295 := eq_true q295
     go_wp2
     go_ret
     exact ⟨by first | rfl | (simp; done) | (simp [*]; done), by repeat (first | exact qU.refl _ | apply qU.step)⟩
    rw [if_pos c16] at H
    have c16b0 : (((qc l0 a1).f0) == 3) = true := beq_iff_eq.mpr c16
    have c16b1 : (((qc l0 a1).f0) != 3) = false := bne_eq_false_iff_eq.mpr c16
    clear c16
    obtain ⟨bq17, hbq17⟩ : ∃ b_ : Bool, b_ = ((qc l0 a1).f5) := ⟨_, rfl⟩
    replace H : (if bq17 = true then (if (qc l0 a2).f5 = true then (some (wrap64 ((wrap64 ((wrap64 ((wrap64 (10 + a3)) * (wrap64 (10 + a3)))) + (wrap64 (((qc l0 a2).f4) * ((qc l0 a2).f4))))) + 3000))) else (some (wrap64 ((wrap64 ((wrap64 (10 + a3)) * (wrap64 (10 + a3)))) + (wrap64 (((qc l0 a2).f4) * ((qc l0 a2).f4))))))) else (some (wrap64 ((wrap64 ((wrap64 (10 + a3)) * (wrap64 (10 + a3)))) + (wrap64 (((qc l0 a2).f4) * ((qc l0 a2).f4))))))) = some r := by rw [← hbq17] at H; exact H
    have Nbq17 := qa.mk hbq17
    clear hbq17
    by_cases c18 : bq17 = true
    case neg =>
     replace c18 := Bool.eq_false_iff.mpr c18
     subst c18
     have H1 : (some (wrap64 ((wrap64 ((wrap64 (10 + a3)) * (wrap64 (10 + a3)))) + (wrap64 (((qc l0 a2).f4) * ((qc l0 a2).f4)))))) = some r := by rw [if_neg (show ¬ (false = true) by decide)] at H; exact H
     clear H
     have H := H1
     clear H1
     obtain rfl := Option.some.inj H
     have p294 : 0 ≤ (a2 : Int) := odt
     have q294 : a2 < (l0.length : Int) := odt
     obtain ⟨ad294, e294, hx294_0, hx294_1, hx294_2, hx294_3, hx294_4, hx294_5⟩ := zt HR0.out a2 p294 q294
     (try rw [← Nbq17.out] at hx294_5)
     cases e294
     replace p294 := eq_true p294
     replace q294 := eq_true q294
     have p295 : 0 ≤ (a1 : Int) := odt
     have q295 : a1 < (l0.length : Int) := odt
     obtain ⟨ad295, e295, hx295_0, hx295_1, hx295_2, hx295_3, hx295_4, hx295_5⟩ := zt HR0.out a1 p295 q295
     (try rw [← Nbq17.out] at hx295_5)
     obtain rfl : ad294 = ad295 := (by injection e295)
     replace p295 := eq_true p295
     replace q295 := eq_true q295
     have p296 : 0 ≤ (a1 : Int) := odt
     have q296 : a1 < (l0.length : Int) := odt
     obtain ⟨ad296, e296, hx296_0, hx296_1, hx296_2, hx296_3, hx296_4, hx296_5⟩ := zt HR0.out a1 p296 q296
     (try rw [← Nbq17.out] at hx296_5)
     obtain rfl : ad294 = ad296 := (by injection e296)
     replace p296 := eq_true p296
     replace q296 := eq_true q296
     go_wp2
     go_ret
     exact ⟨by first | rfl | (simp; done) | (simp [*]; done), by repeat (first | exact qU.refl _ | apply qU.step)⟩
    subst c18
    have H1 : (if (qc l0 a2).f5 = true then (some (wrap64 ((wrap64 ((wrap64 ((wrap64 (10 + a3)) * (wrap64 (10 + a3)))) + (wrap64 (((qc l0 a2).f4) * ((qc l0 a2).f4))))) + 3000))) else (some (wrap64 ((wrap64 ((wrap64 (10 + a3)) * (wrap64 (10 + a3)))) + (wrap64 (((qc l0 a2).f4) * ((qc l0 a2).f4))))))) = some r := by rw [if_pos rfl] at H; exact H
    clear H
    have H := H1
    clear H1
    obtain ⟨bq19, hbq19⟩ : ∃ b_ : Bool, b_ = ((qc l0 a2).f5) := ⟨_, rfl⟩
    replace H : (if bq19 = true then (some (wrap64 ((wrap64 ((wrap64 ((wrap64 (10 + a3)) * (wrap64 (10 + a3)))) + (wrap64 (((qc l0 a2).f4) * ((qc l0 a2).f4))))) + 3000))) else (some (wrap64 ((wrap64 ((wrap64 (10 + a3)) * (wrap64 (10 + a3)))) + (wrap64 (((qc l0 a2).f4) * ((qc l0 a2).f4))))))) = some r := by rw [← hbq19] at H; exact H
    have Nbq19 := qa.mk hbq19
    clear hbq19
    by_cases c20 : bq19 = true
    ·subst c20
     have H1 : (some (wrap64 ((wrap64 ((wrap64 ((wrap64 (10 + a3)) * (wrap64 (10 + a3)))) + (wrap64 (((qc l0 a2).f4) * ((qc l0 a2).f4))))) + 3000))) = some r := by rw [if_pos rfl] at H; exact H
     clear H
     have H := H1
     clear H1
     obtain rfl := Option.some.inj H
     have p294 : 0 ≤ (a2 : Int) := odt
     have q294 : a2 < (l0.length : Int) := odt
     obtain ⟨ad294, e294, hx294_0, hx294_1, hx294_2, hx294_3, hx294_4, hx294_5⟩ := zt HR0.out a2 p294 q294
     (try rw [← Nbq17.out] at hx294_5)
     (try rw [← Nbq19.out] at hx294_5)
     cases e294
     replace p294 := eq_true p294
     replace q294 := eq_true q294
     have p295 : 0 ≤ (a1 : Int) := odt
     have q295 : a1 < (l0.length : Int) := odt
     obtain ⟨ad295, e295, hx295_0, hx295_1, hx295_2, hx295_3, hx295_4, hx295_5⟩ := zt HR0.out a1 p295 q295
     (try rw [← Nbq17.out] at hx295_5)
     (try rw [← Nbq19.out] at hx295_5)
     obtain rfl : ad294 = ad295 := (by injection e295)
     replace p295 := eq_true p295
     replace q295 := eq_true q295
     have p296 : 0 ≤ (a1 : Int) := odt
     have q296 : a1 < (l0.length : Int) := odt
     obtain ⟨ad296, e296, hx296_0, hx296_1, hx296_2, hx296_3, hx296_4, hx296_5⟩ := zt HR0.out a1 p296 q296
     (try rw [← Nbq17.out] at hx296_5)
     (try rw [← Nbq19.out] at hx296_5)
     obtain rfl : ad294 = ad296 := (by injection e296)
     replace p296 := eq_true p296
     replace q296 := eq_true q296
     have p297 : 0 ≤ (a2 : Int) := odt
     have q297 : a2 < (l0.length : Int) := odt
     obtain ⟨ad297, e297, hx297_0, hx297_1, hx297_2, hx297_3, hx297_4, hx297_5⟩ := zt HR0.out a2 p297 q297
     (try rw [← Nbq17.out] at hx297_5)
     (try rw [← Nbq19.out] at hx297_5)
     obtain rfl : ad294 = ad297 := (by injection e297)
     replace p297 := eq_true p297
     replace q297 := eq_true q297
     go_wp2
     go_ret
     exact ⟨by first | rfl | (simp; done) | (simp [*]; done), by repeat (first | exact qU.refl _ | apply qU.step)⟩
    replace c20 := Bool.eq_false_iff.mpr c20
    subst c20
    have H1 : (some (wrap64 ((wrap64 ((wrap64 (10 + a3)) * (wrap64 (10 + a3)))) + (wrap64 (((qc l0 a2).f4) * ((qc l0 a2).f4)))))) = some r := by rw [if_neg (show ¬ (false = true) by decide)] at H; exact H
    clear H
    have H := H1
    clear H1
    obtain rfl := Option.some.inj H
    have p294 : 0 ≤ (a2 : Int) := odt
    have q294 : a2 < (l0.length : Int) := odt
    obtain ⟨ad294, e294, hx294_0, hx294_1, hx294_2, hx294_3, hx294_4, hx294_5⟩ := zt HR0.out a2 p294 q294
    (try rw [← Nbq17.out] at hx294_5)
    (try rw [← Nbq19.out] at hx294_5)
    cases e294
    replace p294 := eq_true p294
    replace q294 := eq_true q294
    have p295 : 0 ≤ (a1 : Int) := odt
    have q295 : a1 < (l0.length : Int) := odt
    obtain ⟨ad295, e295, hx295_0, hx295_1, hx295_2, hx295_3, hx295_4, hx295_5⟩ := zt HR0.out a1 p295 q295
    (try rw [← Nbq17.out] at hx295_5)
    (try rw [← Nbq19.out] at hx295_5)
    obtain rfl : ad294 = ad295 := (by injection e295)
    replace p295 := eq_true p295
    replace q295 := eq_true q295
    have p296 : 0 ≤ (a1 : Int) := odt
    have q296 : a1 < (l0.length : Int) := odt
    obtain ⟨ad296, e296, hx296_0, hx296_1, hx296_2, hx296_3, hx296_4, hx296_5⟩ := zt HR0.out a1 p296 q296
    (try rw [← Nbq17.out] at hx296_5)
    (try rw [← Nbq19.out] at hx296_5)
    obtain rfl : ad294 = ad296 := (by injection e296)
    replace p296 := eq_true p296
    replace q296 := eq_true q296
    have p297 : 0 ≤ (a2 : Int) := odt
    have q297 : a2 < (l0.length : Int) := odt
    obtain ⟨ad297, e297, hx297_0, hx297_1, hx297_2, hx297_3, hx297_4, hx297_5⟩ := zt HR0.out a2 p297 q297
    (try rw [← Nbq17.out] at hx297_5)
    (try rw [← Nbq19.out] at hx297_5)
    obtain rfl : ad294 = ad297 := (by injection e297)
    replace p297 := eq_true p297
    replace q297 := eq_true q297
    go_wp2
    go_ret
    exact ⟨by first | rfl | (simp; done) | (simp [*]; done), by repeat (first | exact qU.refl _ | apply qU.step)⟩
   rw [if_neg c12] at H
   have c12b0 : decide (0 ≤ ((qc l0 a2).f4)) = false := decide_eq_false c12
   clear c12
   by_cases c21 : ((qc l0 a2).f4) = (-10000)
   ·rw [if_pos c21] at H
    have c21b0 : (((qc l0 a2).f4) == (-10000)) = true := beq_iff_eq.mpr c21
    have c21b1 : (((qc l0 a2).f4) != (-10000)) = false := bne_eq_false_iff_eq.mpr c21
    clear c21
    by_cases c22 : a1 ≥ 0
    case neg =>
     rw [if_neg c22] at H
     have c22b0 : decide (0 ≤ a1) = false := decide_eq_false c22
     clear c22
     obtain rfl := Option.some.inj H
     have p294 : 0 ≤ (a2 : Int) := odt
     have q294 : a2 < (l0.length : Int) := odt
     obtain ⟨ad294, e294, hx294_0, hx294_1, hx294_2, hx294_3, hx294_4, hx294_5⟩ := zt HR0.out a2 p294 q294
     cases e294
     replace p294 := eq_true p294
     replace q294 := eq_true q294
     go_wp2
     go_ret
     exact ⟨by first | rfl | (simp; done) | (simp [*]; done), by repeat (first | exact qU.refl _ | apply qU.step)⟩
    rw [if_pos c22] at H
    have c22b0 : decide (0 ≤ a1) = true := decide_eq_true c22
    clear c22
    by_cases c23 : 0 ≤ a1
    case neg =>
     rw [if_neg c23] at H
     exact absurd H (by simp)
    rw [if_pos c23] at H
    have c23b0 : decide (0 ≤ a1) = true := decide_eq_true c23
    clear c23
    by_cases c24 : a1 < (l0.length : Int)
    case neg =>
     rw [if_neg c24] at H
     exact absurd H (by simp)
    rw [if_pos c24] at H
    have c24b0 : decide (a1 < (l0.length : Int)) = true := decide_eq_true c24
    clear c24
    by_cases c25 : ((qc l0 a1).f0) = 3
    case neg =>
     rw [if_neg c25] at H
     have c25b0 : (((qc l0 a1).f0) == 3) = false := beq_eq_false_iff_ne.mpr c25
     have c25b1 : (((qc l0 a1).f0) != 3) = true := bne_iff_ne.mpr c25
     obtain rfl := Option.some.inj H
     have p294 : 0 ≤ (a2 : Int) := odt
     have q294 : a2 < (l0.length : Int) := odt
     obtain ⟨ad294, e294, hx294_0, hx294_1, hx294_2, hx294_3, hx294_4, hx294_5⟩ := zt HR0.out a2 p294 q294
     cases e294
     replace p294 := eq_true p294
     replace q294 := eq_true q294
     have p298 : 0 ≤ (a1 : Int) := odt
     have q298 : a1 < (l0.length : Int) := odt
     obtain ⟨ad298, e298, hx298_0, hx298_1, hx298_2, hx298_3, hx298_4, hx298_5⟩ := zt HR0.out a1 p298 q298
     obtain rfl : ad294 = ad298 := (by injection e298)
     replace p298 := eq_true p298
     replace q298 := eq_true q298
     go_wp2
     go_ret
     exact ⟨by first | rfl | (simp; done) | (simp [*]; done), by repeat (first | exact qU.refl _ | apply qU.step)⟩
    rw [if_pos c25] at H
    have c25b0 : (((qc l0 a1).f0) == 3) = true := beq_iff_eq.mpr c25
    have c25b1 : (((qc l0 a1).f0) != 3) = false := bne_eq_false_iff_eq.mpr c25
    clear c25
    obtain ⟨bq26, hbq26⟩ : ∃ b_ : Bool, b_ = ((qc l0 a1).f5) := ⟨_, rfl⟩
    replace H : (if bq26 = true then (if (qc l0 a2).f5 = true then (some (wrap64 ((wrap64 ((wrap64 (10 + a3)) * (wrap64 (10 + a3)))) + 3000))) else (some (wrap64 ((wrap64 (10 + a3)) * (wrap64 (10 + a3)))))) else (some (wrap64 ((wrap64 (10 + a3)) * (wrap64 (10 + a3)))))) = some r := by rw [← hbq26] at H; exact H
    have Nbq26 := qa.mk hbq26
    clear hbq26
    by_cases c27 : bq26 = true
    case neg =>
     replace c27 := Bool.eq_false_iff.mpr c27
     subst c27
     have H1 : (some (wrap64 ((wrap64 (10 + a3)) * (wrap64 (10 + a3))))) = some r := by rw [if_neg (show ¬ (false = true) by decide)] at H; exact H
     clear H
     have H := H1
     clear H1
     obtain rfl := Option.some.inj H
     have p294 : 0 ≤ (a2 : Int) := odt
     have q294 : a2 < (l0.length : Int) := odt
     obtain ⟨ad294, e294, hx294_0, hx294_1, hx294_2, hx294_3, hx294_4, hx294_5⟩ := zt HR0.out a2 p294 q294
     (try rw [← Nbq26.out] at hx294_5)
     cases e294
     replace p294 := eq_true p294
     replace q294 := eq_true q294
     have p298 : 0 ≤ (a1 : Int) := odt
     have q298 : a1 < (l0.length : Int) := odt
     obtain ⟨ad298, e298, hx298_0, hx298_1, hx298_2, hx298_3, hx298_4, hx298_5⟩ := zt HR0.out a1 p298 q298
     (try rw [← Nbq26.out] at hx298_5)
     obtain rfl : ad294 = ad298 := (by injection e298)
     replace p298 := eq_true p298
     replace q298 := eq_true q298
     have p299 : 0 ≤ (a1 : Int) := odt
     have q299 : a1 < (l0.length : Int) := odt
     obtain ⟨ad299, e299, hx299_0, hx299_1, hx299_2, hx299_3, hx299_4, hx299_5⟩ := zt HR0.out a1 p299 q299
     (try rw [← Nbq26.out] at hx299_5)
     obtain rfl : ad294 = ad299 := (by injection e299)
     replace p299 := eq_true p299
     replace q299 := eq_true q299
     go_wp2
     go_ret
     exact ⟨by first | rfl | (simp; done) | (simp [*]; done), by repeat (first | exact qU.refl _ | apply qU.step)⟩
    subst c27
    have H1 : (if (qc l0 a2).f5 = true then (some (wrap64 ((wrap64 ((wrap64 (10 + a3)) * (wrap64 (10 + a3)))) + 3000))) else (some (wrap64 ((wrap64 (10 + a3)) * (wrap64 (10 + a3)))))) = some r := by rw [if_pos rfl] at H; exact H
    clear H
    have H := H1
    clear H1
    obtain ⟨bq28, hbq28⟩ : ∃ b_ : Bool, b_ = ((qc l0 a2).f5) := ⟨_, rfl⟩
    replace H : (if bq28 = true then (some (wrap64 ((wrap64 ((wrap64 (10 + a3)) * (wrap64 (10 + a3)))) + 3000))) else (some (wrap64 ((wrap64 (10 + a3)) * (wrap64 (10 + a3)))))) = some r := by rw [← hbq28] at H; exact H
    have Nbq28 := qa.mk hbq28
    clear hbq28
    by_cases c29 : bq28 = true
    ·subst c29
     have H1 : (some (wrap64 ((wrap64 ((wrap64 (10 + a3)) * (wrap64 (10 + a3)))) + 3000))) = some r := by rw [if_pos rfl] at H; exact H
     clear H
     have H := H1
     clear H1
     obtain rfl := Option.some.inj H
     have p294 : 0 ≤ (a2 : Int) := odt
     have q294 : a2 < (l0.length : Int) := odt
     obtain ⟨ad294, e294, hx294_0, hx294_1, hx294_2, hx294_3, hx294_4, hx294_5⟩ := zt HR0.out a2 p294 q294
     (try rw [← Nbq26.out] at hx294_5)
     (try rw [← Nbq28.out] at hx294_5)
     cases e294
     replace p294 := eq_true p294
     replace q294 := eq_true q294
     have p298 : 0 ≤ (a1 : Int) := odt
     have q298 : a1 < (l0.length : Int) := odt
     obtain ⟨ad298, e298, hx298_0, hx298_1, hx298_2, hx298_3, hx298_4, hx298_5⟩ := zt HR0.out a1 p298 q298
     (try rw [← Nbq26.out] at hx298_5)
     (try rw [← Nbq28.out] at hx298_5)
     obtain rfl : ad294 = ad298 := (by injection e298)
     replace p298 := eq_true p298
     replace q298 := eq_true q298
     have p299 : 0 ≤ (a1 : Int) := odt
     have q299 : a1 < (l0.length : Int) := odt
     obtain ⟨ad299, e299, hx299_0, hx299_1, hx299_2, hx299_3, hx299_4, hx299_5⟩ := zt HR0.out a1 p299 q299
     (try rw [← Nbq26.out] at hx299_5)
     (try rw [← Nbq28.out] at hx299_5)
     obtain rfl : ad294 = ad299 := (by injection e299)
     replace p299 := eq_true p299
     replace q299 := eq_true q299
     have p300 : 0 ≤ (a2 : Int) := odt
     have q300 : a2 < (l0.length : Int) := odt
     obtain ⟨ad300, e300, hx300_0, hx300_1, hx300_2, hx300_3, hx300_4, hx300_5⟩ := zt HR0.out a2 p300 q300
     (try rw [← Nbq26.out] at hx300_5)
     (try rw [← Nbq28.out] at hx300_5)
     obtain rfl : ad294 = ad300 := (by injection e300)
     replace p300 := eq_true p300
     replace q300 := eq_true q300
     go_wp2
     go_ret
     exact ⟨by first | rfl | (simp; done) | (simp [*]; done), by repeat (first | exact qU.refl _ | apply qU.step)⟩
    replace c29 := Bool.eq_false_iff.mpr c29
    subst c29
    have H1 : (some (wrap64 ((wrap64 (10 + a3)) * (wrap64 (10 + a3))))) = some r := by rw [if_neg (show ¬ (false = true) by decide)] at H; exact H
    clear H
    have H := H1
    clear H1
    obtain rfl := Option.some.inj H
    have p294 : 0 ≤ (a2 : Int) := odt
    have q294 : a2 < (l0.length : Int) := odt
    obtain ⟨ad294, e294, hx294_0, hx294_1, hx294_2, hx294_3, hx294_4, hx294_5⟩ := zt HR0.out a2 p294 q294
    (try rw [← Nbq26.out] at hx294_5)
    (try rw [← Nbq28.out] at hx294_5)
    cases e294
    replace p294 := eq_true p294
    replace q294 := eq_true q294
    have p298 : 0 ≤ (a1 : Int) := odt
    have q298 : a1 < (l0.length : Int) := odt
    obtain ⟨ad298, e298, hx298_0, hx298_1, hx298_2, hx298_3, hx298_4, hx298_5⟩ := zt HR0.out a1 p298 q298
    (try rw [← Nbq26.out] at hx298_5)
    (try rw [← Nbq28.out] at hx298_5)
    obtain rfl : ad294 = ad298 := (by injection e298)
    replace p298 := eq_true p298
    replace q298 := eq_true q298
    have p299 : 0 ≤ (a1 : Int) := odt
    have q299 : a1 < (l0.length : Int) := odt
    obtain ⟨ad299, e299, hx299_0, hx299_1, hx299_2, hx299_3, hx299_4, hx299_5⟩ := zt HR0.out a1 p299 q299
    (try rw [← Nbq26.out] at hx299_5)
    (try rw [← Nbq28.out] at hx299_5)
    obtain rfl : ad294 = ad299 := (by injection e299)
    replace p299 := eq_true p299
    replace q299 := eq_true q299
    have p300 : 0 ≤ (a2 : Int) := odt
    have q300 : a2 < (l0.length : Int) := odt
    obtain ⟨ad300, e300, hx300_0, hx300_1, hx300_2, hx300_3, hx300_4, hx300_5⟩ := zt HR0.out a2 p300 q300
    (try rw [← Nbq26.out] at hx300_5)
    (try rw [← Nbq28.out] at hx300_5)
    obtain rfl : ad294 = ad300 := (by injection e300)
    replace p300 := eq_true p300
    replace q300 := eq_true q300
    go_wp2
    go_ret
    exact ⟨by first | rfl | (simp; done) | (simp [*]; done), by repeat (first | exact qU.refl _ | apply qU.step)⟩
   rw [if_neg c21] at H
   have c21b0 : (((qc l0 a2).f4) == (-10000)) = false := beq_eq_false_iff_ne.mpr c21
   have c21b1 : (((qc l0 a2).f4) != (-10000)) = true := bne_iff_ne.mpr c21
   by_cases c30 : a1 ≥ 0
   case neg =>
    rw [if_neg c30] at H
    have c30b0 : decide (0 ≤ a1) = false := decide_eq_false c30
    clear c30
    obtain rfl := Option.some.inj H
    have p294 : 0 ≤ (a2 : Int) := odt
    have q294 : a2 < (l0.length : Int) := odt
    obtain ⟨ad294, e294, hx294_0, hx294_1, hx294_2, hx294_3, hx294_4, hx294_5⟩ := zt HR0.out a2 p294 q294
    cases e294
    replace p294 := eq_true p294
    replace q294 := eq_true q294
    go_wp2
    go_ret
    exact ⟨by first | rfl | (simp; done) | (simp [*]; done), by repeat (first | exact qU.refl _ | apply qU.step)⟩
   rw [if_pos c30] at H
   have c30b0 : decide (0 ≤ a1) = true := decide_eq_true c30
   clear c30
   by_cases c31 : 0 ≤ a1
   case neg =>
    rw [if_neg c31] at H
    exact absurd H (by simp)
   rw [if_pos c31] at H
   have c31b0 : decide (0 ≤ a1) = true := decide_eq_true c31
   clear c31
   by_cases c32 : a1 < (l0.length : Int)
   case neg =>
    rw [if_neg c32] at H
    exact absurd H (by simp)
   rw [if_pos c32] at H
   have c32b0 : decide (a1 < (l0.length : Int)) = true := decide_eq_true c32
   clear c32
   by_cases c33 : ((qc l0 a1).f0) = 3
   case neg =>
    rw [if_neg c33] at H
    have c33b0 : (((qc l0 a1).f0) == 3) = false := beq_eq_false_iff_ne.mpr c33
    have c33b1 : (((qc l0 a1).f0) != 3) = true := bne_iff_ne.mpr c33
    obtain rfl := Option.some.inj H
    have p294 : 0 ≤ (a2 : Int) := odt
    have q294 : a2 < (l0.length : Int) := odt
    obtain ⟨ad294, e294, hx294_0, hx294_1, hx294_2, hx294_3, hx294_4, hx294_5⟩ := zt HR0.out a2 p294 q294
    cases e294
    replace p294 := eq_true p294
    replace q294 := eq_true q294
    have p301 : 0 ≤ (a1 : Int) := odt
    have q301 : a1 < (l0.length : Int) := odt
    obtain ⟨ad301, e301, hx301_0, hx301_1, hx301_2, hx301_3, hx301_4, hx301_5⟩ := zt HR0.out a1 p301 q301
    obtain rfl : ad294 = ad301 := (by injection e301)
    replace p301 := eq_true p301
    replace q301 := eq_true q301
    go_wp2
    go_ret
    exact ⟨by first | rfl | (simp; done) | (simp [*]; done), by repeat (first | exact qU.refl _ | apply qU.step)⟩
   rw [if_pos c33] at H
   have c33b0 : (((qc l0 a1).f0) == 3) = true := beq_iff_eq.mpr c33
   have c33b1 : (((qc l0 a1).f0) != 3) = false := bne_eq_false_iff_eq.mpr c33
   clear c33
   obtain ⟨bq34, hbq34⟩ : ∃ b_ : Bool, b_ = ((qc l0 a1).f5) := ⟨_, rfl⟩
   replace H : (if bq34 = true then (if (qc l0 a2).f5 = true then (some (wrap64 ((wrap64 ((wrap64 ((wrap64 (10 + a3)) * (wrap64 (10 + a3)))) - (wrap64 (((qc l0 a2).f4) * ((qc l0 a2).f4))))) + 3000))) else (some (wrap64 ((wrap64 ((wrap64 (10 + a3)) * (wrap64 (10 + a3)))) - (wrap64 (((qc l0 a2).f4) * ((qc l0 a2).f4))))))) else (some (wrap64 ((wrap64 ((wrap64 (10 + a3)) * (wrap64 (10 + a3)))) - (wrap64 (((qc l0 a2).f4) * ((qc l0 a2).f4))))))) = some r := by rw [← hbq34] at H; exact H
   have Nbq34 := qa.mk hbq34
   clear hbq34
   by_cases c35 : bq34 = true
   case neg =>
    replace c35 := Bool.eq_false_iff.mpr c35
    subst c35
    have H1 : (some (wrap64 ((wrap64 ((wrap64 (10 + a3)) * (wrap64 (10 + a3)))) - (wrap64 (((qc l0 a2).f4) * ((qc l0 a2).f4)))))) = some r := by rw [if_neg (show ¬ (false = true) by decide)] at H; exact H
    clear H
    have H := H1
    clear H1
    obtain rfl := Option.some.inj H
    have p294 : 0 ≤ (a2 : Int) := odt
    have q294 : a2 < (l0.length : Int) := odt
    obtain ⟨ad294, e294, hx294_0, hx294_1, hx294_2, hx294_3, hx294_4, hx294_5⟩ := zt HR0.out a2 p294 q294
    (try rw [← Nbq34.out] at hx294_5)
    cases e294
    replace p294 := eq_true p294
    replace q294 := eq_true q294
    have p301 : 0 ≤ (a1 : Int) := odt
    have q301 : a1 < (l0.length : Int) := odt
    obtain ⟨ad301, e301, hx301_0, hx301_1, hx301_2, hx301_3, hx301_4, hx301_5⟩ := zt HR0.out a1 p301 q301
    (try rw [← Nbq34.out] at hx301_5)
    obtain rfl : ad294 = ad301 := (by injection e301)
    replace p301 := eq_true p301
    replace q301 := eq_true q301
    have p302 : 0 ≤ (a1 : Int) := odt
    have q302 : a1 < (l0.length : Int) := odt
    obtain ⟨ad302, e302, hx302_0, hx302_1, hx302_2, hx302_3, hx302_4, hx302_5⟩ := zt HR0.out a1 p302 q302
    (try rw [← Nbq34.out] at hx302_5)
    obtain rfl : ad294 = ad302 := (by injection e302)
    replace p302 := eq_true p302
    replace q302 := eq_true q302
    go_wp2
    go_ret
    exact ⟨by first | rfl | (simp; done) | (simp [*]; done), by repeat (first | exact qU.refl _ | apply qU.step)⟩
   subst c35
   have H1 : (if (qc l0 a2).f5 = true then (some (wrap64 ((wrap64 ((wrap64 ((wrap64 (10 + a3)) * (wrap64 (10 + a3)))) - (wrap64 (((qc l0 a2).f4) * ((qc l0 a2).f4))))) + 3000))) else (some (wrap64 ((wrap64 ((wrap64 (10 + a3)) * (wrap64 (10 + a3)))) - (wrap64 (((qc l0 a2).f4) * ((qc l0 a2).f4))))))) = some r := by rw [if_pos rfl] at H; exact H
   clear H
   have H := H1
   clear H1
   obtain ⟨bq36, hbq36⟩ : ∃ b_ : Bool, b_ = ((qc l0 a2).f5) := ⟨_, rfl⟩
   replace H : (if bq36 = true then (some (wrap64 ((wrap64 ((wrap64 ((wrap64 (10 + a3)) * (wrap64 (10 + a3)))) - (wrap64 (((qc l0 a2).f4) * ((qc l0 a2).f4))))) + 3000))) else (some (wrap64 ((wrap64 ((wrap64 (10 + a3)) * (wrap64 (10 + a3)))) - (wrap64 (((qc l0 a2).f4) * ((qc l0 a2).f4))))))) = some r := by rw [← hbq36] at H; exact H
   have Nbq36 := qa.mk hbq36
   clear hbq36
   by_cases c37 : bq36 = true
   ·subst c37
    have H1 : (some (wrap64 ((wrap64 ((wrap64 ((wrap64 (10 + a3)) * (wrap64 (10 + a3)))) - (wrap64 (((qc l0 a2).f4) * ((qc l0 a2).f4))))) + 3000))) = some r := by rw [if_pos rfl] at H; exact H
    clear H
    have H := H1
    clear H1
    obtain rfl := Option.some.inj H
    have p294 : 0 ≤ (a2 : Int) := odt
    have q294 : a2 < (l0.length : Int) := odt
    obtain ⟨ad294, e294, hx294_0, hx294_1, hx294_2, hx294_3, hx294_4, hx294_5⟩ := zt HR0.out a2 p294 q294
    (try rw [← Nbq34.out] at hx294_5)
    (try rw [← Nbq36.out] at hx294_5)
    cases e294
    replace p294 := eq_true p294
    replace q294 := eq_true q294
    have p301 : 0 ≤ (a1 : Int) := odt
    have q301 : a1 < (l0.length : Int) := odt
    obtain ⟨ad301, e301, hx301_0, hx301_1, hx301_2, hx301_3, hx301_4, hx301_5⟩ := zt HR0.out a1 p301 q301
    (try rw [← Nbq34.out] at hx301_5)
    (try rw [← Nbq36.out] at hx301_5)
    obtain rfl : ad294 = ad301 := (by injection e301)
    replace p301 := eq_true p301
    replace q301 := eq_true q301
    have p302 : 0 ≤ (a1 : Int) := odt
    have q302 : a1 < (l0.length : Int) := odt
    obtain ⟨ad302, e302, hx302_0, hx302_1, hx302_2, hx302_3, hx302_4, hx302_5⟩ := zt HR0.out a1 p302 q302
    (try rw [← Nbq34.out] at hx302_5)
    (try rw [← Nbq36.out] at hx302_5)
    obtain rfl : ad294 = ad302 := (by injection e302)
    replace p302 := eq_true p302
    replace q302 := eq_true q302
    have p303 : 0 ≤ (a2 : Int) := odt
    have q303 : a2 < (l0.length : Int) := odt
    obtain ⟨ad303, e303, hx303_0, hx303_1, hx303_2, hx303_3, hx303_4, hx303_5⟩ := zt HR0.out a2 p303 q303
    (try rw [← Nbq34.out] at hx303_5)
    (try rw [← Nbq36.out] at hx303_5)
    obtain rfl : ad294 = ad303 := (by injection e303)
    replace p303 := eq_true p303
    replace q303 := eq_true q303
    go_wp2
    go_ret
    exact ⟨by first | rfl | (simp; done) | (simp [*]; done), by repeat (first | exact qU.refl _ | apply qU.step)⟩
   replace c37 := Bool.eq_false_iff.mpr c37
   subst c37
   have H1 : (some (wrap64 ((wrap64 ((wrap64 (10 + a3)) * (wrap64 (10 + a3)))) - (wrap64 (((qc l0 a2).f4) * ((qc l0 a2).f4)))))) = some r := by rw [if_neg (show ¬ (false = true) by decide)] at H; exact H
   clear H
   have H := H1
   clear H1
   obtain rfl := Option.some.inj H
   have p294 : 0 ≤ (a2 : Int) := odt
   have q294 : a2 < (l0.length : Int) := odt
   obtain ⟨ad294, e294, hx294_0, hx294_1, hx294_2, hx294_3, hx294_4, hx294_5⟩ := zt HR0.out a2 p294 q294
   (try rw [← Nbq34.out] at hx294_5)
   (try rw [← Nbq36.out] at hx294_5)
   cases e294
   replace p294 := eq_true p294
   replace q294 := eq_true q294
   have p301 : 0 ≤ (a1 : Int) := odt
   have q301 : a1 < (l0.length : Int) := odt
   obtain ⟨ad301, e301, hx301_0, hx301_1, hx301_2, hx301_3, hx301_4, hx301_5⟩ := zt HR0.out a1 p301 q301
   (try rw [← Nbq34.out] at hx301_5)
   (try rw [← Nbq36.out] at hx301_5)
   obtain rfl : ad294 = ad301 := (by injection e301)
   replace p301 := eq_true p301
   replace q301 := eq_true q301
   have p302 : 0 ≤ (a1 : Int) := odt
   have q302 : a1 < (l0.length : Int) := odt
   obtain ⟨ad302, e302, hx302_0, hx302_1, hx302_2, hx302_3, hx302_4, hx302_5⟩ := zt HR0.out a1 p302 q302
   (try rw [← Nbq34.out] at hx302_5)
   (try rw [← Nbq36.out] at hx302_5)
   obtain rfl : ad294 = ad302 := (by injection e302)
   replace p302 := eq_true p302
   replace q302 := eq_true q302
   have p303 : 0 ≤ (a2 : Int) := odt
   have q303 : a2 < (l0.length : Int) := odt
   obtain ⟨ad303, e303, hx303_0, hx303_1, hx303_2, hx303_3, hx303_4, hx303_5⟩ := zt HR0.out a2 p303 q303
   (try rw [← Nbq34.out] at hx303_5)
   (try rw [← Nbq36.out] at hx303_5)
   obtain rfl : ad294 = ad303 := (by injection e303)
   replace p303 := eq_true p303
   replace q303 := eq_true q303
   go_wp2
   go_ret
   exact ⟨by first | rfl | (simp; done) | (simp [*]; done), by repeat (first | exact qU.refl _ | apply qU.step)⟩
end Go.Proofs.Ytfbanppdiglciaa.X
