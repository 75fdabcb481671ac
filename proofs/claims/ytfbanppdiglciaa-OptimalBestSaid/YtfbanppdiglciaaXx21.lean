import Derived.Test.YtfbanppdiglciaaXx0
namespace Go.Proofs.Ytfbanppdiglciaa.X
open Go.RowKit Go.Proofs.YtfbanppdiglciaaW.PrintWords Go.Proofs.YtfbanppdiglciaaW.PrintLast Go.Proofs.YtfbanppdiglciaaW.PrintMore
attribute [local go_sem] jw jv jJ jI jf je jA jC
set_option linter.unusedVariables false
set_option linter.unusedSimpArgs false
mutual
def qF.l0 : Nat → List (S31) → Int → Int → Int → Int → Bool → Int → Option (Int × Int × Int)
 | 0, _, _, _, _, _, _, _ => none
 | k + 1, x0, x2, x9, x10, x11, x12, x13 => if x13 < x2 then (if x12 = true then (qF.j1 k x0 x2 x9 x10 x11 true x13) else (if 0 ≤ x13 then (if x13 < (x0.length : Int) then (qF.j1 k x0 x2 x9 x10 x11 (((qc x0 x13).f0) == 1) x13) else (none)) else (none))) else (if x2 < (x0.length : Int) then (if 0 ≤ x2 then (if ((qc x0 x2).f0) = 3 then (some (wrap64 (x9 + ((qc x0 x2).f1)), x10, x11)) else (some (x9, x10, x11))) else (none)) else (some (x9, x10, x11)))
def qF.j1 : Nat → List (S31) → Int → Int → Int → Int → Bool → Int → Option (Int × Int × Int)
 | 0, _, _, _, _, _, _, _ => none
 | k + 1, x0, x2, x9, x10, x11, x12, x13 => if x12 = true then (if 0 ≤ x13 then (if x13 < (x0.length : Int) then (qF.j2 k x0 x2 x9 x10 x11 x12 x13 (((qc x0 x13).f0) != 3)) else (none)) else (none)) else (qF.j2 k x0 x2 x9 x10 x11 x12 x13 false)
def qF.j2 : Nat → List (S31) → Int → Int → Int → Int → Bool → Int → Bool → Option (Int × Int × Int)
 | 0, _, _, _, _, _, _, _, _ => none
 | k + 1, x0, x2, x9, x10, x11, x12, x13, x38 => if x38 = true then (if 0 ≤ x13 then (if x13 < (x0.length : Int) then (if x12 = true then (if ((qc x0 x13).f0) = 2 then (qF.l0 k x0 x2 (wrap64 (x9 + ((qc x0 x13).f1))) (wrap64 (x10 + ((qc x0 x13).f2))) (wrap64 (x11 + ((qc x0 x13).f3))) x12 (wrap64 (x13 + 1))) else (qF.l0 k x0 x2 (wrap64 (x9 + ((qc x0 x13).f1))) x10 x11 x12 (wrap64 (x13 + 1)))) else (qF.l0 k x0 x2 (wrap64 (x9 + ((qc x0 x13).f1))) x10 x11 x12 (wrap64 (x13 + 1)))) else (none)) else (none)) else (if x12 = true then (if 0 ≤ x13 then (if x13 < (x0.length : Int) then (if ((qc x0 x13).f0) = 2 then (qF.l0 k x0 x2 x9 (wrap64 (x10 + ((qc x0 x13).f2))) (wrap64 (x11 + ((qc x0 x13).f3))) x12 (wrap64 (x13 + 1))) else (qF.l0 k x0 x2 x9 x10 x11 x12 (wrap64 (x13 + 1)))) else (none)) else (none)) else (qF.l0 k x0 x2 x9 x10 x11 x12 (wrap64 (x13 + 1))))
end
def qF.f (k : Nat) (l0 : List (S31)) (a1 : Int) (a2 : Int) : Option (Int × Int × Int) := qF.l0 k l0 a2 0 0 0 false (wrap64 (a1 + 1))
theorem qF.zT : ∀ k, (∀ y0 y1 y2 y3 y4 y5 y6, LeO (qF.l0 k y0 y1 y2 y3 y4 y5 y6) (qF.l0 (k + 1) y0 y1 y2 y3 y4 y5 y6)) ∧ (∀ y0 y1 y2 y3 y4 y5 y6, LeO (qF.j1 k y0 y1 y2 y3 y4 y5 y6) (qF.j1 (k + 1) y0 y1 y2 y3 y4 y5 y6)) ∧ (∀ y0 y1 y2 y3 y4 y5 y6 y7, LeO (qF.j2 k y0 y1 y2 y3 y4 y5 y6 y7) (qF.j2 (k + 1) y0 y1 y2 y3 y4 y5 y6 y7))
 | 0 => ⟨fun _ _ _ _ _ _ _ r h => by simp [qF.l0] at h, fun _ _ _ _ _ _ _ r h => by simp [qF.j1] at h, fun _ _ _ _ _ _ _ _ r h => by simp [qF.j2] at h⟩
 | k + 1 => by
  obtain ⟨ih0, ih1, ih2⟩ := qF.zT k
  refine ⟨?_, ?_, ?_⟩
  ·intro y0 y1 y2 y3 y4 y5 y6
   unfold qF.l0
   repeat' first
   | (with_reducible exact ih0 _ _ _ _ _ _ _)
   | (with_reducible exact ih1 _ _ _ _ _ _ _)
   | (with_reducible exact ih2 _ _ _ _ _ _ _ _)
   | (with_reducible exact LeO.refl _)
   | (with_reducible exact LeO.none _)
   | (with_reducible refine LeO.ite ?_ ?_)
   | (with_reducible refine LeO.bind ?_ (fun _ => ?_))
   | exact ih0 _ _ _ _ _ _ _
   | exact ih1 _ _ _ _ _ _ _
   | exact ih2 _ _ _ _ _ _ _ _
   | exact LeO.none _
   | refine LeO.ite ?_ ?_
   | refine LeO.bind ?_ (fun _ => ?_)
  ·intro y0 y1 y2 y3 y4 y5 y6
   unfold qF.j1
   repeat' first
   | (with_reducible exact ih0 _ _ _ _ _ _ _)
   | (with_reducible exact ih1 _ _ _ _ _ _ _)
   | (with_reducible exact ih2 _ _ _ _ _ _ _ _)
   | (with_reducible exact LeO.refl _)
   | (with_reducible exact LeO.none _)
   | (with_reducible refine LeO.ite ?_ ?_)
   | (with_reducible refine LeO.bind ?_ (fun _ => ?_))
   | exact ih0 _ _ _ _ _ _ _
   | exact ih1 _ _ _ _ _ _ _
   | exact ih2 _ _ _ _ _ _ _ _
   | exact LeO.none _
   | refine LeO.ite ?_ ?_
   | refine LeO.bind ?_ (fun _ => ?_)
  ·intro y0 y1 y2 y3 y4 y5 y6 y7
   unfold qF.j2
   repeat' first
   | (with_reducible exact ih0 _ _ _ _ _ _ _)
   | (with_reducible exact ih1 _ _ _ _ _ _ _)
   | (with_reducible exact ih2 _ _ _ _ _ _ _ _)
   | (with_reducible exact LeO.refl _)
   | (with_reducible exact LeO.none _)
   | (with_reducible refine LeO.ite ?_ ?_)
   | (with_reducible refine LeO.bind ?_ (fun _ => ?_))
   | exact ih0 _ _ _ _ _ _ _
   | exact ih1 _ _ _ _ _ _ _
   | exact ih2 _ _ _ _ _ _ _ _
   | exact LeO.none _
   | refine LeO.ite ?_ ?_
   | refine LeO.bind ?_ (fun _ => ?_)
theorem qF.mono : ∀ a0 a1 a2 k, LeO (qF.f k a0 a1 a2) (qF.f (k + 1) a0 a1 a2) := by
 intro a0 a1 a2 k
 obtain ⟨ih0, ih1, ih2⟩ := qF.zT k
 unfold qF.f
 repeat' first
   | (with_reducible exact ih0 _ _ _ _ _ _ _)
   | (with_reducible exact ih1 _ _ _ _ _ _ _)
   | (with_reducible exact ih2 _ _ _ _ _ _ _ _)
   | (with_reducible exact LeO.refl _)
   | (with_reducible exact LeO.none _)
   | (with_reducible refine LeO.ite ?_ ?_)
   | (with_reducible refine LeO.bind ?_ (fun _ => ?_))
   | exact ih0 _ _ _ _ _ _ _
   | exact ih1 _ _ _ _ _ _ _
   | exact ih2 _ _ _ _ _ _ _ _
   | exact LeO.none _
   | refine LeO.ite ?_ ?_
   | refine LeO.bind ?_ (fun _ => ?_)
set_option maxHeartbeats 8000000 in
set_option maxRecDepth 100000 in
theorem qF.calls (k : Nat) (A0 : Option Addr) (c0 : Nat) (l0 : List (S31)) (a1 : Int) (a2 : Int) (r1 : Int) (r2 : Int) (r3 : Int) (w : World) (hr0 : Kd.C k31 w A0 l0.length l0) (hc0 : l0.length ≤ c0) (h : qF.f k l0 a1 a2 = some (r1, r2, r3)) :
  Calls Try.prog 35 #[.slice A0 l0.length c0, .int .i64 a1, .int .i64 a2] w fun e w' => e = .returned (.tuple #[.int .i64 r1, .int .i64 r2, .int .i64 r3]) ∧ qU w w' := by
 have HR0 := qa.mk hr0
 have HC0 := qa.mk hc0
 clear hr0 hc0
 have H : (qF.l0 k l0 a2 0 0 0 false (wrap64 (a1 + 1))) = some (r1, r2, r3) := h
 clear h
 have H' := qa.mk H
 clear H
 go_enter Try.func35, Try.ntmps35
 go_wp2
 go_loopg [9, 10, 11, 12, 13] k (fun kq v9 v10 v11 v12 v13 w' => ∃ (x9_1 : Int) (x10_1 : Int) (x11_1 : Int) (x12_1 : Bool) (x13_1 : Int), v9 = .int .i64 x9_1 ∧ v10 = .int .i64 x10_1 ∧ v11 = .int .i64 x11_1 ∧ v12 = .bool x12_1 ∧ v13 = .int .i64 x13_1 ∧ qa (qF.l0 kq l0 a2 x9_1 x10_1 x11_1 x12_1 x13_1 = some (r1, r2, r3)) ∧ qa (kq ≤ k) ∧ qU w w')
 case atStart => exact ⟨(0), (0), (0), (false), (wrap64 (a1 + 1)), (by first | rfl | (simp; done) | (simp [*]; done)), (by first | rfl | (simp; done) | (simp [*]; done)), (by first | rfl | (simp; done) | (simp [*]; done)), (by first | rfl | (simp; done) | (simp [*]; done)), (by first | rfl | (simp; done) | (simp [*]; done)), H', ⟨Nat.le_refl _⟩, by repeat (first | exact qU.refl _ | apply qU.step)⟩
 case round =>
  clear H'
  try clear p2
  try clear c3
  obtain ⟨x9_1, x10_1, x11_1, x12_1, x13_1, rfl, rfl, rfl, rfl, rfl, HA, HK1, ⟨m1, rfl⟩⟩ := hrel
  cases gk with
  | zero => exact absurd HA.out (by simp [qF.l0])
  | succ k1 =>
   have H := HA.out
   clear HA
   simp only [qF.l0] at H
   by_cases c4 : x13_1 < a2
   case neg =>
    rw [if_neg c4] at H
    have c4b0 : decide (x13_1 < a2) = false := decide_eq_false c4
    clear c4
    by_cases c22 : a2 < (l0.length : Int)
    case neg =>
     rw [if_neg c22] at H
     have c22b0 : decide (a2 < (l0.length : Int)) = false := decide_eq_false c22
     clear c22
     simp only [Option.some.injEq, Prod.mk.injEq] at H
     obtain ⟨rfl, rfl, rfl⟩ := H
     go_wp2
     go_ret3
     exact ⟨by first | rfl | (simp; done) | (simp [*]; done), by repeat (first | exact qU.refl _ | apply qU.step)⟩
    rw [if_pos c22] at H
    have c22b0 : decide (a2 < (l0.length : Int)) = true := decide_eq_true c22
    clear c22
    by_cases c23 : 0 ≤ a2
    case neg =>
     rw [if_neg c23] at H
     exact absurd H (by simp)
    rw [if_pos c23] at H
    have c23b0 : decide (0 ≤ a2) = true := decide_eq_true c23
    clear c23
    by_cases c24 : ((qc l0 a2).f0) = 3
    case neg =>
     rw [if_neg c24] at H
     have c24b0 : (((qc l0 a2).f0) == 3) = false := beq_eq_false_iff_ne.mpr c24
     have c24b1 : (((qc l0 a2).f0) != 3) = true := bne_iff_ne.mpr c24
     simp only [Option.some.injEq, Prod.mk.injEq] at H
     obtain ⟨rfl, rfl, rfl⟩ := H
     have p279 : 0 ≤ (a2 : Int) := odt
     have q279 : a2 < (l0.length : Int) := odt
     obtain ⟨ad279, e279, hx279_0, hx279_1, hx279_2, hx279_3, hx279_4, hx279_5⟩ := zt HR0.out a2 p279 q279
     cases e279
     replace p279 := eq_true p279
     replace q279 := eq_true q279
     go_wp2
     go_ret3
     exact ⟨by first | rfl | (simp; done) | (simp [*]; done), by repeat (first | exact qU.refl _ | apply qU.step)⟩
    rw [if_pos c24] at H
    have c24b0 : (((qc l0 a2).f0) == 3) = true := beq_iff_eq.mpr c24
    have c24b1 : (((qc l0 a2).f0) != 3) = false := bne_eq_false_iff_eq.mpr c24
    clear c24
    simp only [Option.some.injEq, Prod.mk.injEq] at H
    obtain ⟨rfl, rfl, rfl⟩ := H
    have p279 : 0 ≤ (a2 : Int) := odt
    have q279 : a2 < (l0.length : Int) := odt
    obtain ⟨ad279, e279, hx279_0, hx279_1, hx279_2, hx279_3, hx279_4, hx279_5⟩ := zt HR0.out a2 p279 q279
    cases e279
    replace p279 := eq_true p279
    replace q279 := eq_true q279
    have p280 : 0 ≤ (a2 : Int) := odt
    have q280 : a2 < (l0.length : Int) := odt
    obtain ⟨ad280, e280, hx280_0, hx280_1, hx280_2, hx280_3, hx280_4, hx280_5⟩ := zt HR0.out a2 p280 q280
    obtain rfl : ad279 = ad280 := (by injection e280)
    replace p280 := eq_true p280
    replace q280 := eq_true q280
    go_wp2
    go_ret3
    exact ⟨by first | rfl | (simp; done) | (simp [*]; done), by repeat (first | exact qU.refl _ | apply qU.step)⟩
   rw [if_pos c4] at H
   have c4b0 : decide (x13_1 < a2) = true := decide_eq_true c4
   clear c4
   have HC5 := qa.mk H
   clear H
   go_upto_region 6 with (fail)
   go_cut [12] (fun v12 wc => ∃ (kq : Nat) (x12_4 : Bool), v12 = .bool x12_4 ∧ qa (qF.j1 kq l0 a2 x9_1 x10_1 x11_1 x12_4 x13_1 = some (r1, r2, r3)) ∧ qa (kq ≤ k1) ∧ qU w wc)
   case first =>
    have H := HC5.out
    clear HC5
    by_cases c6 : x12_1 = true
    ·subst c6
     have H1 : (qF.j1 k1 l0 a2 x9_1 x10_1 x11_1 true x13_1) = some (r1, r2, r3) := by rw [if_pos rfl] at H; exact H
     clear H
     have H := H1
     clear H1
     have H' := qa.mk H
     clear H
     go_wp2
     go_meet
     case rel => exact ⟨_, (true), (by first | rfl | (simp; done) | (simp [*]; done)), H', ⟨by have := HK1.out; first | omega | exact Nat.le_refl _⟩, by repeat (first | exact qU.refl _ | apply qU.step)⟩
    replace c6 := Bool.eq_false_iff.mpr c6
    subst c6
    have H1 : (if 0 ≤ x13_1 then (if x13_1 < (l0.length : Int) then (qF.j1 k1 l0 a2 x9_1 x10_1 x11_1 (((qc l0 x13_1).f0) == 1) x13_1) else (none)) else (none)) = some (r1, r2, r3) := by rw [if_neg (show ¬ (false = true) by decide)] at H; exact H
    clear H
    have H := H1
    clear H1
    by_cases c7 : 0 ≤ x13_1
    case neg =>
     rw [if_neg c7] at H
     exact absurd H (by simp)
    rw [if_pos c7] at H
    have c7b0 : decide (0 ≤ x13_1) = true := decide_eq_true c7
    clear c7
    (first | rw [c7b0] | (simp only [zJ, zN]; rw [c7b0]) | skip)
    by_cases c8 : x13_1 < (l0.length : Int)
    case neg =>
     rw [if_neg c8] at H
     exact absurd H (by simp)
    rw [if_pos c8] at H
    have c8b0 : decide (x13_1 < (l0.length : Int)) = true := decide_eq_true c8
    clear c8
    have H' := qa.mk H
    clear H
    have p281 : 0 ≤ (x13_1 : Int) := odt
    have q281 : x13_1 < (l0.length : Int) := odt
    obtain ⟨ad281, e281, hx281_0, hx281_1, hx281_2, hx281_3, hx281_4, hx281_5⟩ := zt HR0.out x13_1 p281 q281
    cases e281
    replace p281 := eq_true p281
    replace q281 := eq_true q281
    go_wp2
    go_meet
    case rel => exact ⟨_, ((((qc l0 x13_1).f0) == 1)), (by first | rfl | (simp; done) | (simp [*]; done)), H', ⟨by have := HK1.out; first | omega | exact Nat.le_refl _⟩, by repeat (first | exact qU.refl _ | apply qU.step)⟩
   case rest =>
    clear HC5
    try clear p2
    try clear q2
    try clear hx2
    try clear c3
    try clear c4
    try clear c4b0
    try clear c6
    try clear p6
    try clear c7
    try clear c7b0
    try clear c8
    try clear c8b0
    try clear hx281_0
    try clear hx281_1
    try clear hx281_2
    try clear hx281_3
    try clear hx281_4
    try clear hx281_5
    try clear p2
    try clear p281
    try clear q281
    obtain ⟨kq, x12_4, rfl, HA, HJ4, ⟨mc4, rfl⟩⟩ := hcut
    cases kq with
    | zero => exact absurd HA.out (by simp [qF.j1])
    | succ kj4 =>
     have H := HA.out
     clear HA
     simp only [qF.j1] at H
     have HC9 := qa.mk H
     clear H
     go_upto_region 7 with (fail)
     go_cut [38] (fun v38 wc => ∃ (kq : Nat) (x38_8 : Bool), v38 = .bool x38_8 ∧ qa (qF.j2 kq l0 a2 x9_1 x10_1 x11_1 x12_4 x13_1 x38_8 = some (r1, r2, r3)) ∧ qa (kq ≤ kj4) ∧ qU w wc)
     case first =>
      have H := HC9.out
      clear HC9
      by_cases c10 : x12_4 = true
      case neg =>
       replace c10 := Bool.eq_false_iff.mpr c10
       subst c10
       have H1 : (qF.j2 kj4 l0 a2 x9_1 x10_1 x11_1 false x13_1 false) = some (r1, r2, r3) := by rw [if_neg (show ¬ (false = true) by decide)] at H; exact H
       clear H
       have H := H1
       clear H1
       have H' := qa.mk H
       clear H
       go_wp2
       go_meet
       case rel => exact ⟨_, (false), (by first | rfl | (simp; done) | (simp [*]; done)), H', ⟨by have := HK1.out; have := HJ4.out; first | omega | exact Nat.le_refl _⟩, by repeat (first | exact qU.refl _ | apply qU.step)⟩
      subst c10
      have H1 : (if 0 ≤ x13_1 then (if x13_1 < (l0.length : Int) then (qF.j2 kj4 l0 a2 x9_1 x10_1 x11_1 true x13_1 (((qc l0 x13_1).f0) != 3)) else (none)) else (none)) = some (r1, r2, r3) := by rw [if_pos rfl] at H; exact H
      clear H
      have H := H1
      clear H1
      by_cases c11 : 0 ≤ x13_1
      case neg =>
       rw [if_neg c11] at H
       exact absurd H (by simp)
      rw [if_pos c11] at H
      have c11b0 : decide (0 ≤ x13_1) = true := decide_eq_true c11
      clear c11
      (first | rw [c11b0] | (simp only [zJ, zN]; rw [c11b0]) | skip)
      by_cases c12 : x13_1 < (l0.length : Int)
      case neg =>
       rw [if_neg c12] at H
       exact absurd H (by simp)
      rw [if_pos c12] at H
      have c12b0 : decide (x13_1 < (l0.length : Int)) = true := decide_eq_true c12
      clear c12
      have H' := qa.mk H
      clear H
      have p282 : 0 ≤ (x13_1 : Int) := odt
      have q282 : x13_1 < (l0.length : Int) := odt
      obtain ⟨ad282, e282, hx282_0, hx282_1, hx282_2, hx282_3, hx282_4, hx282_5⟩ := zt HR0.out x13_1 p282 q282
      cases e282
      replace p282 := eq_true p282
      replace q282 := eq_true q282
      go_wp2
      go_meet
      case rel => exact ⟨_, ((((qc l0 x13_1).f0) != 3)), (by first | rfl | (simp; done) | (simp [*]; done)), H', ⟨by have := HK1.out; have := HJ4.out; first | omega | exact Nat.le_refl _⟩, by repeat (first | exact qU.refl _ | apply qU.step)⟩
     case rest =>
      clear HC9
      try clear c1
      try clear p2
      try clear q2
      try clear hx2
      try clear c3
      try clear c4
      try clear c4b0
      try clear c6
      try clear p6
      try clear c7
      try clear c7b0
      try clear c8
      try clear c8b0
      try clear c10
      try clear c11
      try clear c11b0
      try clear c12
      try clear c12b0
      try clear hx281_0
      try clear hx281_1
      try clear hx281_2
      try clear hx281_3
      try clear hx281_4
      try clear hx281_5
      try clear hx282_0
      try clear hx282_1
      try clear hx282_2
      try clear hx282_3
      try clear hx282_4
      try clear hx282_5
      try clear p2
      try clear p281
      try clear p282
      try clear p6
      try clear q2
      try clear q281
      try clear q282
      obtain ⟨kq, x38_8, rfl, HA, HJ8, ⟨mc8, rfl⟩⟩ := hcut
      cases kq with
      | zero => exact absurd HA.out (by simp [qF.j2])
      | succ kj8 =>
       have H := HA.out
       clear HA
       simp only [qF.j2] at H
       by_cases c13 : x38_8 = true
       case neg =>
        replace c13 := Bool.eq_false_iff.mpr c13
        subst c13
        have H1 : (if x12_4 = true then (if 0 ≤ x13_1 then (if x13_1 < (l0.length : Int) then (if ((qc l0 x13_1).f0) = 2 then (qF.l0 kj8 l0 a2 x9_1 (wrap64 (x10_1 + ((qc l0 x13_1).f2))) (wrap64 (x11_1 + ((qc l0 x13_1).f3))) x12_4 (wrap64 (x13_1 + 1))) else (qF.l0 kj8 l0 a2 x9_1 x10_1 x11_1 x12_4 (wrap64 (x13_1 + 1)))) else (none)) else (none)) else (qF.l0 kj8 l0 a2 x9_1 x10_1 x11_1 x12_4 (wrap64 (x13_1 + 1)))) = some (r1, r2, r3) := by rw [if_neg (show ¬ (false = true) by decide)] at H; exact H
        clear H
        have H := H1
        clear H1
        by_cases c18 : x12_4 = true
        case neg =>
         replace c18 := Bool.eq_false_iff.mpr c18
         subst c18
         have H1 : (qF.l0 kj8 l0 a2 x9_1 x10_1 x11_1 false (wrap64 (x13_1 + 1))) = some (r1, r2, r3) := by rw [if_neg (show ¬ (false = true) by decide)] at H; exact H
         clear H
         have H := H1
         clear H1
         have H' := qa.mk H
         clear H
         go_wp2
         go_roundg kj8
         case measure => have := HK1.out; have := HJ4.out; have := HJ8.out; omega
         case rel => exact ⟨(x9_1), (x10_1), (x11_1), (false), (wrap64 (x13_1 + 1)), (by first | rfl | (simp; done) | (simp [*]; done)), (by first | rfl | (simp; done) | (simp [*]; done)), (by first | rfl | (simp; done) | (simp [*]; done)), (by first | rfl | (simp; done) | (simp [*]; done)), (by first | rfl | (simp; done) | (simp [*]; done)), H', ⟨by have := HK1.out; have := HJ4.out; have := HJ8.out; omega⟩, by repeat (first | exact qU.refl _ | apply qU.step)⟩
        subst c18
        have H1 : (if 0 ≤ x13_1 then (if x13_1 < (l0.length : Int) then (if ((qc l0 x13_1).f0) = 2 then (qF.l0 kj8 l0 a2 x9_1 (wrap64 (x10_1 + ((qc l0 x13_1).f2))) (wrap64 (x11_1 + ((qc l0 x13_1).f3))) true (wrap64 (x13_1 + 1))) else (qF.l0 kj8 l0 a2 x9_1 x10_1 x11_1 true (wrap64 (x13_1 + 1)))) else (none)) else (none)) = some (r1, r2, r3) := by rw [if_pos rfl] at H; exact H
        clear H
        have H := H1
        clear H1
        by_cases c19 : 0 ≤ x13_1
        case neg =>
         rw [if_neg c19] at H
         exact absurd H (by simp)
        rw [if_pos c19] at H
        have c19b0 : decide (0 ≤ x13_1) = true := decide_eq_true c19
        clear c19
        by_cases c20 : x13_1 < (l0.length : Int)
        case neg =>
         rw [if_neg c20] at H
         exact absurd H (by simp)
        rw [if_pos c20] at H
        have c20b0 : decide (x13_1 < (l0.length : Int)) = true := decide_eq_true c20
        clear c20
        by_cases c21 : ((qc l0 x13_1).f0) = 2
        case neg =>
         rw [if_neg c21] at H
         have c21b0 : (((qc l0 x13_1).f0) == 2) = false := beq_eq_false_iff_ne.mpr c21
         have c21b1 : (((qc l0 x13_1).f0) != 2) = true := bne_iff_ne.mpr c21
         have H' := qa.mk H
         clear H
         have p287 : 0 ≤ (x13_1 : Int) := odt
         have q287 : x13_1 < (l0.length : Int) := odt
         obtain ⟨ad287, e287, hx287_0, hx287_1, hx287_2, hx287_3, hx287_4, hx287_5⟩ := zt HR0.out x13_1 p287 q287
         cases e287
         replace p287 := eq_true p287
         replace q287 := eq_true q287
         go_wp2
         go_roundg kj8
         case measure => have := HK1.out; have := HJ4.out; have := HJ8.out; omega
         case rel => exact ⟨(x9_1), (x10_1), (x11_1), (true), (wrap64 (x13_1 + 1)), (by first | rfl | (simp; done) | (simp [*]; done)), (by first | rfl | (simp; done) | (simp [*]; done)), (by first | rfl | (simp; done) | (simp [*]; done)), (by first | rfl | (simp; done) | (simp [*]; done)), (by first | rfl | (simp; done) | (simp [*]; done)), H', ⟨by have := HK1.out; have := HJ4.out; have := HJ8.out; omega⟩, by repeat (first | exact qU.refl _ | apply qU.step)⟩
        rw [if_pos c21] at H
        have c21b0 : (((qc l0 x13_1).f0) == 2) = true := beq_iff_eq.mpr c21
        have c21b1 : (((qc l0 x13_1).f0) != 2) = false := bne_eq_false_iff_eq.mpr c21
        clear c21
        have H' := qa.mk H
        clear H
        have p287 : 0 ≤ (x13_1 : Int) := odt
        have q287 : x13_1 < (l0.length : Int) := odt
        obtain ⟨ad287, e287, hx287_0, hx287_1, hx287_2, hx287_3, hx287_4, hx287_5⟩ := zt HR0.out x13_1 p287 q287
        cases e287
        replace p287 := eq_true p287
        replace q287 := eq_true q287
        have p288 : 0 ≤ (x13_1 : Int) := odt
        have q288 : x13_1 < (l0.length : Int) := odt
        obtain ⟨ad288, e288, hx288_0, hx288_1, hx288_2, hx288_3, hx288_4, hx288_5⟩ := zt HR0.out x13_1 p288 q288
        obtain rfl : ad287 = ad288 := (by injection e288)
        replace p288 := eq_true p288
        replace q288 := eq_true q288
        have p289 : 0 ≤ (x13_1 : Int) := odt
        have q289 : x13_1 < (l0.length : Int) := odt
        obtain ⟨ad289, e289, hx289_0, hx289_1, hx289_2, hx289_3, hx289_4, hx289_5⟩ := zt HR0.out x13_1 p289 q289
        obtain rfl : ad287 = ad289 := (by injection e289)
        replace p289 := eq_true p289
        replace q289 := eq_true q289
        go_wp2
        go_roundg kj8
        case measure => have := HK1.out; have := HJ4.out; have := HJ8.out; omega
        case rel => exact ⟨(x9_1), (wrap64 (x10_1 + ((qc l0 x13_1).f2))), (wrap64 (x11_1 + ((qc l0 x13_1).f3))), (true), (wrap64 (x13_1 + 1)), (by first | rfl | (simp; done) | (simp [*]; done)), (by first | rfl | (simp; done) | (simp [*]; done)), (by first | rfl | (simp; done) | (simp [*]; done)), (by first | rfl | (simp; done) | (simp [*]; done)), (by first | rfl | (simp; done) | (simp [*]; done)), H', ⟨by have := HK1.out; have := HJ4.out; have := HJ8.out; omega⟩, by repeat (first | exact qU.refl _ | apply qU.step)⟩
       subst c13
       have H1 : (if 0 ≤ x13_1 then (if x13_1 < (l0.length : Int) then (if x12_4 = true then (if ((qc l0 x13_1).f0) = 2 then (qF.l0 kj8 l0 a2 (wrap64 (x9_1 + ((qc l0 x13_1).f1))) (wrap64 (x10_1 + ((qc l0 x13_1).f2))) (wrap64 (x11_1 + ((qc l0 x13_1).f3))) x12_4 (wrap64 (x13_1 + 1))) else (qF.l0 kj8 l0 a2 (wrap64 (x9_1 + ((qc l0 x13_1).f1))) x10_1 x11_1 x12_4 (wrap64 (x13_1 + 1)))) else (qF.l0 kj8 l0 a2 (wrap64 (x9_1 + ((qc l0 x13_1).f1))) x10_1 x11_1 x12_4 (wrap64 (x13_1 + 1)))) else (none)) else (none)) = some (r1, r2, r3) := by rw [if_pos rfl] at H; exact H
       clear H
       have H := H1
       clear H1
       by_cases c14 : 0 ≤ x13_1
       case neg =>
        rw [if_neg c14] at H
        exact absurd H (by simp)
       rw [if_pos c14] at H
       have c14b0 : decide (0 ≤ x13_1) = true := decide_eq_true c14
       clear c14
       by_cases c15 : x13_1 < (l0.length : Int)
       case neg =>
        rw [if_neg c15] at H
        exact absurd H (by simp)
       rw [if_pos c15] at H
       have c15b0 : decide (x13_1 < (l0.length : Int)) = true := decide_eq_true c15
       clear c15
       by_cases c16 : x12_4 = true
       case neg =>
        replace c16 := Bool.eq_false_iff.mpr c16
        subst c16
        have H1 : (qF.l0 kj8 l0 a2 (wrap64 (x9_1 + ((qc l0 x13_1).f1))) x10_1 x11_1 false (wrap64 (x13_1 + 1))) = some (r1, r2, r3) := by rw [if_neg (show ¬ (false = true) by decide)] at H; exact H
        clear H
        have H := H1
        clear H1
        have H' := qa.mk H
        clear H
        have p283 : 0 ≤ (x13_1 : Int) := odt
        have q283 : x13_1 < (l0.length : Int) := odt
        obtain ⟨ad283, e283, hx283_0, hx283_1, hx283_2, hx283_3, hx283_4, hx283_5⟩ := zt HR0.out x13_1 p283 q283
        cases e283
        replace p283 := eq_true p283
        replace q283 := eq_true q283
        go_wp2
        go_roundg kj8
        case measure => have := HK1.out; have := HJ4.out; have := HJ8.out; omega
        case rel => exact ⟨(wrap64 (x9_1 + ((qc l0 x13_1).f1))), (x10_1), (x11_1), (false), (wrap64 (x13_1 + 1)), (by first | rfl | (simp; done) | (simp [*]; done)), (by first | rfl | (simp; done) | (simp [*]; done)), (by first | rfl | (simp; done) | (simp [*]; done)), (by first | rfl | (simp; done) | (simp [*]; done)), (by first | rfl | (simp; done) | (simp [*]; done)), H', ⟨by have := HK1.out; have := HJ4.out; have := HJ8.out; omega⟩, by repeat (first | exact qU.refl _ | apply qU.step)⟩
       subst c16
       have H1 : (if ((qc l0 x13_1).f0) = 2 then (qF.l0 kj8 l0 a2 (wrap64 (x9_1 + ((qc l0 x13_1).f1))) (wrap64 (x10_1 + ((qc l0 x13_1).f2))) (wrap64 (x11_1 + ((qc l0 x13_1).f3))) true (wrap64 (x13_1 + 1))) else (qF.l0 kj8 l0 a2 (wrap64 (x9_1 + ((qc l0 x13_1).f1))) x10_1 x11_1 true (wrap64 (x13_1 + 1)))) = some (r1, r2, r3) := by rw [if_pos rfl] at H; exact H
       clear H
       have H := H1
       clear H1
       by_cases c17 : ((qc l0 x13_1).f0) = 2
       case neg =>
        rw [if_neg c17] at H
        have c17b0 : (((qc l0 x13_1).f0) == 2) = false := beq_eq_false_iff_ne.mpr c17
        have c17b1 : (((qc l0 x13_1).f0) != 2) = true := bne_iff_ne.mpr c17
        have H' := qa.mk H
        clear H
        have p283 : 0 ≤ (x13_1 : Int) := odt
        have q283 : x13_1 < (l0.length : Int) := odt
        obtain ⟨ad283, e283, hx283_0, hx283_1, hx283_2, hx283_3, hx283_4, hx283_5⟩ := zt HR0.out x13_1 p283 q283
        cases e283
        replace p283 := eq_true p283
        replace q283 := eq_true q283
        have p284 : 0 ≤ (x13_1 : Int) := odt
        have q284 : x13_1 < (l0.length : Int) := odt
        obtain ⟨ad284, e284, hx284_0, hx284_1, hx284_2, hx284_3, hx284_4, hx284_5⟩ := zt HR0.out x13_1 p284 q284
        obtain rfl : ad283 = ad284 := (by injection e284)
        replace p284 := eq_true p284
        replace q284 := eq_true q284
        go_wp2
        go_roundg kj8
        case measure => have := HK1.out; have := HJ4.out; have := HJ8.out; omega
        case rel => exact ⟨(wrap64 (x9_1 + ((qc l0 x13_1).f1))), (x10_1), (x11_1), (true), (wrap64 (x13_1 + 1)), (by first | rfl | (simp; done) | (simp [*]; done)), (by first | rfl | (simp; done) | (simp [*]; done)), (by first | rfl | (simp; done) | (simp [*]; done)), (by first | rfl | (simp; done) | (simp [*]; done)), (by first | rfl | (simp; done) | (simp [*]; done)), H', ⟨by have := HK1.out; have := HJ4.out; have := HJ8.out; omega⟩, by repeat (first | exact qU.refl _ | apply qU.step)⟩
       rw [if_pos c17] at H
       have c17b0 : (((qc l0 x13_1).f0) == 2) = true := beq_iff_eq.mpr c17
       have c17b1 : (((qc l0 x13_1).f0) != 2) = false := bne_eq_false_iff_eq.mpr c17
       clear c17
       have H' := qa.mk H
       clear H
       have p283 : 0 ≤ (x13_1 : Int) := odt
       have q283 : x13_1 < (l0.length : Int) := odt
       obtain ⟨ad283, e283, hx283_0, hx283_1, hx283_2, hx283_3, hx283_4, hx283_5⟩ := zt HR0.out x13_1 p283 q283
       cases e283
       replace p283 := eq_true p283
       replace q283 := eq_true q283
       have p284 : 0 ≤ (x13_1 : Int) := odt
       have q284 : x13_1 < (l0.length : Int) := odt
       obtain ⟨ad284, e284, hx284_0, hx284_1, hx284_2, hx284_3, hx284_4, hx284_5⟩ := zt HR0.out x13_1 p284 q284
       obtain rfl : ad283 = ad284 := (by injection e284)
       replace p284 := eq_true p284
       replace q284 := eq_true q284
       have p285 : 0 ≤ (x13_1 : Int) := odt
       have q285 : x13_1 < (l0.length : Int) := odt
       obtain ⟨ad285, e285, hx285_0, hx285_1, hx285_2, hx285_3, hx285_4, hx285_5⟩ := zt HR0.out x13_1 p285 q285
       obtain rfl : ad283 = ad285 := (by injection e285)
       replace p285 := eq_true p285
       replace q285 := eq_true q285
       have p286 : 0 ≤ (x13_1 : Int) := odt
       have q286 : x13_1 < (l0.length : Int) := odt
       obtain ⟨ad286, e286, hx286_0, hx286_1, hx286_2, hx286_3, hx286_4, hx286_5⟩ := zt HR0.out x13_1 p286 q286
       obtain rfl : ad283 = ad286 := (by injection e286)
       replace p286 := eq_true p286
       replace q286 := eq_true q286
       go_wp2
       go_roundg kj8
       case measure => have := HK1.out; have := HJ4.out; have := HJ8.out; omega
       case rel => exact ⟨(wrap64 (x9_1 + ((qc l0 x13_1).f1))), (wrap64 (x10_1 + ((qc l0 x13_1).f2))), (wrap64 (x11_1 + ((qc l0 x13_1).f3))), (true), (wrap64 (x13_1 + 1)), (by first | rfl | (simp; done) | (simp [*]; done)), (by first | rfl | (simp; done) | (simp [*]; done)), (by first | rfl | (simp; done) | (simp [*]; done)), (by first | rfl | (simp; done) | (simp [*]; done)), (by first | rfl | (simp; done) | (simp [*]; done)), H', ⟨by have := HK1.out; have := HJ4.out; have := HJ8.out; omega⟩, by repeat (first | exact qU.refl _ | apply qU.step)⟩
end Go.Proofs.Ytfbanppdiglciaa.X
