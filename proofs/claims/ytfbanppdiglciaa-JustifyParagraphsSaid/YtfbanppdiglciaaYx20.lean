-- written by a program of this session (wip/xprint.py) over the kit's print
import Derived.Test.YtfbanppdiglciaaYx0
namespace Go.Proofs.Ytfbanppdiglciaa.Y
open Go.RowKit Go.Proofs.YtfbanppdiglciaaW.PrintWords Go.Proofs.YtfbanppdiglciaaW.PrintLast Go.Proofs.YtfbanppdiglciaaW.PrintMore
attribute [local go_sem] max2_int min2_int max_two min_two max_three min_three max_four min_four   -- for this text's walks alone
set_option linter.unusedVariables false
set_option linter.unusedSimpArgs false

/-! ### serifref19_Line: function 35 -/
mutual
def serifref19_Line.l0 : Nat → List (S31) → Int → Int → Int → Int → Bool → Int → Option (Int × Int × Int)
 | 0, _, _, _, _, _, _, _ => none
 | k + 1, x0, x2, x9, x10, x11, x12, x13 => if x13 < x2 then (if x12 = true then (serifref19_Line.j1 k x0 x2 x9 x10 x11 true x13) else (if 0 ≤ x13 then (if x13 < (x0.length : Int) then (serifref19_Line.j1 k x0 x2 x9 x10 x11 (((rd_T31 x0 x13).f0) == 1) x13) else (none)) else (none))) else (if x2 < (x0.length : Int) then (if 0 ≤ x2 then (if ((rd_T31 x0 x2).f0) = 3 then (some (wrap64 (x9 + ((rd_T31 x0 x2).f1)), x10, x11)) else (some (x9, x10, x11))) else (none)) else (some (x9, x10, x11)))
def serifref19_Line.j1 : Nat → List (S31) → Int → Int → Int → Int → Bool → Int → Option (Int × Int × Int)
 | 0, _, _, _, _, _, _, _ => none
 | k + 1, x0, x2, x9, x10, x11, x12, x13 => if x12 = true then (if 0 ≤ x13 then (if x13 < (x0.length : Int) then (serifref19_Line.j2 k x0 x2 x9 x10 x11 x12 x13 (((rd_T31 x0 x13).f0) != 3)) else (none)) else (none)) else (serifref19_Line.j2 k x0 x2 x9 x10 x11 x12 x13 false)
def serifref19_Line.j2 : Nat → List (S31) → Int → Int → Int → Int → Bool → Int → Bool → Option (Int × Int × Int)
 | 0, _, _, _, _, _, _, _, _ => none
 | k + 1, x0, x2, x9, x10, x11, x12, x13, x38 => if x38 = true then (if 0 ≤ x13 then (if x13 < (x0.length : Int) then (if x12 = true then (if ((rd_T31 x0 x13).f0) = 2 then (serifref19_Line.l0 k x0 x2 (wrap64 (x9 + ((rd_T31 x0 x13).f1))) (wrap64 (x10 + ((rd_T31 x0 x13).f2))) (wrap64 (x11 + ((rd_T31 x0 x13).f3))) x12 (wrap64 (x13 + 1))) else (serifref19_Line.l0 k x0 x2 (wrap64 (x9 + ((rd_T31 x0 x13).f1))) x10 x11 x12 (wrap64 (x13 + 1)))) else (serifref19_Line.l0 k x0 x2 (wrap64 (x9 + ((rd_T31 x0 x13).f1))) x10 x11 x12 (wrap64 (x13 + 1)))) else (none)) else (none)) else (if x12 = true then (if 0 ≤ x13 then (if x13 < (x0.length : Int) then (if ((rd_T31 x0 x13).f0) = 2 then (serifref19_Line.l0 k x0 x2 x9 (wrap64 (x10 + ((rd_T31 x0 x13).f2))) (wrap64 (x11 + ((rd_T31 x0 x13).f3))) x12 (wrap64 (x13 + 1))) else (serifref19_Line.l0 k x0 x2 x9 x10 x11 x12 (wrap64 (x13 + 1)))) else (none)) else (none)) else (serifref19_Line.l0 k x0 x2 x9 x10 x11 x12 (wrap64 (x13 + 1))))
end
def serifref19_Line.f (k : Nat) (l0 : List (S31)) (a1 : Int) (a2 : Int) : Option (Int × Int × Int) := serifref19_Line.l0 k l0 a2 0 0 0 false (wrap64 (a1 + 1))
theorem serifref19_Line.mono_l : ∀ k, (∀ y0 y1 y2 y3 y4 y5 y6, LeO (serifref19_Line.l0 k y0 y1 y2 y3 y4 y5 y6) (serifref19_Line.l0 (k + 1) y0 y1 y2 y3 y4 y5 y6)) ∧ (∀ y0 y1 y2 y3 y4 y5 y6, LeO (serifref19_Line.j1 k y0 y1 y2 y3 y4 y5 y6) (serifref19_Line.j1 (k + 1) y0 y1 y2 y3 y4 y5 y6)) ∧ (∀ y0 y1 y2 y3 y4 y5 y6 y7, LeO (serifref19_Line.j2 k y0 y1 y2 y3 y4 y5 y6 y7) (serifref19_Line.j2 (k + 1) y0 y1 y2 y3 y4 y5 y6 y7))
 | 0 => ⟨fun _ _ _ _ _ _ _ r h => by simp [serifref19_Line.l0] at h, fun _ _ _ _ _ _ _ r h => by simp [serifref19_Line.j1] at h, fun _ _ _ _ _ _ _ _ r h => by simp [serifref19_Line.j2] at h⟩
 | k + 1 => by
  obtain ⟨ih0, ih1, ih2⟩ := serifref19_Line.mono_l k
  refine ⟨?_, ?_, ?_⟩
  ·intro y0 y1 y2 y3 y4 y5 y6
   unfold serifref19_Line.l0
   repeat' first
   | (with_reducible exact ih0 _ _ _ _ _ _ _)
   | (with_reducible exact ih1 _ _ _ _ _ _ _)
   | (with_reducible exact ih2 _ _ _ _ _ _ _ _)
   | (with_reducible exact LeO.refl _)
   | (with_reducible exact LeO.none _)
   | (with_reducible refine LeO.ite ?_ ?_)
   | (with_reducible refine LeO.bind ?_ (fun _ => ?_))
   | exact ih0 _ _ _ _ _ _ _
   | exact ih1 _ _ _ _ _ _ _
   | exact ih2 _ _ _ _ _ _ _ _
   | exact LeO.none _
   | refine LeO.ite ?_ ?_
   | refine LeO.bind ?_ (fun _ => ?_)
  ·intro y0 y1 y2 y3 y4 y5 y6
   unfold serifref19_Line.j1
   repeat' first
   | (with_reducible exact ih0 _ _ _ _ _ _ _)
   | (with_reducible exact ih1 _ _ _ _ _ _ _)
   | (with_reducible exact ih2 _ _ _ _ _ _ _ _)
   | (with_reducible exact LeO.refl _)
   | (with_reducible exact LeO.none _)
   | (with_reducible refine LeO.ite ?_ ?_)
   | (with_reducible refine LeO.bind ?_ (fun _ => ?_))
   | exact ih0 _ _ _ _ _ _ _
   | exact ih1 _ _ _ _ _ _ _
   | exact ih2 _ _ _ _ _ _ _ _
   | exact LeO.none _
   | refine LeO.ite ?_ ?_
   | refine LeO.bind ?_ (fun _ => ?_)
  ·intro y0 y1 y2 y3 y4 y5 y6 y7
   unfold serifref19_Line.j2
   repeat' first
   | (with_reducible exact ih0 _ _ _ _ _ _ _)
   | (with_reducible exact ih1 _ _ _ _ _ _ _)
   | (with_reducible exact ih2 _ _ _ _ _ _ _ _)
   | (with_reducible exact LeO.refl _)
   | (with_reducible exact LeO.none _)
   | (with_reducible refine LeO.ite ?_ ?_)
   | (with_reducible refine LeO.bind ?_ (fun _ => ?_))
   | exact ih0 _ _ _ _ _ _ _
   | exact ih1 _ _ _ _ _ _ _
   | exact ih2 _ _ _ _ _ _ _ _
   | exact LeO.none _
   | refine LeO.ite ?_ ?_
   | refine LeO.bind ?_ (fun _ => ?_)
theorem serifref19_Line.mono : ∀ a0 a1 a2 k, LeO (serifref19_Line.f k a0 a1 a2) (serifref19_Line.f (k + 1) a0 a1 a2) := by
 intro a0 a1 a2 k
 obtain ⟨ih0, ih1, ih2⟩ := serifref19_Line.mono_l k
 unfold serifref19_Line.f
 repeat' first
   | (with_reducible exact ih0 _ _ _ _ _ _ _)
   | (with_reducible exact ih1 _ _ _ _ _ _ _)
   | (with_reducible exact ih2 _ _ _ _ _ _ _ _)
   | (with_reducible exact LeO.refl _)
   | (with_reducible exact LeO.none _)
   | (with_reducible refine LeO.ite ?_ ?_)
   | (with_reducible refine LeO.bind ?_ (fun _ => ?_))
   | exact ih0 _ _ _ _ _ _ _
   | exact ih1 _ _ _ _ _ _ _
   | exact ih2 _ _ _ _ _ _ _ _
   | exact LeO.none _
   | refine LeO.ite ?_ ?_
   | refine LeO.bind ?_ (fun _ => ?_)
set_option maxHeartbeats 8000000 in
set_option maxRecDepth 100000 in
theorem serifref19_Line.calls (k : Nat) (A0 : Option Addr) (c0 : Nat) (l0 : List (S31)) (a1 : Int) (a2 : Int) (r1 : Int) (r2 : Int) (r3 : Int) (w : World) (hr0 : Kd.C k31 w A0 l0.length l0) (hc0 : l0.length ≤ c0) (h : serifref19_Line.f k l0 a1 a2 = some (r1, r2, r3)) :
  Calls Try.prog 35 #[.slice A0 l0.length c0, .int .i64 a1, .int .i64 a2] w fun e w' => e = .returned (.tuple #[.int .i64 r1, .int .i64 r2, .int .i64 r3]) ∧ Drawn0 w w' := by
 have HR0 := Aside0.mk hr0
 have HC0 := Aside0.mk hc0
 clear hr0 hc0
 have H : (serifref19_Line.l0 k l0 a2 0 0 0 false (wrap64 (a1 + 1))) = some (r1, r2, r3) := h
 clear h
 have H' := Aside0.mk H
 clear H
 go_enter Try.func35, Try.ntmps35
 go_wp2
 go_loopg [9, 10, 11, 12, 13] k (fun kq v9 v10 v11 v12 v13 w' => ∃ (x9_1 : Int) (x10_1 : Int) (x11_1 : Int) (x12_1 : Bool) (x13_1 : Int), v9 = .int .i64 x9_1 ∧ v10 = .int .i64 x10_1 ∧ v11 = .int .i64 x11_1 ∧ v12 = .bool x12_1 ∧ v13 = .int .i64 x13_1 ∧ Aside0 (serifref19_Line.l0 kq l0 a2 x9_1 x10_1 x11_1 x12_1 x13_1 = some (r1, r2, r3)) ∧ Aside0 (kq ≤ k) ∧ Drawn0 w w')
 case atStart => exact ⟨(0), (0), (0), (false), (wrap64 (a1 + 1)), (by first | rfl | (simp; done) | (simp [*]; done)), (by first | rfl | (simp; done) | (simp [*]; done)), (by first | rfl | (simp; done) | (simp [*]; done)), (by first | rfl | (simp; done) | (simp [*]; done)), (by first | rfl | (simp; done) | (simp [*]; done)), H', ⟨Nat.le_refl _⟩, by repeat (first | exact Drawn0.refl _ | apply Drawn0.step)⟩
 case round =>
  clear H'
  try clear p2
  try clear c3
  obtain ⟨x9_1, x10_1, x11_1, x12_1, x13_1, rfl, rfl, rfl, rfl, rfl, HA, HK1, ⟨m1, rfl⟩⟩ := hrel
  cases gk with
  | zero => exact absurd HA.out (by simp [serifref19_Line.l0])
  | succ k1 =>
   have H := HA.out
   clear HA
   simp only [serifref19_Line.l0] at H
   by_cases c4 : x13_1 < a2
   ·rw [if_pos c4] at H
    have c4b0 : decide (x13_1 < a2) = true := decide_eq_true c4
    clear c4
    have HC5 := Aside0.mk H
    clear H
    go_upto_region 6 with (fail)
    go_cut [12] (fun v12 wc => ∃ (kq : Nat) (x12_4 : Bool), v12 = .bool x12_4 ∧ Aside0 (serifref19_Line.j1 kq l0 a2 x9_1 x10_1 x11_1 x12_4 x13_1 = some (r1, r2, r3)) ∧ Aside0 (kq ≤ k1) ∧ Drawn0 w wc)
    case first =>
     have H := HC5.out
     clear HC5
     by_cases c6 : x12_1 = true
     ·subst c6
      have H1 : (serifref19_Line.j1 k1 l0 a2 x9_1 x10_1 x11_1 true x13_1) = some (r1, r2, r3) := by rw [if_pos rfl] at H; exact H
      clear H
      have H := H1
      clear H1
      have H' := Aside0.mk H
      clear H
      go_wp2
      go_meet
      case rel => exact ⟨_, (true), (by first | rfl | (simp; done) | (simp [*]; done)), H', ⟨by have := HK1.out; first | omega | exact Nat.le_refl _⟩, by repeat (first | exact Drawn0.refl _ | apply Drawn0.step)⟩
     ·replace c6 := Bool.eq_false_iff.mpr c6
      subst c6
      have H1 : (if 0 ≤ x13_1 then (if x13_1 < (l0.length : Int) then (serifref19_Line.j1 k1 l0 a2 x9_1 x10_1 x11_1 (((rd_T31 l0 x13_1).f0) == 1) x13_1) else (none)) else (none)) = some (r1, r2, r3) := by rw [if_neg (show ¬ (false = true) by decide)] at H; exact H
      clear H
      have H := H1
      clear H1
      by_cases c7 : 0 ≤ x13_1
      ·rw [if_pos c7] at H
       have c7b0 : decide (0 ≤ x13_1) = true := decide_eq_true c7
       clear c7
       (first | rw [c7b0] | (simp only [i64_w, i32_w]; rw [c7b0]) | skip)
       by_cases c8 : x13_1 < (l0.length : Int)
       ·rw [if_pos c8] at H
        have c8b0 : decide (x13_1 < (l0.length : Int)) = true := decide_eq_true c8
        clear c8
        have H' := Aside0.mk H
        clear H
        have p141 : 0 ≤ (x13_1 : Int) := odt
        have q141 : x13_1 < (l0.length : Int) := odt
        obtain ⟨ad141, e141, hx141_0, hx141_1, hx141_2, hx141_3, hx141_4, hx141_5⟩ := at_T31 HR0.out x13_1 p141 q141
        cases e141
        replace p141 := eq_true p141
        replace q141 := eq_true q141
        go_wp2
        go_meet
        case rel => exact ⟨_, ((((rd_T31 l0 x13_1).f0) == 1)), (by first | rfl | (simp; done) | (simp [*]; done)), H', ⟨by have := HK1.out; first | omega | exact Nat.le_refl _⟩, by repeat (first | exact Drawn0.refl _ | apply Drawn0.step)⟩
       ·rw [if_neg c8] at H
        exact absurd H (by simp)
      ·rw [if_neg c7] at H
       exact absurd H (by simp)
    case rest =>
     clear HC5
     try clear p1
     try clear q1
     try clear hx1
     try clear p2
     try clear c3
     try clear c4
     try clear c4b0
     try clear c6
     try clear p6
     try clear c7
     try clear c7b0
     try clear c8
     try clear c8b0
     try clear hx141_0
     try clear hx141_1
     try clear hx141_2
     try clear hx141_3
     try clear hx141_4
     try clear hx141_5
     try clear p141
     try clear p2
     try clear q141
     obtain ⟨kq, x12_4, rfl, HA, HJ4, ⟨mc4, rfl⟩⟩ := hcut
     cases kq with
     | zero => exact absurd HA.out (by simp [serifref19_Line.j1])
     | succ kj4 =>
      have H := HA.out
      clear HA
      simp only [serifref19_Line.j1] at H
      have HC9 := Aside0.mk H
      clear H
      go_upto_region 7 with (fail)
      go_cut [38] (fun v38 wc => ∃ (kq : Nat) (x38_8 : Bool), v38 = .bool x38_8 ∧ Aside0 (serifref19_Line.j2 kq l0 a2 x9_1 x10_1 x11_1 x12_4 x13_1 x38_8 = some (r1, r2, r3)) ∧ Aside0 (kq ≤ kj4) ∧ Drawn0 w wc)
      case first =>
       have H := HC9.out
       clear HC9
       by_cases c10 : x12_4 = true
       ·subst c10
        have H1 : (if 0 ≤ x13_1 then (if x13_1 < (l0.length : Int) then (serifref19_Line.j2 kj4 l0 a2 x9_1 x10_1 x11_1 true x13_1 (((rd_T31 l0 x13_1).f0) != 3)) else (none)) else (none)) = some (r1, r2, r3) := by rw [if_pos rfl] at H; exact H
        clear H
        have H := H1
        clear H1
        by_cases c11 : 0 ≤ x13_1
        ·rw [if_pos c11] at H
         have c11b0 : decide (0 ≤ x13_1) = true := decide_eq_true c11
         clear c11
         (first | rw [c11b0] | (simp only [i64_w, i32_w]; rw [c11b0]) | skip)
         by_cases c12 : x13_1 < (l0.length : Int)
         ·rw [if_pos c12] at H
          have c12b0 : decide (x13_1 < (l0.length : Int)) = true := decide_eq_true c12
          clear c12
          have H' := Aside0.mk H
          clear H
          have p142 : 0 ≤ (x13_1 : Int) := odt
          have q142 : x13_1 < (l0.length : Int) := odt
          obtain ⟨ad142, e142, hx142_0, hx142_1, hx142_2, hx142_3, hx142_4, hx142_5⟩ := at_T31 HR0.out x13_1 p142 q142
          cases e142
          replace p142 := eq_true p142
          replace q142 := eq_true q142
          go_wp2
          go_meet
          case rel => exact ⟨_, ((((rd_T31 l0 x13_1).f0) != 3)), (by first | rfl | (simp; done) | (simp [*]; done)), H', ⟨by have := HK1.out; have := HJ4.out; first | omega | exact Nat.le_refl _⟩, by repeat (first | exact Drawn0.refl _ | apply Drawn0.step)⟩
         ·rw [if_neg c12] at H
          exact absurd H (by simp)
        ·rw [if_neg c11] at H
         exact absurd H (by simp)
       ·replace c10 := Bool.eq_false_iff.mpr c10
        subst c10
        have H1 : (serifref19_Line.j2 kj4 l0 a2 x9_1 x10_1 x11_1 false x13_1 false) = some (r1, r2, r3) := by rw [if_neg (show ¬ (false = true) by decide)] at H; exact H
        clear H
        have H := H1
        clear H1
        have H' := Aside0.mk H
        clear H
        go_wp2
        go_meet
        case rel => exact ⟨_, (false), (by first | rfl | (simp; done) | (simp [*]; done)), H', ⟨by have := HK1.out; have := HJ4.out; first | omega | exact Nat.le_refl _⟩, by repeat (first | exact Drawn0.refl _ | apply Drawn0.step)⟩
      case rest =>
       clear HC9
       try clear c1
       try clear p1
       try clear q1
       try clear hx1
       try clear p2
       try clear c3
       try clear c4
       try clear c4b0
       try clear c6
       try clear p6
       try clear c7
       try clear c7b0
       try clear c8
       try clear c8b0
       try clear c10
       try clear c11
       try clear c11b0
       try clear c12
       try clear c12b0
       try clear hx141_0
       try clear hx141_1
       try clear hx141_2
       try clear hx141_3
       try clear hx141_4
       try clear hx141_5
       try clear hx142_0
       try clear hx142_1
       try clear hx142_2
       try clear hx142_3
       try clear hx142_4
       try clear hx142_5
       try clear p1
       try clear p141
       try clear p142
       try clear p2
       try clear p6
       try clear q1
       try clear q141
       try clear q142
       obtain ⟨kq, x38_8, rfl, HA, HJ8, ⟨mc8, rfl⟩⟩ := hcut
       cases kq with
       | zero => exact absurd HA.out (by simp [serifref19_Line.j2])
       | succ kj8 =>
        have H := HA.out
        clear HA
        simp only [serifref19_Line.j2] at H
        by_cases c13 : x38_8 = true
        ·subst c13
         have H1 : (if 0 ≤ x13_1 then (if x13_1 < (l0.length : Int) then (if x12_4 = true then (if ((rd_T31 l0 x13_1).f0) = 2 then (serifref19_Line.l0 kj8 l0 a2 (wrap64 (x9_1 + ((rd_T31 l0 x13_1).f1))) (wrap64 (x10_1 + ((rd_T31 l0 x13_1).f2))) (wrap64 (x11_1 + ((rd_T31 l0 x13_1).f3))) x12_4 (wrap64 (x13_1 + 1))) else (serifref19_Line.l0 kj8 l0 a2 (wrap64 (x9_1 + ((rd_T31 l0 x13_1).f1))) x10_1 x11_1 x12_4 (wrap64 (x13_1 + 1)))) else (serifref19_Line.l0 kj8 l0 a2 (wrap64 (x9_1 + ((rd_T31 l0 x13_1).f1))) x10_1 x11_1 x12_4 (wrap64 (x13_1 + 1)))) else (none)) else (none)) = some (r1, r2, r3) := by rw [if_pos rfl] at H; exact H
         clear H
         have H := H1
         clear H1
         by_cases c14 : 0 ≤ x13_1
         ·rw [if_pos c14] at H
          have c14b0 : decide (0 ≤ x13_1) = true := decide_eq_true c14
          clear c14
          by_cases c15 : x13_1 < (l0.length : Int)
          ·rw [if_pos c15] at H
           have c15b0 : decide (x13_1 < (l0.length : Int)) = true := decide_eq_true c15
           clear c15
           by_cases c16 : x12_4 = true
           ·subst c16
            have H1 : (if ((rd_T31 l0 x13_1).f0) = 2 then (serifref19_Line.l0 kj8 l0 a2 (wrap64 (x9_1 + ((rd_T31 l0 x13_1).f1))) (wrap64 (x10_1 + ((rd_T31 l0 x13_1).f2))) (wrap64 (x11_1 + ((rd_T31 l0 x13_1).f3))) true (wrap64 (x13_1 + 1))) else (serifref19_Line.l0 kj8 l0 a2 (wrap64 (x9_1 + ((rd_T31 l0 x13_1).f1))) x10_1 x11_1 true (wrap64 (x13_1 + 1)))) = some (r1, r2, r3) := by rw [if_pos rfl] at H; exact H
            clear H
            have H := H1
            clear H1
            by_cases c17 : ((rd_T31 l0 x13_1).f0) = 2
            ·rw [if_pos c17] at H
             have c17b0 : (((rd_T31 l0 x13_1).f0) == 2) = true := beq_iff_eq.mpr c17
             have c17b1 : (((rd_T31 l0 x13_1).f0) != 2) = false := bne_eq_false_iff_eq.mpr c17
             clear c17
             have H' := Aside0.mk H
             clear H
             have p143 : 0 ≤ (x13_1 : Int) := odt
             have q143 : x13_1 < (l0.length : Int) := odt
             obtain ⟨ad143, e143, hx143_0, hx143_1, hx143_2, hx143_3, hx143_4, hx143_5⟩ := at_T31 HR0.out x13_1 p143 q143
             cases e143
             replace p143 := eq_true p143
             replace q143 := eq_true q143
             have p144 : 0 ≤ (x13_1 : Int) := odt
             have q144 : x13_1 < (l0.length : Int) := odt
             obtain ⟨ad144, e144, hx144_0, hx144_1, hx144_2, hx144_3, hx144_4, hx144_5⟩ := at_T31 HR0.out x13_1 p144 q144
             obtain rfl : ad143 = ad144 := (by injection e144)
             replace p144 := eq_true p144
             replace q144 := eq_true q144
             have p145 : 0 ≤ (x13_1 : Int) := odt
             have q145 : x13_1 < (l0.length : Int) := odt
             obtain ⟨ad145, e145, hx145_0, hx145_1, hx145_2, hx145_3, hx145_4, hx145_5⟩ := at_T31 HR0.out x13_1 p145 q145
             obtain rfl : ad143 = ad145 := (by injection e145)
             replace p145 := eq_true p145
             replace q145 := eq_true q145
             have p146 : 0 ≤ (x13_1 : Int) := odt
             have q146 : x13_1 < (l0.length : Int) := odt
             obtain ⟨ad146, e146, hx146_0, hx146_1, hx146_2, hx146_3, hx146_4, hx146_5⟩ := at_T31 HR0.out x13_1 p146 q146
             obtain rfl : ad143 = ad146 := (by injection e146)
             replace p146 := eq_true p146
             replace q146 := eq_true q146
             go_wp2
             go_roundg kj8
             case measure => have := HK1.out; have := HJ4.out; have := HJ8.out; omega
             case rel => exact ⟨(wrap64 (x9_1 + ((rd_T31 l0 x13_1).f1))), (wrap64 (x10_1 + ((rd_T31 l0 x13_1).f2))), (wrap64 (x11_1 + ((rd_T31 l0 x13_1).f3))), (true), (wrap64 (x13_1 + 1)), (by first | rfl | (simp; done) | (simp [*]; done)), (by first | rfl | (simp; done) | (simp [*]; done)), (by first | rfl | (simp; done) | (simp [*]; done)), (by first | rfl | (simp; done) | (simp [*]; done)), (by first | rfl | (simp; done) | (simp [*]; done)), H', ⟨by have := HK1.out; have := HJ4.out; have := HJ8.out; omega⟩, by repeat (first | exact Drawn0.refl _ | apply Drawn0.step)⟩
            ·rw [if_neg c17] at H
             have c17b0 : (((rd_T31 l0 x13_1).f0) == 2) = false := beq_eq_false_iff_ne.mpr c17
             have c17b1 : (((rd_T31 l0 x13_1).f0) != 2) = true := bne_iff_ne.mpr c17
             have H' := Aside0.mk H
             clear H
             have p143 : 0 ≤ (x13_1 : Int) := odt
             have q143 : x13_1 < (l0.length : Int) := odt
             obtain ⟨ad143, e143, hx143_0, hx143_1, hx143_2, hx143_3, hx143_4, hx143_5⟩ := at_T31 HR0.out x13_1 p143 q143
             cases e143
             replace p143 := eq_true p143
             replace q143 := eq_true q143
             have p144 : 0 ≤ (x13_1 : Int) := odt
             have q144 : x13_1 < (l0.length : Int) := odt
             obtain ⟨ad144, e144, hx144_0, hx144_1, hx144_2, hx144_3, hx144_4, hx144_5⟩ := at_T31 HR0.out x13_1 p144 q144
             obtain rfl : ad143 = ad144 := (by injection e144)
             replace p144 := eq_true p144
             replace q144 := eq_true q144
             go_wp2
             go_roundg kj8
             case measure => have := HK1.out; have := HJ4.out; have := HJ8.out; omega
             case rel => exact ⟨(wrap64 (x9_1 + ((rd_T31 l0 x13_1).f1))), (x10_1), (x11_1), (true), (wrap64 (x13_1 + 1)), (by first | rfl | (simp; done) | (simp [*]; done)), (by first | rfl | (simp; done) | (simp [*]; done)), (by first | rfl | (simp; done) | (simp [*]; done)), (by first | rfl | (simp; done) | (simp [*]; done)), (by first | rfl | (simp; done) | (simp [*]; done)), H', ⟨by have := HK1.out; have := HJ4.out; have := HJ8.out; omega⟩, by repeat (first | exact Drawn0.refl _ | apply Drawn0.step)⟩
           ·replace c16 := Bool.eq_false_iff.mpr c16
            subst c16
            have H1 : (serifref19_Line.l0 kj8 l0 a2 (wrap64 (x9_1 + ((rd_T31 l0 x13_1).f1))) x10_1 x11_1 false (wrap64 (x13_1 + 1))) = some (r1, r2, r3) := by rw [if_neg (show ¬ (false = true) by decide)] at H; exact H
            clear H
            have H := H1
            clear H1
            have H' := Aside0.mk H
            clear H
            have p143 : 0 ≤ (x13_1 : Int) := odt
            have q143 : x13_1 < (l0.length : Int) := odt
            obtain ⟨ad143, e143, hx143_0, hx143_1, hx143_2, hx143_3, hx143_4, hx143_5⟩ := at_T31 HR0.out x13_1 p143 q143
            cases e143
            replace p143 := eq_true p143
            replace q143 := eq_true q143
            go_wp2
            go_roundg kj8
            case measure => have := HK1.out; have := HJ4.out; have := HJ8.out; omega
            case rel => exact ⟨(wrap64 (x9_1 + ((rd_T31 l0 x13_1).f1))), (x10_1), (x11_1), (false), (wrap64 (x13_1 + 1)), (by first | rfl | (simp; done) | (simp [*]; done)), (by first | rfl | (simp; done) | (simp [*]; done)), (by first | rfl | (simp; done) | (simp [*]; done)), (by first | rfl | (simp; done) | (simp [*]; done)), (by first | rfl | (simp; done) | (simp [*]; done)), H', ⟨by have := HK1.out; have := HJ4.out; have := HJ8.out; omega⟩, by repeat (first | exact Drawn0.refl _ | apply Drawn0.step)⟩
          ·rw [if_neg c15] at H
           exact absurd H (by simp)
         ·rw [if_neg c14] at H
          exact absurd H (by simp)
        ·replace c13 := Bool.eq_false_iff.mpr c13
         subst c13
         have H1 : (if x12_4 = true then (if 0 ≤ x13_1 then (if x13_1 < (l0.length : Int) then (if ((rd_T31 l0 x13_1).f0) = 2 then (serifref19_Line.l0 kj8 l0 a2 x9_1 (wrap64 (x10_1 + ((rd_T31 l0 x13_1).f2))) (wrap64 (x11_1 + ((rd_T31 l0 x13_1).f3))) x12_4 (wrap64 (x13_1 + 1))) else (serifref19_Line.l0 kj8 l0 a2 x9_1 x10_1 x11_1 x12_4 (wrap64 (x13_1 + 1)))) else (none)) else (none)) else (serifref19_Line.l0 kj8 l0 a2 x9_1 x10_1 x11_1 x12_4 (wrap64 (x13_1 + 1)))) = some (r1, r2, r3) := by rw [if_neg (show ¬ (false = true) by decide)] at H; exact H
         clear H
         have H := H1
         clear H1
         by_cases c18 : x12_4 = true
         ·subst c18
          have H1 : (if 0 ≤ x13_1 then (if x13_1 < (l0.length : Int) then (if ((rd_T31 l0 x13_1).f0) = 2 then (serifref19_Line.l0 kj8 l0 a2 x9_1 (wrap64 (x10_1 + ((rd_T31 l0 x13_1).f2))) (wrap64 (x11_1 + ((rd_T31 l0 x13_1).f3))) true (wrap64 (x13_1 + 1))) else (serifref19_Line.l0 kj8 l0 a2 x9_1 x10_1 x11_1 true (wrap64 (x13_1 + 1)))) else (none)) else (none)) = some (r1, r2, r3) := by rw [if_pos rfl] at H; exact H
          clear H
          have H := H1
          clear H1
          by_cases c19 : 0 ≤ x13_1
          ·rw [if_pos c19] at H
           have c19b0 : decide (0 ≤ x13_1) = true := decide_eq_true c19
           clear c19
           by_cases c20 : x13_1 < (l0.length : Int)
           ·rw [if_pos c20] at H
            have c20b0 : decide (x13_1 < (l0.length : Int)) = true := decide_eq_true c20
            clear c20
            by_cases c21 : ((rd_T31 l0 x13_1).f0) = 2
            ·rw [if_pos c21] at H
             have c21b0 : (((rd_T31 l0 x13_1).f0) == 2) = true := beq_iff_eq.mpr c21
             have c21b1 : (((rd_T31 l0 x13_1).f0) != 2) = false := bne_eq_false_iff_eq.mpr c21
             clear c21
             have H' := Aside0.mk H
             clear H
             have p147 : 0 ≤ (x13_1 : Int) := odt
             have q147 : x13_1 < (l0.length : Int) := odt
             obtain ⟨ad147, e147, hx147_0, hx147_1, hx147_2, hx147_3, hx147_4, hx147_5⟩ := at_T31 HR0.out x13_1 p147 q147
             cases e147
             replace p147 := eq_true p147
             replace q147 := eq_true q147
             have p148 : 0 ≤ (x13_1 : Int) := odt
             have q148 : x13_1 < (l0.length : Int) := odt
             obtain ⟨ad148, e148, hx148_0, hx148_1, hx148_2, hx148_3, hx148_4, hx148_5⟩ := at_T31 HR0.out x13_1 p148 q148
             obtain rfl : ad147 = ad148 := (by injection e148)
             replace p148 := eq_true p148
             replace q148 := eq_true q148
             have p149 : 0 ≤ (x13_1 : Int) := odt
             have q149 : x13_1 < (l0.length : Int) := odt
             obtain ⟨ad149, e149, hx149_0, hx149_1, hx149_2, hx149_3, hx149_4, hx149_5⟩ := at_T31 HR0.out x13_1 p149 q149
             obtain rfl : ad147 = ad149 := (by injection e149)
             replace p149 := eq_true p149
             replace q149 := eq_true q149
             go_wp2
             go_roundg kj8
             case measure => have := HK1.out; have := HJ4.out; have := HJ8.out; omega
             case rel => exact ⟨(x9_1), (wrap64 (x10_1 + ((rd_T31 l0 x13_1).f2))), (wrap64 (x11_1 + ((rd_T31 l0 x13_1).f3))), (true), (wrap64 (x13_1 + 1)), (by first | rfl | (simp; done) | (simp [*]; done)), (by first | rfl | (simp; done) | (simp [*]; done)), (by first | rfl | (simp; done) | (simp [*]; done)), (by first | rfl | (simp; done) | (simp [*]; done)), (by first | rfl | (simp; done) | (simp [*]; done)), H', ⟨by have := HK1.out; have := HJ4.out; have := HJ8.out; omega⟩, by repeat (first | exact Drawn0.refl _ | apply Drawn0.step)⟩
            ·rw [if_neg c21] at H
             have c21b0 : (((rd_T31 l0 x13_1).f0) == 2) = false := beq_eq_false_iff_ne.mpr c21
             have c21b1 : (((rd_T31 l0 x13_1).f0) != 2) = true := bne_iff_ne.mpr c21
             have H' := Aside0.mk H
             clear H
             have p147 : 0 ≤ (x13_1 : Int) := odt
             have q147 : x13_1 < (l0.length : Int) := odt
             obtain ⟨ad147, e147, hx147_0, hx147_1, hx147_2, hx147_3, hx147_4, hx147_5⟩ := at_T31 HR0.out x13_1 p147 q147
             cases e147
             replace p147 := eq_true p147
             replace q147 := eq_true q147
             go_wp2
             go_roundg kj8
             case measure => have := HK1.out; have := HJ4.out; have := HJ8.out; omega
             case rel => exact ⟨(x9_1), (x10_1), (x11_1), (true), (wrap64 (x13_1 + 1)), (by first | rfl | (simp; done) | (simp [*]; done)), (by first | rfl | (simp; done) | (simp [*]; done)), (by first | rfl | (simp; done) | (simp [*]; done)), (by first | rfl | (simp; done) | (simp [*]; done)), (by first | rfl | (simp; done) | (simp [*]; done)), H', ⟨by have := HK1.out; have := HJ4.out; have := HJ8.out; omega⟩, by repeat (first | exact Drawn0.refl _ | apply Drawn0.step)⟩
           ·rw [if_neg c20] at H
            exact absurd H (by simp)
          ·rw [if_neg c19] at H
           exact absurd H (by simp)
         ·replace c18 := Bool.eq_false_iff.mpr c18
          subst c18
          have H1 : (serifref19_Line.l0 kj8 l0 a2 x9_1 x10_1 x11_1 false (wrap64 (x13_1 + 1))) = some (r1, r2, r3) := by rw [if_neg (show ¬ (false = true) by decide)] at H; exact H
          clear H
          have H := H1
          clear H1
          have H' := Aside0.mk H
          clear H
          go_wp2
          go_roundg kj8
          case measure => have := HK1.out; have := HJ4.out; have := HJ8.out; omega
          case rel => exact ⟨(x9_1), (x10_1), (x11_1), (false), (wrap64 (x13_1 + 1)), (by first | rfl | (simp; done) | (simp [*]; done)), (by first | rfl | (simp; done) | (simp [*]; done)), (by first | rfl | (simp; done) | (simp [*]; done)), (by first | rfl | (simp; done) | (simp [*]; done)), (by first | rfl | (simp; done) | (simp [*]; done)), H', ⟨by have := HK1.out; have := HJ4.out; have := HJ8.out; omega⟩, by repeat (first | exact Drawn0.refl _ | apply Drawn0.step)⟩
   ·rw [if_neg c4] at H
    have c4b0 : decide (x13_1 < a2) = false := decide_eq_false c4
    clear c4
    by_cases c22 : a2 < (l0.length : Int)
    ·rw [if_pos c22] at H
     have c22b0 : decide (a2 < (l0.length : Int)) = true := decide_eq_true c22
     clear c22
     by_cases c23 : 0 ≤ a2
     ·rw [if_pos c23] at H
      have c23b0 : decide (0 ≤ a2) = true := decide_eq_true c23
      clear c23
      by_cases c24 : ((rd_T31 l0 a2).f0) = 3
      ·rw [if_pos c24] at H
       have c24b0 : (((rd_T31 l0 a2).f0) == 3) = true := beq_iff_eq.mpr c24
       have c24b1 : (((rd_T31 l0 a2).f0) != 3) = false := bne_eq_false_iff_eq.mpr c24
       clear c24
       simp only [Option.some.injEq, Prod.mk.injEq] at H
       obtain ⟨rfl, rfl, rfl⟩ := H
       have p139 : 0 ≤ (a2 : Int) := odt
       have q139 : a2 < (l0.length : Int) := odt
       obtain ⟨ad139, e139, hx139_0, hx139_1, hx139_2, hx139_3, hx139_4, hx139_5⟩ := at_T31 HR0.out a2 p139 q139
       cases e139
       replace p139 := eq_true p139
       replace q139 := eq_true q139
       have p140 : 0 ≤ (a2 : Int) := odt
       have q140 : a2 < (l0.length : Int) := odt
       obtain ⟨ad140, e140, hx140_0, hx140_1, hx140_2, hx140_3, hx140_4, hx140_5⟩ := at_T31 HR0.out a2 p140 q140
       obtain rfl : ad139 = ad140 := (by injection e140)
       replace p140 := eq_true p140
       replace q140 := eq_true q140
       go_wp2
       go_ret3
       exact ⟨by first | rfl | (simp; done) | (simp [*]; done), by repeat (first | exact Drawn0.refl _ | apply Drawn0.step)⟩
      ·rw [if_neg c24] at H
       have c24b0 : (((rd_T31 l0 a2).f0) == 3) = false := beq_eq_false_iff_ne.mpr c24
       have c24b1 : (((rd_T31 l0 a2).f0) != 3) = true := bne_iff_ne.mpr c24
       simp only [Option.some.injEq, Prod.mk.injEq] at H
       obtain ⟨rfl, rfl, rfl⟩ := H
       have p139 : 0 ≤ (a2 : Int) := odt
       have q139 : a2 < (l0.length : Int) := odt
       obtain ⟨ad139, e139, hx139_0, hx139_1, hx139_2, hx139_3, hx139_4, hx139_5⟩ := at_T31 HR0.out a2 p139 q139
       cases e139
       replace p139 := eq_true p139
       replace q139 := eq_true q139
       go_wp2
       go_ret3
       exact ⟨by first | rfl | (simp; done) | (simp [*]; done), by repeat (first | exact Drawn0.refl _ | apply Drawn0.step)⟩
     ·rw [if_neg c23] at H
      exact absurd H (by simp)
    ·rw [if_neg c22] at H
     have c22b0 : decide (a2 < (l0.length : Int)) = false := decide_eq_false c22
     clear c22
     simp only [Option.some.injEq, Prod.mk.injEq] at H
     obtain ⟨rfl, rfl, rfl⟩ := H
     go_wp2
     go_ret3
     exact ⟨by first | rfl | (simp; done) | (simp [*]; done), by repeat (first | exact Drawn0.refl _ | apply Drawn0.step)⟩

end Go.Proofs.Ytfbanppdiglciaa.Y
