-- written by a program of this session (wip/xprint.py) over the kit's print
import Derived.Test.YtchmhcfdamdjdaaGx0
import Derived.Test.YtchmhcfdamdjdaaGx1
namespace Go.Proofs.Ytchmhcfdamdjdaa.G
open Go.RowKit Go.Proofs.YtchmhcfdamdjdaaW.PrintWords Go.Proofs.YtchmhcfdamdjdaaW.PrintLast Go.Proofs.YtchmhcfdamdjdaaW.PrintMore
attribute [local go_sem] max2_int min2_int max_two min_two max_three min_three max_four min_four   -- for this text's walks alone
set_option linter.unusedVariables false
set_option linter.unusedSimpArgs false

attribute [local go_sem high] eqA46
/-! ### serifref06_SameOutline: function 18 -/
mutual
def serifref06_SameOutline.l0 : Nat → List (List (S46)) → List (List (S46)) → Int → Int → Option (Bool)
 | 0, _, _, _, _ => none
 | k + 1, x0, x1, x13, x14 => if x14 < x13 then (if 0 ≤ x14 then (if x14 < (x0.length : Int) then (if x14 < (x1.length : Int) then (if ((rd_L3 x0 x14).length : Int) = ((rd_L3 x1 x14).length : Int) then (serifref06_SameOutline.l1 k x0 x1 x14 x13 x14 ((rd_L3 x0 x14).length : Int) 0) else (some false)) else (none)) else (none)) else (none)) else (some true)
def serifref06_SameOutline.l1 : Nat → List (List (S46)) → List (List (S46)) → Int → Int → Int → Int → Int → Option (Bool)
 | 0, _, _, _, _, _, _, _ => none
 | k + 1, x0, x1, x5, x13, x14, x32, x33 => if x33 < x32 then (if 0 ≤ x5 then (if x5 < (x0.length : Int) then (if 0 ≤ x33 then (if x33 < ((rd_L3 x0 x5).length : Int) then (if x5 < (x1.length : Int) then (if x33 < ((rd_L3 x1 x5).length : Int) then (if (!(((rd_T46 (rd_L3 x0 x5) x33).f0) == ((rd_T46 (rd_L3 x1 x5) x33).f0)) || (!(((rd_T46 (rd_L3 x0 x5) x33).f1) == ((rd_T46 (rd_L3 x1 x5) x33).f1)) || (!(((rd_T46 (rd_L3 x0 x5) x33).f2) == ((rd_T46 (rd_L3 x1 x5) x33).f2))))) = true then (some false) else (serifref06_SameOutline.l1 k x0 x1 x5 x13 x14 x32 (wrap64 (x33 + 1)))) else (none)) else (none)) else (none)) else (none)) else (none)) else (none)) else (serifref06_SameOutline.l0 k x0 x1 x13 (wrap64 (x14 + 1)))
end
def serifref06_SameOutline.f (k : Nat) (l0 : List (List (S46))) (l1 : List (List (S46))) : Option (Bool) := if (l0.length : Int) = (l1.length : Int) then (serifref06_SameOutline.l0 k l0 l1 (l0.length : Int) 0) else (some false)
theorem serifref06_SameOutline.mono_l : ∀ k, (∀ y0 y1 y2 y3, LeO (serifref06_SameOutline.l0 k y0 y1 y2 y3) (serifref06_SameOutline.l0 (k + 1) y0 y1 y2 y3)) ∧ (∀ y0 y1 y2 y3 y4 y5 y6, LeO (serifref06_SameOutline.l1 k y0 y1 y2 y3 y4 y5 y6) (serifref06_SameOutline.l1 (k + 1) y0 y1 y2 y3 y4 y5 y6))
 | 0 => ⟨fun _ _ _ _ r h => by simp [serifref06_SameOutline.l0] at h, fun _ _ _ _ _ _ _ r h => by simp [serifref06_SameOutline.l1] at h⟩
 | k + 1 => by
  obtain ⟨ih0, ih1⟩ := serifref06_SameOutline.mono_l k
  refine ⟨?_, ?_⟩
  ·intro y0 y1 y2 y3
   unfold serifref06_SameOutline.l0
   repeat' first
   | (with_reducible exact ih0 _ _ _ _)
   | (with_reducible exact ih1 _ _ _ _ _ _ _)
   | (with_reducible exact LeO.refl _)
   | (with_reducible exact LeO.none _)
   | (with_reducible refine LeO.ite ?_ ?_)
   | (with_reducible refine LeO.bind ?_ (fun _ => ?_))
   | exact ih0 _ _ _ _
   | exact ih1 _ _ _ _ _ _ _
   | exact LeO.none _
   | refine LeO.ite ?_ ?_
   | refine LeO.bind ?_ (fun _ => ?_)
  ·intro y0 y1 y2 y3 y4 y5 y6
   unfold serifref06_SameOutline.l1
   repeat' first
   | (with_reducible exact ih0 _ _ _ _)
   | (with_reducible exact ih1 _ _ _ _ _ _ _)
   | (with_reducible exact LeO.refl _)
   | (with_reducible exact LeO.none _)
   | (with_reducible refine LeO.ite ?_ ?_)
   | (with_reducible refine LeO.bind ?_ (fun _ => ?_))
   | exact ih0 _ _ _ _
   | exact ih1 _ _ _ _ _ _ _
   | exact LeO.none _
   | refine LeO.ite ?_ ?_
   | refine LeO.bind ?_ (fun _ => ?_)
theorem serifref06_SameOutline.mono : ∀ a0 a1 k, LeO (serifref06_SameOutline.f k a0 a1) (serifref06_SameOutline.f (k + 1) a0 a1) := by
 intro a0 a1 k
 obtain ⟨ih0, ih1⟩ := serifref06_SameOutline.mono_l k
 unfold serifref06_SameOutline.f
 repeat' first
   | (with_reducible exact ih0 _ _ _ _)
   | (with_reducible exact ih1 _ _ _ _ _ _ _)
   | (with_reducible exact LeO.refl _)
   | (with_reducible exact LeO.none _)
   | (with_reducible refine LeO.ite ?_ ?_)
   | (with_reducible refine LeO.bind ?_ (fun _ => ?_))
   | exact ih0 _ _ _ _
   | exact ih1 _ _ _ _ _ _ _
   | exact LeO.none _
   | refine LeO.ite ?_ ?_
   | refine LeO.bind ?_ (fun _ => ?_)
set_option maxHeartbeats 8000000 in
set_option maxRecDepth 100000 in
theorem serifref06_SameOutline.calls (k : Nat) (A0 : Option Addr) (c0 : Nat) (l0 : List (List (S46))) (A1 : Option Addr) (c1 : Nat) (l1 : List (List (S46))) (r : Bool) (w : World) (hr0 : Kd.C (Kd.slice 46 k46) w A0 l0.length l0) (hc0 : l0.length ≤ c0) (hr1 : Kd.C (Kd.slice 46 k46) w A1 l1.length l1) (hc1 : l1.length ≤ c1) (h : serifref06_SameOutline.f k l0 l1 = some r) :
  Calls Try.prog 18 #[.slice A0 l0.length c0, .slice A1 l1.length c1] w fun e w' => e = .returned (.bool r) ∧ Drawn0 w w' := by
 have hu46 := Try.underlying46
 have HR0 := Aside0.mk hr0
 have HC0 := Aside0.mk hc0
 clear hr0 hc0
 have HR1 := Aside0.mk hr1
 have HC1 := Aside0.mk hc1
 clear hr1 hc1
 have H : (if (l0.length : Int) = (l1.length : Int) then (serifref06_SameOutline.l0 k l0 l1 (l0.length : Int) 0) else (some false)) = some r := h
 clear h
 by_cases c3 : (l0.length : Int) = (l1.length : Int)
 ·rw [if_pos c3] at H
  have c3b0 : ((l0.length : Int) == (l1.length : Int)) = true := beq_iff_eq.mpr c3
  have c3b1 : ((l0.length : Int) != (l1.length : Int)) = false := bne_eq_false_iff_eq.mpr c3
  have c3b2 : (l0.length == l1.length) = true := by first | simpa using c3 | (simp at c3 ⊢; omega)
  clear c3
  have H' := Aside0.mk H
  clear H
  go_enter Try.func18, Try.ntmps18
  go_wp2
  repeat (go_quiet (fail); try go_wp2)
  go_loopg [14] k (fun kq v14 w' => ∃ (x14_1 : Int), v14 = .int .i64 x14_1 ∧ Aside0 (serifref06_SameOutline.l0 kq l0 l1 (l0.length : Int) x14_1 = some r) ∧ Aside0 (kq ≤ k) ∧ Drawn0 w w')
  case atStart => exact ⟨(0), (by first | rfl | (simp; done) | (simp [*]; done)), H', ⟨Nat.le_refl _⟩, by repeat (first | exact Drawn0.refl _ | apply Drawn0.step)⟩
  case round =>
   clear H'
   try clear c1
   try clear p2
   try clear c3
   try clear c3b0
   try clear c3b1
   try clear c3b2
   obtain ⟨x14_1, rfl, HA, HK1, ⟨m1, rfl⟩⟩ := hrel
   cases gk with
   | zero => exact absurd HA.out (by simp [serifref06_SameOutline.l0])
   | succ k1 =>
    have H := HA.out
    clear HA
    simp only [serifref06_SameOutline.l0] at H
    by_cases c4 : x14_1 < (l0.length : Int)
    ·rw [if_pos c4] at H
     have c4b0 : decide (x14_1 < (l0.length : Int)) = true := decide_eq_true c4
     clear c4
     by_cases c5 : 0 ≤ x14_1
     ·rw [if_pos c5] at H
      have c5b0 : decide (0 ≤ x14_1) = true := decide_eq_true c5
      clear c5
      by_cases c6 : x14_1 < (l0.length : Int)
      ·rw [if_pos c6] at H
       have c6b0 : decide (x14_1 < (l0.length : Int)) = true := decide_eq_true c6
       clear c6
       by_cases c7 : x14_1 < (l1.length : Int)
       ·rw [if_pos c7] at H
        have c7b0 : decide (x14_1 < (l1.length : Int)) = true := decide_eq_true c7
        clear c7
        by_cases c8 : ((rd_L3 l0 x14_1).length : Int) = ((rd_L3 l1 x14_1).length : Int)
        ·rw [if_pos c8] at H
         have c8b0 : (((rd_L3 l0 x14_1).length : Int) == ((rd_L3 l1 x14_1).length : Int)) = true := beq_iff_eq.mpr c8
         have c8b1 : (((rd_L3 l0 x14_1).length : Int) != ((rd_L3 l1 x14_1).length : Int)) = false := bne_eq_false_iff_eq.mpr c8
         have c8b2 : ((rd_L3 l0 x14_1).length == (rd_L3 l1 x14_1).length) = true := by first | simpa using c8 | (simp at c8 ⊢; omega)
         clear c8
         have H' := Aside0.mk H
         clear H
         have p119 : 0 ≤ (x14_1 : Int) := odt
         have q119 : x14_1 < (l0.length : Int) := odt
         obtain ⟨ad119, A119_0, c119_0, e119, hx119_0, hl119_0, hi119_0⟩ := at_L3 HR0.out x14_1 p119 q119
         cases e119
         have HR119_0 := Aside0.mk hi119_0
         have HC119_0 := Aside0.mk hl119_0
         clear hi119_0 hl119_0
         replace p119 := eq_true p119
         replace q119 := eq_true q119
         have p120 : 0 ≤ (x14_1 : Int) := odt
         have q120 : x14_1 < (l1.length : Int) := odt
         obtain ⟨ad120, A120_0, c120_0, e120, hx120_0, hl120_0, hi120_0⟩ := at_L3 HR1.out x14_1 p120 q120
         cases e120
         have HR120_0 := Aside0.mk hi120_0
         have HC120_0 := Aside0.mk hl120_0
         clear hi120_0 hl120_0
         replace p120 := eq_true p120
         replace q120 := eq_true q120
         have p121 : 0 ≤ (x14_1 : Int) := odt
         have q121 : x14_1 < (l0.length : Int) := odt
         obtain ⟨ad121, A121_0, c121_0, e121, hx121_0, hl121_0, hi121_0⟩ := at_L3 HR0.out x14_1 p121 q121
         obtain rfl : ad119 = ad121 := (by injection e121)
         have HR121_0 := Aside0.mk hi121_0
         have HC121_0 := Aside0.mk hl121_0
         clear hi121_0 hl121_0
         replace p121 := eq_true p121
         replace q121 := eq_true q121
         have ea_ := Option.some.inj (hx119_0.symm.trans hx121_0)
         injection ea_ with ea_ en_ ec_
         subst ea_
         subst ec_
         clear en_
         go_wp2
         repeat (go_quiet (fail); try go_wp2)
         go_loopg [33] k1 (fun kq v33 w' => ∃ (x33_2 : Int), v33 = .int .i64 x33_2 ∧ Aside0 (serifref06_SameOutline.l1 kq l0 l1 x14_1 (l0.length : Int) x14_1 ((rd_L3 l0 x14_1).length : Int) x33_2 = some r) ∧ Aside0 (kq ≤ k1) ∧ Drawn0 w w')
         case atStart => exact ⟨(0), (by first | rfl | (simp; done) | (simp [*]; done)), H', ⟨Nat.le_refl _⟩, by repeat (first | exact Drawn0.refl _ | apply Drawn0.step)⟩
         case round =>
          clear H'
          try clear c1
          try clear p1
          try clear q1
          try clear hx1
          try clear p2
          try clear c3
          try clear c3b0
          try clear c3b1
          try clear c3b2
          try clear c4
          try clear c4b0
          try clear c5
          try clear c5b0
          try clear c6
          try clear c6b0
          try clear c7
          try clear c7b0
          try clear c8
          try clear c8b0
          try clear c8b1
          try clear c8b2
          try clear hx119_0
          try clear hx120_0
          try clear hx121_0
          try clear p119
          try clear p120
          try clear p121
          try clear p2
          try clear q119
          try clear q120
          try clear q121
          obtain ⟨x33_2, rfl, HA, HK2, ⟨m2, rfl⟩⟩ := hrel
          cases gk with
          | zero => exact absurd HA.out (by simp [serifref06_SameOutline.l1])
          | succ k2 =>
           have H := HA.out
           clear HA
           simp only [serifref06_SameOutline.l1] at H
           by_cases c9 : x33_2 < ((rd_L3 l0 x14_1).length : Int)
           ·rw [if_pos c9] at H
            have c9b0 : decide (x33_2 < ((rd_L3 l0 x14_1).length : Int)) = true := decide_eq_true c9
            clear c9
            by_cases c10 : 0 ≤ x14_1
            ·rw [if_pos c10] at H
             have c10b0 : decide (0 ≤ x14_1) = true := decide_eq_true c10
             clear c10
             by_cases c11 : x14_1 < (l0.length : Int)
             ·rw [if_pos c11] at H
              have c11b0 : decide (x14_1 < (l0.length : Int)) = true := decide_eq_true c11
              clear c11
              by_cases c12 : 0 ≤ x33_2
              ·rw [if_pos c12] at H
               have c12b0 : decide (0 ≤ x33_2) = true := decide_eq_true c12
               clear c12
               by_cases c13 : x33_2 < ((rd_L3 l0 x14_1).length : Int)
               ·rw [if_pos c13] at H
                have c13b0 : decide (x33_2 < ((rd_L3 l0 x14_1).length : Int)) = true := decide_eq_true c13
                clear c13
                by_cases c14 : x14_1 < (l1.length : Int)
                ·rw [if_pos c14] at H
                 have c14b0 : decide (x14_1 < (l1.length : Int)) = true := decide_eq_true c14
                 clear c14
                 by_cases c15 : x33_2 < ((rd_L3 l1 x14_1).length : Int)
                 ·rw [if_pos c15] at H
                  have c15b0 : decide (x33_2 < ((rd_L3 l1 x14_1).length : Int)) = true := decide_eq_true c15
                  clear c15
                  by_cases c16 : (!(((rd_T46 (rd_L3 l0 x14_1) x33_2).f0) == ((rd_T46 (rd_L3 l1 x14_1) x33_2).f0)) || (!(((rd_T46 (rd_L3 l0 x14_1) x33_2).f1) == ((rd_T46 (rd_L3 l1 x14_1) x33_2).f1)) || (!(((rd_T46 (rd_L3 l0 x14_1) x33_2).f2) == ((rd_T46 (rd_L3 l1 x14_1) x33_2).f2))))) = true
                  ·rw [if_pos c16] at H
                   have c16b0 : (!(((rd_T46 (rd_L3 l0 x14_1) x33_2).f0) == ((rd_T46 (rd_L3 l1 x14_1) x33_2).f0)) || (!(((rd_T46 (rd_L3 l0 x14_1) x33_2).f1) == ((rd_T46 (rd_L3 l1 x14_1) x33_2).f1)) || (!(((rd_T46 (rd_L3 l0 x14_1) x33_2).f2) == ((rd_T46 (rd_L3 l1 x14_1) x33_2).f2))))) = true := c16
                   clear c16
                   obtain rfl := Option.some.inj H
                   have p122 : 0 ≤ (x14_1 : Int) := odt
                   have q122 : x14_1 < (l0.length : Int) := odt
                   obtain ⟨ad122, A122_0, c122_0, e122, hx122_0, hl122_0, hi122_0⟩ := at_L3 HR0.out x14_1 p122 q122
                   obtain rfl : ad119 = ad122 := (by injection e122)
                   have HR122_0 := Aside0.mk hi122_0
                   have HC122_0 := Aside0.mk hl122_0
                   clear hi122_0 hl122_0
                   replace p122 := eq_true p122
                   replace q122 := eq_true q122
                   have p123 : 0 ≤ (x33_2 : Int) := odt
                   have q123 : x33_2 < ((rd_L3 l0 x14_1).length : Int) := odt
                   obtain ⟨ad123, e123, hx123_0, hx123_1, hx123_2⟩ := at_T46 HR122_0.out x33_2 p123 q123
                   cases e123
                   replace p123 := eq_true p123
                   replace q123 := eq_true q123
                   have p124 : 0 ≤ (x14_1 : Int) := odt
                   have q124 : x14_1 < (l1.length : Int) := odt
                   obtain ⟨ad124, A124_0, c124_0, e124, hx124_0, hl124_0, hi124_0⟩ := at_L3 HR1.out x14_1 p124 q124
                   obtain rfl : ad120 = ad124 := (by injection e124)
                   have HR124_0 := Aside0.mk hi124_0
                   have HC124_0 := Aside0.mk hl124_0
                   clear hi124_0 hl124_0
                   replace p124 := eq_true p124
                   replace q124 := eq_true q124
                   have p125 : 0 ≤ (x33_2 : Int) := odt
                   have q125 : x33_2 < ((rd_L3 l1 x14_1).length : Int) := odt
                   obtain ⟨ad125, e125, hx125_0, hx125_1, hx125_2⟩ := at_T46 HR124_0.out x33_2 p125 q125
                   cases e125
                   replace p125 := eq_true p125
                   replace q125 := eq_true q125
                   go_wp2
                   repeat (go_quiet (fail); try go_wp2)
                   go_ret
                   exact ⟨by first | rfl | (simp; done) | (simp [*]; done), by repeat (first | exact Drawn0.refl _ | apply Drawn0.step)⟩
                  ·rw [if_neg c16] at H
                   have c16b0 : (!(((rd_T46 (rd_L3 l0 x14_1) x33_2).f0) == ((rd_T46 (rd_L3 l1 x14_1) x33_2).f0)) || (!(((rd_T46 (rd_L3 l0 x14_1) x33_2).f1) == ((rd_T46 (rd_L3 l1 x14_1) x33_2).f1)) || (!(((rd_T46 (rd_L3 l0 x14_1) x33_2).f2) == ((rd_T46 (rd_L3 l1 x14_1) x33_2).f2))))) = false := by simpa using c16
                   clear c16
                   have H' := Aside0.mk H
                   clear H
                   have p122 : 0 ≤ (x14_1 : Int) := odt
                   have q122 : x14_1 < (l0.length : Int) := odt
                   obtain ⟨ad122, A122_0, c122_0, e122, hx122_0, hl122_0, hi122_0⟩ := at_L3 HR0.out x14_1 p122 q122
                   obtain rfl : ad119 = ad122 := (by injection e122)
                   have HR122_0 := Aside0.mk hi122_0
                   have HC122_0 := Aside0.mk hl122_0
                   clear hi122_0 hl122_0
                   replace p122 := eq_true p122
                   replace q122 := eq_true q122
                   have p123 : 0 ≤ (x33_2 : Int) := odt
                   have q123 : x33_2 < ((rd_L3 l0 x14_1).length : Int) := odt
                   obtain ⟨ad123, e123, hx123_0, hx123_1, hx123_2⟩ := at_T46 HR122_0.out x33_2 p123 q123
                   cases e123
                   replace p123 := eq_true p123
                   replace q123 := eq_true q123
                   have p124 : 0 ≤ (x14_1 : Int) := odt
                   have q124 : x14_1 < (l1.length : Int) := odt
                   obtain ⟨ad124, A124_0, c124_0, e124, hx124_0, hl124_0, hi124_0⟩ := at_L3 HR1.out x14_1 p124 q124
                   obtain rfl : ad120 = ad124 := (by injection e124)
                   have HR124_0 := Aside0.mk hi124_0
                   have HC124_0 := Aside0.mk hl124_0
                   clear hi124_0 hl124_0
                   replace p124 := eq_true p124
                   replace q124 := eq_true q124
                   have p125 : 0 ≤ (x33_2 : Int) := odt
                   have q125 : x33_2 < ((rd_L3 l1 x14_1).length : Int) := odt
                   obtain ⟨ad125, e125, hx125_0, hx125_1, hx125_2⟩ := at_T46 HR124_0.out x33_2 p125 q125
                   cases e125
                   replace p125 := eq_true p125
                   replace q125 := eq_true q125
                   go_wp2
                   repeat (go_quiet (fail); try go_wp2)
                   go_roundg k2
                   case measure => have := HK1.out; have := HK2.out; omega
                   case rel => exact ⟨(wrap64 (x33_2 + 1)), (by first | rfl | (simp; done) | (simp [*]; done)), H', ⟨by have := HK1.out; have := HK2.out; omega⟩, by repeat (first | exact Drawn0.refl _ | apply Drawn0.step)⟩
                 ·rw [if_neg c15] at H
                  exact absurd H (by simp)
                ·rw [if_neg c14] at H
                 exact absurd H (by simp)
               ·rw [if_neg c13] at H
                exact absurd H (by simp)
              ·rw [if_neg c12] at H
               exact absurd H (by simp)
             ·rw [if_neg c11] at H
              exact absurd H (by simp)
            ·rw [if_neg c10] at H
             exact absurd H (by simp)
           ·rw [if_neg c9] at H
            have c9b0 : decide (x33_2 < ((rd_L3 l0 x14_1).length : Int)) = false := decide_eq_false c9
            clear c9
            have H' := Aside0.mk H
            clear H
            go_wp2
            repeat (go_quiet (fail); try go_wp2)
            go_roundg k2
            case measure => have := HK1.out; have := HK2.out; omega
            case rel => exact ⟨(wrap64 (x14_1 + 1)), (by first | rfl | (simp; done) | (simp [*]; done)), H', ⟨by have := HK1.out; have := HK2.out; omega⟩, by repeat (first | exact Drawn0.refl _ | apply Drawn0.step)⟩
        ·rw [if_neg c8] at H
         have c8b0 : (((rd_L3 l0 x14_1).length : Int) == ((rd_L3 l1 x14_1).length : Int)) = false := beq_eq_false_iff_ne.mpr c8
         have c8b1 : (((rd_L3 l0 x14_1).length : Int) != ((rd_L3 l1 x14_1).length : Int)) = true := bne_iff_ne.mpr c8
         have c8b2 : ((rd_L3 l0 x14_1).length == (rd_L3 l1 x14_1).length) = false := by first | simpa using c8 | (simp at c8 ⊢; omega)
         obtain rfl := Option.some.inj H
         have p119 : 0 ≤ (x14_1 : Int) := odt
         have q119 : x14_1 < (l0.length : Int) := odt
         obtain ⟨ad119, A119_0, c119_0, e119, hx119_0, hl119_0, hi119_0⟩ := at_L3 HR0.out x14_1 p119 q119
         cases e119
         have HR119_0 := Aside0.mk hi119_0
         have HC119_0 := Aside0.mk hl119_0
         clear hi119_0 hl119_0
         replace p119 := eq_true p119
         replace q119 := eq_true q119
         have p120 : 0 ≤ (x14_1 : Int) := odt
         have q120 : x14_1 < (l1.length : Int) := odt
         obtain ⟨ad120, A120_0, c120_0, e120, hx120_0, hl120_0, hi120_0⟩ := at_L3 HR1.out x14_1 p120 q120
         cases e120
         have HR120_0 := Aside0.mk hi120_0
         have HC120_0 := Aside0.mk hl120_0
         clear hi120_0 hl120_0
         replace p120 := eq_true p120
         replace q120 := eq_true q120
         go_wp2
         repeat (go_quiet (fail); try go_wp2)
         go_ret
         exact ⟨by first | rfl | (simp; done) | (simp [*]; done), by repeat (first | exact Drawn0.refl _ | apply Drawn0.step)⟩
       ·rw [if_neg c7] at H
        exact absurd H (by simp)
      ·rw [if_neg c6] at H
       exact absurd H (by simp)
     ·rw [if_neg c5] at H
      exact absurd H (by simp)
    ·rw [if_neg c4] at H
     have c4b0 : decide (x14_1 < (l0.length : Int)) = false := decide_eq_false c4
     clear c4
     obtain rfl := Option.some.inj H
     go_wp2
     repeat (go_quiet (fail); try go_wp2)
     go_ret
     exact ⟨by first | rfl | (simp; done) | (simp [*]; done), by repeat (first | exact Drawn0.refl _ | apply Drawn0.step)⟩
 ·rw [if_neg c3] at H
  have c3b0 : ((l0.length : Int) == (l1.length : Int)) = false := beq_eq_false_iff_ne.mpr c3
  have c3b1 : ((l0.length : Int) != (l1.length : Int)) = true := bne_iff_ne.mpr c3
  have c3b2 : (l0.length == l1.length) = false := by first | simpa using c3 | (simp at c3 ⊢; omega)
  obtain rfl := Option.some.inj H
  go_enter Try.func18, Try.ntmps18
  go_wp2
  repeat (go_quiet (fail); try go_wp2)
  go_ret
  exact ⟨by first | rfl | (simp; done) | (simp [*]; done), by repeat (first | exact Drawn0.refl _ | apply Drawn0.step)⟩

end Go.Proofs.Ytchmhcfdamdjdaa.G
