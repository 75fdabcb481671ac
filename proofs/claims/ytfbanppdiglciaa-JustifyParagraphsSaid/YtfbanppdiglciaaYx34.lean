-- written by a program of this session (wip/xprint.py) over the kit's print
import Derived.Test.YtfbanppdiglciaaYx0
import Derived.Test.YtfbanppdiglciaaYx30
namespace Go.Proofs.Ytfbanppdiglciaa.Y
open Go.RowKit Go.Proofs.YtfbanppdiglciaaW.PrintWords Go.Proofs.YtfbanppdiglciaaW.PrintLast Go.Proofs.YtfbanppdiglciaaW.PrintMore
attribute [local go_sem] max2_int min2_int max_two min_two max_three min_three max_four min_four   -- for this text's walks alone
set_option linter.unusedVariables false
set_option linter.unusedSimpArgs false

/-! ### optimal_paragraph_penalty: function 51 -/
def optimal_paragraph_penalty.f (s0_0 : List (S31)) (s0_1 : List (S81)) (s0_2 : List Int) (s0_3 : Int) (a1 : Int) : Option (Int × Bool × Int) := if a1 < 0 then (some (0, false, s0_3)) else (if a1 ≥ (s0_0.length : Int) then (some (0, false, s0_3)) else (if 0 ≤ a1 then (if a1 < (s0_0.length : Int) then (if ((rd_T31 s0_0 a1).f0) = 3 then (some ((rd_T31 s0_0 a1).f4, (rd_T31 s0_0 a1).f5, s0_3)) else (some (0, false, s0_3))) else (none)) else (none)))
set_option maxHeartbeats 8000000 in
set_option maxRecDepth 100000 in
theorem optimal_paragraph_penalty.calls (g : Nat) (s0_0 : List (S31)) (s0_1 : List (S81)) (s0_2 : List Int) (s0_3 : Int) (a1 : Int) (r1 : Int) (r2 : Bool) (r3 : Int) (w0 w : World) (hI : IsS79 w0 w g s0_0 s0_1 s0_2 s0_3) (hB : Below w0.heap.size w0 w) (h : optimal_paragraph_penalty.f s0_0 s0_1 s0_2 s0_3 a1 = some (r1, r2, r3)) :
  Calls Try.prog 51 #[.pointer (some ⟨g, 0, none⟩), .int .i64 a1] w fun e w' => e = .returned (.tuple #[.int .i64 r1, .bool r2]) ∧ IsS79 w0 w' g s0_0 s0_1 s0_2 r3 ∧ Below w0.heap.size w0 w' ∧ KeepBut w w' g none := by
 have HI0 := Aside0.mk hI
 have HK := Aside0.mk (KeepBut.refl w g none)
 have HL := Aside0.mk hB.size
 clear hI
 have HW0 := Aside0.mk hB.size
 have HB := Aside0.mk hB
 clear hB
 have H : (if a1 < 0 then (some (0, false, s0_3)) else (if a1 ≥ (s0_0.length : Int) then (some (0, false, s0_3)) else (if 0 ≤ a1 then (if a1 < (s0_0.length : Int) then (if ((rd_T31 s0_0 a1).f0) = 3 then (some ((rd_T31 s0_0 a1).f4, (rd_T31 s0_0 a1).f5, s0_3)) else (some (0, false, s0_3))) else (none)) else (none)))) = some (r1, r2, r3) := h
 clear h
 by_cases c3 : a1 < 0
 ·rw [if_pos c3] at H
  have c3b0 : decide (a1 < 0) = true := decide_eq_true c3
  clear c3
  simp only [Option.some.injEq, Prod.mk.injEq] at H
  obtain ⟨rfl, rfl, rfl⟩ := H
  go_enter Try.func51, Try.ntmps51
  go_wp2
  repeat (go_quiet (fail); try go_wp2)
  go_ret2
  exact ⟨by first | rfl | (simp [errW_none, errW_some] <;> rfl) | (simp [*, errW_none, errW_some] <;> rfl), by repeat (first | (with_reducible first | exact HI0.out | apply IsS79.alloc | apply IsS79.drewN | apply IsS79.drew | apply IsS79.set_3) | exact HI0.out), bs HB ⟨IsS79.ge HI0.out⟩, by repeat (first | (with_reducible first | exact HK.out | apply KeepBut.set_ | apply keep_drewN | apply keep_drew | apply keep_alloc) | exact HK.out)⟩
 ·rw [if_neg c3] at H
  have c3b0 : decide (a1 < 0) = false := decide_eq_false c3
  clear c3
  by_cases c4 : a1 ≥ (s0_0.length : Int)
  ·rw [if_pos c4] at H
   have c4b0 : decide ((s0_0.length : Int) ≤ a1) = true := decide_eq_true c4
   clear c4
   simp only [Option.some.injEq, Prod.mk.injEq] at H
   obtain ⟨rfl, rfl, rfl⟩ := H
   obtain ⟨ASz5_0, cSz5_0, ASz5_1, cSz5_1, ASz5_2, cSz5_2, HGz5, hgz5, HSz5_0, HSz5_1, HSz5_2⟩ := HI0.out
   have hcz5_0 := cellS79_0 HGz5
   have hcz5_1 := cellS79_1 HGz5
   have hcz5_2 := cellS79_2 HGz5
   have hcz5_3 := cellS79_3 HGz5
   have hfz5_3 := blk_frozen HGz5 3
   clear HGz5 hgz5
   go_enter Try.func51, Try.ntmps51
   go_wp2
   repeat (go_quiet (fail); try go_wp2)
   go_ret2
   exact ⟨by first | rfl | (simp [errW_none, errW_some] <;> rfl) | (simp [*, errW_none, errW_some] <;> rfl), by repeat (first | (with_reducible first | exact HI0.out | apply IsS79.alloc | apply IsS79.drewN | apply IsS79.drew | apply IsS79.set_3) | exact HI0.out), bs HB ⟨IsS79.ge HI0.out⟩, by repeat (first | (with_reducible first | exact HK.out | apply KeepBut.set_ | apply keep_drewN | apply keep_drew | apply keep_alloc) | exact HK.out)⟩
  ·rw [if_neg c4] at H
   have c4b0 : decide ((s0_0.length : Int) ≤ a1) = false := decide_eq_false c4
   clear c4
   by_cases c6 : 0 ≤ a1
   ·rw [if_pos c6] at H
    have c6b0 : decide (0 ≤ a1) = true := decide_eq_true c6
    clear c6
    by_cases c7 : a1 < (s0_0.length : Int)
    ·rw [if_pos c7] at H
     have c7b0 : decide (a1 < (s0_0.length : Int)) = true := decide_eq_true c7
     clear c7
     by_cases c8 : ((rd_T31 s0_0 a1).f0) = 3
     ·rw [if_pos c8] at H
      have c8b0 : (((rd_T31 s0_0 a1).f0) == 3) = true := beq_iff_eq.mpr c8
      have c8b1 : (((rd_T31 s0_0 a1).f0) != 3) = false := bne_eq_false_iff_eq.mpr c8
      clear c8
      simp only [Option.some.injEq, Prod.mk.injEq] at H
      obtain ⟨rfl, rfl, rfl⟩ := H
      obtain ⟨ASz9_0, cSz9_0, ASz9_1, cSz9_1, ASz9_2, cSz9_2, HGz9, hgz9, HSz9_0, HSz9_1, HSz9_2⟩ := HI0.out
      have hcz9_0 := cellS79_0 HGz9
      have hcz9_1 := cellS79_1 HGz9
      have hcz9_2 := cellS79_2 HGz9
      have hcz9_3 := cellS79_3 HGz9
      have hfz9_3 := blk_frozen HGz9 3
      clear HGz9 hgz9
      have p411 : 0 ≤ (a1 : Int) := odt
      have q411 : a1 < (s0_0.length : Int) := odt
      obtain ⟨ad411, e411, hx411_0, hx411_1, hx411_2, hx411_3, hx411_4, hx411_5⟩ := at_T31 HSz9_0 a1 p411 q411
      cases e411
      replace hx411_0 := pw_cell_below HB.out hx411_0
      replace hx411_1 := pw_cell_below HB.out hx411_1
      replace hx411_2 := pw_cell_below HB.out hx411_2
      replace hx411_3 := pw_cell_below HB.out hx411_3
      replace hx411_4 := pw_cell_below HB.out hx411_4
      replace hx411_5 := pw_cell_below HB.out hx411_5
      replace p411 := eq_true p411
      replace q411 := eq_true q411
      have p412 : 0 ≤ (a1 : Int) := odt
      have q412 : a1 < (s0_0.length : Int) := odt
      obtain ⟨ad412, e412, hx412_0, hx412_1, hx412_2, hx412_3, hx412_4, hx412_5⟩ := at_T31 HSz9_0 a1 p412 q412
      obtain rfl : ad411 = ad412 := (by injection e412)
      replace hx412_0 := pw_cell_below HB.out hx412_0
      replace hx412_1 := pw_cell_below HB.out hx412_1
      replace hx412_2 := pw_cell_below HB.out hx412_2
      replace hx412_3 := pw_cell_below HB.out hx412_3
      replace hx412_4 := pw_cell_below HB.out hx412_4
      replace hx412_5 := pw_cell_below HB.out hx412_5
      replace p412 := eq_true p412
      replace q412 := eq_true q412
      have p413 : 0 ≤ (a1 : Int) := odt
      have q413 : a1 < (s0_0.length : Int) := odt
      obtain ⟨ad413, e413, hx413_0, hx413_1, hx413_2, hx413_3, hx413_4, hx413_5⟩ := at_T31 HSz9_0 a1 p413 q413
      obtain rfl : ad411 = ad413 := (by injection e413)
      replace hx413_0 := pw_cell_below HB.out hx413_0
      replace hx413_1 := pw_cell_below HB.out hx413_1
      replace hx413_2 := pw_cell_below HB.out hx413_2
      replace hx413_3 := pw_cell_below HB.out hx413_3
      replace hx413_4 := pw_cell_below HB.out hx413_4
      replace hx413_5 := pw_cell_below HB.out hx413_5
      replace p413 := eq_true p413
      replace q413 := eq_true q413
      go_enter Try.func51, Try.ntmps51
      go_wp2
      repeat (go_quiet (fail); try go_wp2)
      go_ret2
      exact ⟨by first | rfl | (simp [errW_none, errW_some] <;> rfl) | (simp [*, errW_none, errW_some] <;> rfl), by repeat (first | (with_reducible first | exact HI0.out | apply IsS79.alloc | apply IsS79.drewN | apply IsS79.drew | apply IsS79.set_3) | exact HI0.out), bs HB ⟨IsS79.ge HI0.out⟩, by repeat (first | (with_reducible first | exact HK.out | apply KeepBut.set_ | apply keep_drewN | apply keep_drew | apply keep_alloc) | exact HK.out)⟩
     ·rw [if_neg c8] at H
      have c8b0 : (((rd_T31 s0_0 a1).f0) == 3) = false := beq_eq_false_iff_ne.mpr c8
      have c8b1 : (((rd_T31 s0_0 a1).f0) != 3) = true := bne_iff_ne.mpr c8
      simp only [Option.some.injEq, Prod.mk.injEq] at H
      obtain ⟨rfl, rfl, rfl⟩ := H
      obtain ⟨ASz10_0, cSz10_0, ASz10_1, cSz10_1, ASz10_2, cSz10_2, HGz10, hgz10, HSz10_0, HSz10_1, HSz10_2⟩ := HI0.out
      have hcz10_0 := cellS79_0 HGz10
      have hcz10_1 := cellS79_1 HGz10
      have hcz10_2 := cellS79_2 HGz10
      have hcz10_3 := cellS79_3 HGz10
      have hfz10_3 := blk_frozen HGz10 3
      clear HGz10 hgz10
      have p411 : 0 ≤ (a1 : Int) := odt
      have q411 : a1 < (s0_0.length : Int) := odt
      obtain ⟨ad411, e411, hx411_0, hx411_1, hx411_2, hx411_3, hx411_4, hx411_5⟩ := at_T31 HSz10_0 a1 p411 q411
      cases e411
      replace hx411_0 := pw_cell_below HB.out hx411_0
      replace hx411_1 := pw_cell_below HB.out hx411_1
      replace hx411_2 := pw_cell_below HB.out hx411_2
      replace hx411_3 := pw_cell_below HB.out hx411_3
      replace hx411_4 := pw_cell_below HB.out hx411_4
      replace hx411_5 := pw_cell_below HB.out hx411_5
      replace p411 := eq_true p411
      replace q411 := eq_true q411
      go_enter Try.func51, Try.ntmps51
      go_wp2
      repeat (go_quiet (fail); try go_wp2)
      go_ret2
      exact ⟨by first | rfl | (simp [errW_none, errW_some] <;> rfl) | (simp [*, errW_none, errW_some] <;> rfl), by repeat (first | (with_reducible first | exact HI0.out | apply IsS79.alloc | apply IsS79.drewN | apply IsS79.drew | apply IsS79.set_3) | exact HI0.out), bs HB ⟨IsS79.ge HI0.out⟩, by repeat (first | (with_reducible first | exact HK.out | apply KeepBut.set_ | apply keep_drewN | apply keep_drew | apply keep_alloc) | exact HK.out)⟩
    ·rw [if_neg c7] at H
     exact absurd H (by simp)
   ·rw [if_neg c6] at H
    exact absurd H (by simp)

end Go.Proofs.Ytfbanppdiglciaa.Y
