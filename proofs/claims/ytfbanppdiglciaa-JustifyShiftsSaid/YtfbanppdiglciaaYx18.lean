-- written by a program of this session (wip/xprint.py) over the kit's print
import Derived.Test.YtfbanppdiglciaaYx0
import Derived.Test.YtfbanppdiglciaaYx13
import Derived.Test.YtfbanppdiglciaaYx15
import Derived.Test.YtfbanppdiglciaaYx17
namespace Go.Proofs.Ytfbanppdiglciaa.Y
open Go.RowKit Go.Proofs.YtfbanppdiglciaaW.PrintWords Go.Proofs.YtfbanppdiglciaaW.PrintLast Go.Proofs.YtfbanppdiglciaaW.PrintMore
attribute [local go_sem] max2_int min2_int max_two min_two max_three min_three max_four min_four   -- for this text's walks alone
set_option linter.unusedVariables false
set_option linter.unusedSimpArgs false

/-! ### seriflaw20_JustifyShifts: function 9 -/
def seriflaw20_JustifyShifts.f (k : Nat) (a0 : Int) (a1 : Int) (a2 : Int) : Option (Bool) := (seriflaw20_justifyAlive.f k).bind fun t134 => (if t134 = true then ((justify_Shift.f k a0 a1 a2).bind fun t135 => ((serifref20_Shift.f k a0 a1 a2).bind fun t136 => (if t135 = t136 then (if t135 ≥ 0 then (if t135 = 0 then (some true) else (some (decide ((wrap64 (a0 + t135)) ≤ a1)))) else (none)) else (none)))) else (none))
theorem seriflaw20_JustifyShifts.mono : ∀ a0 a1 a2 k, LeO (seriflaw20_JustifyShifts.f k a0 a1 a2) (seriflaw20_JustifyShifts.f (k + 1) a0 a1 a2) := by
 intro a0 a1 a2 k
 unfold seriflaw20_JustifyShifts.f
 repeat' first
   | (with_reducible exact justify_Shift.mono _ _ _ _)
   | (with_reducible exact seriflaw20_justifyAlive.mono _)
   | (with_reducible exact serifref20_Shift.mono _ _ _ _)
   | (with_reducible exact LeO.refl _)
   | (with_reducible exact LeO.none _)
   | (with_reducible refine LeO.ite ?_ ?_)
   | (with_reducible refine LeO.bind ?_ (fun _ => ?_))
   | exact justify_Shift.mono _ _ _ _
   | exact seriflaw20_justifyAlive.mono _
   | exact serifref20_Shift.mono _ _ _ _
   | exact LeO.none _
   | refine LeO.ite ?_ ?_
   | refine LeO.bind ?_ (fun _ => ?_)
set_option maxHeartbeats 8000000 in
set_option maxRecDepth 100000 in
theorem seriflaw20_JustifyShifts.calls (k : Nat) (a0 : Int) (a1 : Int) (a2 : Int) (r : Bool) (w : World) (h : seriflaw20_JustifyShifts.f k a0 a1 a2 = some r) :
  Calls Try.prog 9 #[.int .i64 a0, .int .i64 a1, .int .i64 a2] w fun e w' => e = .returned (.bool r) ∧ Below w.heap.size w w' := by
 have HB := Aside0.mk (Below.refl w.heap.size w)
 have H : ((seriflaw20_justifyAlive.f k).bind fun t134 => (if t134 = true then ((justify_Shift.f k a0 a1 a2).bind fun t135 => ((serifref20_Shift.f k a0 a1 a2).bind fun t136 => (if t135 = t136 then (if t135 ≥ 0 then (if t135 = 0 then (some true) else (some (decide ((wrap64 (a0 + t135)) ≤ a1)))) else (none)) else (none)))) else (none))) = some r := h
 clear h
 replace H := Option.bind_eq_some_iff.mp H
 obtain ⟨t134, A40, H⟩ := H
 replace H : (if t134 = true then ((justify_Shift.f k a0 a1 a2).bind fun t135 => ((serifref20_Shift.f k a0 a1 a2).bind fun t136 => (if t135 = t136 then (if t135 ≥ 0 then (if t135 = 0 then (some true) else (some (decide ((wrap64 (a0 + t135)) ≤ a1)))) else (none)) else (none)))) else (none)) = some r := H
 have A4 := Aside0.mk A40
 clear A40
 by_cases c5 : t134 = true
 ·subst c5
  have H1 : ((justify_Shift.f k a0 a1 a2).bind fun t135 => ((serifref20_Shift.f k a0 a1 a2).bind fun t136 => (if t135 = t136 then (if t135 ≥ 0 then (if t135 = 0 then (some true) else (some (decide ((wrap64 (a0 + t135)) ≤ a1)))) else (none)) else (none)))) = some r := by rw [if_pos rfl] at H; exact H
  clear H
  have H := H1
  clear H1
  replace H := Option.bind_eq_some_iff.mp H
  obtain ⟨t135, A60, H⟩ := H
  replace H : ((serifref20_Shift.f k a0 a1 a2).bind fun t136 => (if t135 = t136 then (if t135 ≥ 0 then (if t135 = 0 then (some true) else (some (decide ((wrap64 (a0 + t135)) ≤ a1)))) else (none)) else (none))) = some r := H
  have A6 := Aside0.mk A60
  clear A60
  replace H := Option.bind_eq_some_iff.mp H
  obtain ⟨t136, A70, H⟩ := H
  replace H : (if t135 = t136 then (if t135 ≥ 0 then (if t135 = 0 then (some true) else (some (decide ((wrap64 (a0 + t135)) ≤ a1)))) else (none)) else (none)) = some r := H
  have A7 := Aside0.mk A70
  clear A70
  by_cases c8 : t135 = t136
  ·rw [if_pos c8] at H
   have c8b0 : (t135 == t136) = true := beq_iff_eq.mpr c8
   have c8b1 : (t135 != t136) = false := bne_eq_false_iff_eq.mpr c8
   clear c8
   by_cases c9 : t135 ≥ 0
   ·rw [if_pos c9] at H
    have c9b0 : decide (0 ≤ t135) = true := decide_eq_true c9
    clear c9
    by_cases c10 : t135 = 0
    ·rw [if_pos c10] at H
     have c10b0 : (t135 == 0) = true := beq_iff_eq.mpr c10
     have c10b1 : (t135 != 0) = false := bne_eq_false_iff_eq.mpr c10
     clear c10
     obtain rfl := Option.some.inj H
     go_enter Try.func9, Try.ntmps9
     go_wp2_with (first | ((with_reducible refine gate_callee (f := 21) rfl ?_); refine goesL_ (some 8) rfl rfl Try.func21 (by kernel_rfl) rfl #[] rfl (by (try simp only [List.map_toArray, List.map_cons, List.map_nil]); first | done | rfl | (simp only [List.length_drop, List.length_take]; rfl)) ?_; (with_reducible refine (seriflaw20_justifyAlive.calls k  true _ A4.out).mono ?_); rintro e w11 ⟨rfl, hb⟩; refine ⟨_, rfl, ?_⟩; have n0_ := Aside0.mk (below_step (bq HB) hb); clear HB; have HB := n0_; clear n0_; (try clear hb); (try clear hb2); (try clear hk); (try clear hi)) | ((with_reducible refine gate_callee (f := 24) rfl ?_); refine goesL_ (some 13) rfl rfl Try.func24 (by kernel_rfl) rfl #[.int .i64 a0, .int .i64 a1, .int .i64 a2] rfl (by (try simp only [List.map_toArray, List.map_cons, List.map_nil]); first | done | rfl | (simp only [List.length_drop, List.length_take]; rfl)) ?_; (with_reducible refine (justify_Shift.calls k a0 a1 a2 t135 _ A6.out).mono ?_); rintro e w' ⟨rfl, ⟨nd, rfl⟩⟩; refine ⟨_, rfl, ?_⟩) | ((with_reducible refine gate_callee (f := 25) rfl ?_); refine goesL_ (some 18) rfl rfl Try.func25 (by kernel_rfl) rfl #[.int .i64 a0, .int .i64 a1, .int .i64 a2] rfl (by (try simp only [List.map_toArray, List.map_cons, List.map_nil]); first | done | rfl | (simp only [List.length_drop, List.length_take]; rfl)) ?_; (with_reducible refine (serifref20_Shift.calls k a0 a1 a2 t136 _ A7.out).mono ?_); rintro e w' ⟨rfl, ⟨nd, rfl⟩⟩; refine ⟨_, rfl, ?_⟩))
     go_ret
     exact ⟨by first | rfl | (simp [errW_none, errW_some] <;> rfl) | (simp [*, errW_none, errW_some] <;> rfl), bq HB⟩
    ·rw [if_neg c10] at H
     have c10b0 : (t135 == 0) = false := beq_eq_false_iff_ne.mpr c10
     have c10b1 : (t135 != 0) = true := bne_iff_ne.mpr c10
     obtain rfl := Option.some.inj H
     go_enter Try.func9, Try.ntmps9
     go_wp2_with (first | ((with_reducible refine gate_callee (f := 21) rfl ?_); refine goesL_ (some 8) rfl rfl Try.func21 (by kernel_rfl) rfl #[] rfl (by (try simp only [List.map_toArray, List.map_cons, List.map_nil]); first | done | rfl | (simp only [List.length_drop, List.length_take]; rfl)) ?_; (with_reducible refine (seriflaw20_justifyAlive.calls k  true _ A4.out).mono ?_); rintro e w12 ⟨rfl, hb⟩; refine ⟨_, rfl, ?_⟩; have n0_ := Aside0.mk (below_step (bq HB) hb); clear HB; have HB := n0_; clear n0_; (try clear hb); (try clear hb2); (try clear hk); (try clear hi)) | ((with_reducible refine gate_callee (f := 24) rfl ?_); refine goesL_ (some 13) rfl rfl Try.func24 (by kernel_rfl) rfl #[.int .i64 a0, .int .i64 a1, .int .i64 a2] rfl (by (try simp only [List.map_toArray, List.map_cons, List.map_nil]); first | done | rfl | (simp only [List.length_drop, List.length_take]; rfl)) ?_; (with_reducible refine (justify_Shift.calls k a0 a1 a2 t135 _ A6.out).mono ?_); rintro e w' ⟨rfl, ⟨nd, rfl⟩⟩; refine ⟨_, rfl, ?_⟩) | ((with_reducible refine gate_callee (f := 25) rfl ?_); refine goesL_ (some 18) rfl rfl Try.func25 (by kernel_rfl) rfl #[.int .i64 a0, .int .i64 a1, .int .i64 a2] rfl (by (try simp only [List.map_toArray, List.map_cons, List.map_nil]); first | done | rfl | (simp only [List.length_drop, List.length_take]; rfl)) ?_; (with_reducible refine (serifref20_Shift.calls k a0 a1 a2 t136 _ A7.out).mono ?_); rintro e w' ⟨rfl, ⟨nd, rfl⟩⟩; refine ⟨_, rfl, ?_⟩))
     go_ret
     exact ⟨by first | rfl | (simp [errW_none, errW_some] <;> rfl) | (simp [*, errW_none, errW_some] <;> rfl), bq HB⟩
   ·rw [if_neg c9] at H
    exact absurd H (by simp)
  ·rw [if_neg c8] at H
   exact absurd H (by simp)
 ·replace c5 := Bool.eq_false_iff.mpr c5
  subst c5
  have H1 : (none) = some r := by rw [if_neg (show ¬ (false = true) by decide)] at H; exact H
  clear H
  have H := H1
  clear H1
  exact absurd H (by simp)

/-- THE ONE PURE STATEMENT of seriflaw20_JustifyShifts: yours. -/
def seriflaw20_JustifyShifts.Pure : Prop := ∀ (a0 : Int) (a1 : Int) (a2 : Int), (Lit.int .i64 a0).wf = true → (Lit.int .i64 a1).wf = true → (Lit.int .i64 a2).wf = true → ∃ k, seriflaw20_JustifyShifts.f k a0 a1 a2 = some true
theorem seriflaw20_JustifyShifts.walk (P : seriflaw20_JustifyShifts.Pure) (a0 : Int) (a1 : Int) (a2 : Int) (w : World) (w0 : (Lit.int .i64 a0).wf = true) (w1 : (Lit.int .i64 a1).wf = true) (w2 : (Lit.int .i64 a2).wf = true) :
  Calls Try.prog 9 #[.int .i64 a0, .int .i64 a1, .int .i64 a2] w fun e w' => e = .returned (.bool true) ∧ Below w.heap.size w w' := by
 obtain ⟨k, h⟩ := P a0 a1 a2 w0 w1 w2
 refine (seriflaw20_JustifyShifts.calls k a0 a1 a2 true w h).mono ?_
 rintro e w' ⟨rfl, hd⟩
 exact ⟨rfl, hd⟩

end Go.Proofs.Ytfbanppdiglciaa.Y
