-- written by a program of this session (wip/xprint.py) over the kit's print
import Derived.Test.YtbeegagnlcglcaaXx0
import Derived.Test.YtbeegagnlcglcaaXx3
import Derived.Test.YtbeegagnlcglcaaXx5
namespace Go.Proofs.Ytbeegagnlcglcaa.X
open Go.RowKit Go.Proofs.YtbeegagnlcglcaaW.PrintWords Go.Proofs.YtbeegagnlcglcaaW.PrintLast Go.Proofs.YtbeegagnlcglcaaW.PrintMore
attribute [local go_sem] max2_int min2_int max_two min_two max_three min_three max_four min_four   -- for this text's walks alone
set_option linter.unusedVariables false
set_option linter.unusedSimpArgs false

/-! ### seriflaw01_FixedSums: function 9 -/
def seriflaw01_FixedSums.j0 : Nat → Int → Int → Bool → Option (Bool)
  | 0, _, _, _ => none
  | k + 1, x0, x1, x49 => if x49 = true then (some false) else ((fixed_Sub.f k x0 x1).bind fun bt203 => ((serifref01_Fix.f x1).bind fun t205 => (if t205 = true then ((serifref01_Sum.f x0 (wrap64 (-x1))).bind fun bt206 => (if bt203.1 = bt206.1 then (if bt203.2 = bt206.2 then (some true) else (some false)) else (some false))) else (if bt203.1 = 0 then (if bt203.2 = 14 then (some true) else (some false)) else (some false)))))
def seriflaw01_FixedSums.f (k : Nat) (a0 : Int) (a1 : Int) : Option (Bool) := (seriflaw01_fixedAlive.f k).bind fun t195 => (if t195 = true then ((fixed_Add.f k a0 a1).bind fun bt196 => ((serifref01_Sum.f a0 a1).bind fun bt198 => (if bt196.1 = bt198.1 then (if bt196.2 = bt198.2 then ((fixed_Check.f a0).bind fun t200 => (if t200 = 0 then ((serifref01_Fix.f a0).bind fun t201 => (if t201 = true then (seriflaw01_FixedSums.j0 k a0 a1 false) else (seriflaw01_FixedSums.j0 k a0 a1 true))) else ((serifref01_Fix.f a0).bind fun t202 => (if t202 = true then (seriflaw01_FixedSums.j0 k a0 a1 true) else (if t200 = 14 then (seriflaw01_FixedSums.j0 k a0 a1 false) else (seriflaw01_FixedSums.j0 k a0 a1 true)))))) else (seriflaw01_FixedSums.j0 k a0 a1 true)) else (seriflaw01_FixedSums.j0 k a0 a1 true)))) else (some false))
theorem seriflaw01_FixedSums.mono_l : ∀ k, (∀ y0 y1 y2, LeO (seriflaw01_FixedSums.j0 k y0 y1 y2) (seriflaw01_FixedSums.j0 (k + 1) y0 y1 y2))
  | 0 => fun _ _ _ r h => by simp [seriflaw01_FixedSums.j0] at h
  | k + 1 => by
    have ih0 := seriflaw01_FixedSums.mono_l k
    · intro y0 y1 y2
      unfold seriflaw01_FixedSums.j0
      repeat' first
      | (with_reducible exact ih0 _ _ _)
      | (with_reducible exact fixed_Add.mono _ _ _)
      | (with_reducible exact fixed_Sub.mono _ _ _)
      | (with_reducible exact seriflaw01_fixedAlive.mono _)
      | (with_reducible exact LeO.refl _)
      | (with_reducible exact LeO.none _)
      | (with_reducible refine LeO.ite ?_ ?_)
      | (with_reducible refine LeO.bind ?_ (fun _ => ?_))
      | exact ih0 _ _ _
      | exact fixed_Add.mono _ _ _
      | exact fixed_Sub.mono _ _ _
      | exact seriflaw01_fixedAlive.mono _
      | exact LeO.none _
      | refine LeO.ite ?_ ?_
      | refine LeO.bind ?_ (fun _ => ?_)
theorem seriflaw01_FixedSums.mono : ∀ a0 a1 k, LeO (seriflaw01_FixedSums.f k a0 a1) (seriflaw01_FixedSums.f (k + 1) a0 a1) := by
  intro a0 a1 k
  have ih0 := seriflaw01_FixedSums.mono_l k
  unfold seriflaw01_FixedSums.f
  repeat' first
      | (with_reducible exact ih0 _ _ _)
      | (with_reducible exact fixed_Add.mono _ _ _)
      | (with_reducible exact fixed_Sub.mono _ _ _)
      | (with_reducible exact seriflaw01_fixedAlive.mono _)
      | (with_reducible exact LeO.refl _)
      | (with_reducible exact LeO.none _)
      | (with_reducible refine LeO.ite ?_ ?_)
      | (with_reducible refine LeO.bind ?_ (fun _ => ?_))
      | exact ih0 _ _ _
      | exact fixed_Add.mono _ _ _
      | exact fixed_Sub.mono _ _ _
      | exact seriflaw01_fixedAlive.mono _
      | exact LeO.none _
      | refine LeO.ite ?_ ?_
      | refine LeO.bind ?_ (fun _ => ?_)
set_option maxHeartbeats 8000000 in
set_option maxRecDepth 100000 in
theorem seriflaw01_FixedSums.calls (k : Nat) (a0 : Int) (a1 : Int) (r : Bool) (w : World) (h : seriflaw01_FixedSums.f k a0 a1 = some r) :
    Calls Try.prog 9 #[.int .i64 a0, .int .i64 a1] w fun e w' => e = .returned (.bool r) ∧ Below w.heap.size w w' := by
  have HB := Aside0.mk (Below.refl w.heap.size w)
  have H : ((seriflaw01_fixedAlive.f k).bind fun t195 => (if t195 = true then ((fixed_Add.f k a0 a1).bind fun bt196 => ((serifref01_Sum.f a0 a1).bind fun bt198 => (if bt196.1 = bt198.1 then (if bt196.2 = bt198.2 then ((fixed_Check.f a0).bind fun t200 => (if t200 = 0 then ((serifref01_Fix.f a0).bind fun t201 => (if t201 = true then (seriflaw01_FixedSums.j0 k a0 a1 false) else (seriflaw01_FixedSums.j0 k a0 a1 true))) else ((serifref01_Fix.f a0).bind fun t202 => (if t202 = true then (seriflaw01_FixedSums.j0 k a0 a1 true) else (if t200 = 14 then (seriflaw01_FixedSums.j0 k a0 a1 false) else (seriflaw01_FixedSums.j0 k a0 a1 true)))))) else (seriflaw01_FixedSums.j0 k a0 a1 true)) else (seriflaw01_FixedSums.j0 k a0 a1 true)))) else (some false))) = some r := h
  clear h
  replace H := Option.bind_eq_some_iff.mp H
  obtain ⟨t195, A30, H⟩ := H
  replace H : (if t195 = true then ((fixed_Add.f k a0 a1).bind fun bt196 => ((serifref01_Sum.f a0 a1).bind fun bt198 => (if bt196.1 = bt198.1 then (if bt196.2 = bt198.2 then ((fixed_Check.f a0).bind fun t200 => (if t200 = 0 then ((serifref01_Fix.f a0).bind fun t201 => (if t201 = true then (seriflaw01_FixedSums.j0 k a0 a1 false) else (seriflaw01_FixedSums.j0 k a0 a1 true))) else ((serifref01_Fix.f a0).bind fun t202 => (if t202 = true then (seriflaw01_FixedSums.j0 k a0 a1 true) else (if t200 = 14 then (seriflaw01_FixedSums.j0 k a0 a1 false) else (seriflaw01_FixedSums.j0 k a0 a1 true)))))) else (seriflaw01_FixedSums.j0 k a0 a1 true)) else (seriflaw01_FixedSums.j0 k a0 a1 true)))) else (some false)) = some r := H
  have A3 := Aside0.mk A30
  clear A30
  by_cases c4 : t195 = true
  · subst c4
    have H1 : ((fixed_Add.f k a0 a1).bind fun bt196 => ((serifref01_Sum.f a0 a1).bind fun bt198 => (if bt196.1 = bt198.1 then (if bt196.2 = bt198.2 then ((fixed_Check.f a0).bind fun t200 => (if t200 = 0 then ((serifref01_Fix.f a0).bind fun t201 => (if t201 = true then (seriflaw01_FixedSums.j0 k a0 a1 false) else (seriflaw01_FixedSums.j0 k a0 a1 true))) else ((serifref01_Fix.f a0).bind fun t202 => (if t202 = true then (seriflaw01_FixedSums.j0 k a0 a1 true) else (if t200 = 14 then (seriflaw01_FixedSums.j0 k a0 a1 false) else (seriflaw01_FixedSums.j0 k a0 a1 true)))))) else (seriflaw01_FixedSums.j0 k a0 a1 true)) else (seriflaw01_FixedSums.j0 k a0 a1 true)))) = some r := by rw [if_pos rfl] at H; exact H
    clear H
    have H := H1
    clear H1
    replace H := Option.bind_eq_some_iff.mp H
    obtain ⟨⟨t196, t197⟩, A50, H⟩ := H
    replace H : ((serifref01_Sum.f a0 a1).bind fun bt198 => (if t196 = bt198.1 then (if t197 = bt198.2 then ((fixed_Check.f a0).bind fun t200 => (if t200 = 0 then ((serifref01_Fix.f a0).bind fun t201 => (if t201 = true then (seriflaw01_FixedSums.j0 k a0 a1 false) else (seriflaw01_FixedSums.j0 k a0 a1 true))) else ((serifref01_Fix.f a0).bind fun t202 => (if t202 = true then (seriflaw01_FixedSums.j0 k a0 a1 true) else (if t200 = 14 then (seriflaw01_FixedSums.j0 k a0 a1 false) else (seriflaw01_FixedSums.j0 k a0 a1 true)))))) else (seriflaw01_FixedSums.j0 k a0 a1 true)) else (seriflaw01_FixedSums.j0 k a0 a1 true))) = some r := H
    have A5 := Aside0.mk A50
    clear A50
    replace H := Option.bind_eq_some_iff.mp H
    obtain ⟨⟨t198, t199⟩, A60, H⟩ := H
    replace H : (if t196 = t198 then (if t197 = t199 then ((fixed_Check.f a0).bind fun t200 => (if t200 = 0 then ((serifref01_Fix.f a0).bind fun t201 => (if t201 = true then (seriflaw01_FixedSums.j0 k a0 a1 false) else (seriflaw01_FixedSums.j0 k a0 a1 true))) else ((serifref01_Fix.f a0).bind fun t202 => (if t202 = true then (seriflaw01_FixedSums.j0 k a0 a1 true) else (if t200 = 14 then (seriflaw01_FixedSums.j0 k a0 a1 false) else (seriflaw01_FixedSums.j0 k a0 a1 true)))))) else (seriflaw01_FixedSums.j0 k a0 a1 true)) else (seriflaw01_FixedSums.j0 k a0 a1 true)) = some r := H
    have A6 := Aside0.mk A60
    clear A60
    have HC7 := Aside0.mk H
    clear H
    go_enter Try.func9, Try.ntmps9
    go_upto_region 5 with (first | ((with_reducible refine gate_callee (f := 10) rfl ?_); refine goesL_ (some 10) rfl rfl Try.func10 (by kernel_rfl) rfl #[] rfl (by (try simp only [List.map_toArray, List.map_cons, List.map_nil]); first | done | rfl | (simp only [List.length_drop, List.length_take]; rfl)) ?_; (with_reducible refine (seriflaw01_fixedAlive.calls k  true _ A3.out).mono ?_); rintro e w8 ⟨rfl, hb⟩; refine ⟨_, rfl, ?_⟩; have n0_ := Aside0.mk (below_step (by repeat (first | (with_reducible first | exact HB.out | apply below_alloc | apply pw_below_drewN | apply below_drew1) | exact HB.out)) hb); clear HB; have HB := n0_; clear n0_; (try clear hb); (try clear hb2); (try clear hk); (try clear hi)) | ((with_reducible refine gate_callee (f := 20) rfl ?_); refine goesL_ (some 15) rfl rfl Try.func20 (by kernel_rfl) rfl #[.int .i64 a0, .int .i64 a1] rfl (by (try simp only [List.map_toArray, List.map_cons, List.map_nil]); first | done | rfl | (simp only [List.length_drop, List.length_take]; rfl)) ?_; (with_reducible refine (fixed_Add.calls k a0 a1 t196 t197 _ A5.out).mono ?_); rintro e w9 ⟨rfl, hb⟩; refine ⟨_, rfl, ?_⟩; have n0_ := Aside0.mk (below_step (by repeat (first | (with_reducible first | exact HB.out | apply below_alloc | apply pw_below_drewN | apply below_drew1) | exact HB.out)) hb); clear HB; have HB := n0_; clear n0_; (try clear hb); (try clear hb2); (try clear hk); (try clear hi)) | ((with_reducible refine gate_callee (f := 21) rfl ?_); refine goesL_ (some 21) rfl rfl Try.func21 (by kernel_rfl) rfl #[.int .i64 a0, .int .i64 a1] rfl (by (try simp only [List.map_toArray, List.map_cons, List.map_nil]); first | done | rfl | (simp only [List.length_drop, List.length_take]; rfl)) ?_; (with_reducible refine (serifref01_Sum.calls a0 a1 t198 t199 _ A6.out).mono ?_); rintro e w' ⟨rfl, ⟨nd, rfl⟩⟩; refine ⟨_, rfl, ?_⟩))
    (try simp only [Act.put, List.setIfInBounds_toArray, List.set_cons_zero, List.set_cons_succ])
    go_cut [49] (fun v49 wc => ∃ (kq : Nat) (x49_6 : Bool), v49 = .bool x49_6 ∧ Aside0 (seriflaw01_FixedSums.j0 kq a0 a1 x49_6 = some r) ∧ Aside0 (kq ≤ k) ∧ Aside0 (Below w.heap.size w wc))
    case first =>
      have H := HC7.out
      clear HC7
      by_cases c10 : t196 = t198
      · rw [if_pos c10] at H
        have c10b0 : (t196 == t198) = true := beq_iff_eq.mpr c10
        have c10b1 : (t196 != t198) = false := bne_eq_false_iff_eq.mpr c10
        clear c10
        (first | rw [c10b0] | (simp only [i64_w, i32_w]; rw [c10b0]) | skip)
        by_cases c11 : t197 = t199
        · rw [if_pos c11] at H
          have c11b0 : (t197 == t199) = true := beq_iff_eq.mpr c11
          have c11b1 : (t197 != t199) = false := bne_eq_false_iff_eq.mpr c11
          clear c11
          replace H := Option.bind_eq_some_iff.mp H
          obtain ⟨t200, A120, H⟩ := H
          replace H : (if t200 = 0 then ((serifref01_Fix.f a0).bind fun t201 => (if t201 = true then (seriflaw01_FixedSums.j0 k a0 a1 false) else (seriflaw01_FixedSums.j0 k a0 a1 true))) else ((serifref01_Fix.f a0).bind fun t202 => (if t202 = true then (seriflaw01_FixedSums.j0 k a0 a1 true) else (if t200 = 14 then (seriflaw01_FixedSums.j0 k a0 a1 false) else (seriflaw01_FixedSums.j0 k a0 a1 true))))) = some r := H
          have A12 := Aside0.mk A120
          clear A120
          by_cases c13 : t200 = 0
          · rw [if_pos c13] at H
            have c13b0 : (t200 == 0) = true := beq_iff_eq.mpr c13
            have c13b1 : (t200 != 0) = false := bne_eq_false_iff_eq.mpr c13
            clear c13
            replace H := Option.bind_eq_some_iff.mp H
            obtain ⟨t201, A140, H⟩ := H
            replace H : (if t201 = true then (seriflaw01_FixedSums.j0 k a0 a1 false) else (seriflaw01_FixedSums.j0 k a0 a1 true)) = some r := H
            have A14 := Aside0.mk A140
            clear A140
            by_cases c15 : t201 = true
            · subst c15
              have H1 : (seriflaw01_FixedSums.j0 k a0 a1 false) = some r := by rw [if_pos rfl] at H; exact H
              clear H
              have H := H1
              clear H1
              have H' := Aside0.mk H
              clear H
              go_wp2_with (first | (go_at_call 22; (with_reducible refine (fixed_Check.calls a0 t200 _ A12.out).mono ?_); rintro e w' ⟨rfl, ⟨nd, rfl⟩⟩) | (go_at_call 23; (with_reducible refine (serifref01_Fix.calls a0 true _ A14.out).mono ?_); rintro e w' ⟨rfl, ⟨nd, rfl⟩⟩))
              go_meet
              case rel => exact ⟨_, (false), (by first | rfl | (simp; done) | (simp [*]; done)), H', ⟨by first | omega | exact Nat.le_refl _⟩, ⟨by repeat (first | (with_reducible first | exact HB.out | apply below_alloc | apply pw_below_drewN | apply below_drew1) | exact HB.out)⟩⟩
            · replace c15 := Bool.eq_false_iff.mpr c15
              subst c15
              have H1 : (seriflaw01_FixedSums.j0 k a0 a1 true) = some r := by rw [if_neg (show ¬ (false = true) by decide)] at H; exact H
              clear H
              have H := H1
              clear H1
              have H' := Aside0.mk H
              clear H
              go_wp2_with (first | (go_at_call 22; (with_reducible refine (fixed_Check.calls a0 t200 _ A12.out).mono ?_); rintro e w' ⟨rfl, ⟨nd, rfl⟩⟩) | (go_at_call 23; (with_reducible refine (serifref01_Fix.calls a0 false _ A14.out).mono ?_); rintro e w' ⟨rfl, ⟨nd, rfl⟩⟩))
              go_meet
              case rel => exact ⟨_, (true), (by first | rfl | (simp; done) | (simp [*]; done)), H', ⟨by first | omega | exact Nat.le_refl _⟩, ⟨by repeat (first | (with_reducible first | exact HB.out | apply below_alloc | apply pw_below_drewN | apply below_drew1) | exact HB.out)⟩⟩
          · rw [if_neg c13] at H
            have c13b0 : (t200 == 0) = false := beq_eq_false_iff_ne.mpr c13
            have c13b1 : (t200 != 0) = true := bne_iff_ne.mpr c13
            replace H := Option.bind_eq_some_iff.mp H
            obtain ⟨t202, A160, H⟩ := H
            replace H : (if t202 = true then (seriflaw01_FixedSums.j0 k a0 a1 true) else (if t200 = 14 then (seriflaw01_FixedSums.j0 k a0 a1 false) else (seriflaw01_FixedSums.j0 k a0 a1 true))) = some r := H
            have A16 := Aside0.mk A160
            clear A160
            by_cases c17 : t202 = true
            · subst c17
              have H1 : (seriflaw01_FixedSums.j0 k a0 a1 true) = some r := by rw [if_pos rfl] at H; exact H
              clear H
              have H := H1
              clear H1
              have H' := Aside0.mk H
              clear H
              go_wp2_with (first | (go_at_call 22; (with_reducible refine (fixed_Check.calls a0 t200 _ A12.out).mono ?_); rintro e w' ⟨rfl, ⟨nd, rfl⟩⟩) | (go_at_call 23; (with_reducible refine (serifref01_Fix.calls a0 true _ A16.out).mono ?_); rintro e w' ⟨rfl, ⟨nd, rfl⟩⟩))
              go_meet
              case rel => exact ⟨_, (true), (by first | rfl | (simp; done) | (simp [*]; done)), H', ⟨by first | omega | exact Nat.le_refl _⟩, ⟨by repeat (first | (with_reducible first | exact HB.out | apply below_alloc | apply pw_below_drewN | apply below_drew1) | exact HB.out)⟩⟩
            · replace c17 := Bool.eq_false_iff.mpr c17
              subst c17
              have H1 : (if t200 = 14 then (seriflaw01_FixedSums.j0 k a0 a1 false) else (seriflaw01_FixedSums.j0 k a0 a1 true)) = some r := by rw [if_neg (show ¬ (false = true) by decide)] at H; exact H
              clear H
              have H := H1
              clear H1
              by_cases c18 : t200 = 14
              · rw [if_pos c18] at H
                have c18b0 : (t200 == 14) = true := beq_iff_eq.mpr c18
                have c18b1 : (t200 != 14) = false := bne_eq_false_iff_eq.mpr c18
                clear c18
                have H' := Aside0.mk H
                clear H
                go_wp2_with (first | (go_at_call 22; (with_reducible refine (fixed_Check.calls a0 t200 _ A12.out).mono ?_); rintro e w' ⟨rfl, ⟨nd, rfl⟩⟩) | (go_at_call 23; (with_reducible refine (serifref01_Fix.calls a0 false _ A16.out).mono ?_); rintro e w' ⟨rfl, ⟨nd, rfl⟩⟩))
                go_meet
                case rel => exact ⟨_, (false), (by first | rfl | (simp; done) | (simp [*]; done)), H', ⟨by first | omega | exact Nat.le_refl _⟩, ⟨by repeat (first | (with_reducible first | exact HB.out | apply below_alloc | apply pw_below_drewN | apply below_drew1) | exact HB.out)⟩⟩
              · rw [if_neg c18] at H
                have c18b0 : (t200 == 14) = false := beq_eq_false_iff_ne.mpr c18
                have c18b1 : (t200 != 14) = true := bne_iff_ne.mpr c18
                have H' := Aside0.mk H
                clear H
                go_wp2_with (first | (go_at_call 22; (with_reducible refine (fixed_Check.calls a0 t200 _ A12.out).mono ?_); rintro e w' ⟨rfl, ⟨nd, rfl⟩⟩) | (go_at_call 23; (with_reducible refine (serifref01_Fix.calls a0 false _ A16.out).mono ?_); rintro e w' ⟨rfl, ⟨nd, rfl⟩⟩))
                go_meet
                case rel => exact ⟨_, (true), (by first | rfl | (simp; done) | (simp [*]; done)), H', ⟨by first | omega | exact Nat.le_refl _⟩, ⟨by repeat (first | (with_reducible first | exact HB.out | apply below_alloc | apply pw_below_drewN | apply below_drew1) | exact HB.out)⟩⟩
        · rw [if_neg c11] at H
          have c11b0 : (t197 == t199) = false := beq_eq_false_iff_ne.mpr c11
          have c11b1 : (t197 != t199) = true := bne_iff_ne.mpr c11
          have H' := Aside0.mk H
          clear H
          go_wp2
          go_meet
          case rel => exact ⟨_, (true), (by first | rfl | (simp; done) | (simp [*]; done)), H', ⟨by first | omega | exact Nat.le_refl _⟩, ⟨by repeat (first | (with_reducible first | exact HB.out | apply below_alloc | apply pw_below_drewN | apply below_drew1) | exact HB.out)⟩⟩
      · rw [if_neg c10] at H
        have c10b0 : (t196 == t198) = false := beq_eq_false_iff_ne.mpr c10
        have c10b1 : (t196 != t198) = true := bne_iff_ne.mpr c10
        (first | rw [c10b0] | (simp only [i64_w, i32_w]; rw [c10b0]) | skip)
        have H' := Aside0.mk H
        clear H
        go_wp2
        go_meet
        case rel => exact ⟨_, (true), (by first | rfl | (simp; done) | (simp [*]; done)), H', ⟨by first | omega | exact Nat.le_refl _⟩, ⟨by repeat (first | (with_reducible first | exact HB.out | apply below_alloc | apply pw_below_drewN | apply below_drew1) | exact HB.out)⟩⟩
    case rest =>
      clear HC7
      try clear c1
      try clear c2
      try clear p2
      try clear c4
      try clear c9
      try clear c10
      try clear c10b0
      try clear c10b1
      try clear c11
      try clear c11b0
      try clear c11b1
      try clear c13
      try clear c13b0
      try clear c13b1
      try clear c15
      try clear c17
      try clear c18
      try clear c18b0
      try clear c18b1
      obtain ⟨kq, x49_6, rfl, HA, HJ6, HB⟩ := hcut
      cases kq with
      | zero => exact absurd HA.out (by simp [seriflaw01_FixedSums.j0])
      | succ kj6 =>
        have H := HA.out
        clear HA
        simp only [seriflaw01_FixedSums.j0] at H
        by_cases c19 : x49_6 = true
        · subst c19
          have H1 : (some false) = some r := by rw [if_pos rfl] at H; exact H
          clear H
          have H := H1
          clear H1
          obtain rfl := Option.some.inj H
          go_wp2
          go_ret
          exact ⟨by first | rfl | (simp [errW_none, errW_some] <;> rfl) | (simp [*, errW_none, errW_some] <;> rfl), by repeat (first | (with_reducible first | exact HB.out | apply below_alloc | apply pw_below_drewN | apply below_drew1) | exact HB.out)⟩
        · replace c19 := Bool.eq_false_iff.mpr c19
          subst c19
          have H1 : ((fixed_Sub.f kj6 a0 a1).bind fun bt203 => ((serifref01_Fix.f a1).bind fun t205 => (if t205 = true then ((serifref01_Sum.f a0 (wrap64 (-a1))).bind fun bt206 => (if bt203.1 = bt206.1 then (if bt203.2 = bt206.2 then (some true) else (some false)) else (some false))) else (if bt203.1 = 0 then (if bt203.2 = 14 then (some true) else (some false)) else (some false))))) = some r := by rw [if_neg (show ¬ (false = true) by decide)] at H; exact H
          clear H
          have H := H1
          clear H1
          replace H := Option.bind_eq_some_iff.mp H
          obtain ⟨⟨t203, t204⟩, A200, H⟩ := H
          replace H : ((serifref01_Fix.f a1).bind fun t205 => (if t205 = true then ((serifref01_Sum.f a0 (wrap64 (-a1))).bind fun bt206 => (if t203 = bt206.1 then (if t204 = bt206.2 then (some true) else (some false)) else (some false))) else (if t203 = 0 then (if t204 = 14 then (some true) else (some false)) else (some false)))) = some r := H
          have A20 := Aside0.mk A200
          clear A200
          replace H := Option.bind_eq_some_iff.mp H
          obtain ⟨t205, A210, H⟩ := H
          replace H : (if t205 = true then ((serifref01_Sum.f a0 (wrap64 (-a1))).bind fun bt206 => (if t203 = bt206.1 then (if t204 = bt206.2 then (some true) else (some false)) else (some false))) else (if t203 = 0 then (if t204 = 14 then (some true) else (some false)) else (some false))) = some r := H
          have A21 := Aside0.mk A210
          clear A210
          by_cases c22 : t205 = true
          · subst c22
            have H1 : ((serifref01_Sum.f a0 (wrap64 (-a1))).bind fun bt206 => (if t203 = bt206.1 then (if t204 = bt206.2 then (some true) else (some false)) else (some false))) = some r := by rw [if_pos rfl] at H; exact H
            clear H
            have H := H1
            clear H1
            replace H := Option.bind_eq_some_iff.mp H
            obtain ⟨⟨t206, t207⟩, A230, H⟩ := H
            replace H : (if t203 = t206 then (if t204 = t207 then (some true) else (some false)) else (some false)) = some r := H
            have A23 := Aside0.mk A230
            clear A230
            by_cases c24 : t203 = t206
            · rw [if_pos c24] at H
              have c24b0 : (t203 == t206) = true := beq_iff_eq.mpr c24
              have c24b1 : (t203 != t206) = false := bne_eq_false_iff_eq.mpr c24
              clear c24
              by_cases c25 : t204 = t207
              · rw [if_pos c25] at H
                have c25b0 : (t204 == t207) = true := beq_iff_eq.mpr c25
                have c25b1 : (t204 != t207) = false := bne_eq_false_iff_eq.mpr c25
                clear c25
                obtain rfl := Option.some.inj H
                go_wp2_with (first | ((with_reducible refine gate_callee (f := 24) rfl ?_); refine goesL_ (some 53) rfl rfl Try.func24 (by kernel_rfl) rfl #[.int .i64 a0, .int .i64 a1] rfl (by (try simp only [List.map_toArray, List.map_cons, List.map_nil]); first | done | rfl | (simp only [List.length_drop, List.length_take]; rfl)) ?_; (with_reducible refine (fixed_Sub.calls kj6 a0 a1 t203 t204 _ A20.out).mono ?_); rintro e w26 ⟨rfl, hb⟩; refine ⟨_, rfl, ?_⟩; have n0_ := Aside0.mk (below_step (by repeat (first | (with_reducible first | exact HB.out | apply below_alloc | apply pw_below_drewN | apply below_drew1) | exact HB.out)) hb); clear HB; have HB := n0_; clear n0_; (try clear hb); (try clear hb2); (try clear hk); (try clear hi)) | ((with_reducible refine gate_callee (f := 23) rfl ?_); refine goesL_ (some 57) rfl rfl Try.func23 (by kernel_rfl) rfl #[.int .i64 a1] rfl (by (try simp only [List.map_toArray, List.map_cons, List.map_nil]); first | done | rfl | (simp only [List.length_drop, List.length_take]; rfl)) ?_; (with_reducible refine (serifref01_Fix.calls a1 true _ A21.out).mono ?_); rintro e w' ⟨rfl, ⟨nd, rfl⟩⟩; refine ⟨_, rfl, ?_⟩) | ((with_reducible refine gate_callee (f := 21) rfl ?_); refine goesL_ (some 69) rfl rfl Try.func21 (by kernel_rfl) rfl #[.int .i64 a0, .int .i64 (wrap64 (-a1))] rfl (by (try simp only [List.map_toArray, List.map_cons, List.map_nil]); first | done | rfl | (simp only [List.length_drop, List.length_take]; rfl)) ?_; (with_reducible refine (serifref01_Sum.calls a0 (wrap64 (-a1)) t206 t207 _ A23.out).mono ?_); rintro e w' ⟨rfl, ⟨nd, rfl⟩⟩; refine ⟨_, rfl, ?_⟩))
                go_ret
                exact ⟨by first | rfl | (simp [errW_none, errW_some] <;> rfl) | (simp [*, errW_none, errW_some] <;> rfl), by repeat (first | (with_reducible first | exact HB.out | apply below_alloc | apply pw_below_drewN | apply below_drew1) | exact HB.out)⟩
              · rw [if_neg c25] at H
                have c25b0 : (t204 == t207) = false := beq_eq_false_iff_ne.mpr c25
                have c25b1 : (t204 != t207) = true := bne_iff_ne.mpr c25
                obtain rfl := Option.some.inj H
                go_wp2_with (first | ((with_reducible refine gate_callee (f := 24) rfl ?_); refine goesL_ (some 53) rfl rfl Try.func24 (by kernel_rfl) rfl #[.int .i64 a0, .int .i64 a1] rfl (by (try simp only [List.map_toArray, List.map_cons, List.map_nil]); first | done | rfl | (simp only [List.length_drop, List.length_take]; rfl)) ?_; (with_reducible refine (fixed_Sub.calls kj6 a0 a1 t203 t204 _ A20.out).mono ?_); rintro e w27 ⟨rfl, hb⟩; refine ⟨_, rfl, ?_⟩; have n0_ := Aside0.mk (below_step (by repeat (first | (with_reducible first | exact HB.out | apply below_alloc | apply pw_below_drewN | apply below_drew1) | exact HB.out)) hb); clear HB; have HB := n0_; clear n0_; (try clear hb); (try clear hb2); (try clear hk); (try clear hi)) | ((with_reducible refine gate_callee (f := 23) rfl ?_); refine goesL_ (some 57) rfl rfl Try.func23 (by kernel_rfl) rfl #[.int .i64 a1] rfl (by (try simp only [List.map_toArray, List.map_cons, List.map_nil]); first | done | rfl | (simp only [List.length_drop, List.length_take]; rfl)) ?_; (with_reducible refine (serifref01_Fix.calls a1 true _ A21.out).mono ?_); rintro e w' ⟨rfl, ⟨nd, rfl⟩⟩; refine ⟨_, rfl, ?_⟩) | ((with_reducible refine gate_callee (f := 21) rfl ?_); refine goesL_ (some 69) rfl rfl Try.func21 (by kernel_rfl) rfl #[.int .i64 a0, .int .i64 (wrap64 (-a1))] rfl (by (try simp only [List.map_toArray, List.map_cons, List.map_nil]); first | done | rfl | (simp only [List.length_drop, List.length_take]; rfl)) ?_; (with_reducible refine (serifref01_Sum.calls a0 (wrap64 (-a1)) t206 t207 _ A23.out).mono ?_); rintro e w' ⟨rfl, ⟨nd, rfl⟩⟩; refine ⟨_, rfl, ?_⟩))
                go_ret
                exact ⟨by first | rfl | (simp [errW_none, errW_some] <;> rfl) | (simp [*, errW_none, errW_some] <;> rfl), by repeat (first | (with_reducible first | exact HB.out | apply below_alloc | apply pw_below_drewN | apply below_drew1) | exact HB.out)⟩
            · rw [if_neg c24] at H
              have c24b0 : (t203 == t206) = false := beq_eq_false_iff_ne.mpr c24
              have c24b1 : (t203 != t206) = true := bne_iff_ne.mpr c24
              obtain rfl := Option.some.inj H
              go_wp2_with (first | ((with_reducible refine gate_callee (f := 24) rfl ?_); refine goesL_ (some 53) rfl rfl Try.func24 (by kernel_rfl) rfl #[.int .i64 a0, .int .i64 a1] rfl (by (try simp only [List.map_toArray, List.map_cons, List.map_nil]); first | done | rfl | (simp only [List.length_drop, List.length_take]; rfl)) ?_; (with_reducible refine (fixed_Sub.calls kj6 a0 a1 t203 t204 _ A20.out).mono ?_); rintro e w28 ⟨rfl, hb⟩; refine ⟨_, rfl, ?_⟩; have n0_ := Aside0.mk (below_step (by repeat (first | (with_reducible first | exact HB.out | apply below_alloc | apply pw_below_drewN | apply below_drew1) | exact HB.out)) hb); clear HB; have HB := n0_; clear n0_; (try clear hb); (try clear hb2); (try clear hk); (try clear hi)) | ((with_reducible refine gate_callee (f := 23) rfl ?_); refine goesL_ (some 57) rfl rfl Try.func23 (by kernel_rfl) rfl #[.int .i64 a1] rfl (by (try simp only [List.map_toArray, List.map_cons, List.map_nil]); first | done | rfl | (simp only [List.length_drop, List.length_take]; rfl)) ?_; (with_reducible refine (serifref01_Fix.calls a1 true _ A21.out).mono ?_); rintro e w' ⟨rfl, ⟨nd, rfl⟩⟩; refine ⟨_, rfl, ?_⟩) | ((with_reducible refine gate_callee (f := 21) rfl ?_); refine goesL_ (some 69) rfl rfl Try.func21 (by kernel_rfl) rfl #[.int .i64 a0, .int .i64 (wrap64 (-a1))] rfl (by (try simp only [List.map_toArray, List.map_cons, List.map_nil]); first | done | rfl | (simp only [List.length_drop, List.length_take]; rfl)) ?_; (with_reducible refine (serifref01_Sum.calls a0 (wrap64 (-a1)) t206 t207 _ A23.out).mono ?_); rintro e w' ⟨rfl, ⟨nd, rfl⟩⟩; refine ⟨_, rfl, ?_⟩))
              go_ret
              exact ⟨by first | rfl | (simp [errW_none, errW_some] <;> rfl) | (simp [*, errW_none, errW_some] <;> rfl), by repeat (first | (with_reducible first | exact HB.out | apply below_alloc | apply pw_below_drewN | apply below_drew1) | exact HB.out)⟩
          · replace c22 := Bool.eq_false_iff.mpr c22
            subst c22
            have H1 : (if t203 = 0 then (if t204 = 14 then (some true) else (some false)) else (some false)) = some r := by rw [if_neg (show ¬ (false = true) by decide)] at H; exact H
            clear H
            have H := H1
            clear H1
            by_cases c29 : t203 = 0
            · rw [if_pos c29] at H
              have c29b0 : (t203 == 0) = true := beq_iff_eq.mpr c29
              have c29b1 : (t203 != 0) = false := bne_eq_false_iff_eq.mpr c29
              clear c29
              by_cases c30 : t204 = 14
              · rw [if_pos c30] at H
                have c30b0 : (t204 == 14) = true := beq_iff_eq.mpr c30
                have c30b1 : (t204 != 14) = false := bne_eq_false_iff_eq.mpr c30
                clear c30
                obtain rfl := Option.some.inj H
                go_wp2_with (first | ((with_reducible refine gate_callee (f := 24) rfl ?_); refine goesL_ (some 53) rfl rfl Try.func24 (by kernel_rfl) rfl #[.int .i64 a0, .int .i64 a1] rfl (by (try simp only [List.map_toArray, List.map_cons, List.map_nil]); first | done | rfl | (simp only [List.length_drop, List.length_take]; rfl)) ?_; (with_reducible refine (fixed_Sub.calls kj6 a0 a1 t203 t204 _ A20.out).mono ?_); rintro e w31 ⟨rfl, hb⟩; refine ⟨_, rfl, ?_⟩; have n0_ := Aside0.mk (below_step (by repeat (first | (with_reducible first | exact HB.out | apply below_alloc | apply pw_below_drewN | apply below_drew1) | exact HB.out)) hb); clear HB; have HB := n0_; clear n0_; (try clear hb); (try clear hb2); (try clear hk); (try clear hi)) | ((with_reducible refine gate_callee (f := 23) rfl ?_); refine goesL_ (some 57) rfl rfl Try.func23 (by kernel_rfl) rfl #[.int .i64 a1] rfl (by (try simp only [List.map_toArray, List.map_cons, List.map_nil]); first | done | rfl | (simp only [List.length_drop, List.length_take]; rfl)) ?_; (with_reducible refine (serifref01_Fix.calls a1 false _ A21.out).mono ?_); rintro e w' ⟨rfl, ⟨nd, rfl⟩⟩; refine ⟨_, rfl, ?_⟩))
                go_ret
                exact ⟨by first | rfl | (simp [errW_none, errW_some] <;> rfl) | (simp [*, errW_none, errW_some] <;> rfl), by repeat (first | (with_reducible first | exact HB.out | apply below_alloc | apply pw_below_drewN | apply below_drew1) | exact HB.out)⟩
              · rw [if_neg c30] at H
                have c30b0 : (t204 == 14) = false := beq_eq_false_iff_ne.mpr c30
                have c30b1 : (t204 != 14) = true := bne_iff_ne.mpr c30
                obtain rfl := Option.some.inj H
                go_wp2_with (first | ((with_reducible refine gate_callee (f := 24) rfl ?_); refine goesL_ (some 53) rfl rfl Try.func24 (by kernel_rfl) rfl #[.int .i64 a0, .int .i64 a1] rfl (by (try simp only [List.map_toArray, List.map_cons, List.map_nil]); first | done | rfl | (simp only [List.length_drop, List.length_take]; rfl)) ?_; (with_reducible refine (fixed_Sub.calls kj6 a0 a1 t203 t204 _ A20.out).mono ?_); rintro e w32 ⟨rfl, hb⟩; refine ⟨_, rfl, ?_⟩; have n0_ := Aside0.mk (below_step (by repeat (first | (with_reducible first | exact HB.out | apply below_alloc | apply pw_below_drewN | apply below_drew1) | exact HB.out)) hb); clear HB; have HB := n0_; clear n0_; (try clear hb); (try clear hb2); (try clear hk); (try clear hi)) | ((with_reducible refine gate_callee (f := 23) rfl ?_); refine goesL_ (some 57) rfl rfl Try.func23 (by kernel_rfl) rfl #[.int .i64 a1] rfl (by (try simp only [List.map_toArray, List.map_cons, List.map_nil]); first | done | rfl | (simp only [List.length_drop, List.length_take]; rfl)) ?_; (with_reducible refine (serifref01_Fix.calls a1 false _ A21.out).mono ?_); rintro e w' ⟨rfl, ⟨nd, rfl⟩⟩; refine ⟨_, rfl, ?_⟩))
                go_ret
                exact ⟨by first | rfl | (simp [errW_none, errW_some] <;> rfl) | (simp [*, errW_none, errW_some] <;> rfl), by repeat (first | (with_reducible first | exact HB.out | apply below_alloc | apply pw_below_drewN | apply below_drew1) | exact HB.out)⟩
            · rw [if_neg c29] at H
              have c29b0 : (t203 == 0) = false := beq_eq_false_iff_ne.mpr c29
              have c29b1 : (t203 != 0) = true := bne_iff_ne.mpr c29
              obtain rfl := Option.some.inj H
              go_wp2_with (first | ((with_reducible refine gate_callee (f := 24) rfl ?_); refine goesL_ (some 53) rfl rfl Try.func24 (by kernel_rfl) rfl #[.int .i64 a0, .int .i64 a1] rfl (by (try simp only [List.map_toArray, List.map_cons, List.map_nil]); first | done | rfl | (simp only [List.length_drop, List.length_take]; rfl)) ?_; (with_reducible refine (fixed_Sub.calls kj6 a0 a1 t203 t204 _ A20.out).mono ?_); rintro e w33 ⟨rfl, hb⟩; refine ⟨_, rfl, ?_⟩; have n0_ := Aside0.mk (below_step (by repeat (first | (with_reducible first | exact HB.out | apply below_alloc | apply pw_below_drewN | apply below_drew1) | exact HB.out)) hb); clear HB; have HB := n0_; clear n0_; (try clear hb); (try clear hb2); (try clear hk); (try clear hi)) | ((with_reducible refine gate_callee (f := 23) rfl ?_); refine goesL_ (some 57) rfl rfl Try.func23 (by kernel_rfl) rfl #[.int .i64 a1] rfl (by (try simp only [List.map_toArray, List.map_cons, List.map_nil]); first | done | rfl | (simp only [List.length_drop, List.length_take]; rfl)) ?_; (with_reducible refine (serifref01_Fix.calls a1 false _ A21.out).mono ?_); rintro e w' ⟨rfl, ⟨nd, rfl⟩⟩; refine ⟨_, rfl, ?_⟩))
              go_ret
              exact ⟨by first | rfl | (simp [errW_none, errW_some] <;> rfl) | (simp [*, errW_none, errW_some] <;> rfl), by repeat (first | (with_reducible first | exact HB.out | apply below_alloc | apply pw_below_drewN | apply below_drew1) | exact HB.out)⟩
  · replace c4 := Bool.eq_false_iff.mpr c4
    subst c4
    have H1 : (some false) = some r := by rw [if_neg (show ¬ (false = true) by decide)] at H; exact H
    clear H
    have H := H1
    clear H1
    obtain rfl := Option.some.inj H
    go_enter Try.func9, Try.ntmps9
    go_wp2_with (first | ((with_reducible refine gate_callee (f := 10) rfl ?_); refine goesL_ (some 10) rfl rfl Try.func10 (by kernel_rfl) rfl #[] rfl (by (try simp only [List.map_toArray, List.map_cons, List.map_nil]); first | done | rfl | (simp only [List.length_drop, List.length_take]; rfl)) ?_; (with_reducible refine (seriflaw01_fixedAlive.calls k  false _ A3.out).mono ?_); rintro e w34 ⟨rfl, hb⟩; refine ⟨_, rfl, ?_⟩; have n0_ := Aside0.mk (below_step (by repeat (first | (with_reducible first | exact HB.out | apply below_alloc | apply pw_below_drewN | apply below_drew1) | exact HB.out)) hb); clear HB; have HB := n0_; clear n0_; (try clear hb); (try clear hb2); (try clear hk); (try clear hi)))
    go_ret
    exact ⟨by first | rfl | (simp [errW_none, errW_some] <;> rfl) | (simp [*, errW_none, errW_some] <;> rfl), by repeat (first | (with_reducible first | exact HB.out | apply below_alloc | apply pw_below_drewN | apply below_drew1) | exact HB.out)⟩

/-- THE ONE PURE STATEMENT of seriflaw01_FixedSums: yours. -/
def seriflaw01_FixedSums.Pure : Prop := ∀ (a0 : Int) (a1 : Int), (Lit.int .i64 a0).wf = true → (Lit.int .i64 a1).wf = true → ∃ k, seriflaw01_FixedSums.f k a0 a1 = some true
theorem seriflaw01_FixedSums.walk (P : seriflaw01_FixedSums.Pure) (a0 : Int) (a1 : Int) (w : World) (w0 : (Lit.int .i64 a0).wf = true) (w1 : (Lit.int .i64 a1).wf = true) :
    Calls Try.prog 9 #[.int .i64 a0, .int .i64 a1] w fun e w' => e = .returned (.bool true) ∧ Below w.heap.size w w' := by
  obtain ⟨k, h⟩ := P a0 a1 w0 w1
  refine (seriflaw01_FixedSums.calls k a0 a1 true w h).mono ?_
  rintro e w' ⟨rfl, hd⟩
  exact ⟨rfl, hd⟩

end Go.Proofs.Ytbeegagnlcglcaa.X
