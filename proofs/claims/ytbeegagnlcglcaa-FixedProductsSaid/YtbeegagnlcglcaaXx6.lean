-- written by a program of this session (wip/xprint.py) over the kit's print
import Derived.Test.YtbeegagnlcglcaaXx0
import Derived.Test.YtbeegagnlcglcaaXx4
import Derived.Test.YtbeegagnlcglcaaXx5
namespace Go.Proofs.Ytbeegagnlcglcaa.X
open Go.RowKit Go.Proofs.YtbeegagnlcglcaaW.PrintWords Go.Proofs.YtbeegagnlcglcaaW.PrintLast Go.Proofs.YtbeegagnlcglcaaW.PrintMore
attribute [local go_sem] max2_int min2_int max_two min_two max_three min_three max_four min_four   -- for this text's walks alone
set_option linter.unusedVariables false
set_option linter.unusedSimpArgs false

/-! ### serifref01_MulDiv: function 12 -/
def serifref01_MulDiv.l0 : Nat → Int → Int → List Int → Int → Int → Option (Int × Int)
  | 0, _, _, _, _, _ => none
  | k + 1, x9, x10, x36, x37, x38 => if x38 < x37 then (if 0 ≤ x38 then (if x38 < (x36.length : Int) then (if (rd x36 x38) < 0 then (serifref01_MulDiv.l0 k x9 (wrap64 (x10 + 1)) x36 x37 (wrap64 (x38 + 1))) else (serifref01_MulDiv.l0 k x9 x10 x36 x37 (wrap64 (x38 + 1)))) else (none)) else (none)) else (if (Int.tmod x10 2) = 1 then (some (wrap64 (-x9), 0)) else (some (x9, 0)))
def serifref01_MulDiv.f (k : Nat) (a0 : Int) (a1 : Int) (a2 : Int) : Option (Int × Int) := if a2 = 0 then (some (0, 14)) else ((serifref01_Size.f a0).bind fun bt195 => ((serifref01_Size.f a1).bind fun bt205 => ((serifref01_Times.f bt195.1 bt195.2.1 bt195.2.2.1 bt195.2.2.2.1 bt195.2.2.2.2.1 bt195.2.2.2.2.2.1 bt195.2.2.2.2.2.2.1 bt195.2.2.2.2.2.2.2.1 bt195.2.2.2.2.2.2.2.2.1 bt195.2.2.2.2.2.2.2.2.2 bt205.1 bt205.2.1 bt205.2.2.1 bt205.2.2.2.1 bt205.2.2.2.2.1 bt205.2.2.2.2.2.1 bt205.2.2.2.2.2.2.1 bt205.2.2.2.2.2.2.2.1 bt205.2.2.2.2.2.2.2.2.1 bt205.2.2.2.2.2.2.2.2.2).bind fun bt215 => ((serifref01_Size.f a2).bind fun bt226 => ((serifref01_Size.f 8589934592).bind fun bt236 => ((serifref01_Times.f bt226.1 bt226.2.1 bt226.2.2.1 bt226.2.2.2.1 bt226.2.2.2.2.1 bt226.2.2.2.2.2.1 bt226.2.2.2.2.2.2.1 bt226.2.2.2.2.2.2.2.1 bt226.2.2.2.2.2.2.2.2.1 bt226.2.2.2.2.2.2.2.2.2 bt236.1 bt236.2.1 bt236.2.2.1 bt236.2.2.2.1 bt236.2.2.2.2.1 bt236.2.2.2.2.2.1 bt236.2.2.2.2.2.2.1 bt236.2.2.2.2.2.2.2.1 bt236.2.2.2.2.2.2.2.2.1 bt236.2.2.2.2.2.2.2.2.2).bind fun bt246 => ((serifref01_Under.f bt215.1 bt215.2.1 bt215.2.2.1 bt215.2.2.2.1 bt215.2.2.2.2.1 bt215.2.2.2.2.2.1 bt215.2.2.2.2.2.2.1 bt215.2.2.2.2.2.2.2.1 bt215.2.2.2.2.2.2.2.2.1 bt215.2.2.2.2.2.2.2.2.2 bt246.1 bt246.2.1 bt246.2.2.1 bt246.2.2.2.1 bt246.2.2.2.2.1 bt246.2.2.2.2.2.1 bt246.2.2.2.2.2.2.1 bt246.2.2.2.2.2.2.2.1 bt246.2.2.2.2.2.2.2.2.1 bt246.2.2.2.2.2.2.2.2.2).bind fun t256 => (if t256 = true then ((serifref01_Size.f a2).bind fun bt257 => ((serifref01_Nearest.f k bt215.1 bt215.2.1 bt215.2.2.1 bt215.2.2.2.1 bt215.2.2.2.2.1 bt215.2.2.2.2.2.1 bt215.2.2.2.2.2.2.1 bt215.2.2.2.2.2.2.2.1 bt215.2.2.2.2.2.2.2.2.1 bt215.2.2.2.2.2.2.2.2.2 bt257.1 bt257.2.1 bt257.2.2.1 bt257.2.2.2.1 bt257.2.2.2.2.1 bt257.2.2.2.2.2.1 bt257.2.2.2.2.2.2.1 bt257.2.2.2.2.2.2.2.1 bt257.2.2.2.2.2.2.2.2.1 bt257.2.2.2.2.2.2.2.2.2).bind fun t267 => (if t267 > 2147483647 then (some (0, 14)) else ((some (([a0, a1, a2] : List Int) : List Int)).bind fun y268 => (serifref01_MulDiv.l0 k t267 0 y268 (y268.length : Int) 0))))) else (some (0, 14))))))))))
theorem serifref01_MulDiv.mono_l : ∀ k, (∀ y0 y1 y2 y3 y4, LeO (serifref01_MulDiv.l0 k y0 y1 y2 y3 y4) (serifref01_MulDiv.l0 (k + 1) y0 y1 y2 y3 y4))
  | 0 => fun _ _ _ _ _ r h => by simp [serifref01_MulDiv.l0] at h
  | k + 1 => by
    have ih0 := serifref01_MulDiv.mono_l k
    · intro y0 y1 y2 y3 y4
      unfold serifref01_MulDiv.l0
      repeat' first
      | (with_reducible exact ih0 _ _ _ _ _)
      | (with_reducible exact serifref01_Nearest.mono _ _ _ _ _ _ _ _ _ _ _ _ _ _ _ _ _ _ _ _ _)
      | (with_reducible exact LeO.refl _)
      | (with_reducible exact LeO.none _)
      | (with_reducible refine LeO.ite ?_ ?_)
      | (with_reducible refine LeO.bind ?_ (fun _ => ?_))
      | exact ih0 _ _ _ _ _
      | exact serifref01_Nearest.mono _ _ _ _ _ _ _ _ _ _ _ _ _ _ _ _ _ _ _ _ _
      | exact LeO.none _
      | refine LeO.ite ?_ ?_
      | refine LeO.bind ?_ (fun _ => ?_)
theorem serifref01_MulDiv.mono : ∀ a0 a1 a2 k, LeO (serifref01_MulDiv.f k a0 a1 a2) (serifref01_MulDiv.f (k + 1) a0 a1 a2) := by
  intro a0 a1 a2 k
  have ih0 := serifref01_MulDiv.mono_l k
  unfold serifref01_MulDiv.f
  repeat' first
      | (with_reducible exact ih0 _ _ _ _ _)
      | (with_reducible exact serifref01_Nearest.mono _ _ _ _ _ _ _ _ _ _ _ _ _ _ _ _ _ _ _ _ _)
      | (with_reducible exact LeO.refl _)
      | (with_reducible exact LeO.none _)
      | (with_reducible refine LeO.ite ?_ ?_)
      | (with_reducible refine LeO.bind ?_ (fun _ => ?_))
      | exact ih0 _ _ _ _ _
      | exact serifref01_Nearest.mono _ _ _ _ _ _ _ _ _ _ _ _ _ _ _ _ _ _ _ _ _
      | exact LeO.none _
      | refine LeO.ite ?_ ?_
      | refine LeO.bind ?_ (fun _ => ?_)
set_option maxHeartbeats 8000000 in
set_option maxRecDepth 100000 in
theorem serifref01_MulDiv.calls (k : Nat) (a0 : Int) (a1 : Int) (a2 : Int) (r1 : Int) (r2 : Int) (w : World) (h : serifref01_MulDiv.f k a0 a1 a2 = some (r1, r2)) :
    Calls Try.prog 12 #[.int .i64 a0, .int .i64 a1, .int .i64 a2] w fun e w' => e = .returned (.tuple #[.int .i64 r1, .int .i64 r2]) ∧ Below w.heap.size w w' := by
  have hu50 := Try.underlying50
  have HB := Aside0.mk (Below.refl w.heap.size w)
  have H : (if a2 = 0 then (some (0, 14)) else ((serifref01_Size.f a0).bind fun bt195 => ((serifref01_Size.f a1).bind fun bt205 => ((serifref01_Times.f bt195.1 bt195.2.1 bt195.2.2.1 bt195.2.2.2.1 bt195.2.2.2.2.1 bt195.2.2.2.2.2.1 bt195.2.2.2.2.2.2.1 bt195.2.2.2.2.2.2.2.1 bt195.2.2.2.2.2.2.2.2.1 bt195.2.2.2.2.2.2.2.2.2 bt205.1 bt205.2.1 bt205.2.2.1 bt205.2.2.2.1 bt205.2.2.2.2.1 bt205.2.2.2.2.2.1 bt205.2.2.2.2.2.2.1 bt205.2.2.2.2.2.2.2.1 bt205.2.2.2.2.2.2.2.2.1 bt205.2.2.2.2.2.2.2.2.2).bind fun bt215 => ((serifref01_Size.f a2).bind fun bt226 => ((serifref01_Size.f 8589934592).bind fun bt236 => ((serifref01_Times.f bt226.1 bt226.2.1 bt226.2.2.1 bt226.2.2.2.1 bt226.2.2.2.2.1 bt226.2.2.2.2.2.1 bt226.2.2.2.2.2.2.1 bt226.2.2.2.2.2.2.2.1 bt226.2.2.2.2.2.2.2.2.1 bt226.2.2.2.2.2.2.2.2.2 bt236.1 bt236.2.1 bt236.2.2.1 bt236.2.2.2.1 bt236.2.2.2.2.1 bt236.2.2.2.2.2.1 bt236.2.2.2.2.2.2.1 bt236.2.2.2.2.2.2.2.1 bt236.2.2.2.2.2.2.2.2.1 bt236.2.2.2.2.2.2.2.2.2).bind fun bt246 => ((serifref01_Under.f bt215.1 bt215.2.1 bt215.2.2.1 bt215.2.2.2.1 bt215.2.2.2.2.1 bt215.2.2.2.2.2.1 bt215.2.2.2.2.2.2.1 bt215.2.2.2.2.2.2.2.1 bt215.2.2.2.2.2.2.2.2.1 bt215.2.2.2.2.2.2.2.2.2 bt246.1 bt246.2.1 bt246.2.2.1 bt246.2.2.2.1 bt246.2.2.2.2.1 bt246.2.2.2.2.2.1 bt246.2.2.2.2.2.2.1 bt246.2.2.2.2.2.2.2.1 bt246.2.2.2.2.2.2.2.2.1 bt246.2.2.2.2.2.2.2.2.2).bind fun t256 => (if t256 = true then ((serifref01_Size.f a2).bind fun bt257 => ((serifref01_Nearest.f k bt215.1 bt215.2.1 bt215.2.2.1 bt215.2.2.2.1 bt215.2.2.2.2.1 bt215.2.2.2.2.2.1 bt215.2.2.2.2.2.2.1 bt215.2.2.2.2.2.2.2.1 bt215.2.2.2.2.2.2.2.2.1 bt215.2.2.2.2.2.2.2.2.2 bt257.1 bt257.2.1 bt257.2.2.1 bt257.2.2.2.1 bt257.2.2.2.2.1 bt257.2.2.2.2.2.1 bt257.2.2.2.2.2.2.1 bt257.2.2.2.2.2.2.2.1 bt257.2.2.2.2.2.2.2.2.1 bt257.2.2.2.2.2.2.2.2.2).bind fun t267 => (if t267 > 2147483647 then (some (0, 14)) else ((some (([a0, a1, a2] : List Int) : List Int)).bind fun y268 => (serifref01_MulDiv.l0 k t267 0 y268 (y268.length : Int) 0))))) else (some (0, 14))))))))))) = some (r1, r2) := h
  clear h
  by_cases c4 : a2 = 0
  · rw [if_pos c4] at H
    have c4b0 : (a2 == 0) = true := beq_iff_eq.mpr c4
    have c4b1 : (a2 != 0) = false := bne_eq_false_iff_eq.mpr c4
    clear c4
    simp only [Option.some.injEq, Prod.mk.injEq] at H
    obtain ⟨rfl, rfl⟩ := H
    go_enter Try.func12, Try.ntmps12
    go_wp2
    go_ret2
    exact ⟨by first | rfl | (simp [errW_none, errW_some] <;> rfl) | (simp [*, errW_none, errW_some] <;> rfl), by repeat (first | (with_reducible first | exact HB.out | apply below_alloc | apply pw_below_drewN | apply below_drew1) | exact HB.out)⟩
  · rw [if_neg c4] at H
    have c4b0 : (a2 == 0) = false := beq_eq_false_iff_ne.mpr c4
    have c4b1 : (a2 != 0) = true := bne_iff_ne.mpr c4
    replace H := Option.bind_eq_some_iff.mp H
    obtain ⟨⟨t195, t196, t197, t198, t199, t200, t201, t202, t203, t204⟩, A50, H⟩ := H
    replace H : ((serifref01_Size.f a1).bind fun bt205 => ((serifref01_Times.f t195 t196 t197 t198 t199 t200 t201 t202 t203 t204 bt205.1 bt205.2.1 bt205.2.2.1 bt205.2.2.2.1 bt205.2.2.2.2.1 bt205.2.2.2.2.2.1 bt205.2.2.2.2.2.2.1 bt205.2.2.2.2.2.2.2.1 bt205.2.2.2.2.2.2.2.2.1 bt205.2.2.2.2.2.2.2.2.2).bind fun bt215 => ((serifref01_Size.f a2).bind fun bt226 => ((serifref01_Size.f 8589934592).bind fun bt236 => ((serifref01_Times.f bt226.1 bt226.2.1 bt226.2.2.1 bt226.2.2.2.1 bt226.2.2.2.2.1 bt226.2.2.2.2.2.1 bt226.2.2.2.2.2.2.1 bt226.2.2.2.2.2.2.2.1 bt226.2.2.2.2.2.2.2.2.1 bt226.2.2.2.2.2.2.2.2.2 bt236.1 bt236.2.1 bt236.2.2.1 bt236.2.2.2.1 bt236.2.2.2.2.1 bt236.2.2.2.2.2.1 bt236.2.2.2.2.2.2.1 bt236.2.2.2.2.2.2.2.1 bt236.2.2.2.2.2.2.2.2.1 bt236.2.2.2.2.2.2.2.2.2).bind fun bt246 => ((serifref01_Under.f bt215.1 bt215.2.1 bt215.2.2.1 bt215.2.2.2.1 bt215.2.2.2.2.1 bt215.2.2.2.2.2.1 bt215.2.2.2.2.2.2.1 bt215.2.2.2.2.2.2.2.1 bt215.2.2.2.2.2.2.2.2.1 bt215.2.2.2.2.2.2.2.2.2 bt246.1 bt246.2.1 bt246.2.2.1 bt246.2.2.2.1 bt246.2.2.2.2.1 bt246.2.2.2.2.2.1 bt246.2.2.2.2.2.2.1 bt246.2.2.2.2.2.2.2.1 bt246.2.2.2.2.2.2.2.2.1 bt246.2.2.2.2.2.2.2.2.2).bind fun t256 => (if t256 = true then ((serifref01_Size.f a2).bind fun bt257 => ((serifref01_Nearest.f k bt215.1 bt215.2.1 bt215.2.2.1 bt215.2.2.2.1 bt215.2.2.2.2.1 bt215.2.2.2.2.2.1 bt215.2.2.2.2.2.2.1 bt215.2.2.2.2.2.2.2.1 bt215.2.2.2.2.2.2.2.2.1 bt215.2.2.2.2.2.2.2.2.2 bt257.1 bt257.2.1 bt257.2.2.1 bt257.2.2.2.1 bt257.2.2.2.2.1 bt257.2.2.2.2.2.1 bt257.2.2.2.2.2.2.1 bt257.2.2.2.2.2.2.2.1 bt257.2.2.2.2.2.2.2.2.1 bt257.2.2.2.2.2.2.2.2.2).bind fun t267 => (if t267 > 2147483647 then (some (0, 14)) else ((some (([a0, a1, a2] : List Int) : List Int)).bind fun y268 => (serifref01_MulDiv.l0 k t267 0 y268 (y268.length : Int) 0))))) else (some (0, 14))))))))) = some (r1, r2) := H
    have A5 := Aside0.mk A50
    clear A50
    replace H := Option.bind_eq_some_iff.mp H
    obtain ⟨⟨t205, t206, t207, t208, t209, t210, t211, t212, t213, t214⟩, A60, H⟩ := H
    replace H : ((serifref01_Times.f t195 t196 t197 t198 t199 t200 t201 t202 t203 t204 t205 t206 t207 t208 t209 t210 t211 t212 t213 t214).bind fun bt215 => ((serifref01_Size.f a2).bind fun bt226 => ((serifref01_Size.f 8589934592).bind fun bt236 => ((serifref01_Times.f bt226.1 bt226.2.1 bt226.2.2.1 bt226.2.2.2.1 bt226.2.2.2.2.1 bt226.2.2.2.2.2.1 bt226.2.2.2.2.2.2.1 bt226.2.2.2.2.2.2.2.1 bt226.2.2.2.2.2.2.2.2.1 bt226.2.2.2.2.2.2.2.2.2 bt236.1 bt236.2.1 bt236.2.2.1 bt236.2.2.2.1 bt236.2.2.2.2.1 bt236.2.2.2.2.2.1 bt236.2.2.2.2.2.2.1 bt236.2.2.2.2.2.2.2.1 bt236.2.2.2.2.2.2.2.2.1 bt236.2.2.2.2.2.2.2.2.2).bind fun bt246 => ((serifref01_Under.f bt215.1 bt215.2.1 bt215.2.2.1 bt215.2.2.2.1 bt215.2.2.2.2.1 bt215.2.2.2.2.2.1 bt215.2.2.2.2.2.2.1 bt215.2.2.2.2.2.2.2.1 bt215.2.2.2.2.2.2.2.2.1 bt215.2.2.2.2.2.2.2.2.2 bt246.1 bt246.2.1 bt246.2.2.1 bt246.2.2.2.1 bt246.2.2.2.2.1 bt246.2.2.2.2.2.1 bt246.2.2.2.2.2.2.1 bt246.2.2.2.2.2.2.2.1 bt246.2.2.2.2.2.2.2.2.1 bt246.2.2.2.2.2.2.2.2.2).bind fun t256 => (if t256 = true then ((serifref01_Size.f a2).bind fun bt257 => ((serifref01_Nearest.f k bt215.1 bt215.2.1 bt215.2.2.1 bt215.2.2.2.1 bt215.2.2.2.2.1 bt215.2.2.2.2.2.1 bt215.2.2.2.2.2.2.1 bt215.2.2.2.2.2.2.2.1 bt215.2.2.2.2.2.2.2.2.1 bt215.2.2.2.2.2.2.2.2.2 bt257.1 bt257.2.1 bt257.2.2.1 bt257.2.2.2.1 bt257.2.2.2.2.1 bt257.2.2.2.2.2.1 bt257.2.2.2.2.2.2.1 bt257.2.2.2.2.2.2.2.1 bt257.2.2.2.2.2.2.2.2.1 bt257.2.2.2.2.2.2.2.2.2).bind fun t267 => (if t267 > 2147483647 then (some (0, 14)) else ((some (([a0, a1, a2] : List Int) : List Int)).bind fun y268 => (serifref01_MulDiv.l0 k t267 0 y268 (y268.length : Int) 0))))) else (some (0, 14)))))))) = some (r1, r2) := H
    have A6 := Aside0.mk A60
    clear A60
    replace H := Option.bind_eq_some_iff.mp H
    obtain ⟨⟨t215, t216, t217, t218, t219, t220, t221, t222, t223, t224⟩, A70, H⟩ := H
    replace H : ((serifref01_Size.f a2).bind fun bt226 => ((serifref01_Size.f 8589934592).bind fun bt236 => ((serifref01_Times.f bt226.1 bt226.2.1 bt226.2.2.1 bt226.2.2.2.1 bt226.2.2.2.2.1 bt226.2.2.2.2.2.1 bt226.2.2.2.2.2.2.1 bt226.2.2.2.2.2.2.2.1 bt226.2.2.2.2.2.2.2.2.1 bt226.2.2.2.2.2.2.2.2.2 bt236.1 bt236.2.1 bt236.2.2.1 bt236.2.2.2.1 bt236.2.2.2.2.1 bt236.2.2.2.2.2.1 bt236.2.2.2.2.2.2.1 bt236.2.2.2.2.2.2.2.1 bt236.2.2.2.2.2.2.2.2.1 bt236.2.2.2.2.2.2.2.2.2).bind fun bt246 => ((serifref01_Under.f t215 t216 t217 t218 t219 t220 t221 t222 t223 t224 bt246.1 bt246.2.1 bt246.2.2.1 bt246.2.2.2.1 bt246.2.2.2.2.1 bt246.2.2.2.2.2.1 bt246.2.2.2.2.2.2.1 bt246.2.2.2.2.2.2.2.1 bt246.2.2.2.2.2.2.2.2.1 bt246.2.2.2.2.2.2.2.2.2).bind fun t256 => (if t256 = true then ((serifref01_Size.f a2).bind fun bt257 => ((serifref01_Nearest.f k t215 t216 t217 t218 t219 t220 t221 t222 t223 t224 bt257.1 bt257.2.1 bt257.2.2.1 bt257.2.2.2.1 bt257.2.2.2.2.1 bt257.2.2.2.2.2.1 bt257.2.2.2.2.2.2.1 bt257.2.2.2.2.2.2.2.1 bt257.2.2.2.2.2.2.2.2.1 bt257.2.2.2.2.2.2.2.2.2).bind fun t267 => (if t267 > 2147483647 then (some (0, 14)) else ((some (([a0, a1, a2] : List Int) : List Int)).bind fun y268 => (serifref01_MulDiv.l0 k t267 0 y268 (y268.length : Int) 0))))) else (some (0, 14))))))) = some (r1, r2) := H
    have A7 := Aside0.mk A70
    clear A70
    replace H := Option.bind_eq_some_iff.mp H
    obtain ⟨⟨t226, t227, t228, t229, t230, t231, t232, t233, t234, t235⟩, A80, H⟩ := H
    replace H : ((serifref01_Size.f 8589934592).bind fun bt236 => ((serifref01_Times.f t226 t227 t228 t229 t230 t231 t232 t233 t234 t235 bt236.1 bt236.2.1 bt236.2.2.1 bt236.2.2.2.1 bt236.2.2.2.2.1 bt236.2.2.2.2.2.1 bt236.2.2.2.2.2.2.1 bt236.2.2.2.2.2.2.2.1 bt236.2.2.2.2.2.2.2.2.1 bt236.2.2.2.2.2.2.2.2.2).bind fun bt246 => ((serifref01_Under.f t215 t216 t217 t218 t219 t220 t221 t222 t223 t224 bt246.1 bt246.2.1 bt246.2.2.1 bt246.2.2.2.1 bt246.2.2.2.2.1 bt246.2.2.2.2.2.1 bt246.2.2.2.2.2.2.1 bt246.2.2.2.2.2.2.2.1 bt246.2.2.2.2.2.2.2.2.1 bt246.2.2.2.2.2.2.2.2.2).bind fun t256 => (if t256 = true then ((serifref01_Size.f a2).bind fun bt257 => ((serifref01_Nearest.f k t215 t216 t217 t218 t219 t220 t221 t222 t223 t224 bt257.1 bt257.2.1 bt257.2.2.1 bt257.2.2.2.1 bt257.2.2.2.2.1 bt257.2.2.2.2.2.1 bt257.2.2.2.2.2.2.1 bt257.2.2.2.2.2.2.2.1 bt257.2.2.2.2.2.2.2.2.1 bt257.2.2.2.2.2.2.2.2.2).bind fun t267 => (if t267 > 2147483647 then (some (0, 14)) else ((some (([a0, a1, a2] : List Int) : List Int)).bind fun y268 => (serifref01_MulDiv.l0 k t267 0 y268 (y268.length : Int) 0))))) else (some (0, 14)))))) = some (r1, r2) := H
    have A8 := Aside0.mk A80
    clear A80
    replace H := Option.bind_eq_some_iff.mp H
    obtain ⟨⟨t236, t237, t238, t239, t240, t241, t242, t243, t244, t245⟩, A90, H⟩ := H
    replace H : ((serifref01_Times.f t226 t227 t228 t229 t230 t231 t232 t233 t234 t235 t236 t237 t238 t239 t240 t241 t242 t243 t244 t245).bind fun bt246 => ((serifref01_Under.f t215 t216 t217 t218 t219 t220 t221 t222 t223 t224 bt246.1 bt246.2.1 bt246.2.2.1 bt246.2.2.2.1 bt246.2.2.2.2.1 bt246.2.2.2.2.2.1 bt246.2.2.2.2.2.2.1 bt246.2.2.2.2.2.2.2.1 bt246.2.2.2.2.2.2.2.2.1 bt246.2.2.2.2.2.2.2.2.2).bind fun t256 => (if t256 = true then ((serifref01_Size.f a2).bind fun bt257 => ((serifref01_Nearest.f k t215 t216 t217 t218 t219 t220 t221 t222 t223 t224 bt257.1 bt257.2.1 bt257.2.2.1 bt257.2.2.2.1 bt257.2.2.2.2.1 bt257.2.2.2.2.2.1 bt257.2.2.2.2.2.2.1 bt257.2.2.2.2.2.2.2.1 bt257.2.2.2.2.2.2.2.2.1 bt257.2.2.2.2.2.2.2.2.2).bind fun t267 => (if t267 > 2147483647 then (some (0, 14)) else ((some (([a0, a1, a2] : List Int) : List Int)).bind fun y268 => (serifref01_MulDiv.l0 k t267 0 y268 (y268.length : Int) 0))))) else (some (0, 14))))) = some (r1, r2) := H
    have A9 := Aside0.mk A90
    clear A90
    replace H := Option.bind_eq_some_iff.mp H
    obtain ⟨⟨t246, t247, t248, t249, t250, t251, t252, t253, t254, t255⟩, A100, H⟩ := H
    replace H : ((serifref01_Under.f t215 t216 t217 t218 t219 t220 t221 t222 t223 t224 t246 t247 t248 t249 t250 t251 t252 t253 t254 t255).bind fun t256 => (if t256 = true then ((serifref01_Size.f a2).bind fun bt257 => ((serifref01_Nearest.f k t215 t216 t217 t218 t219 t220 t221 t222 t223 t224 bt257.1 bt257.2.1 bt257.2.2.1 bt257.2.2.2.1 bt257.2.2.2.2.1 bt257.2.2.2.2.2.1 bt257.2.2.2.2.2.2.1 bt257.2.2.2.2.2.2.2.1 bt257.2.2.2.2.2.2.2.2.1 bt257.2.2.2.2.2.2.2.2.2).bind fun t267 => (if t267 > 2147483647 then (some (0, 14)) else ((some (([a0, a1, a2] : List Int) : List Int)).bind fun y268 => (serifref01_MulDiv.l0 k t267 0 y268 (y268.length : Int) 0))))) else (some (0, 14)))) = some (r1, r2) := H
    have A10 := Aside0.mk A100
    clear A100
    replace H := Option.bind_eq_some_iff.mp H
    obtain ⟨t256, A110, H⟩ := H
    replace H : (if t256 = true then ((serifref01_Size.f a2).bind fun bt257 => ((serifref01_Nearest.f k t215 t216 t217 t218 t219 t220 t221 t222 t223 t224 bt257.1 bt257.2.1 bt257.2.2.1 bt257.2.2.2.1 bt257.2.2.2.2.1 bt257.2.2.2.2.2.1 bt257.2.2.2.2.2.2.1 bt257.2.2.2.2.2.2.2.1 bt257.2.2.2.2.2.2.2.2.1 bt257.2.2.2.2.2.2.2.2.2).bind fun t267 => (if t267 > 2147483647 then (some (0, 14)) else ((some (([a0, a1, a2] : List Int) : List Int)).bind fun y268 => (serifref01_MulDiv.l0 k t267 0 y268 (y268.length : Int) 0))))) else (some (0, 14))) = some (r1, r2) := H
    have A11 := Aside0.mk A110
    clear A110
    by_cases c12 : t256 = true
    · subst c12
      have H1 : ((serifref01_Size.f a2).bind fun bt257 => ((serifref01_Nearest.f k t215 t216 t217 t218 t219 t220 t221 t222 t223 t224 bt257.1 bt257.2.1 bt257.2.2.1 bt257.2.2.2.1 bt257.2.2.2.2.1 bt257.2.2.2.2.2.1 bt257.2.2.2.2.2.2.1 bt257.2.2.2.2.2.2.2.1 bt257.2.2.2.2.2.2.2.2.1 bt257.2.2.2.2.2.2.2.2.2).bind fun t267 => (if t267 > 2147483647 then (some (0, 14)) else ((some (([a0, a1, a2] : List Int) : List Int)).bind fun y268 => (serifref01_MulDiv.l0 k t267 0 y268 (y268.length : Int) 0))))) = some (r1, r2) := by rw [if_pos rfl] at H; exact H
      clear H
      have H := H1
      clear H1
      replace H := Option.bind_eq_some_iff.mp H
      obtain ⟨⟨t257, t258, t259, t260, t261, t262, t263, t264, t265, t266⟩, A130, H⟩ := H
      replace H : ((serifref01_Nearest.f k t215 t216 t217 t218 t219 t220 t221 t222 t223 t224 t257 t258 t259 t260 t261 t262 t263 t264 t265 t266).bind fun t267 => (if t267 > 2147483647 then (some (0, 14)) else ((some (([a0, a1, a2] : List Int) : List Int)).bind fun y268 => (serifref01_MulDiv.l0 k t267 0 y268 (y268.length : Int) 0)))) = some (r1, r2) := H
      have A13 := Aside0.mk A130
      clear A130
      replace H := Option.bind_eq_some_iff.mp H
      obtain ⟨t267, A140, H⟩ := H
      replace H : (if t267 > 2147483647 then (some (0, 14)) else ((some (([a0, a1, a2] : List Int) : List Int)).bind fun y268 => (serifref01_MulDiv.l0 k t267 0 y268 (y268.length : Int) 0))) = some (r1, r2) := H
      have A14 := Aside0.mk A140
      clear A140
      by_cases c15 : t267 > 2147483647
      · rw [if_pos c15] at H
        have c15b0 : decide (2147483647 < t267) = true := decide_eq_true c15
        clear c15
        simp only [Option.some.injEq, Prod.mk.injEq] at H
        obtain ⟨rfl, rfl⟩ := H
        go_enter Try.func12, Try.ntmps12
        try go_wp2_with (first | ((with_reducible refine gate_callee (f := 30) rfl ?_); refine goesL_ (some 16) rfl rfl Try.func30 (by kernel_rfl) rfl #[.int .i64 a0] rfl (by (try simp only [List.map_toArray, List.map_cons, List.map_nil]); first | done | rfl | (simp only [List.length_drop, List.length_take]; rfl)) ?_; (with_reducible refine (serifref01_Size.calls a0 t195 t196 t197 t198 t199 t200 t201 t202 t203 t204 _ A5.out).mono ?_); rintro e w16 ⟨rfl, hb⟩; refine ⟨_, rfl, ?_⟩; have n0_ := Aside0.mk (below_step (by repeat (first | (with_reducible first | exact HB.out | apply below_alloc | apply pw_below_drewN | apply below_drew1) | exact HB.out)) hb); clear HB; have HB := n0_; clear n0_; (try clear hb); (try clear hb2); (try clear hk); (try clear hi)) | ((with_reducible refine gate_callee (f := 30) rfl ?_); refine goesL_ (some 18) rfl rfl Try.func30 (by kernel_rfl) rfl #[.int .i64 a1] rfl (by (try simp only [List.map_toArray, List.map_cons, List.map_nil]); first | done | rfl | (simp only [List.length_drop, List.length_take]; rfl)) ?_; (with_reducible refine (serifref01_Size.calls a1 t205 t206 t207 t208 t209 t210 t211 t212 t213 t214 _ A6.out).mono ?_); rintro e w17 ⟨rfl, hb⟩; refine ⟨_, rfl, ?_⟩; have n0_ := Aside0.mk (below_step (by repeat (first | (with_reducible first | exact HB.out | apply below_alloc | apply pw_below_drewN | apply below_drew1) | exact HB.out)) hb); clear HB; have HB := n0_; clear n0_; (try clear hb); (try clear hb2); (try clear hk); (try clear hi)) | ((with_reducible refine gate_callee (f := 29) rfl ?_); refine goesL_ (some 19) rfl rfl Try.func29 (by kernel_rfl) rfl #[.agg #[.int .i64 t195, .int .i64 t196, .int .i64 t197, .int .i64 t198, .int .i64 t199, .int .i64 t200, .int .i64 t201, .int .i64 t202, .int .i64 t203, .int .i64 t204], .agg #[.int .i64 t205, .int .i64 t206, .int .i64 t207, .int .i64 t208, .int .i64 t209, .int .i64 t210, .int .i64 t211, .int .i64 t212, .int .i64 t213, .int .i64 t214]] rfl (by (try simp only [List.map_toArray, List.map_cons, List.map_nil]); first | done | rfl | (simp only [List.length_drop, List.length_take]; rfl)) ?_; (with_reducible refine (serifref01_Times.calls t195 t196 t197 t198 t199 t200 t201 t202 t203 t204 t205 t206 t207 t208 t209 t210 t211 t212 t213 t214 t215 t216 t217 t218 t219 t220 t221 t222 t223 t224 _ A7.out).mono ?_); rintro e w18 ⟨rfl, hb⟩; refine ⟨_, rfl, ?_⟩; have n0_ := Aside0.mk (below_step (by repeat (first | (with_reducible first | exact HB.out | apply below_alloc | apply pw_below_drewN | apply below_drew1) | exact HB.out)) hb); clear HB; have HB := n0_; clear n0_; (try clear hb); (try clear hb2); (try clear hk); (try clear hi)) | ((with_reducible refine gate_dst (N := 8) rfl ?_); refine box_event ?hg (N := 8) ?hd (cs := #[.int .i64 0, .int .i64 0, .int .i64 0, .int .i64 0, .int .i64 0, .int .i64 0, .int .i64 0, .int .i64 0, .int .i64 0, .int .i64 0]) (t := 50) ?hr ?_; (case hd => rfl); (case hg => rfl); (case hr => first | (go_simp; done) | (go_simp; rfl)); intro gb225 hg w19 hbox hb; have n0_ := Aside0.mk (below_step (by repeat (first | (with_reducible first | exact HB.out | apply below_alloc | apply pw_below_drewN | apply below_drew1) | exact HB.out)) hb); have n1_ := Aside0.mk (hbox); have n2_ := Aside0.mk ((by rw [hg]; exact (below_size (by repeat (first | (with_reducible first | exact HB.out | apply below_alloc | apply pw_below_drewN | apply below_drew1) | exact HB.out))) : w.heap.size ≤ gb225)); have n3_ := Aside0.mk ((by rw [hg]; exact (below_size (by repeat (first | (with_reducible first | exact HB.out | apply below_alloc | apply pw_below_drewN | apply below_drew1) | exact HB.out))) : w.heap.size ≤ gb225)); clear HB; have HB := n0_; have BK225 := n1_; have GW225 := n2_; have GE225 := n3_; clear n0_ n1_ n2_ n3_; clear hb hbox hg; have hcz20_0 : w19.cell? ⟨gb225, 0, none⟩ = some (.int .i64 0) := (blk_cell BK225.out 0).trans rfl; have hcz20_1 : w19.cell? ⟨gb225, 1, none⟩ = some (.int .i64 0) := (blk_cell BK225.out 1).trans rfl; have hcz20_2 : w19.cell? ⟨gb225, 2, none⟩ = some (.int .i64 0) := (blk_cell BK225.out 2).trans rfl; have hcz20_3 : w19.cell? ⟨gb225, 3, none⟩ = some (.int .i64 0) := (blk_cell BK225.out 3).trans rfl; have hcz20_4 : w19.cell? ⟨gb225, 4, none⟩ = some (.int .i64 0) := (blk_cell BK225.out 4).trans rfl; have hcz20_5 : w19.cell? ⟨gb225, 5, none⟩ = some (.int .i64 0) := (blk_cell BK225.out 5).trans rfl; have hcz20_6 : w19.cell? ⟨gb225, 6, none⟩ = some (.int .i64 0) := (blk_cell BK225.out 6).trans rfl; have hcz20_7 : w19.cell? ⟨gb225, 7, none⟩ = some (.int .i64 0) := (blk_cell BK225.out 7).trans rfl; have hcz20_8 : w19.cell? ⟨gb225, 8, none⟩ = some (.int .i64 0) := (blk_cell BK225.out 8).trans rfl; have hcz20_9 : w19.cell? ⟨gb225, 9, none⟩ = some (.int .i64 0) := (blk_cell BK225.out 9).trans rfl; have hfz20_0 := blk_frozen BK225.out 0; have hfz20_1 := blk_frozen BK225.out 1; have hfz20_2 := blk_frozen BK225.out 2; have hfz20_3 := blk_frozen BK225.out 3; have hfz20_4 := blk_frozen BK225.out 4; have hfz20_5 := blk_frozen BK225.out 5; have hfz20_6 := blk_frozen BK225.out 6; have hfz20_7 := blk_frozen BK225.out 7; have hfz20_8 := blk_frozen BK225.out 8; have hfz20_9 := blk_frozen BK225.out 9))
        have n0_ : Aside0 (((((((((((w19.setCell ⟨gb225, 0, none⟩ (.int .i64 t215)).setCell ⟨gb225, 1, none⟩ (.int .i64 t216)).setCell ⟨gb225, 2, none⟩ (.int .i64 t217)).setCell ⟨gb225, 3, none⟩ (.int .i64 t218)).setCell ⟨gb225, 4, none⟩ (.int .i64 t219)).setCell ⟨gb225, 5, none⟩ (.int .i64 t220)).setCell ⟨gb225, 6, none⟩ (.int .i64 t221)).setCell ⟨gb225, 7, none⟩ (.int .i64 t222)).setCell ⟨gb225, 8, none⟩ (.int .i64 t223)).setCell ⟨gb225, 9, none⟩ (.int .i64 t224)).heap[gb225]? = some (.cells #[.int .i64 t215, .int .i64 t216, .int .i64 t217, .int .i64 t218, .int .i64 t219, .int .i64 t220, .int .i64 t221, .int .i64 t222, .int .i64 t223, .int .i64 t224] 50 (0, 0))) := ⟨by (with_reducible repeat (first | refine blk_drewN ?_ _ | refine blk_drew ?_ | refine blk_alloc ?_ _)); refine blk_put (cs := #[.int .i64 t215, .int .i64 t216, .int .i64 t217, .int .i64 t218, .int .i64 t219, .int .i64 t220, .int .i64 t221, .int .i64 t222, .int .i64 t223, .int .i64 0]) ?_ 9 _ rfl; (with_reducible repeat (first | refine blk_drewN ?_ _ | refine blk_drew ?_ | refine blk_alloc ?_ _)); refine blk_put (cs := #[.int .i64 t215, .int .i64 t216, .int .i64 t217, .int .i64 t218, .int .i64 t219, .int .i64 t220, .int .i64 t221, .int .i64 t222, .int .i64 0, .int .i64 0]) ?_ 8 _ rfl; (with_reducible repeat (first | refine blk_drewN ?_ _ | refine blk_drew ?_ | refine blk_alloc ?_ _)); refine blk_put (cs := #[.int .i64 t215, .int .i64 t216, .int .i64 t217, .int .i64 t218, .int .i64 t219, .int .i64 t220, .int .i64 t221, .int .i64 0, .int .i64 0, .int .i64 0]) ?_ 7 _ rfl; (with_reducible repeat (first | refine blk_drewN ?_ _ | refine blk_drew ?_ | refine blk_alloc ?_ _)); refine blk_put (cs := #[.int .i64 t215, .int .i64 t216, .int .i64 t217, .int .i64 t218, .int .i64 t219, .int .i64 t220, .int .i64 0, .int .i64 0, .int .i64 0, .int .i64 0]) ?_ 6 _ rfl; (with_reducible repeat (first | refine blk_drewN ?_ _ | refine blk_drew ?_ | refine blk_alloc ?_ _)); refine blk_put (cs := #[.int .i64 t215, .int .i64 t216, .int .i64 t217, .int .i64 t218, .int .i64 t219, .int .i64 0, .int .i64 0, .int .i64 0, .int .i64 0, .int .i64 0]) ?_ 5 _ rfl; (with_reducible repeat (first | refine blk_drewN ?_ _ | refine blk_drew ?_ | refine blk_alloc ?_ _)); refine blk_put (cs := #[.int .i64 t215, .int .i64 t216, .int .i64 t217, .int .i64 t218, .int .i64 0, .int .i64 0, .int .i64 0, .int .i64 0, .int .i64 0, .int .i64 0]) ?_ 4 _ rfl; (with_reducible repeat (first | refine blk_drewN ?_ _ | refine blk_drew ?_ | refine blk_alloc ?_ _)); refine blk_put (cs := #[.int .i64 t215, .int .i64 t216, .int .i64 t217, .int .i64 0, .int .i64 0, .int .i64 0, .int .i64 0, .int .i64 0, .int .i64 0, .int .i64 0]) ?_ 3 _ rfl; (with_reducible repeat (first | refine blk_drewN ?_ _ | refine blk_drew ?_ | refine blk_alloc ?_ _)); refine blk_put (cs := #[.int .i64 t215, .int .i64 t216, .int .i64 0, .int .i64 0, .int .i64 0, .int .i64 0, .int .i64 0, .int .i64 0, .int .i64 0, .int .i64 0]) ?_ 2 _ rfl; (with_reducible repeat (first | refine blk_drewN ?_ _ | refine blk_drew ?_ | refine blk_alloc ?_ _)); refine blk_put (cs := #[.int .i64 t215, .int .i64 0, .int .i64 0, .int .i64 0, .int .i64 0, .int .i64 0, .int .i64 0, .int .i64 0, .int .i64 0, .int .i64 0]) ?_ 1 _ rfl; (with_reducible repeat (first | refine blk_drewN ?_ _ | refine blk_drew ?_ | refine blk_alloc ?_ _)); refine blk_put (cs := #[.int .i64 0, .int .i64 0, .int .i64 0, .int .i64 0, .int .i64 0, .int .i64 0, .int .i64 0, .int .i64 0, .int .i64 0, .int .i64 0]) ?_ 0 _ rfl; (with_reducible repeat (first | refine blk_drewN ?_ _ | refine blk_drew ?_ | refine blk_alloc ?_ _)); exact BK225.out⟩
        have n1_ : Aside0 (Below w.heap.size w ((((((((((w19.setCell ⟨gb225, 0, none⟩ (.int .i64 t215)).setCell ⟨gb225, 1, none⟩ (.int .i64 t216)).setCell ⟨gb225, 2, none⟩ (.int .i64 t217)).setCell ⟨gb225, 3, none⟩ (.int .i64 t218)).setCell ⟨gb225, 4, none⟩ (.int .i64 t219)).setCell ⟨gb225, 5, none⟩ (.int .i64 t220)).setCell ⟨gb225, 6, none⟩ (.int .i64 t221)).setCell ⟨gb225, 7, none⟩ (.int .i64 t222)).setCell ⟨gb225, 8, none⟩ (.int .i64 t223)).setCell ⟨gb225, 9, none⟩ (.int .i64 t224))) := ⟨by repeat (first | (with_reducible first | exact HB.out | apply below_alloc | apply pw_below_drewN | apply below_drew1 | refine below_set ?_ GE225.out) | exact HB.out)⟩
        (try clear BK225)
        (try clear HB)
        generalize ((((((((((w19.setCell ⟨gb225, 0, none⟩ (.int .i64 t215)).setCell ⟨gb225, 1, none⟩ (.int .i64 t216)).setCell ⟨gb225, 2, none⟩ (.int .i64 t217)).setCell ⟨gb225, 3, none⟩ (.int .i64 t218)).setCell ⟨gb225, 4, none⟩ (.int .i64 t219)).setCell ⟨gb225, 5, none⟩ (.int .i64 t220)).setCell ⟨gb225, 6, none⟩ (.int .i64 t221)).setCell ⟨gb225, 7, none⟩ (.int .i64 t222)).setCell ⟨gb225, 8, none⟩ (.int .i64 t223)).setCell ⟨gb225, 9, none⟩ (.int .i64 t224)) = w21 at n0_ n1_ ⊢
        have BK225 := n0_
        have HB := n1_
        clear n0_ n1_
        have n0_ := Aside0.mk (blk_drew BK225.out)
        have n1_ := Aside0.mk (below_drew1 HB.out)
        clear BK225
        clear HB
        have BK225 := n0_
        have HB := n1_
        clear n0_ n1_
        refine start_ (n := 7) (S := fun w' => w'.cell? ⟨gb225, 0, none⟩ = some (.int .i64 t215) ∧ w'.cell? ⟨gb225, 1, none⟩ = some (.int .i64 t216) ∧ w'.cell? ⟨gb225, 2, none⟩ = some (.int .i64 t217) ∧ w'.cell? ⟨gb225, 3, none⟩ = some (.int .i64 t218) ∧ w'.cell? ⟨gb225, 4, none⟩ = some (.int .i64 t219) ∧ w'.cell? ⟨gb225, 5, none⟩ = some (.int .i64 t220) ∧ w'.cell? ⟨gb225, 6, none⟩ = some (.int .i64 t221) ∧ w'.cell? ⟨gb225, 7, none⟩ = some (.int .i64 t222) ∧ w'.cell? ⟨gb225, 8, none⟩ = some (.int .i64 t223) ∧ w'.cell? ⟨gb225, 9, none⟩ = some (.int .i64 t224)) (ds := []) #[false, false, false, false, false, false, false] (by kernel_rfl) rfl rfl ⟨(blk_cell BK225.out 0).trans rfl, (blk_cell BK225.out 1).trans rfl, (blk_cell BK225.out 2).trans rfl, (blk_cell BK225.out 3).trans rfl, (blk_cell BK225.out 4).trans rfl, (blk_cell BK225.out 5).trans rfl, (blk_cell BK225.out 6).trans rfl, (blk_cell BK225.out 7).trans rfl, (blk_cell BK225.out 8).trans rfl, (blk_cell BK225.out 9).trans rfl⟩ (fun hHeld => ?_)
        generalize w21.drew = w22 at BK225 HB hHeld ⊢
        refine pure_ (i := 1) (N := some 21) (v := ?_) (a' := ?_) #[false, true, false, false, false, false, false] rfl rfl (by kernel_rfl) (fun _ _ _ h => h) (Or.inl ⟨by rfl, ?_⟩) ?_ ?_
        rotate_left
        · intro w'
          go_simp
          with_reducible rfl
        rotate_left
        · simp only [Act.put, List.setIfInBounds_toArray, List.set_cons_zero, List.set_cons_succ, i64_w, i32_w]
          rfl
        refine take_ (i := 0) (N := some 20) (v := ?_) (a' := ?_) #[true, true, false, false, false, false, false] rfl rfl (by kernel_rfl) (fun _ _ _ h => h) (Or.inl ⟨by rfl, ?_⟩) hHeld ?_ ?_
        rotate_left
        · rintro w' ⟨s0, s1, s2, s3, s4, s5, s6, s7, s8, s9⟩
          go_simp
          with_reducible rfl
        rotate_left
        · simp only [Act.put, List.setIfInBounds_toArray, List.set_cons_zero, List.set_cons_succ, i64_w, i32_w]
          rfl
        refine one_ (i := 2) (N := some 22) #[true, true, true, false, false, false, false] rfl rfl (by kernel_rfl) (by decide) (fun K hK => ?_)
        refine goes_ Try.func30 (by kernel_rfl) rfl #[.int .i64 a2] (by rfl) rfl rfl (by (try simp only [List.map_toArray, List.map_cons, List.map_nil]); first | done | rfl | (simp only [List.length_drop, List.length_take]; rfl)) ?_
        with_reducible refine (serifref01_Size.calls a2 t226 t227 t228 t229 t230 t231 t232 t233 t234 t235 _ A8.out).mono ?_
        rintro e w23 ⟨rfl, hb⟩
        refine ⟨_, rfl, ?_⟩
        have n0_ := Aside0.mk (blk_below (g := gb225) (o := .cells #[.int .i64 t215, .int .i64 t216, .int .i64 t217, .int .i64 t218, .int .i64 t219, .int .i64 t220, .int .i64 t221, .int .i64 t222, .int .i64 t223, .int .i64 t224] 50 (0, 0)) (by (with_reducible repeat (first | refine blk_drewN ?_ _ | refine blk_drew ?_ | refine blk_alloc ?_ _)); exact BK225.out) hb)
        have n1_ := Aside0.mk (below_step (by repeat (first | (with_reducible first | exact HB.out | apply below_alloc | apply pw_below_drewN | apply below_drew1 | refine below_set ?_ GE225.out) | exact HB.out)) hb)
        clear BK225
        clear HB
        have BK225 := n0_
        have HB := n1_
        clear n0_ n1_
        (try clear hb)
        (try clear hb2)
        (try clear hk)
        (try clear hi)
        refine hK.out _ _ ⟨(blk_cell BK225.out 0).trans rfl, (blk_cell BK225.out 1).trans rfl, (blk_cell BK225.out 2).trans rfl, (blk_cell BK225.out 3).trans rfl, (blk_cell BK225.out 4).trans rfl, (blk_cell BK225.out 5).trans rfl, (blk_cell BK225.out 6).trans rfl, (blk_cell BK225.out 7).trans rfl, (blk_cell BK225.out 8).trans rfl, (blk_cell BK225.out 9).trans rfl⟩ (fun hHeld => ?_)
        clear hK K
        refine norm_ (a' := ?_) ?_ ?_
        rotate_left
        · show Act.put _ (some 22) _ = _
          simp only [Act.put, List.setIfInBounds_toArray, List.set_cons_zero, List.set_cons_succ, i64_w, i32_w]
          rfl
        refine one_ (i := 3) (N := some 23) #[true, true, true, true, false, false, false] rfl rfl (by kernel_rfl) (by decide) (fun K hK => ?_)
        refine goes_ Try.func30 (by kernel_rfl) rfl #[.int .i64 8589934592] (by rfl) rfl rfl (by (try simp only [List.map_toArray, List.map_cons, List.map_nil]); first | done | rfl | (simp only [List.length_drop, List.length_take]; rfl)) ?_
        with_reducible refine (serifref01_Size.calls 8589934592 t236 t237 t238 t239 t240 t241 t242 t243 t244 t245 _ A9.out).mono ?_
        rintro e w24 ⟨rfl, hb⟩
        refine ⟨_, rfl, ?_⟩
        have n0_ := Aside0.mk (blk_below (g := gb225) (o := .cells #[.int .i64 t215, .int .i64 t216, .int .i64 t217, .int .i64 t218, .int .i64 t219, .int .i64 t220, .int .i64 t221, .int .i64 t222, .int .i64 t223, .int .i64 t224] 50 (0, 0)) (by (with_reducible repeat (first | refine blk_drewN ?_ _ | refine blk_drew ?_ | refine blk_alloc ?_ _)); exact BK225.out) hb)
        have n1_ := Aside0.mk (below_step (by repeat (first | (with_reducible first | exact HB.out | apply below_alloc | apply pw_below_drewN | apply below_drew1 | refine below_set ?_ GE225.out) | exact HB.out)) hb)
        clear BK225
        clear HB
        have BK225 := n0_
        have HB := n1_
        clear n0_ n1_
        (try clear hb)
        (try clear hb2)
        (try clear hk)
        (try clear hi)
        refine hK.out _ _ ⟨(blk_cell BK225.out 0).trans rfl, (blk_cell BK225.out 1).trans rfl, (blk_cell BK225.out 2).trans rfl, (blk_cell BK225.out 3).trans rfl, (blk_cell BK225.out 4).trans rfl, (blk_cell BK225.out 5).trans rfl, (blk_cell BK225.out 6).trans rfl, (blk_cell BK225.out 7).trans rfl, (blk_cell BK225.out 8).trans rfl, (blk_cell BK225.out 9).trans rfl⟩ (fun hHeld => ?_)
        clear hK K
        refine norm_ (a' := ?_) ?_ ?_
        rotate_left
        · show Act.put _ (some 23) _ = _
          simp only [Act.put, List.setIfInBounds_toArray, List.set_cons_zero, List.set_cons_succ, i64_w, i32_w]
          rfl
        refine one_ (i := 4) (N := some 24) #[true, true, true, true, true, false, false] rfl rfl (by kernel_rfl) (by decide) (fun K hK => ?_)
        refine goes_ Try.func29 (by kernel_rfl) rfl #[.agg #[.int .i64 t226, .int .i64 t227, .int .i64 t228, .int .i64 t229, .int .i64 t230, .int .i64 t231, .int .i64 t232, .int .i64 t233, .int .i64 t234, .int .i64 t235], .agg #[.int .i64 t236, .int .i64 t237, .int .i64 t238, .int .i64 t239, .int .i64 t240, .int .i64 t241, .int .i64 t242, .int .i64 t243, .int .i64 t244, .int .i64 t245]] (by rfl) rfl rfl (by (try simp only [List.map_toArray, List.map_cons, List.map_nil]); first | done | rfl | (simp only [List.length_drop, List.length_take]; rfl)) ?_
        with_reducible refine (serifref01_Times.calls t226 t227 t228 t229 t230 t231 t232 t233 t234 t235 t236 t237 t238 t239 t240 t241 t242 t243 t244 t245 t246 t247 t248 t249 t250 t251 t252 t253 t254 t255 _ A10.out).mono ?_
        rintro e w25 ⟨rfl, hb⟩
        refine ⟨_, rfl, ?_⟩
        have n0_ := Aside0.mk (blk_below (g := gb225) (o := .cells #[.int .i64 t215, .int .i64 t216, .int .i64 t217, .int .i64 t218, .int .i64 t219, .int .i64 t220, .int .i64 t221, .int .i64 t222, .int .i64 t223, .int .i64 t224] 50 (0, 0)) (by (with_reducible repeat (first | refine blk_drewN ?_ _ | refine blk_drew ?_ | refine blk_alloc ?_ _)); exact BK225.out) hb)
        have n1_ := Aside0.mk (below_step (by repeat (first | (with_reducible first | exact HB.out | apply below_alloc | apply pw_below_drewN | apply below_drew1 | refine below_set ?_ GE225.out) | exact HB.out)) hb)
        clear BK225
        clear HB
        have BK225 := n0_
        have HB := n1_
        clear n0_ n1_
        (try clear hb)
        (try clear hb2)
        (try clear hk)
        (try clear hi)
        refine hK.out _ _ ⟨(blk_cell BK225.out 0).trans rfl, (blk_cell BK225.out 1).trans rfl, (blk_cell BK225.out 2).trans rfl, (blk_cell BK225.out 3).trans rfl, (blk_cell BK225.out 4).trans rfl, (blk_cell BK225.out 5).trans rfl, (blk_cell BK225.out 6).trans rfl, (blk_cell BK225.out 7).trans rfl, (blk_cell BK225.out 8).trans rfl, (blk_cell BK225.out 9).trans rfl⟩ (fun hHeld => ?_)
        clear hK K
        refine norm_ (a' := ?_) ?_ ?_
        rotate_left
        · show Act.put _ (some 24) _ = _
          simp only [Act.put, List.setIfInBounds_toArray, List.set_cons_zero, List.set_cons_succ, i64_w, i32_w]
          rfl
        refine one_ (i := 5) (N := some 25) #[true, true, true, true, true, true, false] rfl rfl (by kernel_rfl) (by decide) (fun K hK => ?_)
        refine goes_ Try.func31 (by kernel_rfl) rfl #[.agg #[.int .i64 t215, .int .i64 t216, .int .i64 t217, .int .i64 t218, .int .i64 t219, .int .i64 t220, .int .i64 t221, .int .i64 t222, .int .i64 t223, .int .i64 t224], .agg #[.int .i64 t246, .int .i64 t247, .int .i64 t248, .int .i64 t249, .int .i64 t250, .int .i64 t251, .int .i64 t252, .int .i64 t253, .int .i64 t254, .int .i64 t255]] (by rfl) rfl rfl (by (try simp only [List.map_toArray, List.map_cons, List.map_nil]); first | done | rfl | (simp only [List.length_drop, List.length_take]; rfl)) ?_
        with_reducible refine (serifref01_Under.calls t215 t216 t217 t218 t219 t220 t221 t222 t223 t224 t246 t247 t248 t249 t250 t251 t252 t253 t254 t255 true _ A11.out).mono ?_
        rintro e w26 ⟨rfl, hb⟩
        refine ⟨_, rfl, ?_⟩
        have n0_ := Aside0.mk (blk_below (g := gb225) (o := .cells #[.int .i64 t215, .int .i64 t216, .int .i64 t217, .int .i64 t218, .int .i64 t219, .int .i64 t220, .int .i64 t221, .int .i64 t222, .int .i64 t223, .int .i64 t224] 50 (0, 0)) (by (with_reducible repeat (first | refine blk_drewN ?_ _ | refine blk_drew ?_ | refine blk_alloc ?_ _)); exact BK225.out) hb)
        have n1_ := Aside0.mk (below_step (by repeat (first | (with_reducible first | exact HB.out | apply below_alloc | apply pw_below_drewN | apply below_drew1 | refine below_set ?_ GE225.out) | exact HB.out)) hb)
        clear BK225
        clear HB
        have BK225 := n0_
        have HB := n1_
        clear n0_ n1_
        (try clear hb)
        (try clear hb2)
        (try clear hk)
        (try clear hi)
        refine hK.out _ _ ⟨(blk_cell BK225.out 0).trans rfl, (blk_cell BK225.out 1).trans rfl, (blk_cell BK225.out 2).trans rfl, (blk_cell BK225.out 3).trans rfl, (blk_cell BK225.out 4).trans rfl, (blk_cell BK225.out 5).trans rfl, (blk_cell BK225.out 6).trans rfl, (blk_cell BK225.out 7).trans rfl, (blk_cell BK225.out 8).trans rfl, (blk_cell BK225.out 9).trans rfl⟩ (fun hHeld => ?_)
        clear hK K
        refine norm_ (a' := ?_) ?_ ?_
        rotate_left
        · show Act.put _ (some 25) _ = _
          simp only [Act.put, List.setIfInBounds_toArray, List.set_cons_zero, List.set_cons_succ, i64_w, i32_w]
          rfl
        refine pure_ (i := 6) (N := some 26) (v := ?_) (a' := ?_) #[true, true, true, true, true, true, true] rfl rfl (by kernel_rfl) (fun _ _ _ h => h) (Or.inl ⟨by rfl, ?_⟩) ?_ ?_
        rotate_left
        · intro w'
          go_simp
          with_reducible rfl
        rotate_left
        · simp only [Act.put, List.setIfInBounds_toArray, List.set_cons_zero, List.set_cons_succ, i64_w, i32_w]
          rfl
        refine done_ (by kernel_rfl) ?_
        try go_wp2
        have n0_ := Aside0.mk (blk_drew BK225.out)
        have n1_ := Aside0.mk (below_drew1 HB.out)
        clear BK225
        clear HB
        have BK225 := n0_
        have HB := n1_
        clear n0_ n1_
        refine start_ (n := 5) (S := fun w' => w'.cell? ⟨gb225, 0, none⟩ = some (.int .i64 t215) ∧ w'.cell? ⟨gb225, 1, none⟩ = some (.int .i64 t216) ∧ w'.cell? ⟨gb225, 2, none⟩ = some (.int .i64 t217) ∧ w'.cell? ⟨gb225, 3, none⟩ = some (.int .i64 t218) ∧ w'.cell? ⟨gb225, 4, none⟩ = some (.int .i64 t219) ∧ w'.cell? ⟨gb225, 5, none⟩ = some (.int .i64 t220) ∧ w'.cell? ⟨gb225, 6, none⟩ = some (.int .i64 t221) ∧ w'.cell? ⟨gb225, 7, none⟩ = some (.int .i64 t222) ∧ w'.cell? ⟨gb225, 8, none⟩ = some (.int .i64 t223) ∧ w'.cell? ⟨gb225, 9, none⟩ = some (.int .i64 t224)) (ds := []) #[false, false, false, false, false] (by kernel_rfl) rfl rfl ⟨(blk_cell BK225.out 0).trans rfl, (blk_cell BK225.out 1).trans rfl, (blk_cell BK225.out 2).trans rfl, (blk_cell BK225.out 3).trans rfl, (blk_cell BK225.out 4).trans rfl, (blk_cell BK225.out 5).trans rfl, (blk_cell BK225.out 6).trans rfl, (blk_cell BK225.out 7).trans rfl, (blk_cell BK225.out 8).trans rfl, (blk_cell BK225.out 9).trans rfl⟩ (fun hHeld => ?_)
        generalize w26.drew = w27 at BK225 HB hHeld ⊢
        refine pure_ (i := 1) (N := some 28) (v := ?_) (a' := ?_) #[false, true, false, false, false] rfl rfl (by kernel_rfl) (fun _ _ _ h => h) (Or.inl ⟨by rfl, ?_⟩) ?_ ?_
        rotate_left
        · intro w'
          go_simp
          with_reducible rfl
        rotate_left
        · simp only [Act.put, List.setIfInBounds_toArray, List.set_cons_zero, List.set_cons_succ, i64_w, i32_w]
          rfl
        refine take_ (i := 0) (N := some 27) (v := ?_) (a' := ?_) #[true, true, false, false, false] rfl rfl (by kernel_rfl) (fun _ _ _ h => h) (Or.inl ⟨by rfl, ?_⟩) hHeld ?_ ?_
        rotate_left
        · rintro w' ⟨s0, s1, s2, s3, s4, s5, s6, s7, s8, s9⟩
          go_simp
          with_reducible rfl
        rotate_left
        · simp only [Act.put, List.setIfInBounds_toArray, List.set_cons_zero, List.set_cons_succ, i64_w, i32_w]
          rfl
        refine one_ (i := 2) (N := some 29) #[true, true, true, false, false] rfl rfl (by kernel_rfl) (by decide) (fun K hK => ?_)
        refine goes_ Try.func30 (by kernel_rfl) rfl #[.int .i64 a2] (by rfl) rfl rfl (by (try simp only [List.map_toArray, List.map_cons, List.map_nil]); first | done | rfl | (simp only [List.length_drop, List.length_take]; rfl)) ?_
        with_reducible refine (serifref01_Size.calls a2 t257 t258 t259 t260 t261 t262 t263 t264 t265 t266 _ A13.out).mono ?_
        rintro e w28 ⟨rfl, hb⟩
        refine ⟨_, rfl, ?_⟩
        have n0_ := Aside0.mk (blk_below (g := gb225) (o := .cells #[.int .i64 t215, .int .i64 t216, .int .i64 t217, .int .i64 t218, .int .i64 t219, .int .i64 t220, .int .i64 t221, .int .i64 t222, .int .i64 t223, .int .i64 t224] 50 (0, 0)) (by (with_reducible repeat (first | refine blk_drewN ?_ _ | refine blk_drew ?_ | refine blk_alloc ?_ _)); exact BK225.out) hb)
        have n1_ := Aside0.mk (below_step (by repeat (first | (with_reducible first | exact HB.out | apply below_alloc | apply pw_below_drewN | apply below_drew1 | refine below_set ?_ GE225.out) | exact HB.out)) hb)
        clear BK225
        clear HB
        have BK225 := n0_
        have HB := n1_
        clear n0_ n1_
        (try clear hb)
        (try clear hb2)
        (try clear hk)
        (try clear hi)
        refine hK.out _ _ ⟨(blk_cell BK225.out 0).trans rfl, (blk_cell BK225.out 1).trans rfl, (blk_cell BK225.out 2).trans rfl, (blk_cell BK225.out 3).trans rfl, (blk_cell BK225.out 4).trans rfl, (blk_cell BK225.out 5).trans rfl, (blk_cell BK225.out 6).trans rfl, (blk_cell BK225.out 7).trans rfl, (blk_cell BK225.out 8).trans rfl, (blk_cell BK225.out 9).trans rfl⟩ (fun hHeld => ?_)
        clear hK K
        refine norm_ (a' := ?_) ?_ ?_
        rotate_left
        · show Act.put _ (some 29) _ = _
          simp only [Act.put, List.setIfInBounds_toArray, List.set_cons_zero, List.set_cons_succ, i64_w, i32_w]
          rfl
        refine one_ (i := 3) (N := some 30) #[true, true, true, true, false] rfl rfl (by kernel_rfl) (by decide) (fun K hK => ?_)
        refine goes_ Try.func32 (by kernel_rfl) rfl #[.agg #[.int .i64 t215, .int .i64 t216, .int .i64 t217, .int .i64 t218, .int .i64 t219, .int .i64 t220, .int .i64 t221, .int .i64 t222, .int .i64 t223, .int .i64 t224], .agg #[.int .i64 t257, .int .i64 t258, .int .i64 t259, .int .i64 t260, .int .i64 t261, .int .i64 t262, .int .i64 t263, .int .i64 t264, .int .i64 t265, .int .i64 t266]] (by rfl) rfl rfl (by (try simp only [List.map_toArray, List.map_cons, List.map_nil]); first | done | rfl | (simp only [List.length_drop, List.length_take]; rfl)) ?_
        with_reducible refine (serifref01_Nearest.calls k t215 t216 t217 t218 t219 t220 t221 t222 t223 t224 t257 t258 t259 t260 t261 t262 t263 t264 t265 t266 t267 _ A14.out).mono ?_
        rintro e w29 ⟨rfl, hb⟩
        refine ⟨_, rfl, ?_⟩
        have n0_ := Aside0.mk (blk_below (g := gb225) (o := .cells #[.int .i64 t215, .int .i64 t216, .int .i64 t217, .int .i64 t218, .int .i64 t219, .int .i64 t220, .int .i64 t221, .int .i64 t222, .int .i64 t223, .int .i64 t224] 50 (0, 0)) (by (with_reducible repeat (first | refine blk_drewN ?_ _ | refine blk_drew ?_ | refine blk_alloc ?_ _)); exact BK225.out) hb)
        have n1_ := Aside0.mk (below_step (by repeat (first | (with_reducible first | exact HB.out | apply below_alloc | apply pw_below_drewN | apply below_drew1 | refine below_set ?_ GE225.out) | exact HB.out)) hb)
        clear BK225
        clear HB
        have BK225 := n0_
        have HB := n1_
        clear n0_ n1_
        (try clear hb)
        (try clear hb2)
        (try clear hk)
        (try clear hi)
        refine hK.out _ _ ⟨(blk_cell BK225.out 0).trans rfl, (blk_cell BK225.out 1).trans rfl, (blk_cell BK225.out 2).trans rfl, (blk_cell BK225.out 3).trans rfl, (blk_cell BK225.out 4).trans rfl, (blk_cell BK225.out 5).trans rfl, (blk_cell BK225.out 6).trans rfl, (blk_cell BK225.out 7).trans rfl, (blk_cell BK225.out 8).trans rfl, (blk_cell BK225.out 9).trans rfl⟩ (fun hHeld => ?_)
        clear hK K
        refine norm_ (a' := ?_) ?_ ?_
        rotate_left
        · show Act.put _ (some 30) _ = _
          simp only [Act.put, List.setIfInBounds_toArray, List.set_cons_zero, List.set_cons_succ, i64_w, i32_w]
          rfl
        refine pure_ (i := 4) (N := some 9) (v := ?_) (a' := ?_) #[true, true, true, true, true] rfl rfl (by kernel_rfl) (fun _ _ _ h => h) (Or.inl ⟨by rfl, ?_⟩) ?_ ?_
        rotate_left
        · intro w'
          go_simp
          with_reducible rfl
        rotate_left
        · simp only [Act.put, List.setIfInBounds_toArray, List.set_cons_zero, List.set_cons_succ, i64_w, i32_w]
          rfl
        refine done_ (by kernel_rfl) ?_
        try go_wp2
        go_ret2
        exact ⟨by first | rfl | (simp [errW_none, errW_some] <;> rfl) | (simp [*, errW_none, errW_some] <;> rfl), by repeat (first | (with_reducible first | exact HB.out | apply below_alloc | apply pw_below_drewN | apply below_drew1 | refine below_set ?_ GE225.out) | exact HB.out)⟩
      · rw [if_neg c15] at H
        have c15b0 : decide (2147483647 < t267) = false := decide_eq_false c15
        clear c15
        obtain ⟨y268, hy268⟩ : ∃ y_ : List Int, y_ = (([a0, a1, a2] : List Int)) := ⟨_, rfl⟩
        replace H : (serifref01_MulDiv.l0 k t267 0 y268 (y268.length : Int) 0) = some (r1, r2) := by first | (rw [hy268]; with_reducible exact H) | (have H2_ := (Option.bind_some _ _).symm.trans H; rw [hy268]; with_reducible exact H2_) | (have H2_ := (Option.bind_some _ _).symm.trans H; with_reducible exact H2_) | with_reducible exact H | (rw [hy268]; exact H) | exact H
        have Ny268 := Aside0.mk hy268
        clear hy268
        have H' := Aside0.mk H
        clear H
        go_enter Try.func12, Try.ntmps12
        try go_wp2_with (first | ((with_reducible refine gate_callee (f := 30) rfl ?_); refine goesL_ (some 16) rfl rfl Try.func30 (by kernel_rfl) rfl #[.int .i64 a0] rfl (by (try simp only [List.map_toArray, List.map_cons, List.map_nil]); first | done | rfl | (simp only [List.length_drop, List.length_take]; rfl)) ?_; (with_reducible refine (serifref01_Size.calls a0 t195 t196 t197 t198 t199 t200 t201 t202 t203 t204 _ A5.out).mono ?_); rintro e w30 ⟨rfl, hb⟩; refine ⟨_, rfl, ?_⟩; have n0_ := Aside0.mk (below_step (by repeat (first | (with_reducible first | exact HB.out | apply below_alloc | apply pw_below_drewN | apply below_drew1) | exact HB.out)) hb); clear HB; have HB := n0_; clear n0_; (try clear hb); (try clear hb2); (try clear hk); (try clear hi)) | ((with_reducible refine gate_callee (f := 30) rfl ?_); refine goesL_ (some 18) rfl rfl Try.func30 (by kernel_rfl) rfl #[.int .i64 a1] rfl (by (try simp only [List.map_toArray, List.map_cons, List.map_nil]); first | done | rfl | (simp only [List.length_drop, List.length_take]; rfl)) ?_; (with_reducible refine (serifref01_Size.calls a1 t205 t206 t207 t208 t209 t210 t211 t212 t213 t214 _ A6.out).mono ?_); rintro e w31 ⟨rfl, hb⟩; refine ⟨_, rfl, ?_⟩; have n0_ := Aside0.mk (below_step (by repeat (first | (with_reducible first | exact HB.out | apply below_alloc | apply pw_below_drewN | apply below_drew1) | exact HB.out)) hb); clear HB; have HB := n0_; clear n0_; (try clear hb); (try clear hb2); (try clear hk); (try clear hi)) | ((with_reducible refine gate_callee (f := 29) rfl ?_); refine goesL_ (some 19) rfl rfl Try.func29 (by kernel_rfl) rfl #[.agg #[.int .i64 t195, .int .i64 t196, .int .i64 t197, .int .i64 t198, .int .i64 t199, .int .i64 t200, .int .i64 t201, .int .i64 t202, .int .i64 t203, .int .i64 t204], .agg #[.int .i64 t205, .int .i64 t206, .int .i64 t207, .int .i64 t208, .int .i64 t209, .int .i64 t210, .int .i64 t211, .int .i64 t212, .int .i64 t213, .int .i64 t214]] rfl (by (try simp only [List.map_toArray, List.map_cons, List.map_nil]); first | done | rfl | (simp only [List.length_drop, List.length_take]; rfl)) ?_; (with_reducible refine (serifref01_Times.calls t195 t196 t197 t198 t199 t200 t201 t202 t203 t204 t205 t206 t207 t208 t209 t210 t211 t212 t213 t214 t215 t216 t217 t218 t219 t220 t221 t222 t223 t224 _ A7.out).mono ?_); rintro e w32 ⟨rfl, hb⟩; refine ⟨_, rfl, ?_⟩; have n0_ := Aside0.mk (below_step (by repeat (first | (with_reducible first | exact HB.out | apply below_alloc | apply pw_below_drewN | apply below_drew1) | exact HB.out)) hb); clear HB; have HB := n0_; clear n0_; (try clear hb); (try clear hb2); (try clear hk); (try clear hi)) | ((with_reducible refine gate_dst (N := 8) rfl ?_); refine box_event ?hg (N := 8) ?hd (cs := #[.int .i64 0, .int .i64 0, .int .i64 0, .int .i64 0, .int .i64 0, .int .i64 0, .int .i64 0, .int .i64 0, .int .i64 0, .int .i64 0]) (t := 50) ?hr ?_; (case hd => rfl); (case hg => rfl); (case hr => first | (go_simp; done) | (go_simp; rfl)); intro gb225 hg w33 hbox hb; have n0_ := Aside0.mk (below_step (by repeat (first | (with_reducible first | exact HB.out | apply below_alloc | apply pw_below_drewN | apply below_drew1) | exact HB.out)) hb); have n1_ := Aside0.mk (hbox); have n2_ := Aside0.mk ((by rw [hg]; exact (below_size (by repeat (first | (with_reducible first | exact HB.out | apply below_alloc | apply pw_below_drewN | apply below_drew1) | exact HB.out))) : w.heap.size ≤ gb225)); have n3_ := Aside0.mk ((by rw [hg]; exact (below_size (by repeat (first | (with_reducible first | exact HB.out | apply below_alloc | apply pw_below_drewN | apply below_drew1) | exact HB.out))) : w.heap.size ≤ gb225)); clear HB; have HB := n0_; have BK225 := n1_; have GW225 := n2_; have GE225 := n3_; clear n0_ n1_ n2_ n3_; clear hb hbox hg; have hcz34_0 : w33.cell? ⟨gb225, 0, none⟩ = some (.int .i64 0) := (blk_cell BK225.out 0).trans rfl; have hcz34_1 : w33.cell? ⟨gb225, 1, none⟩ = some (.int .i64 0) := (blk_cell BK225.out 1).trans rfl; have hcz34_2 : w33.cell? ⟨gb225, 2, none⟩ = some (.int .i64 0) := (blk_cell BK225.out 2).trans rfl; have hcz34_3 : w33.cell? ⟨gb225, 3, none⟩ = some (.int .i64 0) := (blk_cell BK225.out 3).trans rfl; have hcz34_4 : w33.cell? ⟨gb225, 4, none⟩ = some (.int .i64 0) := (blk_cell BK225.out 4).trans rfl; have hcz34_5 : w33.cell? ⟨gb225, 5, none⟩ = some (.int .i64 0) := (blk_cell BK225.out 5).trans rfl; have hcz34_6 : w33.cell? ⟨gb225, 6, none⟩ = some (.int .i64 0) := (blk_cell BK225.out 6).trans rfl; have hcz34_7 : w33.cell? ⟨gb225, 7, none⟩ = some (.int .i64 0) := (blk_cell BK225.out 7).trans rfl; have hcz34_8 : w33.cell? ⟨gb225, 8, none⟩ = some (.int .i64 0) := (blk_cell BK225.out 8).trans rfl; have hcz34_9 : w33.cell? ⟨gb225, 9, none⟩ = some (.int .i64 0) := (blk_cell BK225.out 9).trans rfl; have hfz34_0 := blk_frozen BK225.out 0; have hfz34_1 := blk_frozen BK225.out 1; have hfz34_2 := blk_frozen BK225.out 2; have hfz34_3 := blk_frozen BK225.out 3; have hfz34_4 := blk_frozen BK225.out 4; have hfz34_5 := blk_frozen BK225.out 5; have hfz34_6 := blk_frozen BK225.out 6; have hfz34_7 := blk_frozen BK225.out 7; have hfz34_8 := blk_frozen BK225.out 8; have hfz34_9 := blk_frozen BK225.out 9))
        have n0_ : Aside0 (((((((((((w33.setCell ⟨gb225, 0, none⟩ (.int .i64 t215)).setCell ⟨gb225, 1, none⟩ (.int .i64 t216)).setCell ⟨gb225, 2, none⟩ (.int .i64 t217)).setCell ⟨gb225, 3, none⟩ (.int .i64 t218)).setCell ⟨gb225, 4, none⟩ (.int .i64 t219)).setCell ⟨gb225, 5, none⟩ (.int .i64 t220)).setCell ⟨gb225, 6, none⟩ (.int .i64 t221)).setCell ⟨gb225, 7, none⟩ (.int .i64 t222)).setCell ⟨gb225, 8, none⟩ (.int .i64 t223)).setCell ⟨gb225, 9, none⟩ (.int .i64 t224)).heap[gb225]? = some (.cells #[.int .i64 t215, .int .i64 t216, .int .i64 t217, .int .i64 t218, .int .i64 t219, .int .i64 t220, .int .i64 t221, .int .i64 t222, .int .i64 t223, .int .i64 t224] 50 (0, 0))) := ⟨by (with_reducible repeat (first | refine blk_drewN ?_ _ | refine blk_drew ?_ | refine blk_alloc ?_ _)); refine blk_put (cs := #[.int .i64 t215, .int .i64 t216, .int .i64 t217, .int .i64 t218, .int .i64 t219, .int .i64 t220, .int .i64 t221, .int .i64 t222, .int .i64 t223, .int .i64 0]) ?_ 9 _ rfl; (with_reducible repeat (first | refine blk_drewN ?_ _ | refine blk_drew ?_ | refine blk_alloc ?_ _)); refine blk_put (cs := #[.int .i64 t215, .int .i64 t216, .int .i64 t217, .int .i64 t218, .int .i64 t219, .int .i64 t220, .int .i64 t221, .int .i64 t222, .int .i64 0, .int .i64 0]) ?_ 8 _ rfl; (with_reducible repeat (first | refine blk_drewN ?_ _ | refine blk_drew ?_ | refine blk_alloc ?_ _)); refine blk_put (cs := #[.int .i64 t215, .int .i64 t216, .int .i64 t217, .int .i64 t218, .int .i64 t219, .int .i64 t220, .int .i64 t221, .int .i64 0, .int .i64 0, .int .i64 0]) ?_ 7 _ rfl; (with_reducible repeat (first | refine blk_drewN ?_ _ | refine blk_drew ?_ | refine blk_alloc ?_ _)); refine blk_put (cs := #[.int .i64 t215, .int .i64 t216, .int .i64 t217, .int .i64 t218, .int .i64 t219, .int .i64 t220, .int .i64 0, .int .i64 0, .int .i64 0, .int .i64 0]) ?_ 6 _ rfl; (with_reducible repeat (first | refine blk_drewN ?_ _ | refine blk_drew ?_ | refine blk_alloc ?_ _)); refine blk_put (cs := #[.int .i64 t215, .int .i64 t216, .int .i64 t217, .int .i64 t218, .int .i64 t219, .int .i64 0, .int .i64 0, .int .i64 0, .int .i64 0, .int .i64 0]) ?_ 5 _ rfl; (with_reducible repeat (first | refine blk_drewN ?_ _ | refine blk_drew ?_ | refine blk_alloc ?_ _)); refine blk_put (cs := #[.int .i64 t215, .int .i64 t216, .int .i64 t217, .int .i64 t218, .int .i64 0, .int .i64 0, .int .i64 0, .int .i64 0, .int .i64 0, .int .i64 0]) ?_ 4 _ rfl; (with_reducible repeat (first | refine blk_drewN ?_ _ | refine blk_drew ?_ | refine blk_alloc ?_ _)); refine blk_put (cs := #[.int .i64 t215, .int .i64 t216, .int .i64 t217, .int .i64 0, .int .i64 0, .int .i64 0, .int .i64 0, .int .i64 0, .int .i64 0, .int .i64 0]) ?_ 3 _ rfl; (with_reducible repeat (first | refine blk_drewN ?_ _ | refine blk_drew ?_ | refine blk_alloc ?_ _)); refine blk_put (cs := #[.int .i64 t215, .int .i64 t216, .int .i64 0, .int .i64 0, .int .i64 0, .int .i64 0, .int .i64 0, .int .i64 0, .int .i64 0, .int .i64 0]) ?_ 2 _ rfl; (with_reducible repeat (first | refine blk_drewN ?_ _ | refine blk_drew ?_ | refine blk_alloc ?_ _)); refine blk_put (cs := #[.int .i64 t215, .int .i64 0, .int .i64 0, .int .i64 0, .int .i64 0, .int .i64 0, .int .i64 0, .int .i64 0, .int .i64 0, .int .i64 0]) ?_ 1 _ rfl; (with_reducible repeat (first | refine blk_drewN ?_ _ | refine blk_drew ?_ | refine blk_alloc ?_ _)); refine blk_put (cs := #[.int .i64 0, .int .i64 0, .int .i64 0, .int .i64 0, .int .i64 0, .int .i64 0, .int .i64 0, .int .i64 0, .int .i64 0, .int .i64 0]) ?_ 0 _ rfl; (with_reducible repeat (first | refine blk_drewN ?_ _ | refine blk_drew ?_ | refine blk_alloc ?_ _)); exact BK225.out⟩
        have n1_ : Aside0 (Below w.heap.size w ((((((((((w33.setCell ⟨gb225, 0, none⟩ (.int .i64 t215)).setCell ⟨gb225, 1, none⟩ (.int .i64 t216)).setCell ⟨gb225, 2, none⟩ (.int .i64 t217)).setCell ⟨gb225, 3, none⟩ (.int .i64 t218)).setCell ⟨gb225, 4, none⟩ (.int .i64 t219)).setCell ⟨gb225, 5, none⟩ (.int .i64 t220)).setCell ⟨gb225, 6, none⟩ (.int .i64 t221)).setCell ⟨gb225, 7, none⟩ (.int .i64 t222)).setCell ⟨gb225, 8, none⟩ (.int .i64 t223)).setCell ⟨gb225, 9, none⟩ (.int .i64 t224))) := ⟨by repeat (first | (with_reducible first | exact HB.out | apply below_alloc | apply pw_below_drewN | apply below_drew1 | refine below_set ?_ GE225.out) | exact HB.out)⟩
        (try clear BK225)
        (try clear HB)
        generalize ((((((((((w33.setCell ⟨gb225, 0, none⟩ (.int .i64 t215)).setCell ⟨gb225, 1, none⟩ (.int .i64 t216)).setCell ⟨gb225, 2, none⟩ (.int .i64 t217)).setCell ⟨gb225, 3, none⟩ (.int .i64 t218)).setCell ⟨gb225, 4, none⟩ (.int .i64 t219)).setCell ⟨gb225, 5, none⟩ (.int .i64 t220)).setCell ⟨gb225, 6, none⟩ (.int .i64 t221)).setCell ⟨gb225, 7, none⟩ (.int .i64 t222)).setCell ⟨gb225, 8, none⟩ (.int .i64 t223)).setCell ⟨gb225, 9, none⟩ (.int .i64 t224)) = w35 at n0_ n1_ ⊢
        have BK225 := n0_
        have HB := n1_
        clear n0_ n1_
        have n0_ := Aside0.mk (blk_drew BK225.out)
        have n1_ := Aside0.mk (below_drew1 HB.out)
        clear BK225
        clear HB
        have BK225 := n0_
        have HB := n1_
        clear n0_ n1_
        refine start_ (n := 7) (S := fun w' => w'.cell? ⟨gb225, 0, none⟩ = some (.int .i64 t215) ∧ w'.cell? ⟨gb225, 1, none⟩ = some (.int .i64 t216) ∧ w'.cell? ⟨gb225, 2, none⟩ = some (.int .i64 t217) ∧ w'.cell? ⟨gb225, 3, none⟩ = some (.int .i64 t218) ∧ w'.cell? ⟨gb225, 4, none⟩ = some (.int .i64 t219) ∧ w'.cell? ⟨gb225, 5, none⟩ = some (.int .i64 t220) ∧ w'.cell? ⟨gb225, 6, none⟩ = some (.int .i64 t221) ∧ w'.cell? ⟨gb225, 7, none⟩ = some (.int .i64 t222) ∧ w'.cell? ⟨gb225, 8, none⟩ = some (.int .i64 t223) ∧ w'.cell? ⟨gb225, 9, none⟩ = some (.int .i64 t224)) (ds := []) #[false, false, false, false, false, false, false] (by kernel_rfl) rfl rfl ⟨(blk_cell BK225.out 0).trans rfl, (blk_cell BK225.out 1).trans rfl, (blk_cell BK225.out 2).trans rfl, (blk_cell BK225.out 3).trans rfl, (blk_cell BK225.out 4).trans rfl, (blk_cell BK225.out 5).trans rfl, (blk_cell BK225.out 6).trans rfl, (blk_cell BK225.out 7).trans rfl, (blk_cell BK225.out 8).trans rfl, (blk_cell BK225.out 9).trans rfl⟩ (fun hHeld => ?_)
        generalize w35.drew = w36 at BK225 HB hHeld ⊢
        refine pure_ (i := 1) (N := some 21) (v := ?_) (a' := ?_) #[false, true, false, false, false, false, false] rfl rfl (by kernel_rfl) (fun _ _ _ h => h) (Or.inl ⟨by rfl, ?_⟩) ?_ ?_
        rotate_left
        · intro w'
          go_simp
          with_reducible rfl
        rotate_left
        · simp only [Act.put, List.setIfInBounds_toArray, List.set_cons_zero, List.set_cons_succ, i64_w, i32_w]
          rfl
        refine take_ (i := 0) (N := some 20) (v := ?_) (a' := ?_) #[true, true, false, false, false, false, false] rfl rfl (by kernel_rfl) (fun _ _ _ h => h) (Or.inl ⟨by rfl, ?_⟩) hHeld ?_ ?_
        rotate_left
        · rintro w' ⟨s0, s1, s2, s3, s4, s5, s6, s7, s8, s9⟩
          go_simp
          with_reducible rfl
        rotate_left
        · simp only [Act.put, List.setIfInBounds_toArray, List.set_cons_zero, List.set_cons_succ, i64_w, i32_w]
          rfl
        refine one_ (i := 2) (N := some 22) #[true, true, true, false, false, false, false] rfl rfl (by kernel_rfl) (by decide) (fun K hK => ?_)
        refine goes_ Try.func30 (by kernel_rfl) rfl #[.int .i64 a2] (by rfl) rfl rfl (by (try simp only [List.map_toArray, List.map_cons, List.map_nil]); first | done | rfl | (simp only [List.length_drop, List.length_take]; rfl)) ?_
        with_reducible refine (serifref01_Size.calls a2 t226 t227 t228 t229 t230 t231 t232 t233 t234 t235 _ A8.out).mono ?_
        rintro e w37 ⟨rfl, hb⟩
        refine ⟨_, rfl, ?_⟩
        have n0_ := Aside0.mk (blk_below (g := gb225) (o := .cells #[.int .i64 t215, .int .i64 t216, .int .i64 t217, .int .i64 t218, .int .i64 t219, .int .i64 t220, .int .i64 t221, .int .i64 t222, .int .i64 t223, .int .i64 t224] 50 (0, 0)) (by (with_reducible repeat (first | refine blk_drewN ?_ _ | refine blk_drew ?_ | refine blk_alloc ?_ _)); exact BK225.out) hb)
        have n1_ := Aside0.mk (below_step (by repeat (first | (with_reducible first | exact HB.out | apply below_alloc | apply pw_below_drewN | apply below_drew1 | refine below_set ?_ GE225.out) | exact HB.out)) hb)
        clear BK225
        clear HB
        have BK225 := n0_
        have HB := n1_
        clear n0_ n1_
        (try clear hb)
        (try clear hb2)
        (try clear hk)
        (try clear hi)
        refine hK.out _ _ ⟨(blk_cell BK225.out 0).trans rfl, (blk_cell BK225.out 1).trans rfl, (blk_cell BK225.out 2).trans rfl, (blk_cell BK225.out 3).trans rfl, (blk_cell BK225.out 4).trans rfl, (blk_cell BK225.out 5).trans rfl, (blk_cell BK225.out 6).trans rfl, (blk_cell BK225.out 7).trans rfl, (blk_cell BK225.out 8).trans rfl, (blk_cell BK225.out 9).trans rfl⟩ (fun hHeld => ?_)
        clear hK K
        refine norm_ (a' := ?_) ?_ ?_
        rotate_left
        · show Act.put _ (some 22) _ = _
          simp only [Act.put, List.setIfInBounds_toArray, List.set_cons_zero, List.set_cons_succ, i64_w, i32_w]
          rfl
        refine one_ (i := 3) (N := some 23) #[true, true, true, true, false, false, false] rfl rfl (by kernel_rfl) (by decide) (fun K hK => ?_)
        refine goes_ Try.func30 (by kernel_rfl) rfl #[.int .i64 8589934592] (by rfl) rfl rfl (by (try simp only [List.map_toArray, List.map_cons, List.map_nil]); first | done | rfl | (simp only [List.length_drop, List.length_take]; rfl)) ?_
        with_reducible refine (serifref01_Size.calls 8589934592 t236 t237 t238 t239 t240 t241 t242 t243 t244 t245 _ A9.out).mono ?_
        rintro e w38 ⟨rfl, hb⟩
        refine ⟨_, rfl, ?_⟩
        have n0_ := Aside0.mk (blk_below (g := gb225) (o := .cells #[.int .i64 t215, .int .i64 t216, .int .i64 t217, .int .i64 t218, .int .i64 t219, .int .i64 t220, .int .i64 t221, .int .i64 t222, .int .i64 t223, .int .i64 t224] 50 (0, 0)) (by (with_reducible repeat (first | refine blk_drewN ?_ _ | refine blk_drew ?_ | refine blk_alloc ?_ _)); exact BK225.out) hb)
        have n1_ := Aside0.mk (below_step (by repeat (first | (with_reducible first | exact HB.out | apply below_alloc | apply pw_below_drewN | apply below_drew1 | refine below_set ?_ GE225.out) | exact HB.out)) hb)
        clear BK225
        clear HB
        have BK225 := n0_
        have HB := n1_
        clear n0_ n1_
        (try clear hb)
        (try clear hb2)
        (try clear hk)
        (try clear hi)
        refine hK.out _ _ ⟨(blk_cell BK225.out 0).trans rfl, (blk_cell BK225.out 1).trans rfl, (blk_cell BK225.out 2).trans rfl, (blk_cell BK225.out 3).trans rfl, (blk_cell BK225.out 4).trans rfl, (blk_cell BK225.out 5).trans rfl, (blk_cell BK225.out 6).trans rfl, (blk_cell BK225.out 7).trans rfl, (blk_cell BK225.out 8).trans rfl, (blk_cell BK225.out 9).trans rfl⟩ (fun hHeld => ?_)
        clear hK K
        refine norm_ (a' := ?_) ?_ ?_
        rotate_left
        · show Act.put _ (some 23) _ = _
          simp only [Act.put, List.setIfInBounds_toArray, List.set_cons_zero, List.set_cons_succ, i64_w, i32_w]
          rfl
        refine one_ (i := 4) (N := some 24) #[true, true, true, true, true, false, false] rfl rfl (by kernel_rfl) (by decide) (fun K hK => ?_)
        refine goes_ Try.func29 (by kernel_rfl) rfl #[.agg #[.int .i64 t226, .int .i64 t227, .int .i64 t228, .int .i64 t229, .int .i64 t230, .int .i64 t231, .int .i64 t232, .int .i64 t233, .int .i64 t234, .int .i64 t235], .agg #[.int .i64 t236, .int .i64 t237, .int .i64 t238, .int .i64 t239, .int .i64 t240, .int .i64 t241, .int .i64 t242, .int .i64 t243, .int .i64 t244, .int .i64 t245]] (by rfl) rfl rfl (by (try simp only [List.map_toArray, List.map_cons, List.map_nil]); first | done | rfl | (simp only [List.length_drop, List.length_take]; rfl)) ?_
        with_reducible refine (serifref01_Times.calls t226 t227 t228 t229 t230 t231 t232 t233 t234 t235 t236 t237 t238 t239 t240 t241 t242 t243 t244 t245 t246 t247 t248 t249 t250 t251 t252 t253 t254 t255 _ A10.out).mono ?_
        rintro e w39 ⟨rfl, hb⟩
        refine ⟨_, rfl, ?_⟩
        have n0_ := Aside0.mk (blk_below (g := gb225) (o := .cells #[.int .i64 t215, .int .i64 t216, .int .i64 t217, .int .i64 t218, .int .i64 t219, .int .i64 t220, .int .i64 t221, .int .i64 t222, .int .i64 t223, .int .i64 t224] 50 (0, 0)) (by (with_reducible repeat (first | refine blk_drewN ?_ _ | refine blk_drew ?_ | refine blk_alloc ?_ _)); exact BK225.out) hb)
        have n1_ := Aside0.mk (below_step (by repeat (first | (with_reducible first | exact HB.out | apply below_alloc | apply pw_below_drewN | apply below_drew1 | refine below_set ?_ GE225.out) | exact HB.out)) hb)
        clear BK225
        clear HB
        have BK225 := n0_
        have HB := n1_
        clear n0_ n1_
        (try clear hb)
        (try clear hb2)
        (try clear hk)
        (try clear hi)
        refine hK.out _ _ ⟨(blk_cell BK225.out 0).trans rfl, (blk_cell BK225.out 1).trans rfl, (blk_cell BK225.out 2).trans rfl, (blk_cell BK225.out 3).trans rfl, (blk_cell BK225.out 4).trans rfl, (blk_cell BK225.out 5).trans rfl, (blk_cell BK225.out 6).trans rfl, (blk_cell BK225.out 7).trans rfl, (blk_cell BK225.out 8).trans rfl, (blk_cell BK225.out 9).trans rfl⟩ (fun hHeld => ?_)
        clear hK K
        refine norm_ (a' := ?_) ?_ ?_
        rotate_left
        · show Act.put _ (some 24) _ = _
          simp only [Act.put, List.setIfInBounds_toArray, List.set_cons_zero, List.set_cons_succ, i64_w, i32_w]
          rfl
        refine one_ (i := 5) (N := some 25) #[true, true, true, true, true, true, false] rfl rfl (by kernel_rfl) (by decide) (fun K hK => ?_)
        refine goes_ Try.func31 (by kernel_rfl) rfl #[.agg #[.int .i64 t215, .int .i64 t216, .int .i64 t217, .int .i64 t218, .int .i64 t219, .int .i64 t220, .int .i64 t221, .int .i64 t222, .int .i64 t223, .int .i64 t224], .agg #[.int .i64 t246, .int .i64 t247, .int .i64 t248, .int .i64 t249, .int .i64 t250, .int .i64 t251, .int .i64 t252, .int .i64 t253, .int .i64 t254, .int .i64 t255]] (by rfl) rfl rfl (by (try simp only [List.map_toArray, List.map_cons, List.map_nil]); first | done | rfl | (simp only [List.length_drop, List.length_take]; rfl)) ?_
        with_reducible refine (serifref01_Under.calls t215 t216 t217 t218 t219 t220 t221 t222 t223 t224 t246 t247 t248 t249 t250 t251 t252 t253 t254 t255 true _ A11.out).mono ?_
        rintro e w40 ⟨rfl, hb⟩
        refine ⟨_, rfl, ?_⟩
        have n0_ := Aside0.mk (blk_below (g := gb225) (o := .cells #[.int .i64 t215, .int .i64 t216, .int .i64 t217, .int .i64 t218, .int .i64 t219, .int .i64 t220, .int .i64 t221, .int .i64 t222, .int .i64 t223, .int .i64 t224] 50 (0, 0)) (by (with_reducible repeat (first | refine blk_drewN ?_ _ | refine blk_drew ?_ | refine blk_alloc ?_ _)); exact BK225.out) hb)
        have n1_ := Aside0.mk (below_step (by repeat (first | (with_reducible first | exact HB.out | apply below_alloc | apply pw_below_drewN | apply below_drew1 | refine below_set ?_ GE225.out) | exact HB.out)) hb)
        clear BK225
        clear HB
        have BK225 := n0_
        have HB := n1_
        clear n0_ n1_
        (try clear hb)
        (try clear hb2)
        (try clear hk)
        (try clear hi)
        refine hK.out _ _ ⟨(blk_cell BK225.out 0).trans rfl, (blk_cell BK225.out 1).trans rfl, (blk_cell BK225.out 2).trans rfl, (blk_cell BK225.out 3).trans rfl, (blk_cell BK225.out 4).trans rfl, (blk_cell BK225.out 5).trans rfl, (blk_cell BK225.out 6).trans rfl, (blk_cell BK225.out 7).trans rfl, (blk_cell BK225.out 8).trans rfl, (blk_cell BK225.out 9).trans rfl⟩ (fun hHeld => ?_)
        clear hK K
        refine norm_ (a' := ?_) ?_ ?_
        rotate_left
        · show Act.put _ (some 25) _ = _
          simp only [Act.put, List.setIfInBounds_toArray, List.set_cons_zero, List.set_cons_succ, i64_w, i32_w]
          rfl
        refine pure_ (i := 6) (N := some 26) (v := ?_) (a' := ?_) #[true, true, true, true, true, true, true] rfl rfl (by kernel_rfl) (fun _ _ _ h => h) (Or.inl ⟨by rfl, ?_⟩) ?_ ?_
        rotate_left
        · intro w'
          go_simp
          with_reducible rfl
        rotate_left
        · simp only [Act.put, List.setIfInBounds_toArray, List.set_cons_zero, List.set_cons_succ, i64_w, i32_w]
          rfl
        refine done_ (by kernel_rfl) ?_
        try go_wp2
        have n0_ := Aside0.mk (blk_drew BK225.out)
        have n1_ := Aside0.mk (below_drew1 HB.out)
        clear BK225
        clear HB
        have BK225 := n0_
        have HB := n1_
        clear n0_ n1_
        refine start_ (n := 5) (S := fun w' => w'.cell? ⟨gb225, 0, none⟩ = some (.int .i64 t215) ∧ w'.cell? ⟨gb225, 1, none⟩ = some (.int .i64 t216) ∧ w'.cell? ⟨gb225, 2, none⟩ = some (.int .i64 t217) ∧ w'.cell? ⟨gb225, 3, none⟩ = some (.int .i64 t218) ∧ w'.cell? ⟨gb225, 4, none⟩ = some (.int .i64 t219) ∧ w'.cell? ⟨gb225, 5, none⟩ = some (.int .i64 t220) ∧ w'.cell? ⟨gb225, 6, none⟩ = some (.int .i64 t221) ∧ w'.cell? ⟨gb225, 7, none⟩ = some (.int .i64 t222) ∧ w'.cell? ⟨gb225, 8, none⟩ = some (.int .i64 t223) ∧ w'.cell? ⟨gb225, 9, none⟩ = some (.int .i64 t224)) (ds := []) #[false, false, false, false, false] (by kernel_rfl) rfl rfl ⟨(blk_cell BK225.out 0).trans rfl, (blk_cell BK225.out 1).trans rfl, (blk_cell BK225.out 2).trans rfl, (blk_cell BK225.out 3).trans rfl, (blk_cell BK225.out 4).trans rfl, (blk_cell BK225.out 5).trans rfl, (blk_cell BK225.out 6).trans rfl, (blk_cell BK225.out 7).trans rfl, (blk_cell BK225.out 8).trans rfl, (blk_cell BK225.out 9).trans rfl⟩ (fun hHeld => ?_)
        generalize w40.drew = w41 at BK225 HB hHeld ⊢
        refine pure_ (i := 1) (N := some 28) (v := ?_) (a' := ?_) #[false, true, false, false, false] rfl rfl (by kernel_rfl) (fun _ _ _ h => h) (Or.inl ⟨by rfl, ?_⟩) ?_ ?_
        rotate_left
        · intro w'
          go_simp
          with_reducible rfl
        rotate_left
        · simp only [Act.put, List.setIfInBounds_toArray, List.set_cons_zero, List.set_cons_succ, i64_w, i32_w]
          rfl
        refine take_ (i := 0) (N := some 27) (v := ?_) (a' := ?_) #[true, true, false, false, false] rfl rfl (by kernel_rfl) (fun _ _ _ h => h) (Or.inl ⟨by rfl, ?_⟩) hHeld ?_ ?_
        rotate_left
        · rintro w' ⟨s0, s1, s2, s3, s4, s5, s6, s7, s8, s9⟩
          go_simp
          with_reducible rfl
        rotate_left
        · simp only [Act.put, List.setIfInBounds_toArray, List.set_cons_zero, List.set_cons_succ, i64_w, i32_w]
          rfl
        refine one_ (i := 2) (N := some 29) #[true, true, true, false, false] rfl rfl (by kernel_rfl) (by decide) (fun K hK => ?_)
        refine goes_ Try.func30 (by kernel_rfl) rfl #[.int .i64 a2] (by rfl) rfl rfl (by (try simp only [List.map_toArray, List.map_cons, List.map_nil]); first | done | rfl | (simp only [List.length_drop, List.length_take]; rfl)) ?_
        with_reducible refine (serifref01_Size.calls a2 t257 t258 t259 t260 t261 t262 t263 t264 t265 t266 _ A13.out).mono ?_
        rintro e w42 ⟨rfl, hb⟩
        refine ⟨_, rfl, ?_⟩
        have n0_ := Aside0.mk (blk_below (g := gb225) (o := .cells #[.int .i64 t215, .int .i64 t216, .int .i64 t217, .int .i64 t218, .int .i64 t219, .int .i64 t220, .int .i64 t221, .int .i64 t222, .int .i64 t223, .int .i64 t224] 50 (0, 0)) (by (with_reducible repeat (first | refine blk_drewN ?_ _ | refine blk_drew ?_ | refine blk_alloc ?_ _)); exact BK225.out) hb)
        have n1_ := Aside0.mk (below_step (by repeat (first | (with_reducible first | exact HB.out | apply below_alloc | apply pw_below_drewN | apply below_drew1 | refine below_set ?_ GE225.out) | exact HB.out)) hb)
        clear BK225
        clear HB
        have BK225 := n0_
        have HB := n1_
        clear n0_ n1_
        (try clear hb)
        (try clear hb2)
        (try clear hk)
        (try clear hi)
        refine hK.out _ _ ⟨(blk_cell BK225.out 0).trans rfl, (blk_cell BK225.out 1).trans rfl, (blk_cell BK225.out 2).trans rfl, (blk_cell BK225.out 3).trans rfl, (blk_cell BK225.out 4).trans rfl, (blk_cell BK225.out 5).trans rfl, (blk_cell BK225.out 6).trans rfl, (blk_cell BK225.out 7).trans rfl, (blk_cell BK225.out 8).trans rfl, (blk_cell BK225.out 9).trans rfl⟩ (fun hHeld => ?_)
        clear hK K
        refine norm_ (a' := ?_) ?_ ?_
        rotate_left
        · show Act.put _ (some 29) _ = _
          simp only [Act.put, List.setIfInBounds_toArray, List.set_cons_zero, List.set_cons_succ, i64_w, i32_w]
          rfl
        refine one_ (i := 3) (N := some 30) #[true, true, true, true, false] rfl rfl (by kernel_rfl) (by decide) (fun K hK => ?_)
        refine goes_ Try.func32 (by kernel_rfl) rfl #[.agg #[.int .i64 t215, .int .i64 t216, .int .i64 t217, .int .i64 t218, .int .i64 t219, .int .i64 t220, .int .i64 t221, .int .i64 t222, .int .i64 t223, .int .i64 t224], .agg #[.int .i64 t257, .int .i64 t258, .int .i64 t259, .int .i64 t260, .int .i64 t261, .int .i64 t262, .int .i64 t263, .int .i64 t264, .int .i64 t265, .int .i64 t266]] (by rfl) rfl rfl (by (try simp only [List.map_toArray, List.map_cons, List.map_nil]); first | done | rfl | (simp only [List.length_drop, List.length_take]; rfl)) ?_
        with_reducible refine (serifref01_Nearest.calls k t215 t216 t217 t218 t219 t220 t221 t222 t223 t224 t257 t258 t259 t260 t261 t262 t263 t264 t265 t266 t267 _ A14.out).mono ?_
        rintro e w43 ⟨rfl, hb⟩
        refine ⟨_, rfl, ?_⟩
        have n0_ := Aside0.mk (blk_below (g := gb225) (o := .cells #[.int .i64 t215, .int .i64 t216, .int .i64 t217, .int .i64 t218, .int .i64 t219, .int .i64 t220, .int .i64 t221, .int .i64 t222, .int .i64 t223, .int .i64 t224] 50 (0, 0)) (by (with_reducible repeat (first | refine blk_drewN ?_ _ | refine blk_drew ?_ | refine blk_alloc ?_ _)); exact BK225.out) hb)
        have n1_ := Aside0.mk (below_step (by repeat (first | (with_reducible first | exact HB.out | apply below_alloc | apply pw_below_drewN | apply below_drew1 | refine below_set ?_ GE225.out) | exact HB.out)) hb)
        clear BK225
        clear HB
        have BK225 := n0_
        have HB := n1_
        clear n0_ n1_
        (try clear hb)
        (try clear hb2)
        (try clear hk)
        (try clear hi)
        refine hK.out _ _ ⟨(blk_cell BK225.out 0).trans rfl, (blk_cell BK225.out 1).trans rfl, (blk_cell BK225.out 2).trans rfl, (blk_cell BK225.out 3).trans rfl, (blk_cell BK225.out 4).trans rfl, (blk_cell BK225.out 5).trans rfl, (blk_cell BK225.out 6).trans rfl, (blk_cell BK225.out 7).trans rfl, (blk_cell BK225.out 8).trans rfl, (blk_cell BK225.out 9).trans rfl⟩ (fun hHeld => ?_)
        clear hK K
        refine norm_ (a' := ?_) ?_ ?_
        rotate_left
        · show Act.put _ (some 30) _ = _
          simp only [Act.put, List.setIfInBounds_toArray, List.set_cons_zero, List.set_cons_succ, i64_w, i32_w]
          rfl
        refine pure_ (i := 4) (N := some 9) (v := ?_) (a' := ?_) #[true, true, true, true, true] rfl rfl (by kernel_rfl) (fun _ _ _ h => h) (Or.inl ⟨by rfl, ?_⟩) ?_ ?_
        rotate_left
        · intro w'
          go_simp
          with_reducible rfl
        rotate_left
        · simp only [Act.put, List.setIfInBounds_toArray, List.set_cons_zero, List.set_cons_succ, i64_w, i32_w]
          rfl
        refine done_ (by kernel_rfl) ?_
        try go_wp2_with (first | ((with_reducible refine gate_dst (N := 36) rfl ?_); refine Kd.R_lit (Kd.int .i64) _ 3 ?hg (N := 36) ?hd (xs := ([a0, a1, a2] : List Int)) (inner := [.int .i64 a0, .int .i64 a1, .int .i64 a2]) (ok := fun _ => True) (okp := fun _ => True) ?hr ?hp (fun _ hk => hk) trivial (Below.refl _ _) (Nat.le_refl _) (by simp) ?_; (case hd => rfl); (case hg => rfl); (case hr => first | (go_simp; done) | (go_simp; rfl)); (case hp => exact (Reps.one (show Kd.M (Kd.int .i64) _ _ _ a0 [.int .i64 a0] from rfl) (Reps.one (show Kd.M (Kd.int .i64) _ _ _ a1 [.int .i64 a1] from rfl) (Reps.one (show Kd.M (Kd.int .i64) _ _ _ a2 [.int .i64 a2] from rfl) (Reps.none _ _))))); intro v269 w44 ho45 hb hg_ hnew_; clear hg_ hnew_; (first | rw [← Ny268.out] at ho45 | (simp only [Int.reduceToNat] at ho45; rw [← Ny268.out] at ho45)); have n0_ := Aside0.mk (Kd.R_lower ho45 (below_size (by repeat (first | (with_reducible first | exact HB.out | apply below_alloc | apply pw_below_drewN | apply below_drew1 | refine below_set ?_ GE225.out) | exact HB.out)))); have n1_ := Aside0.mk (blk_below (g := gb225) (o := .cells #[.int .i64 t215, .int .i64 t216, .int .i64 t217, .int .i64 t218, .int .i64 t219, .int .i64 t220, .int .i64 t221, .int .i64 t222, .int .i64 t223, .int .i64 t224] 50 (0, 0)) (by (with_reducible repeat (first | refine blk_drewN ?_ _ | refine blk_drew ?_ | refine blk_alloc ?_ _)); exact BK225.out) hb); have n2_ := Aside0.mk (below_step (by repeat (first | (with_reducible first | exact HB.out | apply below_alloc | apply pw_below_drewN | apply below_drew1 | refine below_set ?_ GE225.out) | exact HB.out)) hb); clear BK225; clear HB; have HO270 := n0_; have BK225 := n1_; have HB := n2_; clear n0_ n1_ n2_; clear hb ho45; obtain ⟨Ao46, co46, eo46⟩ := Kd.R_slice HO270.out; subst eo46))
        go_loopg [10, 38] k (fun kq v10 v38 w' => ∃ (x10_1 : Int) (x38_1 : Int), v10 = .int .i64 x10_1 ∧ v38 = .int .i64 x38_1 ∧ Aside0 (serifref01_MulDiv.l0 kq t267 x10_1 y268 (y268.length : Int) x38_1 = some (r1, r2)) ∧ Aside0 (kq ≤ k) ∧ Aside0 (Kd.R (Kd.int .i64) 3 w' w.heap.size (fun _ => True) (.slice Ao46 y268.length co46) y268) ∧ Aside0 (w'.heap[gb225]? = some (.cells #[.int .i64 t215, .int .i64 t216, .int .i64 t217, .int .i64 t218, .int .i64 t219, .int .i64 t220, .int .i64 t221, .int .i64 t222, .int .i64 t223, .int .i64 t224] 50 (0, 0))) ∧ Aside0 (Below w.heap.size w w'))
        case atStart => exact ⟨(0), (0), (by first | rfl | (simp; done) | (simp [*]; done)), (by first | rfl | (simp; done) | (simp [*]; done)), H', ⟨Nat.le_refl _⟩, ⟨by (with_reducible repeat (first | apply Kd.R_alloc | apply Kd.R_drewN | apply Kd.R_drew)); exact HO270.out⟩, ⟨by (with_reducible repeat (first | refine blk_drewN ?_ _ | refine blk_drew ?_ | refine blk_alloc ?_ _)); exact BK225.out⟩, ⟨by repeat (first | (with_reducible first | exact HB.out | apply below_alloc | apply pw_below_drewN | apply below_drew1 | refine below_set ?_ GE225.out) | exact HB.out)⟩⟩
        case round =>
          clear H'
          try clear c1
          try clear c2
          try clear p2
          try clear c3
          try clear c4
          try clear c4b0
          try clear c4b1
          try clear c12
          try clear c15
          try clear c15b0
          try clear c29
          try clear c30
          try clear c31
          try clear c32
          try clear hcz20_0
          try clear hcz20_1
          try clear hcz20_2
          try clear hcz20_3
          try clear hcz20_4
          try clear hcz20_5
          try clear hcz20_6
          try clear hcz20_7
          try clear hcz20_8
          try clear hcz20_9
          try clear hcz34_0
          try clear hcz34_1
          try clear hcz34_2
          try clear hcz34_3
          try clear hcz34_4
          try clear hcz34_5
          try clear hcz34_6
          try clear hcz34_7
          try clear hcz34_8
          try clear hcz34_9
          try clear hfz20_0
          try clear hfz20_1
          try clear hfz20_2
          try clear hfz20_3
          try clear hfz20_4
          try clear hfz20_5
          try clear hfz20_6
          try clear hfz20_7
          try clear hfz20_8
          try clear hfz20_9
          try clear hfz34_0
          try clear hfz34_1
          try clear hfz34_2
          try clear hfz34_3
          try clear hfz34_4
          try clear hfz34_5
          try clear hfz34_6
          try clear hfz34_7
          try clear hfz34_8
          try clear hfz34_9
          obtain ⟨x10_1, x38_1, rfl, rfl, HA, HK1, HO_36, BK225, HB⟩ := hrel
          cases gk with
          | zero => exact absurd HA.out (by simp [serifref01_MulDiv.l0])
          | succ k1 =>
            have H := HA.out
            clear HA
            simp only [serifref01_MulDiv.l0] at H
            by_cases c47 : x38_1 < (y268.length : Int)
            · rw [if_pos c47] at H
              have c47b0 : decide (x38_1 < (y268.length : Int)) = true := decide_eq_true c47
              clear c47
              by_cases c48 : 0 ≤ x38_1
              · rw [if_pos c48] at H
                have c48b0 : decide (0 ≤ x38_1) = true := decide_eq_true c48
                clear c48
                by_cases c49 : x38_1 < (y268.length : Int)
                · rw [if_pos c49] at H
                  have c49b0 : decide (x38_1 < (y268.length : Int)) = true := decide_eq_true c49
                  clear c49
                  by_cases c50 : (rd y268 x38_1) < 0
                  · rw [if_pos c50] at H
                    have c50b0 : decide ((rd y268 x38_1) < 0) = true := decide_eq_true c50
                    clear c50
                    have H' := Aside0.mk H
                    clear H
                    have p271 : 0 ≤ (x38_1 : Int) := of_decide_eq_true (by first | (with_reducible assumption) | assumption)
                    have q271 : x38_1 < (y268.length : Int) := of_decide_eq_true (by first | (with_reducible assumption) | assumption)
                    obtain ⟨ad271, e271, hx271_0⟩ := Kd.at_int (Kd.R_reads' HO_36.out).2.2 x38_1 p271 q271
                    cases e271
                    replace p271 := eq_true p271
                    replace q271 := eq_true q271
                    go_wp2
                    go_roundg k1
                    case measure => have := HK1.out; omega
                    case rel => exact ⟨(wrap64 (x10_1 + 1)), (wrap64 (x38_1 + 1)), (by first | rfl | (simp; done) | (simp [*]; done)), (by first | rfl | (simp; done) | (simp [*]; done)), H', ⟨by have := HK1.out; omega⟩, ⟨by (with_reducible repeat (first | apply Kd.R_alloc | apply Kd.R_drewN | apply Kd.R_drew)); exact HO_36.out⟩, ⟨by (with_reducible repeat (first | refine blk_drewN ?_ _ | refine blk_drew ?_ | refine blk_alloc ?_ _)); exact BK225.out⟩, ⟨by repeat (first | (with_reducible first | exact HB.out | apply below_alloc | apply pw_below_drewN | apply below_drew1 | refine below_set ?_ GE225.out) | exact HB.out)⟩⟩
                  · rw [if_neg c50] at H
                    have c50b0 : decide ((rd y268 x38_1) < 0) = false := decide_eq_false c50
                    clear c50
                    have H' := Aside0.mk H
                    clear H
                    have p271 : 0 ≤ (x38_1 : Int) := of_decide_eq_true (by first | (with_reducible assumption) | assumption)
                    have q271 : x38_1 < (y268.length : Int) := of_decide_eq_true (by first | (with_reducible assumption) | assumption)
                    obtain ⟨ad271, e271, hx271_0⟩ := Kd.at_int (Kd.R_reads' HO_36.out).2.2 x38_1 p271 q271
                    cases e271
                    replace p271 := eq_true p271
                    replace q271 := eq_true q271
                    go_wp2
                    go_roundg k1
                    case measure => have := HK1.out; omega
                    case rel => exact ⟨(x10_1), (wrap64 (x38_1 + 1)), (by first | rfl | (simp; done) | (simp [*]; done)), (by first | rfl | (simp; done) | (simp [*]; done)), H', ⟨by have := HK1.out; omega⟩, ⟨by (with_reducible repeat (first | apply Kd.R_alloc | apply Kd.R_drewN | apply Kd.R_drew)); exact HO_36.out⟩, ⟨by (with_reducible repeat (first | refine blk_drewN ?_ _ | refine blk_drew ?_ | refine blk_alloc ?_ _)); exact BK225.out⟩, ⟨by repeat (first | (with_reducible first | exact HB.out | apply below_alloc | apply pw_below_drewN | apply below_drew1 | refine below_set ?_ GE225.out) | exact HB.out)⟩⟩
                · rw [if_neg c49] at H
                  exact absurd H (by simp)
              · rw [if_neg c48] at H
                exact absurd H (by simp)
            · rw [if_neg c47] at H
              have c47b0 : decide (x38_1 < (y268.length : Int)) = false := decide_eq_false c47
              clear c47
              by_cases c51 : (Int.tmod x10_1 2) = 1
              · rw [if_pos c51] at H
                have c51b0 : ((Int.tmod x10_1 2) == 1) = true := beq_iff_eq.mpr c51
                have c51b1 : ((Int.tmod x10_1 2) != 1) = false := bne_eq_false_iff_eq.mpr c51
                clear c51
                simp only [Option.some.injEq, Prod.mk.injEq] at H
                obtain ⟨rfl, rfl⟩ := H
                go_wp2
                go_ret2
                exact ⟨by first | rfl | (simp [errW_none, errW_some] <;> rfl) | (simp [*, errW_none, errW_some] <;> rfl), by repeat (first | (with_reducible first | exact HB.out | apply below_alloc | apply pw_below_drewN | apply below_drew1 | refine below_set ?_ GE225.out) | exact HB.out)⟩
              · rw [if_neg c51] at H
                have c51b0 : ((Int.tmod x10_1 2) == 1) = false := beq_eq_false_iff_ne.mpr c51
                have c51b1 : ((Int.tmod x10_1 2) != 1) = true := bne_iff_ne.mpr c51
                simp only [Option.some.injEq, Prod.mk.injEq] at H
                obtain ⟨rfl, rfl⟩ := H
                go_wp2
                go_ret2
                exact ⟨by first | rfl | (simp [errW_none, errW_some] <;> rfl) | (simp [*, errW_none, errW_some] <;> rfl), by repeat (first | (with_reducible first | exact HB.out | apply below_alloc | apply pw_below_drewN | apply below_drew1 | refine below_set ?_ GE225.out) | exact HB.out)⟩
    · replace c12 := Bool.eq_false_iff.mpr c12
      subst c12
      have H1 : (some (0, 14)) = some (r1, r2) := by rw [if_neg (show ¬ (false = true) by decide)] at H; exact H
      clear H
      have H := H1
      clear H1
      simp only [Option.some.injEq, Prod.mk.injEq] at H
      obtain ⟨rfl, rfl⟩ := H
      go_enter Try.func12, Try.ntmps12
      try go_wp2_with (first | ((with_reducible refine gate_callee (f := 30) rfl ?_); refine goesL_ (some 16) rfl rfl Try.func30 (by kernel_rfl) rfl #[.int .i64 a0] rfl (by (try simp only [List.map_toArray, List.map_cons, List.map_nil]); first | done | rfl | (simp only [List.length_drop, List.length_take]; rfl)) ?_; (with_reducible refine (serifref01_Size.calls a0 t195 t196 t197 t198 t199 t200 t201 t202 t203 t204 _ A5.out).mono ?_); rintro e w52 ⟨rfl, hb⟩; refine ⟨_, rfl, ?_⟩; have n0_ := Aside0.mk (below_step (by repeat (first | (with_reducible first | exact HB.out | apply below_alloc | apply pw_below_drewN | apply below_drew1) | exact HB.out)) hb); clear HB; have HB := n0_; clear n0_; (try clear hb); (try clear hb2); (try clear hk); (try clear hi)) | ((with_reducible refine gate_callee (f := 30) rfl ?_); refine goesL_ (some 18) rfl rfl Try.func30 (by kernel_rfl) rfl #[.int .i64 a1] rfl (by (try simp only [List.map_toArray, List.map_cons, List.map_nil]); first | done | rfl | (simp only [List.length_drop, List.length_take]; rfl)) ?_; (with_reducible refine (serifref01_Size.calls a1 t205 t206 t207 t208 t209 t210 t211 t212 t213 t214 _ A6.out).mono ?_); rintro e w53 ⟨rfl, hb⟩; refine ⟨_, rfl, ?_⟩; have n0_ := Aside0.mk (below_step (by repeat (first | (with_reducible first | exact HB.out | apply below_alloc | apply pw_below_drewN | apply below_drew1) | exact HB.out)) hb); clear HB; have HB := n0_; clear n0_; (try clear hb); (try clear hb2); (try clear hk); (try clear hi)) | ((with_reducible refine gate_callee (f := 29) rfl ?_); refine goesL_ (some 19) rfl rfl Try.func29 (by kernel_rfl) rfl #[.agg #[.int .i64 t195, .int .i64 t196, .int .i64 t197, .int .i64 t198, .int .i64 t199, .int .i64 t200, .int .i64 t201, .int .i64 t202, .int .i64 t203, .int .i64 t204], .agg #[.int .i64 t205, .int .i64 t206, .int .i64 t207, .int .i64 t208, .int .i64 t209, .int .i64 t210, .int .i64 t211, .int .i64 t212, .int .i64 t213, .int .i64 t214]] rfl (by (try simp only [List.map_toArray, List.map_cons, List.map_nil]); first | done | rfl | (simp only [List.length_drop, List.length_take]; rfl)) ?_; (with_reducible refine (serifref01_Times.calls t195 t196 t197 t198 t199 t200 t201 t202 t203 t204 t205 t206 t207 t208 t209 t210 t211 t212 t213 t214 t215 t216 t217 t218 t219 t220 t221 t222 t223 t224 _ A7.out).mono ?_); rintro e w54 ⟨rfl, hb⟩; refine ⟨_, rfl, ?_⟩; have n0_ := Aside0.mk (below_step (by repeat (first | (with_reducible first | exact HB.out | apply below_alloc | apply pw_below_drewN | apply below_drew1) | exact HB.out)) hb); clear HB; have HB := n0_; clear n0_; (try clear hb); (try clear hb2); (try clear hk); (try clear hi)) | ((with_reducible refine gate_dst (N := 8) rfl ?_); refine box_event ?hg (N := 8) ?hd (cs := #[.int .i64 0, .int .i64 0, .int .i64 0, .int .i64 0, .int .i64 0, .int .i64 0, .int .i64 0, .int .i64 0, .int .i64 0, .int .i64 0]) (t := 50) ?hr ?_; (case hd => rfl); (case hg => rfl); (case hr => first | (go_simp; done) | (go_simp; rfl)); intro gb225 hg w55 hbox hb; have n0_ := Aside0.mk (below_step (by repeat (first | (with_reducible first | exact HB.out | apply below_alloc | apply pw_below_drewN | apply below_drew1) | exact HB.out)) hb); have n1_ := Aside0.mk (hbox); have n2_ := Aside0.mk ((by rw [hg]; exact (below_size (by repeat (first | (with_reducible first | exact HB.out | apply below_alloc | apply pw_below_drewN | apply below_drew1) | exact HB.out))) : w.heap.size ≤ gb225)); have n3_ := Aside0.mk ((by rw [hg]; exact (below_size (by repeat (first | (with_reducible first | exact HB.out | apply below_alloc | apply pw_below_drewN | apply below_drew1) | exact HB.out))) : w.heap.size ≤ gb225)); clear HB; have HB := n0_; have BK225 := n1_; have GW225 := n2_; have GE225 := n3_; clear n0_ n1_ n2_ n3_; clear hb hbox hg; have hcz56_0 : w55.cell? ⟨gb225, 0, none⟩ = some (.int .i64 0) := (blk_cell BK225.out 0).trans rfl; have hcz56_1 : w55.cell? ⟨gb225, 1, none⟩ = some (.int .i64 0) := (blk_cell BK225.out 1).trans rfl; have hcz56_2 : w55.cell? ⟨gb225, 2, none⟩ = some (.int .i64 0) := (blk_cell BK225.out 2).trans rfl; have hcz56_3 : w55.cell? ⟨gb225, 3, none⟩ = some (.int .i64 0) := (blk_cell BK225.out 3).trans rfl; have hcz56_4 : w55.cell? ⟨gb225, 4, none⟩ = some (.int .i64 0) := (blk_cell BK225.out 4).trans rfl; have hcz56_5 : w55.cell? ⟨gb225, 5, none⟩ = some (.int .i64 0) := (blk_cell BK225.out 5).trans rfl; have hcz56_6 : w55.cell? ⟨gb225, 6, none⟩ = some (.int .i64 0) := (blk_cell BK225.out 6).trans rfl; have hcz56_7 : w55.cell? ⟨gb225, 7, none⟩ = some (.int .i64 0) := (blk_cell BK225.out 7).trans rfl; have hcz56_8 : w55.cell? ⟨gb225, 8, none⟩ = some (.int .i64 0) := (blk_cell BK225.out 8).trans rfl; have hcz56_9 : w55.cell? ⟨gb225, 9, none⟩ = some (.int .i64 0) := (blk_cell BK225.out 9).trans rfl; have hfz56_0 := blk_frozen BK225.out 0; have hfz56_1 := blk_frozen BK225.out 1; have hfz56_2 := blk_frozen BK225.out 2; have hfz56_3 := blk_frozen BK225.out 3; have hfz56_4 := blk_frozen BK225.out 4; have hfz56_5 := blk_frozen BK225.out 5; have hfz56_6 := blk_frozen BK225.out 6; have hfz56_7 := blk_frozen BK225.out 7; have hfz56_8 := blk_frozen BK225.out 8; have hfz56_9 := blk_frozen BK225.out 9))
      have n0_ : Aside0 (((((((((((w55.setCell ⟨gb225, 0, none⟩ (.int .i64 t215)).setCell ⟨gb225, 1, none⟩ (.int .i64 t216)).setCell ⟨gb225, 2, none⟩ (.int .i64 t217)).setCell ⟨gb225, 3, none⟩ (.int .i64 t218)).setCell ⟨gb225, 4, none⟩ (.int .i64 t219)).setCell ⟨gb225, 5, none⟩ (.int .i64 t220)).setCell ⟨gb225, 6, none⟩ (.int .i64 t221)).setCell ⟨gb225, 7, none⟩ (.int .i64 t222)).setCell ⟨gb225, 8, none⟩ (.int .i64 t223)).setCell ⟨gb225, 9, none⟩ (.int .i64 t224)).heap[gb225]? = some (.cells #[.int .i64 t215, .int .i64 t216, .int .i64 t217, .int .i64 t218, .int .i64 t219, .int .i64 t220, .int .i64 t221, .int .i64 t222, .int .i64 t223, .int .i64 t224] 50 (0, 0))) := ⟨by (with_reducible repeat (first | refine blk_drewN ?_ _ | refine blk_drew ?_ | refine blk_alloc ?_ _)); refine blk_put (cs := #[.int .i64 t215, .int .i64 t216, .int .i64 t217, .int .i64 t218, .int .i64 t219, .int .i64 t220, .int .i64 t221, .int .i64 t222, .int .i64 t223, .int .i64 0]) ?_ 9 _ rfl; (with_reducible repeat (first | refine blk_drewN ?_ _ | refine blk_drew ?_ | refine blk_alloc ?_ _)); refine blk_put (cs := #[.int .i64 t215, .int .i64 t216, .int .i64 t217, .int .i64 t218, .int .i64 t219, .int .i64 t220, .int .i64 t221, .int .i64 t222, .int .i64 0, .int .i64 0]) ?_ 8 _ rfl; (with_reducible repeat (first | refine blk_drewN ?_ _ | refine blk_drew ?_ | refine blk_alloc ?_ _)); refine blk_put (cs := #[.int .i64 t215, .int .i64 t216, .int .i64 t217, .int .i64 t218, .int .i64 t219, .int .i64 t220, .int .i64 t221, .int .i64 0, .int .i64 0, .int .i64 0]) ?_ 7 _ rfl; (with_reducible repeat (first | refine blk_drewN ?_ _ | refine blk_drew ?_ | refine blk_alloc ?_ _)); refine blk_put (cs := #[.int .i64 t215, .int .i64 t216, .int .i64 t217, .int .i64 t218, .int .i64 t219, .int .i64 t220, .int .i64 0, .int .i64 0, .int .i64 0, .int .i64 0]) ?_ 6 _ rfl; (with_reducible repeat (first | refine blk_drewN ?_ _ | refine blk_drew ?_ | refine blk_alloc ?_ _)); refine blk_put (cs := #[.int .i64 t215, .int .i64 t216, .int .i64 t217, .int .i64 t218, .int .i64 t219, .int .i64 0, .int .i64 0, .int .i64 0, .int .i64 0, .int .i64 0]) ?_ 5 _ rfl; (with_reducible repeat (first | refine blk_drewN ?_ _ | refine blk_drew ?_ | refine blk_alloc ?_ _)); refine blk_put (cs := #[.int .i64 t215, .int .i64 t216, .int .i64 t217, .int .i64 t218, .int .i64 0, .int .i64 0, .int .i64 0, .int .i64 0, .int .i64 0, .int .i64 0]) ?_ 4 _ rfl; (with_reducible repeat (first | refine blk_drewN ?_ _ | refine blk_drew ?_ | refine blk_alloc ?_ _)); refine blk_put (cs := #[.int .i64 t215, .int .i64 t216, .int .i64 t217, .int .i64 0, .int .i64 0, .int .i64 0, .int .i64 0, .int .i64 0, .int .i64 0, .int .i64 0]) ?_ 3 _ rfl; (with_reducible repeat (first | refine blk_drewN ?_ _ | refine blk_drew ?_ | refine blk_alloc ?_ _)); refine blk_put (cs := #[.int .i64 t215, .int .i64 t216, .int .i64 0, .int .i64 0, .int .i64 0, .int .i64 0, .int .i64 0, .int .i64 0, .int .i64 0, .int .i64 0]) ?_ 2 _ rfl; (with_reducible repeat (first | refine blk_drewN ?_ _ | refine blk_drew ?_ | refine blk_alloc ?_ _)); refine blk_put (cs := #[.int .i64 t215, .int .i64 0, .int .i64 0, .int .i64 0, .int .i64 0, .int .i64 0, .int .i64 0, .int .i64 0, .int .i64 0, .int .i64 0]) ?_ 1 _ rfl; (with_reducible repeat (first | refine blk_drewN ?_ _ | refine blk_drew ?_ | refine blk_alloc ?_ _)); refine blk_put (cs := #[.int .i64 0, .int .i64 0, .int .i64 0, .int .i64 0, .int .i64 0, .int .i64 0, .int .i64 0, .int .i64 0, .int .i64 0, .int .i64 0]) ?_ 0 _ rfl; (with_reducible repeat (first | refine blk_drewN ?_ _ | refine blk_drew ?_ | refine blk_alloc ?_ _)); exact BK225.out⟩
      have n1_ : Aside0 (Below w.heap.size w ((((((((((w55.setCell ⟨gb225, 0, none⟩ (.int .i64 t215)).setCell ⟨gb225, 1, none⟩ (.int .i64 t216)).setCell ⟨gb225, 2, none⟩ (.int .i64 t217)).setCell ⟨gb225, 3, none⟩ (.int .i64 t218)).setCell ⟨gb225, 4, none⟩ (.int .i64 t219)).setCell ⟨gb225, 5, none⟩ (.int .i64 t220)).setCell ⟨gb225, 6, none⟩ (.int .i64 t221)).setCell ⟨gb225, 7, none⟩ (.int .i64 t222)).setCell ⟨gb225, 8, none⟩ (.int .i64 t223)).setCell ⟨gb225, 9, none⟩ (.int .i64 t224))) := ⟨by repeat (first | (with_reducible first | exact HB.out | apply below_alloc | apply pw_below_drewN | apply below_drew1 | refine below_set ?_ GE225.out) | exact HB.out)⟩
      (try clear BK225)
      (try clear HB)
      generalize ((((((((((w55.setCell ⟨gb225, 0, none⟩ (.int .i64 t215)).setCell ⟨gb225, 1, none⟩ (.int .i64 t216)).setCell ⟨gb225, 2, none⟩ (.int .i64 t217)).setCell ⟨gb225, 3, none⟩ (.int .i64 t218)).setCell ⟨gb225, 4, none⟩ (.int .i64 t219)).setCell ⟨gb225, 5, none⟩ (.int .i64 t220)).setCell ⟨gb225, 6, none⟩ (.int .i64 t221)).setCell ⟨gb225, 7, none⟩ (.int .i64 t222)).setCell ⟨gb225, 8, none⟩ (.int .i64 t223)).setCell ⟨gb225, 9, none⟩ (.int .i64 t224)) = w57 at n0_ n1_ ⊢
      have BK225 := n0_
      have HB := n1_
      clear n0_ n1_
      have n0_ := Aside0.mk (blk_drew BK225.out)
      have n1_ := Aside0.mk (below_drew1 HB.out)
      clear BK225
      clear HB
      have BK225 := n0_
      have HB := n1_
      clear n0_ n1_
      refine start_ (n := 7) (S := fun w' => w'.cell? ⟨gb225, 0, none⟩ = some (.int .i64 t215) ∧ w'.cell? ⟨gb225, 1, none⟩ = some (.int .i64 t216) ∧ w'.cell? ⟨gb225, 2, none⟩ = some (.int .i64 t217) ∧ w'.cell? ⟨gb225, 3, none⟩ = some (.int .i64 t218) ∧ w'.cell? ⟨gb225, 4, none⟩ = some (.int .i64 t219) ∧ w'.cell? ⟨gb225, 5, none⟩ = some (.int .i64 t220) ∧ w'.cell? ⟨gb225, 6, none⟩ = some (.int .i64 t221) ∧ w'.cell? ⟨gb225, 7, none⟩ = some (.int .i64 t222) ∧ w'.cell? ⟨gb225, 8, none⟩ = some (.int .i64 t223) ∧ w'.cell? ⟨gb225, 9, none⟩ = some (.int .i64 t224)) (ds := []) #[false, false, false, false, false, false, false] (by kernel_rfl) rfl rfl ⟨(blk_cell BK225.out 0).trans rfl, (blk_cell BK225.out 1).trans rfl, (blk_cell BK225.out 2).trans rfl, (blk_cell BK225.out 3).trans rfl, (blk_cell BK225.out 4).trans rfl, (blk_cell BK225.out 5).trans rfl, (blk_cell BK225.out 6).trans rfl, (blk_cell BK225.out 7).trans rfl, (blk_cell BK225.out 8).trans rfl, (blk_cell BK225.out 9).trans rfl⟩ (fun hHeld => ?_)
      generalize w57.drew = w58 at BK225 HB hHeld ⊢
      refine pure_ (i := 1) (N := some 21) (v := ?_) (a' := ?_) #[false, true, false, false, false, false, false] rfl rfl (by kernel_rfl) (fun _ _ _ h => h) (Or.inl ⟨by rfl, ?_⟩) ?_ ?_
      rotate_left
      · intro w'
        go_simp
        with_reducible rfl
      rotate_left
      · simp only [Act.put, List.setIfInBounds_toArray, List.set_cons_zero, List.set_cons_succ, i64_w, i32_w]
        rfl
      refine take_ (i := 0) (N := some 20) (v := ?_) (a' := ?_) #[true, true, false, false, false, false, false] rfl rfl (by kernel_rfl) (fun _ _ _ h => h) (Or.inl ⟨by rfl, ?_⟩) hHeld ?_ ?_
      rotate_left
      · rintro w' ⟨s0, s1, s2, s3, s4, s5, s6, s7, s8, s9⟩
        go_simp
        with_reducible rfl
      rotate_left
      · simp only [Act.put, List.setIfInBounds_toArray, List.set_cons_zero, List.set_cons_succ, i64_w, i32_w]
        rfl
      refine one_ (i := 2) (N := some 22) #[true, true, true, false, false, false, false] rfl rfl (by kernel_rfl) (by decide) (fun K hK => ?_)
      refine goes_ Try.func30 (by kernel_rfl) rfl #[.int .i64 a2] (by rfl) rfl rfl (by (try simp only [List.map_toArray, List.map_cons, List.map_nil]); first | done | rfl | (simp only [List.length_drop, List.length_take]; rfl)) ?_
      with_reducible refine (serifref01_Size.calls a2 t226 t227 t228 t229 t230 t231 t232 t233 t234 t235 _ A8.out).mono ?_
      rintro e w59 ⟨rfl, hb⟩
      refine ⟨_, rfl, ?_⟩
      have n0_ := Aside0.mk (blk_below (g := gb225) (o := .cells #[.int .i64 t215, .int .i64 t216, .int .i64 t217, .int .i64 t218, .int .i64 t219, .int .i64 t220, .int .i64 t221, .int .i64 t222, .int .i64 t223, .int .i64 t224] 50 (0, 0)) (by (with_reducible repeat (first | refine blk_drewN ?_ _ | refine blk_drew ?_ | refine blk_alloc ?_ _)); exact BK225.out) hb)
      have n1_ := Aside0.mk (below_step (by repeat (first | (with_reducible first | exact HB.out | apply below_alloc | apply pw_below_drewN | apply below_drew1 | refine below_set ?_ GE225.out) | exact HB.out)) hb)
      clear BK225
      clear HB
      have BK225 := n0_
      have HB := n1_
      clear n0_ n1_
      (try clear hb)
      (try clear hb2)
      (try clear hk)
      (try clear hi)
      refine hK.out _ _ ⟨(blk_cell BK225.out 0).trans rfl, (blk_cell BK225.out 1).trans rfl, (blk_cell BK225.out 2).trans rfl, (blk_cell BK225.out 3).trans rfl, (blk_cell BK225.out 4).trans rfl, (blk_cell BK225.out 5).trans rfl, (blk_cell BK225.out 6).trans rfl, (blk_cell BK225.out 7).trans rfl, (blk_cell BK225.out 8).trans rfl, (blk_cell BK225.out 9).trans rfl⟩ (fun hHeld => ?_)
      clear hK K
      refine norm_ (a' := ?_) ?_ ?_
      rotate_left
      · show Act.put _ (some 22) _ = _
        simp only [Act.put, List.setIfInBounds_toArray, List.set_cons_zero, List.set_cons_succ, i64_w, i32_w]
        rfl
      refine one_ (i := 3) (N := some 23) #[true, true, true, true, false, false, false] rfl rfl (by kernel_rfl) (by decide) (fun K hK => ?_)
      refine goes_ Try.func30 (by kernel_rfl) rfl #[.int .i64 8589934592] (by rfl) rfl rfl (by (try simp only [List.map_toArray, List.map_cons, List.map_nil]); first | done | rfl | (simp only [List.length_drop, List.length_take]; rfl)) ?_
      with_reducible refine (serifref01_Size.calls 8589934592 t236 t237 t238 t239 t240 t241 t242 t243 t244 t245 _ A9.out).mono ?_
      rintro e w60 ⟨rfl, hb⟩
      refine ⟨_, rfl, ?_⟩
      have n0_ := Aside0.mk (blk_below (g := gb225) (o := .cells #[.int .i64 t215, .int .i64 t216, .int .i64 t217, .int .i64 t218, .int .i64 t219, .int .i64 t220, .int .i64 t221, .int .i64 t222, .int .i64 t223, .int .i64 t224] 50 (0, 0)) (by (with_reducible repeat (first | refine blk_drewN ?_ _ | refine blk_drew ?_ | refine blk_alloc ?_ _)); exact BK225.out) hb)
      have n1_ := Aside0.mk (below_step (by repeat (first | (with_reducible first | exact HB.out | apply below_alloc | apply pw_below_drewN | apply below_drew1 | refine below_set ?_ GE225.out) | exact HB.out)) hb)
      clear BK225
      clear HB
      have BK225 := n0_
      have HB := n1_
      clear n0_ n1_
      (try clear hb)
      (try clear hb2)
      (try clear hk)
      (try clear hi)
      refine hK.out _ _ ⟨(blk_cell BK225.out 0).trans rfl, (blk_cell BK225.out 1).trans rfl, (blk_cell BK225.out 2).trans rfl, (blk_cell BK225.out 3).trans rfl, (blk_cell BK225.out 4).trans rfl, (blk_cell BK225.out 5).trans rfl, (blk_cell BK225.out 6).trans rfl, (blk_cell BK225.out 7).trans rfl, (blk_cell BK225.out 8).trans rfl, (blk_cell BK225.out 9).trans rfl⟩ (fun hHeld => ?_)
      clear hK K
      refine norm_ (a' := ?_) ?_ ?_
      rotate_left
      · show Act.put _ (some 23) _ = _
        simp only [Act.put, List.setIfInBounds_toArray, List.set_cons_zero, List.set_cons_succ, i64_w, i32_w]
        rfl
      refine one_ (i := 4) (N := some 24) #[true, true, true, true, true, false, false] rfl rfl (by kernel_rfl) (by decide) (fun K hK => ?_)
      refine goes_ Try.func29 (by kernel_rfl) rfl #[.agg #[.int .i64 t226, .int .i64 t227, .int .i64 t228, .int .i64 t229, .int .i64 t230, .int .i64 t231, .int .i64 t232, .int .i64 t233, .int .i64 t234, .int .i64 t235], .agg #[.int .i64 t236, .int .i64 t237, .int .i64 t238, .int .i64 t239, .int .i64 t240, .int .i64 t241, .int .i64 t242, .int .i64 t243, .int .i64 t244, .int .i64 t245]] (by rfl) rfl rfl (by (try simp only [List.map_toArray, List.map_cons, List.map_nil]); first | done | rfl | (simp only [List.length_drop, List.length_take]; rfl)) ?_
      with_reducible refine (serifref01_Times.calls t226 t227 t228 t229 t230 t231 t232 t233 t234 t235 t236 t237 t238 t239 t240 t241 t242 t243 t244 t245 t246 t247 t248 t249 t250 t251 t252 t253 t254 t255 _ A10.out).mono ?_
      rintro e w61 ⟨rfl, hb⟩
      refine ⟨_, rfl, ?_⟩
      have n0_ := Aside0.mk (blk_below (g := gb225) (o := .cells #[.int .i64 t215, .int .i64 t216, .int .i64 t217, .int .i64 t218, .int .i64 t219, .int .i64 t220, .int .i64 t221, .int .i64 t222, .int .i64 t223, .int .i64 t224] 50 (0, 0)) (by (with_reducible repeat (first | refine blk_drewN ?_ _ | refine blk_drew ?_ | refine blk_alloc ?_ _)); exact BK225.out) hb)
      have n1_ := Aside0.mk (below_step (by repeat (first | (with_reducible first | exact HB.out | apply below_alloc | apply pw_below_drewN | apply below_drew1 | refine below_set ?_ GE225.out) | exact HB.out)) hb)
      clear BK225
      clear HB
      have BK225 := n0_
      have HB := n1_
      clear n0_ n1_
      (try clear hb)
      (try clear hb2)
      (try clear hk)
      (try clear hi)
      refine hK.out _ _ ⟨(blk_cell BK225.out 0).trans rfl, (blk_cell BK225.out 1).trans rfl, (blk_cell BK225.out 2).trans rfl, (blk_cell BK225.out 3).trans rfl, (blk_cell BK225.out 4).trans rfl, (blk_cell BK225.out 5).trans rfl, (blk_cell BK225.out 6).trans rfl, (blk_cell BK225.out 7).trans rfl, (blk_cell BK225.out 8).trans rfl, (blk_cell BK225.out 9).trans rfl⟩ (fun hHeld => ?_)
      clear hK K
      refine norm_ (a' := ?_) ?_ ?_
      rotate_left
      · show Act.put _ (some 24) _ = _
        simp only [Act.put, List.setIfInBounds_toArray, List.set_cons_zero, List.set_cons_succ, i64_w, i32_w]
        rfl
      refine one_ (i := 5) (N := some 25) #[true, true, true, true, true, true, false] rfl rfl (by kernel_rfl) (by decide) (fun K hK => ?_)
      refine goes_ Try.func31 (by kernel_rfl) rfl #[.agg #[.int .i64 t215, .int .i64 t216, .int .i64 t217, .int .i64 t218, .int .i64 t219, .int .i64 t220, .int .i64 t221, .int .i64 t222, .int .i64 t223, .int .i64 t224], .agg #[.int .i64 t246, .int .i64 t247, .int .i64 t248, .int .i64 t249, .int .i64 t250, .int .i64 t251, .int .i64 t252, .int .i64 t253, .int .i64 t254, .int .i64 t255]] (by rfl) rfl rfl (by (try simp only [List.map_toArray, List.map_cons, List.map_nil]); first | done | rfl | (simp only [List.length_drop, List.length_take]; rfl)) ?_
      with_reducible refine (serifref01_Under.calls t215 t216 t217 t218 t219 t220 t221 t222 t223 t224 t246 t247 t248 t249 t250 t251 t252 t253 t254 t255 false _ A11.out).mono ?_
      rintro e w62 ⟨rfl, hb⟩
      refine ⟨_, rfl, ?_⟩
      have n0_ := Aside0.mk (blk_below (g := gb225) (o := .cells #[.int .i64 t215, .int .i64 t216, .int .i64 t217, .int .i64 t218, .int .i64 t219, .int .i64 t220, .int .i64 t221, .int .i64 t222, .int .i64 t223, .int .i64 t224] 50 (0, 0)) (by (with_reducible repeat (first | refine blk_drewN ?_ _ | refine blk_drew ?_ | refine blk_alloc ?_ _)); exact BK225.out) hb)
      have n1_ := Aside0.mk (below_step (by repeat (first | (with_reducible first | exact HB.out | apply below_alloc | apply pw_below_drewN | apply below_drew1 | refine below_set ?_ GE225.out) | exact HB.out)) hb)
      clear BK225
      clear HB
      have BK225 := n0_
      have HB := n1_
      clear n0_ n1_
      (try clear hb)
      (try clear hb2)
      (try clear hk)
      (try clear hi)
      refine hK.out _ _ ⟨(blk_cell BK225.out 0).trans rfl, (blk_cell BK225.out 1).trans rfl, (blk_cell BK225.out 2).trans rfl, (blk_cell BK225.out 3).trans rfl, (blk_cell BK225.out 4).trans rfl, (blk_cell BK225.out 5).trans rfl, (blk_cell BK225.out 6).trans rfl, (blk_cell BK225.out 7).trans rfl, (blk_cell BK225.out 8).trans rfl, (blk_cell BK225.out 9).trans rfl⟩ (fun hHeld => ?_)
      clear hK K
      refine norm_ (a' := ?_) ?_ ?_
      rotate_left
      · show Act.put _ (some 25) _ = _
        simp only [Act.put, List.setIfInBounds_toArray, List.set_cons_zero, List.set_cons_succ, i64_w, i32_w]
        rfl
      refine pure_ (i := 6) (N := some 26) (v := ?_) (a' := ?_) #[true, true, true, true, true, true, true] rfl rfl (by kernel_rfl) (fun _ _ _ h => h) (Or.inl ⟨by rfl, ?_⟩) ?_ ?_
      rotate_left
      · intro w'
        go_simp
        with_reducible rfl
      rotate_left
      · simp only [Act.put, List.setIfInBounds_toArray, List.set_cons_zero, List.set_cons_succ, i64_w, i32_w]
        rfl
      refine done_ (by kernel_rfl) ?_
      try go_wp2
      go_ret2
      exact ⟨by first | rfl | (simp [errW_none, errW_some] <;> rfl) | (simp [*, errW_none, errW_some] <;> rfl), by repeat (first | (with_reducible first | exact HB.out | apply below_alloc | apply pw_below_drewN | apply below_drew1 | refine below_set ?_ GE225.out) | exact HB.out)⟩

end Go.Proofs.Ytbeegagnlcglcaa.X
