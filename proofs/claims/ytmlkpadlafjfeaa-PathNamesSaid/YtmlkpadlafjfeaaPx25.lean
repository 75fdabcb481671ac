-- written by a program of this session (wip/xprint.py) over the kit's print
import Derived.Test.YtmlkpadlafjfeaaPx0
import Derived.Test.YtmlkpadlafjfeaaPx24
namespace Go.Proofs.Ytmlkpadlafjfeaa.P
open Go.RowKit Go.Proofs.YtmlkpadlafjfeaaW.PrintWords Go.Proofs.YtmlkpadlafjfeaaW.PrintLast Go.Proofs.YtmlkpadlafjfeaaW.PrintMore
attribute [local go_sem] max2_int min2_int max_two min_two max_three min_three max_four min_four   -- for this text's walks alone
set_option linter.unusedVariables false
set_option linter.unusedSimpArgs false

/-! ### seriflaw06_PathNames: function 3 -/
def seriflaw06_PathNames.f (k : Nat)  : Option (Bool) := (seriflaw06_pathAlive.f k).bind fun t214 => (if t214 = true then (some true) else (none))
theorem seriflaw06_PathNames.mono : ∀ k, LeO (seriflaw06_PathNames.f k ) (seriflaw06_PathNames.f (k + 1) ) := by
 intro  k
 unfold seriflaw06_PathNames.f
 repeat' first
   | (with_reducible exact seriflaw06_pathAlive.mono _)
   | (with_reducible exact LeO.refl _)
   | (with_reducible exact LeO.none _)
   | (with_reducible refine LeO.ite ?_ ?_)
   | (with_reducible refine LeO.bind ?_ (fun _ => ?_))
   | exact seriflaw06_pathAlive.mono _
   | exact LeO.none _
   | refine LeO.ite ?_ ?_
   | refine LeO.bind ?_ (fun _ => ?_)
set_option maxHeartbeats 8000000 in
set_option maxRecDepth 100000 in
theorem seriflaw06_PathNames.calls (k : Nat)  (r : Bool) (w : World) (h : seriflaw06_PathNames.f k  = some r) :
  Calls Try.prog 3 #[] w fun e w' => e = .returned (.bool r) ∧ Below w.heap.size w w' := by
 have HB := Aside0.mk (Below.refl w.heap.size w)
 have H : ((seriflaw06_pathAlive.f k).bind fun t214 => (if t214 = true then (some true) else (none))) = some r := h
 clear h
 replace H := Option.bind_eq_some_iff.mp H
 obtain ⟨t214, A10, H⟩ := H
 replace H : (if t214 = true then (some true) else (none)) = some r := H
 have A1 := Aside0.mk A10
 clear A10
 by_cases c2 : t214 = true
 ·subst c2
  have H1 : (some true) = some r := by rw [if_pos rfl] at H; exact H
  clear H
  have H := H1
  clear H1
  obtain rfl := Option.some.inj H
  go_enter Try.func3, Try.ntmps3
  go_wp2_with (first | ((with_reducible refine gate_callee (f := 10) rfl ?_); refine goesL_ (some 1) rfl rfl Try.func10 (by kernel_rfl) rfl #[] rfl (by (try simp only [List.map_toArray, List.map_cons, List.map_nil]); first | done | rfl | (simp only [List.length_drop, List.length_take]; rfl)) ?_; (with_reducible refine (seriflaw06_pathAlive.calls k  true _ A1.out).mono ?_); rintro e w3 ⟨rfl, hb⟩; refine ⟨_, rfl, ?_⟩; have n0_ := Aside0.mk (below_step (bq HB) hb); clear HB; have HB := n0_; clear n0_; (try clear hb); (try clear hb2); (try clear hk); (try clear hi)))
  go_ret
  exact ⟨by first | rfl | (simp [errW_none, errW_some] <;> rfl) | (simp [*, errW_none, errW_some] <;> rfl), bq HB⟩
 ·replace c2 := Bool.eq_false_iff.mpr c2
  subst c2
  have H1 : (none) = some r := by rw [if_neg (show ¬ (false = true) by decide)] at H; exact H
  clear H
  have H := H1
  clear H1
  exact absurd H (by simp)

/-- THE ONE PURE STATEMENT of seriflaw06_PathNames: yours. -/
def seriflaw06_PathNames.Pure : Prop := ∃ k, seriflaw06_PathNames.f k  = some true
theorem seriflaw06_PathNames.walk (P : seriflaw06_PathNames.Pure)  (w : World)  :
  Calls Try.prog 3 #[] w fun e w' => e = .returned (.bool true) ∧ Below w.heap.size w w' := by
 obtain ⟨k, h⟩ := P  
 refine (seriflaw06_PathNames.calls k  true w h).mono ?_
 rintro e w' ⟨rfl, hd⟩
 exact ⟨rfl, hd⟩

end Go.Proofs.Ytmlkpadlafjfeaa.P
