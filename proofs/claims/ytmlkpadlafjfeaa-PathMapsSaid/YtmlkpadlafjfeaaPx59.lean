import Derived.Test.YtmlkpadlafjfeaaPx90
import Derived.Test.YtmlkpadlafjfeaaPx54
import Derived.Test.YtmlkpadlafjfeaaPx58
namespace Go.Proofs.Ytmlkpadlafjfeaa.P
open Go.RowKit Go.Proofs.YtmlkpadlafjfeaaW.PrintWords Go.Proofs.YtmlkpadlafjfeaaW.PrintLast Go.Proofs.YtmlkpadlafjfeaaW.PrintMore
attribute [local go_sem] zH zK zU zT zB zC zJ zI
set_option linter.unusedVariables false
set_option linter.unusedSimpArgs false
def qW.l0 : Nat → Int → Int → List Int → Int → Int → Option (Int × Int)
 | 0, _, _, _, _, _ => none
 | k + 1, x9, x10, x36, x37, x38 => if x38 < x37 then (if 0 ≤ x38 then (if x38 < (x36.length : Int) then (if (rd x36 x38) < 0 then (qW.l0 k x9 (wrap64 (x10 + 1)) x36 x37 (wrap64 (x38 + 1))) else (qW.l0 k x9 x10 x36 x37 (wrap64 (x38 + 1)))) else (none)) else (none)) else (if (Int.tmod x10 2) = 1 then (some (wrap64 (-x9), 0)) else (some (x9, 0)))
def qW.f (k : Nat) (a0 : Int) (a1 : Int) (a2 : Int) : Option (Int × Int) := if a2 = 0 then (some (0, 14)) else ((qV.f a0).bind fun bt605 => ((qV.f a1).bind fun bt615 => ((ze.f bt605.1 bt605.2.1 bt605.2.2.1 bt605.2.2.2.1 bt605.2.2.2.2.1 bt605.2.2.2.2.2.1 bt605.2.2.2.2.2.2.1 bt605.2.2.2.2.2.2.2.1 bt605.2.2.2.2.2.2.2.2.1 bt605.2.2.2.2.2.2.2.2.2 bt615.1 bt615.2.1 bt615.2.2.1 bt615.2.2.2.1 bt615.2.2.2.2.1 bt615.2.2.2.2.2.1 bt615.2.2.2.2.2.2.1 bt615.2.2.2.2.2.2.2.1 bt615.2.2.2.2.2.2.2.2.1 bt615.2.2.2.2.2.2.2.2.2).bind fun bt625 => ((qV.f a2).bind fun bt636 => ((qV.f 8589934592).bind fun bt646 => ((ze.f bt636.1 bt636.2.1 bt636.2.2.1 bt636.2.2.2.1 bt636.2.2.2.2.1 bt636.2.2.2.2.2.1 bt636.2.2.2.2.2.2.1 bt636.2.2.2.2.2.2.2.1 bt636.2.2.2.2.2.2.2.2.1 bt636.2.2.2.2.2.2.2.2.2 bt646.1 bt646.2.1 bt646.2.2.1 bt646.2.2.2.1 bt646.2.2.2.2.1 bt646.2.2.2.2.2.1 bt646.2.2.2.2.2.2.1 bt646.2.2.2.2.2.2.2.1 bt646.2.2.2.2.2.2.2.2.1 bt646.2.2.2.2.2.2.2.2.2).bind fun bt656 => ((zw.f bt625.1 bt625.2.1 bt625.2.2.1 bt625.2.2.2.1 bt625.2.2.2.2.1 bt625.2.2.2.2.2.1 bt625.2.2.2.2.2.2.1 bt625.2.2.2.2.2.2.2.1 bt625.2.2.2.2.2.2.2.2.1 bt625.2.2.2.2.2.2.2.2.2 bt656.1 bt656.2.1 bt656.2.2.1 bt656.2.2.2.1 bt656.2.2.2.2.1 bt656.2.2.2.2.2.1 bt656.2.2.2.2.2.2.1 bt656.2.2.2.2.2.2.2.1 bt656.2.2.2.2.2.2.2.2.1 bt656.2.2.2.2.2.2.2.2.2).bind fun t666 => (if t666 = true then ((qV.f a2).bind fun bt667 => ((qB.f k bt625.1 bt625.2.1 bt625.2.2.1 bt625.2.2.2.1 bt625.2.2.2.2.1 bt625.2.2.2.2.2.1 bt625.2.2.2.2.2.2.1 bt625.2.2.2.2.2.2.2.1 bt625.2.2.2.2.2.2.2.2.1 bt625.2.2.2.2.2.2.2.2.2 bt667.1 bt667.2.1 bt667.2.2.1 bt667.2.2.2.1 bt667.2.2.2.2.1 bt667.2.2.2.2.2.1 bt667.2.2.2.2.2.2.1 bt667.2.2.2.2.2.2.2.1 bt667.2.2.2.2.2.2.2.2.1 bt667.2.2.2.2.2.2.2.2.2).bind fun t677 => (if t677 > 2147483647 then (some (0, 14)) else ((some (([a0, a1, a2] : List Int) : List Int)).bind fun y678 => (qW.l0 k t677 0 y678 (y678.length : Int) 0))))) else (some (0, 14))))))))))
theorem qW.zW : ∀ k, (∀ y0 y1 y2 y3 y4, LeO (qW.l0 k y0 y1 y2 y3 y4) (qW.l0 (k + 1) y0 y1 y2 y3 y4))
 | 0 => fun _ _ _ _ _ r h => by simp [qW.l0] at h
 | k + 1 => by
  have ih0 := qW.zW k
  ·intro y0 y1 y2 y3 y4
   unfold qW.l0
   repeat' first
   | (with_reducible exact ih0 _ _ _ _ _)
   | (with_reducible exact qB.mono _ _ _ _ _ _ _ _ _ _ _ _ _ _ _ _ _ _ _ _ _)
   | (with_reducible exact LeO.refl _)
   | (with_reducible exact LeO.none _)
   | (with_reducible refine LeO.ite ?_ ?_)
   | (with_reducible refine LeO.bind ?_ (fun _ => ?_))
   | exact ih0 _ _ _ _ _
   | exact qB.mono _ _ _ _ _ _ _ _ _ _ _ _ _ _ _ _ _ _ _ _ _
   | exact LeO.none _
   | refine LeO.ite ?_ ?_
   | refine LeO.bind ?_ (fun _ => ?_)
theorem qW.mono : ∀ a0 a1 a2 k, LeO (qW.f k a0 a1 a2) (qW.f (k + 1) a0 a1 a2) := by
 intro a0 a1 a2 k
 have ih0 := qW.zW k
 unfold qW.f
 repeat' first
   | (with_reducible exact ih0 _ _ _ _ _)
   | (with_reducible exact qB.mono _ _ _ _ _ _ _ _ _ _ _ _ _ _ _ _ _ _ _ _ _)
   | (with_reducible exact LeO.refl _)
   | (with_reducible exact LeO.none _)
   | (with_reducible refine LeO.ite ?_ ?_)
   | (with_reducible refine LeO.bind ?_ (fun _ => ?_))
   | exact ih0 _ _ _ _ _
   | exact qB.mono _ _ _ _ _ _ _ _ _ _ _ _ _ _ _ _ _ _ _ _ _
   | exact LeO.none _
   | refine LeO.ite ?_ ?_
   | refine LeO.bind ?_ (fun _ => ?_)
set_option maxHeartbeats 8000000 in
set_option maxRecDepth 100000 in
theorem qW.calls (k : Nat) (a0 : Int) (a1 : Int) (a2 : Int) (r1 : Int) (r2 : Int) (w : World) (h : qW.f k a0 a1 a2 = some (r1, r2)) :
  Calls Try.prog 56 #[.int .i64 a0, .int .i64 a1, .int .i64 a2] w fun e w' => e = .returned (.tuple #[.int .i64 r1, .int .i64 r2]) ∧ Below w.heap.size w w' := by
 have hu116 := Try.underlying116
 have HB := qa.mk (Below.refl w.heap.size w)
 have H : (if a2 = 0 then (some (0, 14)) else ((qV.f a0).bind fun bt605 => ((qV.f a1).bind fun bt615 => ((ze.f bt605.1 bt605.2.1 bt605.2.2.1 bt605.2.2.2.1 bt605.2.2.2.2.1 bt605.2.2.2.2.2.1 bt605.2.2.2.2.2.2.1 bt605.2.2.2.2.2.2.2.1 bt605.2.2.2.2.2.2.2.2.1 bt605.2.2.2.2.2.2.2.2.2 bt615.1 bt615.2.1 bt615.2.2.1 bt615.2.2.2.1 bt615.2.2.2.2.1 bt615.2.2.2.2.2.1 bt615.2.2.2.2.2.2.1 bt615.2.2.2.2.2.2.2.1 bt615.2.2.2.2.2.2.2.2.1 bt615.2.2.2.2.2.2.2.2.2).bind fun bt625 => ((qV.f a2).bind fun bt636 => ((qV.f 8589934592).bind fun bt646 => ((ze.f bt636.1 bt636.2.1 bt636.2.2.1 bt636.2.2.2.1 bt636.2.2.2.2.1 bt636.2.2.2.2.2.1 bt636.2.2.2.2.2.2.1 bt636.2.2.2.2.2.2.2.1 bt636.2.2.2.2.2.2.2.2.1 bt636.2.2.2.2.2.2.2.2.2 bt646.1 bt646.2.1 bt646.2.2.1 bt646.2.2.2.1 bt646.2.2.2.2.1 bt646.2.2.2.2.2.1 bt646.2.2.2.2.2.2.1 bt646.2.2.2.2.2.2.2.1 bt646.2.2.2.2.2.2.2.2.1 bt646.2.2.2.2.2.2.2.2.2).bind fun bt656 => ((zw.f bt625.1 bt625.2.1 bt625.2.2.1 bt625.2.2.2.1 bt625.2.2.2.2.1 bt625.2.2.2.2.2.1 bt625.2.2.2.2.2.2.1 bt625.2.2.2.2.2.2.2.1 bt625.2.2.2.2.2.2.2.2.1 bt625.2.2.2.2.2.2.2.2.2 bt656.1 bt656.2.1 bt656.2.2.1 bt656.2.2.2.1 bt656.2.2.2.2.1 bt656.2.2.2.2.2.1 bt656.2.2.2.2.2.2.1 bt656.2.2.2.2.2.2.2.1 bt656.2.2.2.2.2.2.2.2.1 bt656.2.2.2.2.2.2.2.2.2).bind fun t666 => (if t666 = true then ((qV.f a2).bind fun bt667 => ((qB.f k bt625.1 bt625.2.1 bt625.2.2.1 bt625.2.2.2.1 bt625.2.2.2.2.1 bt625.2.2.2.2.2.1 bt625.2.2.2.2.2.2.1 bt625.2.2.2.2.2.2.2.1 bt625.2.2.2.2.2.2.2.2.1 bt625.2.2.2.2.2.2.2.2.2 bt667.1 bt667.2.1 bt667.2.2.1 bt667.2.2.2.1 bt667.2.2.2.2.1 bt667.2.2.2.2.2.1 bt667.2.2.2.2.2.2.1 bt667.2.2.2.2.2.2.2.1 bt667.2.2.2.2.2.2.2.2.1 bt667.2.2.2.2.2.2.2.2.2).bind fun t677 => (if t677 > 2147483647 then (some (0, 14)) else ((some (([a0, a1, a2] : List Int) : List Int)).bind fun y678 => (qW.l0 k t677 0 y678 (y678.length : Int) 0))))) else (some (0, 14))))))))))) = some (r1, r2) := h
 clear h
 by_cases c4 : a2 = 0
 ·rw [if_pos c4] at H
  have c4b0 : (a2 == 0) = true := beq_iff_eq.mpr c4
  have c4b1 : (a2 != 0) = false := bne_eq_false_iff_eq.mpr c4
  clear c4
  simp only [Option.some.injEq, Prod.mk.injEq] at H
  obtain ⟨rfl, rfl⟩ := H
  go_enter Try.func56, Try.ntmps56
  go_wp2
  go_ret2
  exact ⟨by first | rfl | (simp [qR, qU] <;> rfl) | (simp [*, qR, qU] <;> rfl), bq HB⟩
 rw [if_neg c4] at H
 have c4b0 : (a2 == 0) = false := beq_eq_false_iff_ne.mpr c4
 have c4b1 : (a2 != 0) = true := bne_iff_ne.mpr c4
 replace H := Option.bind_eq_some_iff.mp H
 obtain ⟨⟨t605, t606, t607, t608, t609, t610, t611, t612, t613, t614⟩, A50, H⟩ := H
 replace H : ((qV.f a1).bind fun bt615 => ((ze.f t605 t606 t607 t608 t609 t610 t611 t612 t613 t614 bt615.1 bt615.2.1 bt615.2.2.1 bt615.2.2.2.1 bt615.2.2.2.2.1 bt615.2.2.2.2.2.1 bt615.2.2.2.2.2.2.1 bt615.2.2.2.2.2.2.2.1 bt615.2.2.2.2.2.2.2.2.1 bt615.2.2.2.2.2.2.2.2.2).bind fun bt625 => ((qV.f a2).bind fun bt636 => ((qV.f 8589934592).bind fun bt646 => ((ze.f bt636.1 bt636.2.1 bt636.2.2.1 bt636.2.2.2.1 bt636.2.2.2.2.1 bt636.2.2.2.2.2.1 bt636.2.2.2.2.2.2.1 bt636.2.2.2.2.2.2.2.1 bt636.2.2.2.2.2.2.2.2.1 bt636.2.2.2.2.2.2.2.2.2 bt646.1 bt646.2.1 bt646.2.2.1 bt646.2.2.2.1 bt646.2.2.2.2.1 bt646.2.2.2.2.2.1 bt646.2.2.2.2.2.2.1 bt646.2.2.2.2.2.2.2.1 bt646.2.2.2.2.2.2.2.2.1 bt646.2.2.2.2.2.2.2.2.2).bind fun bt656 => ((zw.f bt625.1 bt625.2.1 bt625.2.2.1 bt625.2.2.2.1 bt625.2.2.2.2.1 bt625.2.2.2.2.2.1 bt625.2.2.2.2.2.2.1 bt625.2.2.2.2.2.2.2.1 bt625.2.2.2.2.2.2.2.2.1 bt625.2.2.2.2.2.2.2.2.2 bt656.1 bt656.2.1 bt656.2.2.1 bt656.2.2.2.1 bt656.2.2.2.2.1 bt656.2.2.2.2.2.1 bt656.2.2.2.2.2.2.1 bt656.2.2.2.2.2.2.2.1 bt656.2.2.2.2.2.2.2.2.1 bt656.2.2.2.2.2.2.2.2.2).bind fun t666 => (if t666 = true then ((qV.f a2).bind fun bt667 => ((qB.f k bt625.1 bt625.2.1 bt625.2.2.1 bt625.2.2.2.1 bt625.2.2.2.2.1 bt625.2.2.2.2.2.1 bt625.2.2.2.2.2.2.1 bt625.2.2.2.2.2.2.2.1 bt625.2.2.2.2.2.2.2.2.1 bt625.2.2.2.2.2.2.2.2.2 bt667.1 bt667.2.1 bt667.2.2.1 bt667.2.2.2.1 bt667.2.2.2.2.1 bt667.2.2.2.2.2.1 bt667.2.2.2.2.2.2.1 bt667.2.2.2.2.2.2.2.1 bt667.2.2.2.2.2.2.2.2.1 bt667.2.2.2.2.2.2.2.2.2).bind fun t677 => (if t677 > 2147483647 then (some (0, 14)) else ((some (([a0, a1, a2] : List Int) : List Int)).bind fun y678 => (qW.l0 k t677 0 y678 (y678.length : Int) 0))))) else (some (0, 14))))))))) = some (r1, r2) := H
 have A5 := qa.mk A50
 clear A50
 replace H := Option.bind_eq_some_iff.mp H
 obtain ⟨⟨t615, t616, t617, t618, t619, t620, t621, t622, t623, t624⟩, A60, H⟩ := H
 replace H : ((ze.f t605 t606 t607 t608 t609 t610 t611 t612 t613 t614 t615 t616 t617 t618 t619 t620 t621 t622 t623 t624).bind fun bt625 => ((qV.f a2).bind fun bt636 => ((qV.f 8589934592).bind fun bt646 => ((ze.f bt636.1 bt636.2.1 bt636.2.2.1 bt636.2.2.2.1 bt636.2.2.2.2.1 bt636.2.2.2.2.2.1 bt636.2.2.2.2.2.2.1 bt636.2.2.2.2.2.2.2.1 bt636.2.2.2.2.2.2.2.2.1 bt636.2.2.2.2.2.2.2.2.2 bt646.1 bt646.2.1 bt646.2.2.1 bt646.2.2.2.1 bt646.2.2.2.2.1 bt646.2.2.2.2.2.1 bt646.2.2.2.2.2.2.1 bt646.2.2.2.2.2.2.2.1 bt646.2.2.2.2.2.2.2.2.1 bt646.2.2.2.2.2.2.2.2.2).bind fun bt656 => ((zw.f bt625.1 bt625.2.1 bt625.2.2.1 bt625.2.2.2.1 bt625.2.2.2.2.1 bt625.2.2.2.2.2.1 bt625.2.2.2.2.2.2.1 bt625.2.2.2.2.2.2.2.1 bt625.2.2.2.2.2.2.2.2.1 bt625.2.2.2.2.2.2.2.2.2 bt656.1 bt656.2.1 bt656.2.2.1 bt656.2.2.2.1 bt656.2.2.2.2.1 bt656.2.2.2.2.2.1 bt656.2.2.2.2.2.2.1 bt656.2.2.2.2.2.2.2.1 bt656.2.2.2.2.2.2.2.2.1 bt656.2.2.2.2.2.2.2.2.2).bind fun t666 => (if t666 = true then ((qV.f a2).bind fun bt667 => ((qB.f k bt625.1 bt625.2.1 bt625.2.2.1 bt625.2.2.2.1 bt625.2.2.2.2.1 bt625.2.2.2.2.2.1 bt625.2.2.2.2.2.2.1 bt625.2.2.2.2.2.2.2.1 bt625.2.2.2.2.2.2.2.2.1 bt625.2.2.2.2.2.2.2.2.2 bt667.1 bt667.2.1 bt667.2.2.1 bt667.2.2.2.1 bt667.2.2.2.2.1 bt667.2.2.2.2.2.1 bt667.2.2.2.2.2.2.1 bt667.2.2.2.2.2.2.2.1 bt667.2.2.2.2.2.2.2.2.1 bt667.2.2.2.2.2.2.2.2.2).bind fun t677 => (if t677 > 2147483647 then (some (0, 14)) else ((some (([a0, a1, a2] : List Int) : List Int)).bind fun y678 => (qW.l0 k t677 0 y678 (y678.length : Int) 0))))) else (some (0, 14)))))))) = some (r1, r2) := H
 have A6 := qa.mk A60
 clear A60
 replace H := Option.bind_eq_some_iff.mp H
 obtain ⟨⟨t625, t626, t627, t628, t629, t630, t631, t632, t633, t634⟩, A70, H⟩ := H
 replace H : ((qV.f a2).bind fun bt636 => ((qV.f 8589934592).bind fun bt646 => ((ze.f bt636.1 bt636.2.1 bt636.2.2.1 bt636.2.2.2.1 bt636.2.2.2.2.1 bt636.2.2.2.2.2.1 bt636.2.2.2.2.2.2.1 bt636.2.2.2.2.2.2.2.1 bt636.2.2.2.2.2.2.2.2.1 bt636.2.2.2.2.2.2.2.2.2 bt646.1 bt646.2.1 bt646.2.2.1 bt646.2.2.2.1 bt646.2.2.2.2.1 bt646.2.2.2.2.2.1 bt646.2.2.2.2.2.2.1 bt646.2.2.2.2.2.2.2.1 bt646.2.2.2.2.2.2.2.2.1 bt646.2.2.2.2.2.2.2.2.2).bind fun bt656 => ((zw.f t625 t626 t627 t628 t629 t630 t631 t632 t633 t634 bt656.1 bt656.2.1 bt656.2.2.1 bt656.2.2.2.1 bt656.2.2.2.2.1 bt656.2.2.2.2.2.1 bt656.2.2.2.2.2.2.1 bt656.2.2.2.2.2.2.2.1 bt656.2.2.2.2.2.2.2.2.1 bt656.2.2.2.2.2.2.2.2.2).bind fun t666 => (if t666 = true then ((qV.f a2).bind fun bt667 => ((qB.f k t625 t626 t627 t628 t629 t630 t631 t632 t633 t634 bt667.1 bt667.2.1 bt667.2.2.1 bt667.2.2.2.1 bt667.2.2.2.2.1 bt667.2.2.2.2.2.1 bt667.2.2.2.2.2.2.1 bt667.2.2.2.2.2.2.2.1 bt667.2.2.2.2.2.2.2.2.1 bt667.2.2.2.2.2.2.2.2.2).bind fun t677 => (if t677 > 2147483647 then (some (0, 14)) else ((some (([a0, a1, a2] : List Int) : List Int)).bind fun y678 => (qW.l0 k t677 0 y678 (y678.length : Int) 0))))) else (some (0, 14))))))) = some (r1, r2) := H
 have A7 := qa.mk A70
 clear A70
 replace H := Option.bind_eq_some_iff.mp H
 obtain ⟨⟨t636, t637, t638, t639, t640, t641, t642, t643, t644, t645⟩, A80, H⟩ := H
 replace H : ((qV.f 8589934592).bind fun bt646 => ((ze.f t636 t637 t638 t639 t640 t641 t642 t643 t644 t645 bt646.1 bt646.2.1 bt646.2.2.1 bt646.2.2.2.1 bt646.2.2.2.2.1 bt646.2.2.2.2.2.1 bt646.2.2.2.2.2.2.1 bt646.2.2.2.2.2.2.2.1 bt646.2.2.2.2.2.2.2.2.1 bt646.2.2.2.2.2.2.2.2.2).bind fun bt656 => ((zw.f t625 t626 t627 t628 t629 t630 t631 t632 t633 t634 bt656.1 bt656.2.1 bt656.2.2.1 bt656.2.2.2.1 bt656.2.2.2.2.1 bt656.2.2.2.2.2.1 bt656.2.2.2.2.2.2.1 bt656.2.2.2.2.2.2.2.1 bt656.2.2.2.2.2.2.2.2.1 bt656.2.2.2.2.2.2.2.2.2).bind fun t666 => (if t666 = true then ((qV.f a2).bind fun bt667 => ((qB.f k t625 t626 t627 t628 t629 t630 t631 t632 t633 t634 bt667.1 bt667.2.1 bt667.2.2.1 bt667.2.2.2.1 bt667.2.2.2.2.1 bt667.2.2.2.2.2.1 bt667.2.2.2.2.2.2.1 bt667.2.2.2.2.2.2.2.1 bt667.2.2.2.2.2.2.2.2.1 bt667.2.2.2.2.2.2.2.2.2).bind fun t677 => (if t677 > 2147483647 then (some (0, 14)) else ((some (([a0, a1, a2] : List Int) : List Int)).bind fun y678 => (qW.l0 k t677 0 y678 (y678.length : Int) 0))))) else (some (0, 14)))))) = some (r1, r2) := H
 have A8 := qa.mk A80
 clear A80
 replace H := Option.bind_eq_some_iff.mp H
 obtain ⟨⟨t646, t647, t648, t649, t650, t651, t652, t653, t654, t655⟩, A90, H⟩ := H
 replace H : ((ze.f t636 t637 t638 t639 t640 t641 t642 t643 t644 t645 t646 t647 t648 t649 t650 t651 t652 t653 t654 t655).bind fun bt656 => ((zw.f t625 t626 t627 t628 t629 t630 t631 t632 t633 t634 bt656.1 bt656.2.1 bt656.2.2.1 bt656.2.2.2.1 bt656.2.2.2.2.1 bt656.2.2.2.2.2.1 bt656.2.2.2.2.2.2.1 bt656.2.2.2.2.2.2.2.1 bt656.2.2.2.2.2.2.2.2.1 bt656.2.2.2.2.2.2.2.2.2).bind fun t666 => (if t666 = true then ((qV.f a2).bind fun bt667 => ((qB.f k t625 t626 t627 t628 t629 t630 t631 t632 t633 t634 bt667.1 bt667.2.1 bt667.2.2.1 bt667.2.2.2.1 bt667.2.2.2.2.1 bt667.2.2.2.2.2.1 bt667.2.2.2.2.2.2.1 bt667.2.2.2.2.2.2.2.1 bt667.2.2.2.2.2.2.2.2.1 bt667.2.2.2.2.2.2.2.2.2).bind fun t677 => (if t677 > 2147483647 then (some (0, 14)) else ((some (([a0, a1, a2] : List Int) : List Int)).bind fun y678 => (qW.l0 k t677 0 y678 (y678.length : Int) 0))))) else (some (0, 14))))) = some (r1, r2) := H
 have A9 := qa.mk A90
 clear A90
 replace H := Option.bind_eq_some_iff.mp H
 obtain ⟨⟨t656, t657, t658, t659, t660, t661, t662, t663, t664, t665⟩, A100, H⟩ := H
 replace H : ((zw.f t625 t626 t627 t628 t629 t630 t631 t632 t633 t634 t656 t657 t658 t659 t660 t661 t662 t663 t664 t665).bind fun t666 => (if t666 = true then ((qV.f a2).bind fun bt667 => ((qB.f k t625 t626 t627 t628 t629 t630 t631 t632 t633 t634 bt667.1 bt667.2.1 bt667.2.2.1 bt667.2.2.2.1 bt667.2.2.2.2.1 bt667.2.2.2.2.2.1 bt667.2.2.2.2.2.2.1 bt667.2.2.2.2.2.2.2.1 bt667.2.2.2.2.2.2.2.2.1 bt667.2.2.2.2.2.2.2.2.2).bind fun t677 => (if t677 > 2147483647 then (some (0, 14)) else ((some (([a0, a1, a2] : List Int) : List Int)).bind fun y678 => (qW.l0 k t677 0 y678 (y678.length : Int) 0))))) else (some (0, 14)))) = some (r1, r2) := H
 have A10 := qa.mk A100
 clear A100
 replace H := Option.bind_eq_some_iff.mp H
 obtain ⟨t666, A110, H⟩ := H
 replace H : (if t666 = true then ((qV.f a2).bind fun bt667 => ((qB.f k t625 t626 t627 t628 t629 t630 t631 t632 t633 t634 bt667.1 bt667.2.1 bt667.2.2.1 bt667.2.2.2.1 bt667.2.2.2.2.1 bt667.2.2.2.2.2.1 bt667.2.2.2.2.2.2.1 bt667.2.2.2.2.2.2.2.1 bt667.2.2.2.2.2.2.2.2.1 bt667.2.2.2.2.2.2.2.2.2).bind fun t677 => (if t677 > 2147483647 then (some (0, 14)) else ((some (([a0, a1, a2] : List Int) : List Int)).bind fun y678 => (qW.l0 k t677 0 y678 (y678.length : Int) 0))))) else (some (0, 14))) = some (r1, r2) := H
 have A11 := qa.mk A110
 clear A110
 by_cases c12 : t666 = true
 case neg =>
  replace c12 := Bool.eq_false_iff.mpr c12
  subst c12
  have H1 : (some (0, 14)) = some (r1, r2) := by rw [if_neg (show ¬ (false = true) by decide)] at H; exact H
  clear H
  have H := H1
  clear H1
  simp only [Option.some.injEq, Prod.mk.injEq] at H
  obtain ⟨rfl, rfl⟩ := H
  go_enter Try.func56, Try.ntmps56
  try go_wp2_with (first | ((with_reducible refine zf (f := 70) rfl ?_); refine zR (some 16) rfl rfl Try.func70 (by kernel_rfl) rfl #[.int .i64 a0] rfl (by (try simp only [List.map_toArray, List.map_cons, List.map_nil]); first | done | rfl | (simp only [List.length_drop, List.length_take]; rfl)) ?_; (with_reducible refine (qV.calls a0 t605 t606 t607 t608 t609 t610 t611 t612 t613 t614 _ A5.out).mono ?_); rintro e w52 ⟨rfl, hb⟩; refine ⟨_, rfl, ?_⟩; have n0_ := qa.mk (qh (bq HB) hb); clear HB; have HB := n0_; clear n0_; (try clear hb); (try clear hb2); (try clear hk); (try clear hi)) | ((with_reducible refine zf (f := 70) rfl ?_); refine zR (some 18) rfl rfl Try.func70 (by kernel_rfl) rfl #[.int .i64 a1] rfl (by (try simp only [List.map_toArray, List.map_cons, List.map_nil]); first | done | rfl | (simp only [List.length_drop, List.length_take]; rfl)) ?_; (with_reducible refine (qV.calls a1 t615 t616 t617 t618 t619 t620 t621 t622 t623 t624 _ A6.out).mono ?_); rintro e w53 ⟨rfl, hb⟩; refine ⟨_, rfl, ?_⟩; have n0_ := qa.mk (qh (bq HB) hb); clear HB; have HB := n0_; clear n0_; (try clear hb); (try clear hb2); (try clear hk); (try clear hi)) | ((with_reducible refine zf (f := 69) rfl ?_); refine zR (some 19) rfl rfl Try.func69 (by kernel_rfl) rfl #[.agg #[.int .i64 t605, .int .i64 t606, .int .i64 t607, .int .i64 t608, .int .i64 t609, .int .i64 t610, .int .i64 t611, .int .i64 t612, .int .i64 t613, .int .i64 t614], .agg #[.int .i64 t615, .int .i64 t616, .int .i64 t617, .int .i64 t618, .int .i64 t619, .int .i64 t620, .int .i64 t621, .int .i64 t622, .int .i64 t623, .int .i64 t624]] rfl (by (try simp only [List.map_toArray, List.map_cons, List.map_nil]); first | done | rfl | (simp only [List.length_drop, List.length_take]; rfl)) ?_; (with_reducible refine (ze.calls t605 t606 t607 t608 t609 t610 t611 t612 t613 t614 t615 t616 t617 t618 t619 t620 t621 t622 t623 t624 t625 t626 t627 t628 t629 t630 t631 t632 t633 t634 _ A7.out).mono ?_); rintro e w54 ⟨rfl, hb⟩; refine ⟨_, rfl, ?_⟩; have n0_ := qa.mk (qh (bq HB) hb); clear HB; have HB := n0_; clear n0_; (try clear hb); (try clear hb2); (try clear hk); (try clear hi)) | ((with_reducible refine zl (N := 8) rfl ?_); refine zF ?hg (N := 8) ?hd (cs := #[.int .i64 0, .int .i64 0, .int .i64 0, .int .i64 0, .int .i64 0, .int .i64 0, .int .i64 0, .int .i64 0, .int .i64 0, .int .i64 0]) (t := 116) ?hr ?_; (case hd => rfl); (case hg => rfl); (case hr => first | (go_simp; done) | (go_simp; rfl)); intro gb635 hg w55 hbox hb; have n0_ := qa.mk (qh (bq HB) hb); have n1_ := qa.mk (hbox); have n2_ := qa.mk ((by rw [hg]; exact (qx (bq HB)) : w.heap.size ≤ gb635)); have n3_ := qa.mk ((by rw [hg]; exact (qx (bq HB)) : w.heap.size ≤ gb635)); clear HB; have HB := n0_; have BK635 := n1_; have GW635 := n2_; have GE635 := n3_; clear n0_ n1_ n2_ n3_; clear hb hbox hg; have hcz56_0 : w55.cell? ⟨gb635, 0, none⟩ = some (.int .i64 0) := (qb BK635.out 0).trans rfl; have hcz56_1 : w55.cell? ⟨gb635, 1, none⟩ = some (.int .i64 0) := (qb BK635.out 1).trans rfl; have hcz56_2 : w55.cell? ⟨gb635, 2, none⟩ = some (.int .i64 0) := (qb BK635.out 2).trans rfl; have hcz56_3 : w55.cell? ⟨gb635, 3, none⟩ = some (.int .i64 0) := (qb BK635.out 3).trans rfl; have hcz56_4 : w55.cell? ⟨gb635, 4, none⟩ = some (.int .i64 0) := (qb BK635.out 4).trans rfl; have hcz56_5 : w55.cell? ⟨gb635, 5, none⟩ = some (.int .i64 0) := (qb BK635.out 5).trans rfl; have hcz56_6 : w55.cell? ⟨gb635, 6, none⟩ = some (.int .i64 0) := (qb BK635.out 6).trans rfl; have hcz56_7 : w55.cell? ⟨gb635, 7, none⟩ = some (.int .i64 0) := (qb BK635.out 7).trans rfl; have hcz56_8 : w55.cell? ⟨gb635, 8, none⟩ = some (.int .i64 0) := (qb BK635.out 8).trans rfl; have hcz56_9 : w55.cell? ⟨gb635, 9, none⟩ = some (.int .i64 0) := (qb BK635.out 9).trans rfl; have hfz56_0 := qo BK635.out 0; have hfz56_1 := qo BK635.out 1; have hfz56_2 := qo BK635.out 2; have hfz56_3 := qo BK635.out 3; have hfz56_4 := qo BK635.out 4; have hfz56_5 := qo BK635.out 5; have hfz56_6 := qo BK635.out 6; have hfz56_7 := qo BK635.out 7; have hfz56_8 := qo BK635.out 8; have hfz56_9 := qo BK635.out 9))
  have n0_ : qa (((((((((((w55.setCell ⟨gb635, 0, none⟩ (.int .i64 t625)).setCell ⟨gb635, 1, none⟩ (.int .i64 t626)).setCell ⟨gb635, 2, none⟩ (.int .i64 t627)).setCell ⟨gb635, 3, none⟩ (.int .i64 t628)).setCell ⟨gb635, 4, none⟩ (.int .i64 t629)).setCell ⟨gb635, 5, none⟩ (.int .i64 t630)).setCell ⟨gb635, 6, none⟩ (.int .i64 t631)).setCell ⟨gb635, 7, none⟩ (.int .i64 t632)).setCell ⟨gb635, 8, none⟩ (.int .i64 t633)).setCell ⟨gb635, 9, none⟩ (.int .i64 t634)).heap[gb635]? = some (.cells #[.int .i64 t625, .int .i64 t626, .int .i64 t627, .int .i64 t628, .int .i64 t629, .int .i64 t630, .int .i64 t631, .int .i64 t632, .int .i64 t633, .int .i64 t634] 116 (0, 0))) := ⟨by refine zb (cs := #[.int .i64 t625, .int .i64 t626, .int .i64 t627, .int .i64 t628, .int .i64 t629, .int .i64 t630, .int .i64 t631, .int .i64 t632, .int .i64 t633, .int .i64 0]) ?_ 9 _ rfl; refine zb (cs := #[.int .i64 t625, .int .i64 t626, .int .i64 t627, .int .i64 t628, .int .i64 t629, .int .i64 t630, .int .i64 t631, .int .i64 t632, .int .i64 0, .int .i64 0]) ?_ 8 _ rfl; refine zb (cs := #[.int .i64 t625, .int .i64 t626, .int .i64 t627, .int .i64 t628, .int .i64 t629, .int .i64 t630, .int .i64 t631, .int .i64 0, .int .i64 0, .int .i64 0]) ?_ 7 _ rfl; refine zb (cs := #[.int .i64 t625, .int .i64 t626, .int .i64 t627, .int .i64 t628, .int .i64 t629, .int .i64 t630, .int .i64 0, .int .i64 0, .int .i64 0, .int .i64 0]) ?_ 6 _ rfl; refine zb (cs := #[.int .i64 t625, .int .i64 t626, .int .i64 t627, .int .i64 t628, .int .i64 t629, .int .i64 0, .int .i64 0, .int .i64 0, .int .i64 0, .int .i64 0]) ?_ 5 _ rfl; refine zb (cs := #[.int .i64 t625, .int .i64 t626, .int .i64 t627, .int .i64 t628, .int .i64 0, .int .i64 0, .int .i64 0, .int .i64 0, .int .i64 0, .int .i64 0]) ?_ 4 _ rfl; refine zb (cs := #[.int .i64 t625, .int .i64 t626, .int .i64 t627, .int .i64 0, .int .i64 0, .int .i64 0, .int .i64 0, .int .i64 0, .int .i64 0, .int .i64 0]) ?_ 3 _ rfl; refine zb (cs := #[.int .i64 t625, .int .i64 t626, .int .i64 0, .int .i64 0, .int .i64 0, .int .i64 0, .int .i64 0, .int .i64 0, .int .i64 0, .int .i64 0]) ?_ 2 _ rfl; refine zb (cs := #[.int .i64 t625, .int .i64 0, .int .i64 0, .int .i64 0, .int .i64 0, .int .i64 0, .int .i64 0, .int .i64 0, .int .i64 0, .int .i64 0]) ?_ 1 _ rfl; refine zb (cs := #[.int .i64 0, .int .i64 0, .int .i64 0, .int .i64 0, .int .i64 0, .int .i64 0, .int .i64 0, .int .i64 0, .int .i64 0, .int .i64 0]) ?_ 0 _ rfl; exact kq BK635⟩
  have n1_ : qa (Below w.heap.size w ((((((((((w55.setCell ⟨gb635, 0, none⟩ (.int .i64 t625)).setCell ⟨gb635, 1, none⟩ (.int .i64 t626)).setCell ⟨gb635, 2, none⟩ (.int .i64 t627)).setCell ⟨gb635, 3, none⟩ (.int .i64 t628)).setCell ⟨gb635, 4, none⟩ (.int .i64 t629)).setCell ⟨gb635, 5, none⟩ (.int .i64 t630)).setCell ⟨gb635, 6, none⟩ (.int .i64 t631)).setCell ⟨gb635, 7, none⟩ (.int .i64 t632)).setCell ⟨gb635, 8, none⟩ (.int .i64 t633)).setCell ⟨gb635, 9, none⟩ (.int .i64 t634))) := ⟨bs HB GE635⟩
  (try clear BK635)
  (try clear HB)
  generalize ((((((((((w55.setCell ⟨gb635, 0, none⟩ (.int .i64 t625)).setCell ⟨gb635, 1, none⟩ (.int .i64 t626)).setCell ⟨gb635, 2, none⟩ (.int .i64 t627)).setCell ⟨gb635, 3, none⟩ (.int .i64 t628)).setCell ⟨gb635, 4, none⟩ (.int .i64 t629)).setCell ⟨gb635, 5, none⟩ (.int .i64 t630)).setCell ⟨gb635, 6, none⟩ (.int .i64 t631)).setCell ⟨gb635, 7, none⟩ (.int .i64 t632)).setCell ⟨gb635, 8, none⟩ (.int .i64 t633)).setCell ⟨gb635, 9, none⟩ (.int .i64 t634)) = w57 at n0_ n1_ ⊢
  have BK635 := n0_
  have HB := n1_
  clear n0_ n1_
  have n0_ := qa.mk (qd BK635.out)
  have n1_ := qa.mk (qJ HB.out)
  clear BK635
  clear HB
  have BK635 := n0_
  have HB := n1_
  clear n0_ n1_
  refine jS (n := 7) (S := fun w' => w'.cell? ⟨gb635, 0, none⟩ = some (.int .i64 t625) ∧ w'.cell? ⟨gb635, 1, none⟩ = some (.int .i64 t626) ∧ w'.cell? ⟨gb635, 2, none⟩ = some (.int .i64 t627) ∧ w'.cell? ⟨gb635, 3, none⟩ = some (.int .i64 t628) ∧ w'.cell? ⟨gb635, 4, none⟩ = some (.int .i64 t629) ∧ w'.cell? ⟨gb635, 5, none⟩ = some (.int .i64 t630) ∧ w'.cell? ⟨gb635, 6, none⟩ = some (.int .i64 t631) ∧ w'.cell? ⟨gb635, 7, none⟩ = some (.int .i64 t632) ∧ w'.cell? ⟨gb635, 8, none⟩ = some (.int .i64 t633) ∧ w'.cell? ⟨gb635, 9, none⟩ = some (.int .i64 t634)) (ds := []) #[false, false, false, false, false, false, false] (by kernel_rfl) rfl rfl ⟨(qb BK635.out 0).trans rfl, (qb BK635.out 1).trans rfl, (qb BK635.out 2).trans rfl, (qb BK635.out 3).trans rfl, (qb BK635.out 4).trans rfl, (qb BK635.out 5).trans rfl, (qb BK635.out 6).trans rfl, (qb BK635.out 7).trans rfl, (qb BK635.out 8).trans rfl, (qb BK635.out 9).trans rfl⟩ (fun hHeld => ?_)
  generalize w57.drew = w58 at BK635 HB hHeld ⊢
  refine za (i := 1) (N := some 21) (v := ?_) (a' := ?_) #[false, true, false, false, false, false, false] rfl rfl (by kernel_rfl) (fun _ _ _ h => h) (Or.inl ⟨by rfl, ?_⟩) ?_ ?_
  rotate_left
  ·intro w'
   go_simp
   with_reducible rfl
  rotate_left
  ·simp only [Act.put, List.setIfInBounds_toArray, List.set_cons_zero, List.set_cons_succ, qz, qA]
   rfl
  refine zD (i := 0) (N := some 20) (v := ?_) (a' := ?_) #[true, true, false, false, false, false, false] rfl rfl (by kernel_rfl) (fun _ _ _ h => h) (Or.inl ⟨by rfl, ?_⟩) hHeld ?_ ?_
  rotate_left
  ·rintro w' ⟨s0, s1, s2, s3, s4, s5, s6, s7, s8, s9⟩
   go_simp
   with_reducible rfl
  rotate_left
  ·simp only [Act.put, List.setIfInBounds_toArray, List.set_cons_zero, List.set_cons_succ, qz, qA]
   rfl
  refine jd (i := 2) (N := some 22) #[true, true, true, false, false, false, false] rfl rfl (by kernel_rfl) (by decide) (fun K hK => ?_)
  refine zS Try.func70 (by kernel_rfl) rfl #[.int .i64 a2] (by rfl) rfl rfl (by (try simp only [List.map_toArray, List.map_cons, List.map_nil]); first | done | rfl | (simp only [List.length_drop, List.length_take]; rfl)) ?_
  with_reducible refine (qV.calls a2 t636 t637 t638 t639 t640 t641 t642 t643 t644 t645 _ A8.out).mono ?_
  rintro e w59 ⟨rfl, hb⟩
  refine ⟨_, rfl, ?_⟩
  have n0_ := qa.mk (qF (g := gb635) (o := .cells #[.int .i64 t625, .int .i64 t626, .int .i64 t627, .int .i64 t628, .int .i64 t629, .int .i64 t630, .int .i64 t631, .int .i64 t632, .int .i64 t633, .int .i64 t634] 116 (0, 0)) (kq BK635) hb)
  have n1_ := qa.mk (qh (bs HB GE635) hb)
  clear BK635
  clear HB
  have BK635 := n0_
  have HB := n1_
  clear n0_ n1_
  (try clear hb)
  (try clear hb2)
  (try clear hk)
  (try clear hi)
  refine hK.out _ _ ⟨(qb BK635.out 0).trans rfl, (qb BK635.out 1).trans rfl, (qb BK635.out 2).trans rfl, (qb BK635.out 3).trans rfl, (qb BK635.out 4).trans rfl, (qb BK635.out 5).trans rfl, (qb BK635.out 6).trans rfl, (qb BK635.out 7).trans rfl, (qb BK635.out 8).trans rfl, (qb BK635.out 9).trans rfl⟩ (fun hHeld => ?_)
  clear hK K
  refine zo (a' := ?_) ?_ ?_
  rotate_left
  ·show Act.put _ (some 22) _ = _
   simp only [Act.put, List.setIfInBounds_toArray, List.set_cons_zero, List.set_cons_succ, qz, qA]
   rfl
  refine jd (i := 3) (N := some 23) #[true, true, true, true, false, false, false] rfl rfl (by kernel_rfl) (by decide) (fun K hK => ?_)
  refine zS Try.func70 (by kernel_rfl) rfl #[.int .i64 8589934592] (by rfl) rfl rfl (by (try simp only [List.map_toArray, List.map_cons, List.map_nil]); first | done | rfl | (simp only [List.length_drop, List.length_take]; rfl)) ?_
  with_reducible refine (qV.calls 8589934592 t646 t647 t648 t649 t650 t651 t652 t653 t654 t655 _ A9.out).mono ?_
  rintro e w60 ⟨rfl, hb⟩
  refine ⟨_, rfl, ?_⟩
  have n0_ := qa.mk (qF (g := gb635) (o := .cells #[.int .i64 t625, .int .i64 t626, .int .i64 t627, .int .i64 t628, .int .i64 t629, .int .i64 t630, .int .i64 t631, .int .i64 t632, .int .i64 t633, .int .i64 t634] 116 (0, 0)) (kq BK635) hb)
  have n1_ := qa.mk (qh (bs HB GE635) hb)
  clear BK635
  clear HB
  have BK635 := n0_
  have HB := n1_
  clear n0_ n1_
  (try clear hb)
  (try clear hb2)
  (try clear hk)
  (try clear hi)
  refine hK.out _ _ ⟨(qb BK635.out 0).trans rfl, (qb BK635.out 1).trans rfl, (qb BK635.out 2).trans rfl, (qb BK635.out 3).trans rfl, (qb BK635.out 4).trans rfl, (qb BK635.out 5).trans rfl, (qb BK635.out 6).trans rfl, (qb BK635.out 7).trans rfl, (qb BK635.out 8).trans rfl, (qb BK635.out 9).trans rfl⟩ (fun hHeld => ?_)
  clear hK K
  refine zo (a' := ?_) ?_ ?_
  rotate_left
  ·show Act.put _ (some 23) _ = _
   simp only [Act.put, List.setIfInBounds_toArray, List.set_cons_zero, List.set_cons_succ, qz, qA]
   rfl
  refine jd (i := 4) (N := some 24) #[true, true, true, true, true, false, false] rfl rfl (by kernel_rfl) (by decide) (fun K hK => ?_)
  refine zS Try.func69 (by kernel_rfl) rfl #[.agg #[.int .i64 t636, .int .i64 t637, .int .i64 t638, .int .i64 t639, .int .i64 t640, .int .i64 t641, .int .i64 t642, .int .i64 t643, .int .i64 t644, .int .i64 t645], .agg #[.int .i64 t646, .int .i64 t647, .int .i64 t648, .int .i64 t649, .int .i64 t650, .int .i64 t651, .int .i64 t652, .int .i64 t653, .int .i64 t654, .int .i64 t655]] (by rfl) rfl rfl (by (try simp only [List.map_toArray, List.map_cons, List.map_nil]); first | done | rfl | (simp only [List.length_drop, List.length_take]; rfl)) ?_
  with_reducible refine (ze.calls t636 t637 t638 t639 t640 t641 t642 t643 t644 t645 t646 t647 t648 t649 t650 t651 t652 t653 t654 t655 t656 t657 t658 t659 t660 t661 t662 t663 t664 t665 _ A10.out).mono ?_
  rintro e w61 ⟨rfl, hb⟩
  refine ⟨_, rfl, ?_⟩
  have n0_ := qa.mk (qF (g := gb635) (o := .cells #[.int .i64 t625, .int .i64 t626, .int .i64 t627, .int .i64 t628, .int .i64 t629, .int .i64 t630, .int .i64 t631, .int .i64 t632, .int .i64 t633, .int .i64 t634] 116 (0, 0)) (kq BK635) hb)
  have n1_ := qa.mk (qh (bs HB GE635) hb)
  clear BK635
  clear HB
  have BK635 := n0_
  have HB := n1_
  clear n0_ n1_
  (try clear hb)
  (try clear hb2)
  (try clear hk)
  (try clear hi)
  refine hK.out _ _ ⟨(qb BK635.out 0).trans rfl, (qb BK635.out 1).trans rfl, (qb BK635.out 2).trans rfl, (qb BK635.out 3).trans rfl, (qb BK635.out 4).trans rfl, (qb BK635.out 5).trans rfl, (qb BK635.out 6).trans rfl, (qb BK635.out 7).trans rfl, (qb BK635.out 8).trans rfl, (qb BK635.out 9).trans rfl⟩ (fun hHeld => ?_)
  clear hK K
  refine zo (a' := ?_) ?_ ?_
  rotate_left
  ·show Act.put _ (some 24) _ = _
   simp only [Act.put, List.setIfInBounds_toArray, List.set_cons_zero, List.set_cons_succ, qz, qA]
   rfl
  refine jd (i := 5) (N := some 25) #[true, true, true, true, true, true, false] rfl rfl (by kernel_rfl) (by decide) (fun K hK => ?_)
  refine zS Try.func71 (by kernel_rfl) rfl #[.agg #[.int .i64 t625, .int .i64 t626, .int .i64 t627, .int .i64 t628, .int .i64 t629, .int .i64 t630, .int .i64 t631, .int .i64 t632, .int .i64 t633, .int .i64 t634], .agg #[.int .i64 t656, .int .i64 t657, .int .i64 t658, .int .i64 t659, .int .i64 t660, .int .i64 t661, .int .i64 t662, .int .i64 t663, .int .i64 t664, .int .i64 t665]] (by rfl) rfl rfl (by (try simp only [List.map_toArray, List.map_cons, List.map_nil]); first | done | rfl | (simp only [List.length_drop, List.length_take]; rfl)) ?_
  with_reducible refine (zw.calls t625 t626 t627 t628 t629 t630 t631 t632 t633 t634 t656 t657 t658 t659 t660 t661 t662 t663 t664 t665 false _ A11.out).mono ?_
  rintro e w62 ⟨rfl, hb⟩
  refine ⟨_, rfl, ?_⟩
  have n0_ := qa.mk (qF (g := gb635) (o := .cells #[.int .i64 t625, .int .i64 t626, .int .i64 t627, .int .i64 t628, .int .i64 t629, .int .i64 t630, .int .i64 t631, .int .i64 t632, .int .i64 t633, .int .i64 t634] 116 (0, 0)) (kq BK635) hb)
  have n1_ := qa.mk (qh (bs HB GE635) hb)
  clear BK635
  clear HB
  have BK635 := n0_
  have HB := n1_
  clear n0_ n1_
  (try clear hb)
  (try clear hb2)
  (try clear hk)
  (try clear hi)
  refine hK.out _ _ ⟨(qb BK635.out 0).trans rfl, (qb BK635.out 1).trans rfl, (qb BK635.out 2).trans rfl, (qb BK635.out 3).trans rfl, (qb BK635.out 4).trans rfl, (qb BK635.out 5).trans rfl, (qb BK635.out 6).trans rfl, (qb BK635.out 7).trans rfl, (qb BK635.out 8).trans rfl, (qb BK635.out 9).trans rfl⟩ (fun hHeld => ?_)
  clear hK K
  refine zo (a' := ?_) ?_ ?_
  rotate_left
  ·show Act.put _ (some 25) _ = _
   simp only [Act.put, List.setIfInBounds_toArray, List.set_cons_zero, List.set_cons_succ, qz, qA]
   rfl
  refine za (i := 6) (N := some 26) (v := ?_) (a' := ?_) #[true, true, true, true, true, true, true] rfl rfl (by kernel_rfl) (fun _ _ _ h => h) (Or.inl ⟨by rfl, ?_⟩) ?_ ?_
  rotate_left
  ·intro w'
   go_simp
   with_reducible rfl
  rotate_left
  ·simp only [Act.put, List.setIfInBounds_toArray, List.set_cons_zero, List.set_cons_succ, qz, qA]
   rfl
  refine Qa (by kernel_rfl) ?_
  try go_wp2
  go_ret2
  exact ⟨by first | rfl | (simp [qR, qU] <;> rfl) | (simp [*, qR, qU] <;> rfl), bs HB GE635⟩
 subst c12
 have H1 : ((qV.f a2).bind fun bt667 => ((qB.f k t625 t626 t627 t628 t629 t630 t631 t632 t633 t634 bt667.1 bt667.2.1 bt667.2.2.1 bt667.2.2.2.1 bt667.2.2.2.2.1 bt667.2.2.2.2.2.1 bt667.2.2.2.2.2.2.1 bt667.2.2.2.2.2.2.2.1 bt667.2.2.2.2.2.2.2.2.1 bt667.2.2.2.2.2.2.2.2.2).bind fun t677 => (if t677 > 2147483647 then (some (0, 14)) else ((some (([a0, a1, a2] : List Int) : List Int)).bind fun y678 => (qW.l0 k t677 0 y678 (y678.length : Int) 0))))) = some (r1, r2) := by rw [if_pos rfl] at H; exact H
 clear H
 have H := H1
 clear H1
 replace H := Option.bind_eq_some_iff.mp H
 obtain ⟨⟨t667, t668, t669, t670, t671, t672, t673, t674, t675, t676⟩, A130, H⟩ := H
 replace H : ((qB.f k t625 t626 t627 t628 t629 t630 t631 t632 t633 t634 t667 t668 t669 t670 t671 t672 t673 t674 t675 t676).bind fun t677 => (if t677 > 2147483647 then (some (0, 14)) else ((some (([a0, a1, a2] : List Int) : List Int)).bind fun y678 => (qW.l0 k t677 0 y678 (y678.length : Int) 0)))) = some (r1, r2) := H
 have A13 := qa.mk A130
 clear A130
 replace H := Option.bind_eq_some_iff.mp H
 obtain ⟨t677, A140, H⟩ := H
 replace H : (if t677 > 2147483647 then (some (0, 14)) else ((some (([a0, a1, a2] : List Int) : List Int)).bind fun y678 => (qW.l0 k t677 0 y678 (y678.length : Int) 0))) = some (r1, r2) := H
 have A14 := qa.mk A140
 clear A140
 by_cases c15 : t677 > 2147483647
 ·rw [if_pos c15] at H
  have c15b0 : decide (2147483647 < t677) = true := decide_eq_true c15
  clear c15
  simp only [Option.some.injEq, Prod.mk.injEq] at H
  obtain ⟨rfl, rfl⟩ := H
  go_enter Try.func56, Try.ntmps56
  try go_wp2_with (first | ((with_reducible refine zf (f := 70) rfl ?_); refine zR (some 16) rfl rfl Try.func70 (by kernel_rfl) rfl #[.int .i64 a0] rfl (by (try simp only [List.map_toArray, List.map_cons, List.map_nil]); first | done | rfl | (simp only [List.length_drop, List.length_take]; rfl)) ?_; (with_reducible refine (qV.calls a0 t605 t606 t607 t608 t609 t610 t611 t612 t613 t614 _ A5.out).mono ?_); rintro e w16 ⟨rfl, hb⟩; refine ⟨_, rfl, ?_⟩; have n0_ := qa.mk (qh (bq HB) hb); clear HB; have HB := n0_; clear n0_; (try clear hb); (try clear hb2); (try clear hk); (try clear hi)) | ((with_reducible refine zf (f := 70) rfl ?_); refine zR (some 18) rfl rfl Try.func70 (by kernel_rfl) rfl #[.int .i64 a1] rfl (by (try simp only [List.map_toArray, List.map_cons, List.map_nil]); first | done | rfl | (simp only [List.length_drop, List.length_take]; rfl)) ?_; (with_reducible refine (qV.calls a1 t615 t616 t617 t618 t619 t620 t621 t622 t623 t624 _ A6.out).mono ?_); rintro e w17 ⟨rfl, hb⟩; refine ⟨_, rfl, ?_⟩; have n0_ := qa.mk (qh (bq HB) hb); clear HB; have HB := n0_; clear n0_; (try clear hb); (try clear hb2); (try clear hk); (try clear hi)) | ((with_reducible refine zf (f := 69) rfl ?_); refine zR (some 19) rfl rfl Try.func69 (by kernel_rfl) rfl #[.agg #[.int .i64 t605, .int .i64 t606, .int .i64 t607, .int .i64 t608, .int .i64 t609, .int .i64 t610, .int .i64 t611, .int .i64 t612, .int .i64 t613, .int .i64 t614], .agg #[.int .i64 t615, .int .i64 t616, .int .i64 t617, .int .i64 t618, .int .i64 t619, .int .i64 t620, .int .i64 t621, .int .i64 t622, .int .i64 t623, .int .i64 t624]] rfl (by (try simp only [List.map_toArray, List.map_cons, List.map_nil]); first | done | rfl | (simp only [List.length_drop, List.length_take]; rfl)) ?_; (with_reducible refine (ze.calls t605 t606 t607 t608 t609 t610 t611 t612 t613 t614 t615 t616 t617 t618 t619 t620 t621 t622 t623 t624 t625 t626 t627 t628 t629 t630 t631 t632 t633 t634 _ A7.out).mono ?_); rintro e w18 ⟨rfl, hb⟩; refine ⟨_, rfl, ?_⟩; have n0_ := qa.mk (qh (bq HB) hb); clear HB; have HB := n0_; clear n0_; (try clear hb); (try clear hb2); (try clear hk); (try clear hi)) | ((with_reducible refine zl (N := 8) rfl ?_); refine zF ?hg (N := 8) ?hd (cs := #[.int .i64 0, .int .i64 0, .int .i64 0, .int .i64 0, .int .i64 0, .int .i64 0, .int .i64 0, .int .i64 0, .int .i64 0, .int .i64 0]) (t := 116) ?hr ?_; (case hd => rfl); (case hg => rfl); (case hr => first | (go_simp; done) | (go_simp; rfl)); intro gb635 hg w19 hbox hb; have n0_ := qa.mk (qh (bq HB) hb); have n1_ := qa.mk (hbox); have n2_ := qa.mk ((by rw [hg]; exact (qx (bq HB)) : w.heap.size ≤ gb635)); have n3_ := qa.mk ((by rw [hg]; exact (qx (bq HB)) : w.heap.size ≤ gb635)); clear HB; have HB := n0_; have BK635 := n1_; have GW635 := n2_; have GE635 := n3_; clear n0_ n1_ n2_ n3_; clear hb hbox hg; have hcz20_0 : w19.cell? ⟨gb635, 0, none⟩ = some (.int .i64 0) := (qb BK635.out 0).trans rfl; have hcz20_1 : w19.cell? ⟨gb635, 1, none⟩ = some (.int .i64 0) := (qb BK635.out 1).trans rfl; have hcz20_2 : w19.cell? ⟨gb635, 2, none⟩ = some (.int .i64 0) := (qb BK635.out 2).trans rfl; have hcz20_3 : w19.cell? ⟨gb635, 3, none⟩ = some (.int .i64 0) := (qb BK635.out 3).trans rfl; have hcz20_4 : w19.cell? ⟨gb635, 4, none⟩ = some (.int .i64 0) := (qb BK635.out 4).trans rfl; have hcz20_5 : w19.cell? ⟨gb635, 5, none⟩ = some (.int .i64 0) := (qb BK635.out 5).trans rfl; have hcz20_6 : w19.cell? ⟨gb635, 6, none⟩ = some (.int .i64 0) := (qb BK635.out 6).trans rfl; have hcz20_7 : w19.cell? ⟨gb635, 7, none⟩ = some (.int .i64 0) := (qb BK635.out 7).trans rfl; have hcz20_8 : w19.cell? ⟨gb635, 8, none⟩ = some (.int .i64 0) := (qb BK635.out 8).trans rfl; have hcz20_9 : w19.cell? ⟨gb635, 9, none⟩ = some (.int .i64 0) := (qb BK635.out 9).trans rfl; have hfz20_0 := qo BK635.out 0; have hfz20_1 := qo BK635.out 1; have hfz20_2 := qo BK635.out 2; have hfz20_3 := qo BK635.out 3; have hfz20_4 := qo BK635.out 4; have hfz20_5 := qo BK635.out 5; have hfz20_6 := qo BK635.out 6; have hfz20_7 := qo BK635.out 7; have hfz20_8 := qo BK635.out 8; have hfz20_9 := qo BK635.out 9))
  have n0_ : qa (((((((((((w19.setCell ⟨gb635, 0, none⟩ (.int .i64 t625)).setCell ⟨gb635, 1, none⟩ (.int .i64 t626)).setCell ⟨gb635, 2, none⟩ (.int .i64 t627)).setCell ⟨gb635, 3, none⟩ (.int .i64 t628)).setCell ⟨gb635, 4, none⟩ (.int .i64 t629)).setCell ⟨gb635, 5, none⟩ (.int .i64 t630)).setCell ⟨gb635, 6, none⟩ (.int .i64 t631)).setCell ⟨gb635, 7, none⟩ (.int .i64 t632)).setCell ⟨gb635, 8, none⟩ (.int .i64 t633)).setCell ⟨gb635, 9, none⟩ (.int .i64 t634)).heap[gb635]? = some (.cells #[.int .i64 t625, .int .i64 t626, .int .i64 t627, .int .i64 t628, .int .i64 t629, .int .i64 t630, .int .i64 t631, .int .i64 t632, .int .i64 t633, .int .i64 t634] 116 (0, 0))) := ⟨by refine zb (cs := #[.int .i64 t625, .int .i64 t626, .int .i64 t627, .int .i64 t628, .int .i64 t629, .int .i64 t630, .int .i64 t631, .int .i64 t632, .int .i64 t633, .int .i64 0]) ?_ 9 _ rfl; refine zb (cs := #[.int .i64 t625, .int .i64 t626, .int .i64 t627, .int .i64 t628, .int .i64 t629, .int .i64 t630, .int .i64 t631, .int .i64 t632, .int .i64 0, .int .i64 0]) ?_ 8 _ rfl; refine zb (cs := #[.int .i64 t625, .int .i64 t626, .int .i64 t627, .int .i64 t628, .int .i64 t629, .int .i64 t630, .int .i64 t631, .int .i64 0, .int .i64 0, .int .i64 0]) ?_ 7 _ rfl; refine zb (cs := #[.int .i64 t625, .int .i64 t626, .int .i64 t627, .int .i64 t628, .int .i64 t629, .int .i64 t630, .int .i64 0, .int .i64 0, .int .i64 0, .int .i64 0]) ?_ 6 _ rfl; refine zb (cs := #[.int .i64 t625, .int .i64 t626, .int .i64 t627, .int .i64 t628, .int .i64 t629, .int .i64 0, .int .i64 0, .int .i64 0, .int .i64 0, .int .i64 0]) ?_ 5 _ rfl; refine zb (cs := #[.int .i64 t625, .int .i64 t626, .int .i64 t627, .int .i64 t628, .int .i64 0, .int .i64 0, .int .i64 0, .int .i64 0, .int .i64 0, .int .i64 0]) ?_ 4 _ rfl; refine zb (cs := #[.int .i64 t625, .int .i64 t626, .int .i64 t627, .int .i64 0, .int .i64 0, .int .i64 0, .int .i64 0, .int .i64 0, .int .i64 0, .int .i64 0]) ?_ 3 _ rfl; refine zb (cs := #[.int .i64 t625, .int .i64 t626, .int .i64 0, .int .i64 0, .int .i64 0, .int .i64 0, .int .i64 0, .int .i64 0, .int .i64 0, .int .i64 0]) ?_ 2 _ rfl; refine zb (cs := #[.int .i64 t625, .int .i64 0, .int .i64 0, .int .i64 0, .int .i64 0, .int .i64 0, .int .i64 0, .int .i64 0, .int .i64 0, .int .i64 0]) ?_ 1 _ rfl; refine zb (cs := #[.int .i64 0, .int .i64 0, .int .i64 0, .int .i64 0, .int .i64 0, .int .i64 0, .int .i64 0, .int .i64 0, .int .i64 0, .int .i64 0]) ?_ 0 _ rfl; exact kq BK635⟩
  have n1_ : qa (Below w.heap.size w ((((((((((w19.setCell ⟨gb635, 0, none⟩ (.int .i64 t625)).setCell ⟨gb635, 1, none⟩ (.int .i64 t626)).setCell ⟨gb635, 2, none⟩ (.int .i64 t627)).setCell ⟨gb635, 3, none⟩ (.int .i64 t628)).setCell ⟨gb635, 4, none⟩ (.int .i64 t629)).setCell ⟨gb635, 5, none⟩ (.int .i64 t630)).setCell ⟨gb635, 6, none⟩ (.int .i64 t631)).setCell ⟨gb635, 7, none⟩ (.int .i64 t632)).setCell ⟨gb635, 8, none⟩ (.int .i64 t633)).setCell ⟨gb635, 9, none⟩ (.int .i64 t634))) := ⟨bs HB GE635⟩
  (try clear BK635)
  (try clear HB)
  generalize ((((((((((w19.setCell ⟨gb635, 0, none⟩ (.int .i64 t625)).setCell ⟨gb635, 1, none⟩ (.int .i64 t626)).setCell ⟨gb635, 2, none⟩ (.int .i64 t627)).setCell ⟨gb635, 3, none⟩ (.int .i64 t628)).setCell ⟨gb635, 4, none⟩ (.int .i64 t629)).setCell ⟨gb635, 5, none⟩ (.int .i64 t630)).setCell ⟨gb635, 6, none⟩ (.int .i64 t631)).setCell ⟨gb635, 7, none⟩ (.int .i64 t632)).setCell ⟨gb635, 8, none⟩ (.int .i64 t633)).setCell ⟨gb635, 9, none⟩ (.int .i64 t634)) = w21 at n0_ n1_ ⊢
  have BK635 := n0_
  have HB := n1_
  clear n0_ n1_
  have n0_ := qa.mk (qd BK635.out)
  have n1_ := qa.mk (qJ HB.out)
  clear BK635
  clear HB
  have BK635 := n0_
  have HB := n1_
  clear n0_ n1_
  refine jS (n := 7) (S := fun w' => w'.cell? ⟨gb635, 0, none⟩ = some (.int .i64 t625) ∧ w'.cell? ⟨gb635, 1, none⟩ = some (.int .i64 t626) ∧ w'.cell? ⟨gb635, 2, none⟩ = some (.int .i64 t627) ∧ w'.cell? ⟨gb635, 3, none⟩ = some (.int .i64 t628) ∧ w'.cell? ⟨gb635, 4, none⟩ = some (.int .i64 t629) ∧ w'.cell? ⟨gb635, 5, none⟩ = some (.int .i64 t630) ∧ w'.cell? ⟨gb635, 6, none⟩ = some (.int .i64 t631) ∧ w'.cell? ⟨gb635, 7, none⟩ = some (.int .i64 t632) ∧ w'.cell? ⟨gb635, 8, none⟩ = some (.int .i64 t633) ∧ w'.cell? ⟨gb635, 9, none⟩ = some (.int .i64 t634)) (ds := []) #[false, false, false, false, false, false, false] (by kernel_rfl) rfl rfl ⟨(qb BK635.out 0).trans rfl, (qb BK635.out 1).trans rfl, (qb BK635.out 2).trans rfl, (qb BK635.out 3).trans rfl, (qb BK635.out 4).trans rfl, (qb BK635.out 5).trans rfl, (qb BK635.out 6).trans rfl, (qb BK635.out 7).trans rfl, (qb BK635.out 8).trans rfl, (qb BK635.out 9).trans rfl⟩ (fun hHeld => ?_)
  generalize w21.drew = w22 at BK635 HB hHeld ⊢
  refine za (i := 1) (N := some 21) (v := ?_) (a' := ?_) #[false, true, false, false, false, false, false] rfl rfl (by kernel_rfl) (fun _ _ _ h => h) (Or.inl ⟨by rfl, ?_⟩) ?_ ?_
  rotate_left
  ·intro w'
   go_simp
   with_reducible rfl
  rotate_left
  ·simp only [Act.put, List.setIfInBounds_toArray, List.set_cons_zero, List.set_cons_succ, qz, qA]
   rfl
  refine zD (i := 0) (N := some 20) (v := ?_) (a' := ?_) #[true, true, false, false, false, false, false] rfl rfl (by kernel_rfl) (fun _ _ _ h => h) (Or.inl ⟨by rfl, ?_⟩) hHeld ?_ ?_
  rotate_left
  ·rintro w' ⟨s0, s1, s2, s3, s4, s5, s6, s7, s8, s9⟩
   go_simp
   with_reducible rfl
  rotate_left
  ·simp only [Act.put, List.setIfInBounds_toArray, List.set_cons_zero, List.set_cons_succ, qz, qA]
   rfl
  refine jd (i := 2) (N := some 22) #[true, true, true, false, false, false, false] rfl rfl (by kernel_rfl) (by decide) (fun K hK => ?_)
  refine zS Try.func70 (by kernel_rfl) rfl #[.int .i64 a2] (by rfl) rfl rfl (by (try simp only [List.map_toArray, List.map_cons, List.map_nil]); first | done | rfl | (simp only [List.length_drop, List.length_take]; rfl)) ?_
  with_reducible refine (qV.calls a2 t636 t637 t638 t639 t640 t641 t642 t643 t644 t645 _ A8.out).mono ?_
  rintro e w23 ⟨rfl, hb⟩
  refine ⟨_, rfl, ?_⟩
  have n0_ := qa.mk (qF (g := gb635) (o := .cells #[.int .i64 t625, .int .i64 t626, .int .i64 t627, .int .i64 t628, .int .i64 t629, .int .i64 t630, .int .i64 t631, .int .i64 t632, .int .i64 t633, .int .i64 t634] 116 (0, 0)) (kq BK635) hb)
  have n1_ := qa.mk (qh (bs HB GE635) hb)
  clear BK635
  clear HB
  have BK635 := n0_
  have HB := n1_
  clear n0_ n1_
  (try clear hb)
  (try clear hb2)
  (try clear hk)
  (try clear hi)
  refine hK.out _ _ ⟨(qb BK635.out 0).trans rfl, (qb BK635.out 1).trans rfl, (qb BK635.out 2).trans rfl, (qb BK635.out 3).trans rfl, (qb BK635.out 4).trans rfl, (qb BK635.out 5).trans rfl, (qb BK635.out 6).trans rfl, (qb BK635.out 7).trans rfl, (qb BK635.out 8).trans rfl, (qb BK635.out 9).trans rfl⟩ (fun hHeld => ?_)
  clear hK K
  refine zo (a' := ?_) ?_ ?_
  rotate_left
  ·show Act.put _ (some 22) _ = _
   simp only [Act.put, List.setIfInBounds_toArray, List.set_cons_zero, List.set_cons_succ, qz, qA]
   rfl
  refine jd (i := 3) (N := some 23) #[true, true, true, true, false, false, false] rfl rfl (by kernel_rfl) (by decide) (fun K hK => ?_)
  refine zS Try.func70 (by kernel_rfl) rfl #[.int .i64 8589934592] (by rfl) rfl rfl (by (try simp only [List.map_toArray, List.map_cons, List.map_nil]); first | done | rfl | (simp only [List.length_drop, List.length_take]; rfl)) ?_
  with_reducible refine (qV.calls 8589934592 t646 t647 t648 t649 t650 t651 t652 t653 t654 t655 _ A9.out).mono ?_
  rintro e w24 ⟨rfl, hb⟩
  refine ⟨_, rfl, ?_⟩
  have n0_ := qa.mk (qF (g := gb635) (o := .cells #[.int .i64 t625, .int .i64 t626, .int .i64 t627, .int .i64 t628, .int .i64 t629, .int .i64 t630, .int .i64 t631, .int .i64 t632, .int .i64 t633, .int .i64 t634] 116 (0, 0)) (kq BK635) hb)
  have n1_ := qa.mk (qh (bs HB GE635) hb)
  clear BK635
  clear HB
  have BK635 := n0_
  have HB := n1_
  clear n0_ n1_
  (try clear hb)
  (try clear hb2)
  (try clear hk)
  (try clear hi)
  refine hK.out _ _ ⟨(qb BK635.out 0).trans rfl, (qb BK635.out 1).trans rfl, (qb BK635.out 2).trans rfl, (qb BK635.out 3).trans rfl, (qb BK635.out 4).trans rfl, (qb BK635.out 5).trans rfl, (qb BK635.out 6).trans rfl, (qb BK635.out 7).trans rfl, (qb BK635.out 8).trans rfl, (qb BK635.out 9).trans rfl⟩ (fun hHeld => ?_)
  clear hK K
  refine zo (a' := ?_) ?_ ?_
  rotate_left
  ·show Act.put _ (some 23) _ = _
   simp only [Act.put, List.setIfInBounds_toArray, List.set_cons_zero, List.set_cons_succ, qz, qA]
   rfl
  refine jd (i := 4) (N := some 24) #[true, true, true, true, true, false, false] rfl rfl (by kernel_rfl) (by decide) (fun K hK => ?_)
  refine zS Try.func69 (by kernel_rfl) rfl #[.agg #[.int .i64 t636, .int .i64 t637, .int .i64 t638, .int .i64 t639, .int .i64 t640, .int .i64 t641, .int .i64 t642, .int .i64 t643, .int .i64 t644, .int .i64 t645], .agg #[.int .i64 t646, .int .i64 t647, .int .i64 t648, .int .i64 t649, .int .i64 t650, .int .i64 t651, .int .i64 t652, .int .i64 t653, .int .i64 t654, .int .i64 t655]] (by rfl) rfl rfl (by (try simp only [List.map_toArray, List.map_cons, List.map_nil]); first | done | rfl | (simp only [List.length_drop, List.length_take]; rfl)) ?_
  with_reducible refine (ze.calls t636 t637 t638 t639 t640 t641 t642 t643 t644 t645 t646 t647 t648 t649 t650 t651 t652 t653 t654 t655 t656 t657 t658 t659 t660 t661 t662 t663 t664 t665 _ A10.out).mono ?_
  rintro e w25 ⟨rfl, hb⟩
  refine ⟨_, rfl, ?_⟩
  have n0_ := qa.mk (qF (g := gb635) (o := .cells #[.int .i64 t625, .int .i64 t626, .int .i64 t627, .int .i64 t628, .int .i64 t629, .int .i64 t630, .int .i64 t631, .int .i64 t632, .int .i64 t633, .int .i64 t634] 116 (0, 0)) (kq BK635) hb)
  have n1_ := qa.mk (qh (bs HB GE635) hb)
  clear BK635
  clear HB
  have BK635 := n0_
  have HB := n1_
  clear n0_ n1_
  (try clear hb)
  (try clear hb2)
  (try clear hk)
  (try clear hi)
  refine hK.out _ _ ⟨(qb BK635.out 0).trans rfl, (qb BK635.out 1).trans rfl, (qb BK635.out 2).trans rfl, (qb BK635.out 3).trans rfl, (qb BK635.out 4).trans rfl, (qb BK635.out 5).trans rfl, (qb BK635.out 6).trans rfl, (qb BK635.out 7).trans rfl, (qb BK635.out 8).trans rfl, (qb BK635.out 9).trans rfl⟩ (fun hHeld => ?_)
  clear hK K
  refine zo (a' := ?_) ?_ ?_
  rotate_left
  ·show Act.put _ (some 24) _ = _
   simp only [Act.put, List.setIfInBounds_toArray, List.set_cons_zero, List.set_cons_succ, qz, qA]
   rfl
  refine jd (i := 5) (N := some 25) #[true, true, true, true, true, true, false] rfl rfl (by kernel_rfl) (by decide) (fun K hK => ?_)
  refine zS Try.func71 (by kernel_rfl) rfl #[.agg #[.int .i64 t625, .int .i64 t626, .int .i64 t627, .int .i64 t628, .int .i64 t629, .int .i64 t630, .int .i64 t631, .int .i64 t632, .int .i64 t633, .int .i64 t634], .agg #[.int .i64 t656, .int .i64 t657, .int .i64 t658, .int .i64 t659, .int .i64 t660, .int .i64 t661, .int .i64 t662, .int .i64 t663, .int .i64 t664, .int .i64 t665]] (by rfl) rfl rfl (by (try simp only [List.map_toArray, List.map_cons, List.map_nil]); first | done | rfl | (simp only [List.length_drop, List.length_take]; rfl)) ?_
  with_reducible refine (zw.calls t625 t626 t627 t628 t629 t630 t631 t632 t633 t634 t656 t657 t658 t659 t660 t661 t662 t663 t664 t665 true _ A11.out).mono ?_
  rintro e w26 ⟨rfl, hb⟩
  refine ⟨_, rfl, ?_⟩
  have n0_ := qa.mk (qF (g := gb635) (o := .cells #[.int .i64 t625, .int .i64 t626, .int .i64 t627, .int .i64 t628, .int .i64 t629, .int .i64 t630, .int .i64 t631, .int .i64 t632, .int .i64 t633, .int .i64 t634] 116 (0, 0)) (kq BK635) hb)
  have n1_ := qa.mk (qh (bs HB GE635) hb)
  clear BK635
  clear HB
  have BK635 := n0_
  have HB := n1_
  clear n0_ n1_
  (try clear hb)
  (try clear hb2)
  (try clear hk)
  (try clear hi)
  refine hK.out _ _ ⟨(qb BK635.out 0).trans rfl, (qb BK635.out 1).trans rfl, (qb BK635.out 2).trans rfl, (qb BK635.out 3).trans rfl, (qb BK635.out 4).trans rfl, (qb BK635.out 5).trans rfl, (qb BK635.out 6).trans rfl, (qb BK635.out 7).trans rfl, (qb BK635.out 8).trans rfl, (qb BK635.out 9).trans rfl⟩ (fun hHeld => ?_)
  clear hK K
  refine zo (a' := ?_) ?_ ?_
  rotate_left
  ·show Act.put _ (some 25) _ = _
   simp only [Act.put, List.setIfInBounds_toArray, List.set_cons_zero, List.set_cons_succ, qz, qA]
   rfl
  refine za (i := 6) (N := some 26) (v := ?_) (a' := ?_) #[true, true, true, true, true, true, true] rfl rfl (by kernel_rfl) (fun _ _ _ h => h) (Or.inl ⟨by rfl, ?_⟩) ?_ ?_
  rotate_left
  ·intro w'
   go_simp
   with_reducible rfl
  rotate_left
  ·simp only [Act.put, List.setIfInBounds_toArray, List.set_cons_zero, List.set_cons_succ, qz, qA]
   rfl
  refine Qa (by kernel_rfl) ?_
  try go_wp2
  have n0_ := qa.mk (qd BK635.out)
  have n1_ := qa.mk (qJ HB.out)
  clear BK635
  clear HB
  have BK635 := n0_
  have HB := n1_
  clear n0_ n1_
  refine jS (n := 5) (S := fun w' => w'.cell? ⟨gb635, 0, none⟩ = some (.int .i64 t625) ∧ w'.cell? ⟨gb635, 1, none⟩ = some (.int .i64 t626) ∧ w'.cell? ⟨gb635, 2, none⟩ = some (.int .i64 t627) ∧ w'.cell? ⟨gb635, 3, none⟩ = some (.int .i64 t628) ∧ w'.cell? ⟨gb635, 4, none⟩ = some (.int .i64 t629) ∧ w'.cell? ⟨gb635, 5, none⟩ = some (.int .i64 t630) ∧ w'.cell? ⟨gb635, 6, none⟩ = some (.int .i64 t631) ∧ w'.cell? ⟨gb635, 7, none⟩ = some (.int .i64 t632) ∧ w'.cell? ⟨gb635, 8, none⟩ = some (.int .i64 t633) ∧ w'.cell? ⟨gb635, 9, none⟩ = some (.int .i64 t634)) (ds := []) #[false, false, false, false, false] (by kernel_rfl) rfl rfl ⟨(qb BK635.out 0).trans rfl, (qb BK635.out 1).trans rfl, (qb BK635.out 2).trans rfl, (qb BK635.out 3).trans rfl, (qb BK635.out 4).trans rfl, (qb BK635.out 5).trans rfl, (qb BK635.out 6).trans rfl, (qb BK635.out 7).trans rfl, (qb BK635.out 8).trans rfl, (qb BK635.out 9).trans rfl⟩ (fun hHeld => ?_)
  generalize w26.drew = w27 at BK635 HB hHeld ⊢
  refine za (i := 1) (N := some 28) (v := ?_) (a' := ?_) #[false, true, false, false, false] rfl rfl (by kernel_rfl) (fun _ _ _ h => h) (Or.inl ⟨by rfl, ?_⟩) ?_ ?_
  rotate_left
  ·intro w'
   go_simp
   with_reducible rfl
  rotate_left
  ·simp only [Act.put, List.setIfInBounds_toArray, List.set_cons_zero, List.set_cons_succ, qz, qA]
   rfl
  refine zD (i := 0) (N := some 27) (v := ?_) (a' := ?_) #[true, true, false, false, false] rfl rfl (by kernel_rfl) (fun _ _ _ h => h) (Or.inl ⟨by rfl, ?_⟩) hHeld ?_ ?_
  rotate_left
  ·rintro w' ⟨s0, s1, s2, s3, s4, s5, s6, s7, s8, s9⟩
   go_simp
   with_reducible rfl
  rotate_left
  ·simp only [Act.put, List.setIfInBounds_toArray, List.set_cons_zero, List.set_cons_succ, qz, qA]
   rfl
  refine jd (i := 2) (N := some 29) #[true, true, true, false, false] rfl rfl (by kernel_rfl) (by decide) (fun K hK => ?_)
  refine zS Try.func70 (by kernel_rfl) rfl #[.int .i64 a2] (by rfl) rfl rfl (by (try simp only [List.map_toArray, List.map_cons, List.map_nil]); first | done | rfl | (simp only [List.length_drop, List.length_take]; rfl)) ?_
  with_reducible refine (qV.calls a2 t667 t668 t669 t670 t671 t672 t673 t674 t675 t676 _ A13.out).mono ?_
  rintro e w28 ⟨rfl, hb⟩
  refine ⟨_, rfl, ?_⟩
  have n0_ := qa.mk (qF (g := gb635) (o := .cells #[.int .i64 t625, .int .i64 t626, .int .i64 t627, .int .i64 t628, .int .i64 t629, .int .i64 t630, .int .i64 t631, .int .i64 t632, .int .i64 t633, .int .i64 t634] 116 (0, 0)) (kq BK635) hb)
  have n1_ := qa.mk (qh (bs HB GE635) hb)
  clear BK635
  clear HB
  have BK635 := n0_
  have HB := n1_
  clear n0_ n1_
  (try clear hb)
  (try clear hb2)
  (try clear hk)
  (try clear hi)
  refine hK.out _ _ ⟨(qb BK635.out 0).trans rfl, (qb BK635.out 1).trans rfl, (qb BK635.out 2).trans rfl, (qb BK635.out 3).trans rfl, (qb BK635.out 4).trans rfl, (qb BK635.out 5).trans rfl, (qb BK635.out 6).trans rfl, (qb BK635.out 7).trans rfl, (qb BK635.out 8).trans rfl, (qb BK635.out 9).trans rfl⟩ (fun hHeld => ?_)
  clear hK K
  refine zo (a' := ?_) ?_ ?_
  rotate_left
  ·show Act.put _ (some 29) _ = _
   simp only [Act.put, List.setIfInBounds_toArray, List.set_cons_zero, List.set_cons_succ, qz, qA]
   rfl
  refine jd (i := 3) (N := some 30) #[true, true, true, true, false] rfl rfl (by kernel_rfl) (by decide) (fun K hK => ?_)
  refine zS Try.func72 (by kernel_rfl) rfl #[.agg #[.int .i64 t625, .int .i64 t626, .int .i64 t627, .int .i64 t628, .int .i64 t629, .int .i64 t630, .int .i64 t631, .int .i64 t632, .int .i64 t633, .int .i64 t634], .agg #[.int .i64 t667, .int .i64 t668, .int .i64 t669, .int .i64 t670, .int .i64 t671, .int .i64 t672, .int .i64 t673, .int .i64 t674, .int .i64 t675, .int .i64 t676]] (by rfl) rfl rfl (by (try simp only [List.map_toArray, List.map_cons, List.map_nil]); first | done | rfl | (simp only [List.length_drop, List.length_take]; rfl)) ?_
  with_reducible refine (qB.calls k t625 t626 t627 t628 t629 t630 t631 t632 t633 t634 t667 t668 t669 t670 t671 t672 t673 t674 t675 t676 t677 _ A14.out).mono ?_
  rintro e w29 ⟨rfl, hb⟩
  refine ⟨_, rfl, ?_⟩
  have n0_ := qa.mk (qF (g := gb635) (o := .cells #[.int .i64 t625, .int .i64 t626, .int .i64 t627, .int .i64 t628, .int .i64 t629, .int .i64 t630, .int .i64 t631, .int .i64 t632, .int .i64 t633, .int .i64 t634] 116 (0, 0)) (kq BK635) hb)
  have n1_ := qa.mk (qh (bs HB GE635) hb)
  clear BK635
  clear HB
  have BK635 := n0_
  have HB := n1_
  clear n0_ n1_
  (try clear hb)
  (try clear hb2)
  (try clear hk)
  (try clear hi)
  refine hK.out _ _ ⟨(qb BK635.out 0).trans rfl, (qb BK635.out 1).trans rfl, (qb BK635.out 2).trans rfl, (qb BK635.out 3).trans rfl, (qb BK635.out 4).trans rfl, (qb BK635.out 5).trans rfl, (qb BK635.out 6).trans rfl, (qb BK635.out 7).trans rfl, (qb BK635.out 8).trans rfl, (qb BK635.out 9).trans rfl⟩ (fun hHeld => ?_)
  clear hK K
  refine zo (a' := ?_) ?_ ?_
  rotate_left
  ·show Act.put _ (some 30) _ = _
   simp only [Act.put, List.setIfInBounds_toArray, List.set_cons_zero, List.set_cons_succ, qz, qA]
   rfl
  refine za (i := 4) (N := some 9) (v := ?_) (a' := ?_) #[true, true, true, true, true] rfl rfl (by kernel_rfl) (fun _ _ _ h => h) (Or.inl ⟨by rfl, ?_⟩) ?_ ?_
  rotate_left
  ·intro w'
   go_simp
   with_reducible rfl
  rotate_left
  ·simp only [Act.put, List.setIfInBounds_toArray, List.set_cons_zero, List.set_cons_succ, qz, qA]
   rfl
  refine Qa (by kernel_rfl) ?_
  try go_wp2
  go_ret2
  exact ⟨by first | rfl | (simp [qR, qU] <;> rfl) | (simp [*, qR, qU] <;> rfl), bs HB GE635⟩
 rw [if_neg c15] at H
 have c15b0 : decide (2147483647 < t677) = false := decide_eq_false c15
 clear c15
 obtain ⟨y678, hy678⟩ : ∃ y_ : List Int, y_ = (([a0, a1, a2] : List Int)) := ⟨_, rfl⟩
 replace H : (qW.l0 k t677 0 y678 (y678.length : Int) 0) = some (r1, r2) := by first | (rw [hy678]; with_reducible exact H) | (have H2_ := (Option.bind_some _ _).symm.trans H; rw [hy678]; with_reducible exact H2_) | (have H2_ := (Option.bind_some _ _).symm.trans H; with_reducible exact H2_) | with_reducible exact H | (rw [hy678]; exact H) | exact H
 have Ny678 := qa.mk hy678
 clear hy678
 have H' := qa.mk H
 clear H
 go_enter Try.func56, Try.ntmps56
 try go_wp2_with (first | ((with_reducible refine zf (f := 70) rfl ?_); refine zR (some 16) rfl rfl Try.func70 (by kernel_rfl) rfl #[.int .i64 a0] rfl (by (try simp only [List.map_toArray, List.map_cons, List.map_nil]); first | done | rfl | (simp only [List.length_drop, List.length_take]; rfl)) ?_; (with_reducible refine (qV.calls a0 t605 t606 t607 t608 t609 t610 t611 t612 t613 t614 _ A5.out).mono ?_); rintro e w30 ⟨rfl, hb⟩; refine ⟨_, rfl, ?_⟩; have n0_ := qa.mk (qh (bq HB) hb); clear HB; have HB := n0_; clear n0_; (try clear hb); (try clear hb2); (try clear hk); (try clear hi)) | ((with_reducible refine zf (f := 70) rfl ?_); refine zR (some 18) rfl rfl Try.func70 (by kernel_rfl) rfl #[.int .i64 a1] rfl (by (try simp only [List.map_toArray, List.map_cons, List.map_nil]); first | done | rfl | (simp only [List.length_drop, List.length_take]; rfl)) ?_; (with_reducible refine (qV.calls a1 t615 t616 t617 t618 t619 t620 t621 t622 t623 t624 _ A6.out).mono ?_); rintro e w31 ⟨rfl, hb⟩; refine ⟨_, rfl, ?_⟩; have n0_ := qa.mk (qh (bq HB) hb); clear HB; have HB := n0_; clear n0_; (try clear hb); (try clear hb2); (try clear hk); (try clear hi)) | ((with_reducible refine zf (f := 69) rfl ?_); refine zR (some 19) rfl rfl Try.func69 (by kernel_rfl) rfl #[.agg #[.int .i64 t605, .int .i64 t606, .int .i64 t607, .int .i64 t608, .int .i64 t609, .int .i64 t610, .int .i64 t611, .int .i64 t612, .int .i64 t613, .int .i64 t614], .agg #[.int .i64 t615, .int .i64 t616, .int .i64 t617, .int .i64 t618, .int .i64 t619, .int .i64 t620, .int .i64 t621, .int .i64 t622, .int .i64 t623, .int .i64 t624]] rfl (by (try simp only [List.map_toArray, List.map_cons, List.map_nil]); first | done | rfl | (simp only [List.length_drop, List.length_take]; rfl)) ?_; (with_reducible refine (ze.calls t605 t606 t607 t608 t609 t610 t611 t612 t613 t614 t615 t616 t617 t618 t619 t620 t621 t622 t623 t624 t625 t626 t627 t628 t629 t630 t631 t632 t633 t634 _ A7.out).mono ?_); rintro e w32 ⟨rfl, hb⟩; refine ⟨_, rfl, ?_⟩; have n0_ := qa.mk (qh (bq HB) hb); clear HB; have HB := n0_; clear n0_; (try clear hb); (try clear hb2); (try clear hk); (try clear hi)) | ((with_reducible refine zl (N := 8) rfl ?_); refine zF ?hg (N := 8) ?hd (cs := #[.int .i64 0, .int .i64 0, .int .i64 0, .int .i64 0, .int .i64 0, .int .i64 0, .int .i64 0, .int .i64 0, .int .i64 0, .int .i64 0]) (t := 116) ?hr ?_; (case hd => rfl); (case hg => rfl); (case hr => first | (go_simp; done) | (go_simp; rfl)); intro gb635 hg w33 hbox hb; have n0_ := qa.mk (qh (bq HB) hb); have n1_ := qa.mk (hbox); have n2_ := qa.mk ((by rw [hg]; exact (qx (bq HB)) : w.heap.size ≤ gb635)); have n3_ := qa.mk ((by rw [hg]; exact (qx (bq HB)) : w.heap.size ≤ gb635)); clear HB; have HB := n0_; have BK635 := n1_; have GW635 := n2_; have GE635 := n3_; clear n0_ n1_ n2_ n3_; clear hb hbox hg; have hcz34_0 : w33.cell? ⟨gb635, 0, none⟩ = some (.int .i64 0) := (qb BK635.out 0).trans rfl; have hcz34_1 : w33.cell? ⟨gb635, 1, none⟩ = some (.int .i64 0) := (qb BK635.out 1).trans rfl; have hcz34_2 : w33.cell? ⟨gb635, 2, none⟩ = some (.int .i64 0) := (qb BK635.out 2).trans rfl; have hcz34_3 : w33.cell? ⟨gb635, 3, none⟩ = some (.int .i64 0) := (qb BK635.out 3).trans rfl; have hcz34_4 : w33.cell? ⟨gb635, 4, none⟩ = some (.int .i64 0) := (qb BK635.out 4).trans rfl; have hcz34_5 : w33.cell? ⟨gb635, 5, none⟩ = some (.int .i64 0) := (qb BK635.out 5).trans rfl; have hcz34_6 : w33.cell? ⟨gb635, 6, none⟩ = some (.int .i64 0) := (qb BK635.out 6).trans rfl; have hcz34_7 : w33.cell? ⟨gb635, 7, none⟩ = some (.int .i64 0) := (qb BK635.out 7).trans rfl; have hcz34_8 : w33.cell? ⟨gb635, 8, none⟩ = some (.int .i64 0) := (qb BK635.out 8).trans rfl; have hcz34_9 : w33.cell? ⟨gb635, 9, none⟩ = some (.int .i64 0) := (qb BK635.out 9).trans rfl; have hfz34_0 := qo BK635.out 0; have hfz34_1 := qo BK635.out 1; have hfz34_2 := qo BK635.out 2; have hfz34_3 := qo BK635.out 3; have hfz34_4 := qo BK635.out 4; have hfz34_5 := qo BK635.out 5; have hfz34_6 := qo BK635.out 6; have hfz34_7 := qo BK635.out 7; have hfz34_8 := qo BK635.out 8; have hfz34_9 := qo BK635.out 9))
 have n0_ : qa (((((((((((w33.setCell ⟨gb635, 0, none⟩ (.int .i64 t625)).setCell ⟨gb635, 1, none⟩ (.int .i64 t626)).setCell ⟨gb635, 2, none⟩ (.int .i64 t627)).setCell ⟨gb635, 3, none⟩ (.int .i64 t628)).setCell ⟨gb635, 4, none⟩ (.int .i64 t629)).setCell ⟨gb635, 5, none⟩ (.int .i64 t630)).setCell ⟨gb635, 6, none⟩ (.int .i64 t631)).setCell ⟨gb635, 7, none⟩ (.int .i64 t632)).setCell ⟨gb635, 8, none⟩ (.int .i64 t633)).setCell ⟨gb635, 9, none⟩ (.int .i64 t634)).heap[gb635]? = some (.cells #[.int .i64 t625, .int .i64 t626, .int .i64 t627, .int .i64 t628, .int .i64 t629, .int .i64 t630, .int .i64 t631, .int .i64 t632, .int .i64 t633, .int .i64 t634] 116 (0, 0))) := ⟨by refine zb (cs := #[.int .i64 t625, .int .i64 t626, .int .i64 t627, .int .i64 t628, .int .i64 t629, .int .i64 t630, .int .i64 t631, .int .i64 t632, .int .i64 t633, .int .i64 0]) ?_ 9 _ rfl; refine zb (cs := #[.int .i64 t625, .int .i64 t626, .int .i64 t627, .int .i64 t628, .int .i64 t629, .int .i64 t630, .int .i64 t631, .int .i64 t632, .int .i64 0, .int .i64 0]) ?_ 8 _ rfl; refine zb (cs := #[.int .i64 t625, .int .i64 t626, .int .i64 t627, .int .i64 t628, .int .i64 t629, .int .i64 t630, .int .i64 t631, .int .i64 0, .int .i64 0, .int .i64 0]) ?_ 7 _ rfl; refine zb (cs := #[.int .i64 t625, .int .i64 t626, .int .i64 t627, .int .i64 t628, .int .i64 t629, .int .i64 t630, .int .i64 0, .int .i64 0, .int .i64 0, .int .i64 0]) ?_ 6 _ rfl; refine zb (cs := #[.int .i64 t625, .int .i64 t626, .int .i64 t627, .int .i64 t628, .int .i64 t629, .int .i64 0, .int .i64 0, .int .i64 0, .int .i64 0, .int .i64 0]) ?_ 5 _ rfl; refine zb (cs := #[.int .i64 t625, .int .i64 t626, .int .i64 t627, .int .i64 t628, .int .i64 0, .int .i64 0, .int .i64 0, .int .i64 0, .int .i64 0, .int .i64 0]) ?_ 4 _ rfl; refine zb (cs := #[.int .i64 t625, .int .i64 t626, .int .i64 t627, .int .i64 0, .int .i64 0, .int .i64 0, .int .i64 0, .int .i64 0, .int .i64 0, .int .i64 0]) ?_ 3 _ rfl; refine zb (cs := #[.int .i64 t625, .int .i64 t626, .int .i64 0, .int .i64 0, .int .i64 0, .int .i64 0, .int .i64 0, .int .i64 0, .int .i64 0, .int .i64 0]) ?_ 2 _ rfl; refine zb (cs := #[.int .i64 t625, .int .i64 0, .int .i64 0, .int .i64 0, .int .i64 0, .int .i64 0, .int .i64 0, .int .i64 0, .int .i64 0, .int .i64 0]) ?_ 1 _ rfl; refine zb (cs := #[.int .i64 0, .int .i64 0, .int .i64 0, .int .i64 0, .int .i64 0, .int .i64 0, .int .i64 0, .int .i64 0, .int .i64 0, .int .i64 0]) ?_ 0 _ rfl; exact kq BK635⟩
 have n1_ : qa (Below w.heap.size w ((((((((((w33.setCell ⟨gb635, 0, none⟩ (.int .i64 t625)).setCell ⟨gb635, 1, none⟩ (.int .i64 t626)).setCell ⟨gb635, 2, none⟩ (.int .i64 t627)).setCell ⟨gb635, 3, none⟩ (.int .i64 t628)).setCell ⟨gb635, 4, none⟩ (.int .i64 t629)).setCell ⟨gb635, 5, none⟩ (.int .i64 t630)).setCell ⟨gb635, 6, none⟩ (.int .i64 t631)).setCell ⟨gb635, 7, none⟩ (.int .i64 t632)).setCell ⟨gb635, 8, none⟩ (.int .i64 t633)).setCell ⟨gb635, 9, none⟩ (.int .i64 t634))) := ⟨bs HB GE635⟩
 (try clear BK635)
 (try clear HB)
 generalize ((((((((((w33.setCell ⟨gb635, 0, none⟩ (.int .i64 t625)).setCell ⟨gb635, 1, none⟩ (.int .i64 t626)).setCell ⟨gb635, 2, none⟩ (.int .i64 t627)).setCell ⟨gb635, 3, none⟩ (.int .i64 t628)).setCell ⟨gb635, 4, none⟩ (.int .i64 t629)).setCell ⟨gb635, 5, none⟩ (.int .i64 t630)).setCell ⟨gb635, 6, none⟩ (.int .i64 t631)).setCell ⟨gb635, 7, none⟩ (.int .i64 t632)).setCell ⟨gb635, 8, none⟩ (.int .i64 t633)).setCell ⟨gb635, 9, none⟩ (.int .i64 t634)) = w35 at n0_ n1_ ⊢
 have BK635 := n0_
 have HB := n1_
 clear n0_ n1_
 have n0_ := qa.mk (qd BK635.out)
 have n1_ := qa.mk (qJ HB.out)
 clear BK635
 clear HB
 have BK635 := n0_
 have HB := n1_
 clear n0_ n1_
 refine jS (n := 7) (S := fun w' => w'.cell? ⟨gb635, 0, none⟩ = some (.int .i64 t625) ∧ w'.cell? ⟨gb635, 1, none⟩ = some (.int .i64 t626) ∧ w'.cell? ⟨gb635, 2, none⟩ = some (.int .i64 t627) ∧ w'.cell? ⟨gb635, 3, none⟩ = some (.int .i64 t628) ∧ w'.cell? ⟨gb635, 4, none⟩ = some (.int .i64 t629) ∧ w'.cell? ⟨gb635, 5, none⟩ = some (.int .i64 t630) ∧ w'.cell? ⟨gb635, 6, none⟩ = some (.int .i64 t631) ∧ w'.cell? ⟨gb635, 7, none⟩ = some (.int .i64 t632) ∧ w'.cell? ⟨gb635, 8, none⟩ = some (.int .i64 t633) ∧ w'.cell? ⟨gb635, 9, none⟩ = some (.int .i64 t634)) (ds := []) #[false, false, false, false, false, false, false] (by kernel_rfl) rfl rfl ⟨(qb BK635.out 0).trans rfl, (qb BK635.out 1).trans rfl, (qb BK635.out 2).trans rfl, (qb BK635.out 3).trans rfl, (qb BK635.out 4).trans rfl, (qb BK635.out 5).trans rfl, (qb BK635.out 6).trans rfl, (qb BK635.out 7).trans rfl, (qb BK635.out 8).trans rfl, (qb BK635.out 9).trans rfl⟩ (fun hHeld => ?_)
 generalize w35.drew = w36 at BK635 HB hHeld ⊢
 refine za (i := 1) (N := some 21) (v := ?_) (a' := ?_) #[false, true, false, false, false, false, false] rfl rfl (by kernel_rfl) (fun _ _ _ h => h) (Or.inl ⟨by rfl, ?_⟩) ?_ ?_
 rotate_left
 ·intro w'
  go_simp
  with_reducible rfl
 rotate_left
 ·simp only [Act.put, List.setIfInBounds_toArray, List.set_cons_zero, List.set_cons_succ, qz, qA]
  rfl
 refine zD (i := 0) (N := some 20) (v := ?_) (a' := ?_) #[true, true, false, false, false, false, false] rfl rfl (by kernel_rfl) (fun _ _ _ h => h) (Or.inl ⟨by rfl, ?_⟩) hHeld ?_ ?_
 rotate_left
 ·rintro w' ⟨s0, s1, s2, s3, s4, s5, s6, s7, s8, s9⟩
  go_simp
  with_reducible rfl
 rotate_left
 ·simp only [Act.put, List.setIfInBounds_toArray, List.set_cons_zero, List.set_cons_succ, qz, qA]
  rfl
 refine jd (i := 2) (N := some 22) #[true, true, true, false, false, false, false] rfl rfl (by kernel_rfl) (by decide) (fun K hK => ?_)
 refine zS Try.func70 (by kernel_rfl) rfl #[.int .i64 a2] (by rfl) rfl rfl (by (try simp only [List.map_toArray, List.map_cons, List.map_nil]); first | done | rfl | (simp only [List.length_drop, List.length_take]; rfl)) ?_
 with_reducible refine (qV.calls a2 t636 t637 t638 t639 t640 t641 t642 t643 t644 t645 _ A8.out).mono ?_
 rintro e w37 ⟨rfl, hb⟩
 refine ⟨_, rfl, ?_⟩
 have n0_ := qa.mk (qF (g := gb635) (o := .cells #[.int .i64 t625, .int .i64 t626, .int .i64 t627, .int .i64 t628, .int .i64 t629, .int .i64 t630, .int .i64 t631, .int .i64 t632, .int .i64 t633, .int .i64 t634] 116 (0, 0)) (kq BK635) hb)
 have n1_ := qa.mk (qh (bs HB GE635) hb)
 clear BK635
 clear HB
 have BK635 := n0_
 have HB := n1_
 clear n0_ n1_
 (try clear hb)
 (try clear hb2)
 (try clear hk)
 (try clear hi)
 refine hK.out _ _ ⟨(qb BK635.out 0).trans rfl, (qb BK635.out 1).trans rfl, (qb BK635.out 2).trans rfl, (qb BK635.out 3).trans rfl, (qb BK635.out 4).trans rfl, (qb BK635.out 5).trans rfl, (qb BK635.out 6).trans rfl, (qb BK635.out 7).trans rfl, (qb BK635.out 8).trans rfl, (qb BK635.out 9).trans rfl⟩ (fun hHeld => ?_)
 clear hK K
 refine zo (a' := ?_) ?_ ?_
 rotate_left
 ·show Act.put _ (some 22) _ = _
  simp only [Act.put, List.setIfInBounds_toArray, List.set_cons_zero, List.set_cons_succ, qz, qA]
  rfl
 refine jd (i := 3) (N := some 23) #[true, true, true, true, false, false, false] rfl rfl (by kernel_rfl) (by decide) (fun K hK => ?_)
 refine zS Try.func70 (by kernel_rfl) rfl #[.int .i64 8589934592] (by rfl) rfl rfl (by (try simp only [List.map_toArray, List.map_cons, List.map_nil]); first | done | rfl | (simp only [List.length_drop, List.length_take]; rfl)) ?_
 with_reducible refine (qV.calls 8589934592 t646 t647 t648 t649 t650 t651 t652 t653 t654 t655 _ A9.out).mono ?_
 rintro e w38 ⟨rfl, hb⟩
 refine ⟨_, rfl, ?_⟩
 have n0_ := qa.mk (qF (g := gb635) (o := .cells #[.int .i64 t625, .int .i64 t626, .int .i64 t627, .int .i64 t628, .int .i64 t629, .int .i64 t630, .int .i64 t631, .int .i64 t632, .int .i64 t633, .int .i64 t634] 116 (0, 0)) (kq BK635) hb)
 have n1_ := qa.mk (qh (bs HB GE635) hb)
 clear BK635
 clear HB
 have BK635 := n0_
 have HB := n1_
 clear n0_ n1_
 (try clear hb)
 (try clear hb2)
 (try clear hk)
 (try clear hi)
 refine hK.out _ _ ⟨(qb BK635.out 0).trans rfl, (qb BK635.out 1).trans rfl, (qb BK635.out 2).trans rfl, (qb BK635.out 3).trans rfl, (qb BK635.out 4).trans rfl, (qb BK635.out 5).trans rfl, (qb BK635.out 6).trans rfl, (qb BK635.out 7).trans rfl, (qb BK635.out 8).trans rfl, (qb BK635.out 9).trans rfl⟩ (fun hHeld => ?_)
 clear hK K
 refine zo (a' := ?_) ?_ ?_
 rotate_left
 ·show Act.put _ (some 23) _ = _
  simp only [Act.put, List.setIfInBounds_toArray, List.set_cons_zero, List.set_cons_succ, qz, qA]
  rfl
 refine jd (i := 4) (N := some 24) #[true, true, true, true, true, false, false] rfl rfl (by kernel_rfl) (by decide) (fun K hK => ?_)
 refine zS Try.func69 (by kernel_rfl) rfl #[.agg #[.int .i64 t636, .int .i64 t637, .int .i64 t638, .int .i64 t639, .int .i64 t640, .int .i64 t641, .int .i64 t642, .int .i64 t643, .int .i64 t644, .int .i64 t645], .agg #[.int .i64 t646, .int .i64 t647, .int .i64 t648, .int .i64 t649, .int .i64 t650, .int .i64 t651, .int .i64 t652, .int .i64 t653, .int .i64 t654, .int .i64 t655]] (by rfl) rfl rfl (by (try simp only [List.map_toArray, List.map_cons, List.map_nil]); first | done | rfl | (simp only [List.length_drop, List.length_take]; rfl)) ?_
 with_reducible refine (ze.calls t636 t637 t638 t639 t640 t641 t642 t643 t644 t645 t646 t647 t648 t649 t650 t651 t652 t653 t654 t655 t656 t657 t658 t659 t660 t661 t662 t663 t664 t665 _ A10.out).mono ?_
 rintro e w39 ⟨rfl, hb⟩
 refine ⟨_, rfl, ?_⟩
 have n0_ := qa.mk (qF (g := gb635) (o := .cells #[.int .i64 t625, .int .i64 t626, .int .i64 t627, .int .i64 t628, .int .i64 t629, .int .i64 t630, .int .i64 t631, .int .i64 t632, .int .i64 t633, .int .i64 t634] 116 (0, 0)) (kq BK635) hb)
 have n1_ := qa.mk (qh (bs HB GE635) hb)
 clear BK635
 clear HB
 have BK635 := n0_
 have HB := n1_
 clear n0_ n1_
 (try clear hb)
 (try clear hb2)
 (try clear hk)
 (try clear hi)
 refine hK.out _ _ ⟨(qb BK635.out 0).trans rfl, (qb BK635.out 1).trans rfl, (qb BK635.out 2).trans rfl, (qb BK635.out 3).trans rfl, (qb BK635.out 4).trans rfl, (qb BK635.out 5).trans rfl, (qb BK635.out 6).trans rfl, (qb BK635.out 7).trans rfl, (qb BK635.out 8).trans rfl, (qb BK635.out 9).trans rfl⟩ (fun hHeld => ?_)
 clear hK K
 refine zo (a' := ?_) ?_ ?_
 rotate_left
 ·show Act.put _ (some 24) _ = _
  simp only [Act.put, List.setIfInBounds_toArray, List.set_cons_zero, List.set_cons_succ, qz, qA]
  rfl
 refine jd (i := 5) (N := some 25) #[true, true, true, true, true, true, false] rfl rfl (by kernel_rfl) (by decide) (fun K hK => ?_)
 refine zS Try.func71 (by kernel_rfl) rfl #[.agg #[.int .i64 t625, .int .i64 t626, .int .i64 t627, .int .i64 t628, .int .i64 t629, .int .i64 t630, .int .i64 t631, .int .i64 t632, .int .i64 t633, .int .i64 t634], .agg #[.int .i64 t656, .int .i64 t657, .int .i64 t658, .int .i64 t659, .int .i64 t660, .int .i64 t661, .int .i64 t662, .int .i64 t663, .int .i64 t664, .int .i64 t665]] (by rfl) rfl rfl (by (try simp only [List.map_toArray, List.map_cons, List.map_nil]); first | done | rfl | (simp only [List.length_drop, List.length_take]; rfl)) ?_
 with_reducible refine (zw.calls t625 t626 t627 t628 t629 t630 t631 t632 t633 t634 t656 t657 t658 t659 t660 t661 t662 t663 t664 t665 true _ A11.out).mono ?_
 rintro e w40 ⟨rfl, hb⟩
 refine ⟨_, rfl, ?_⟩
 have n0_ := qa.mk (qF (g := gb635) (o := .cells #[.int .i64 t625, .int .i64 t626, .int .i64 t627, .int .i64 t628, .int .i64 t629, .int .i64 t630, .int .i64 t631, .int .i64 t632, .int .i64 t633, .int .i64 t634] 116 (0, 0)) (kq BK635) hb)
 have n1_ := qa.mk (qh (bs HB GE635) hb)
 clear BK635
 clear HB
 have BK635 := n0_
 have HB := n1_
 clear n0_ n1_
 (try clear hb)
 (try clear hb2)
 (try clear hk)
 (try clear hi)
 refine hK.out _ _ ⟨(qb BK635.out 0).trans rfl, (qb BK635.out 1).trans rfl, (qb BK635.out 2).trans rfl, (qb BK635.out 3).trans rfl, (qb BK635.out 4).trans rfl, (qb BK635.out 5).trans rfl, (qb BK635.out 6).trans rfl, (qb BK635.out 7).trans rfl, (qb BK635.out 8).trans rfl, (qb BK635.out 9).trans rfl⟩ (fun hHeld => ?_)
 clear hK K
 refine zo (a' := ?_) ?_ ?_
 rotate_left
 ·show Act.put _ (some 25) _ = _
  simp only [Act.put, List.setIfInBounds_toArray, List.set_cons_zero, List.set_cons_succ, qz, qA]
  rfl
 refine za (i := 6) (N := some 26) (v := ?_) (a' := ?_) #[true, true, true, true, true, true, true] rfl rfl (by kernel_rfl) (fun _ _ _ h => h) (Or.inl ⟨by rfl, ?_⟩) ?_ ?_
 rotate_left
 ·intro w'
  go_simp
  with_reducible rfl
 rotate_left
 ·simp only [Act.put, List.setIfInBounds_toArray, List.set_cons_zero, List.set_cons_succ, qz, qA]
  rfl
 refine Qa (by kernel_rfl) ?_
 try go_wp2
 have n0_ := qa.mk (qd BK635.out)
 have n1_ := qa.mk (qJ HB.out)
 clear BK635
 clear HB
 have BK635 := n0_
 have HB := n1_
 clear n0_ n1_
 refine jS (n := 5) (S := fun w' => w'.cell? ⟨gb635, 0, none⟩ = some (.int .i64 t625) ∧ w'.cell? ⟨gb635, 1, none⟩ = some (.int .i64 t626) ∧ w'.cell? ⟨gb635, 2, none⟩ = some (.int .i64 t627) ∧ w'.cell? ⟨gb635, 3, none⟩ = some (.int .i64 t628) ∧ w'.cell? ⟨gb635, 4, none⟩ = some (.int .i64 t629) ∧ w'.cell? ⟨gb635, 5, none⟩ = some (.int .i64 t630) ∧ w'.cell? ⟨gb635, 6, none⟩ = some (.int .i64 t631) ∧ w'.cell? ⟨gb635, 7, none⟩ = some (.int .i64 t632) ∧ w'.cell? ⟨gb635, 8, none⟩ = some (.int .i64 t633) ∧ w'.cell? ⟨gb635, 9, none⟩ = some (.int .i64 t634)) (ds := []) #[false, false, false, false, false] (by kernel_rfl) rfl rfl ⟨(qb BK635.out 0).trans rfl, (qb BK635.out 1).trans rfl, (qb BK635.out 2).trans rfl, (qb BK635.out 3).trans rfl, (qb BK635.out 4).trans rfl, (qb BK635.out 5).trans rfl, (qb BK635.out 6).trans rfl, (qb BK635.out 7).trans rfl, (qb BK635.out 8).trans rfl, (qb BK635.out 9).trans rfl⟩ (fun hHeld => ?_)
 generalize w40.drew = w41 at BK635 HB hHeld ⊢
 refine za (i := 1) (N := some 28) (v := ?_) (a' := ?_) #[false, true, false, false, false] rfl rfl (by kernel_rfl) (fun _ _ _ h => h) (Or.inl ⟨by rfl, ?_⟩) ?_ ?_
 rotate_left
 ·intro w'
  go_simp
  with_reducible rfl
 rotate_left
 ·simp only [Act.put, List.setIfInBounds_toArray, List.set_cons_zero, List.set_cons_succ, qz, qA]
  rfl
 refine zD (i := 0) (N := some 27) (v := ?_) (a' := ?_) #[true, true, false, false, false] rfl rfl (by kernel_rfl) (fun _ _ _ h => h) (Or.inl ⟨by rfl, ?_⟩) hHeld ?_ ?_
 rotate_left
 ·rintro w' ⟨s0, s1, s2, s3, s4, s5, s6, s7, s8, s9⟩
  go_simp
  with_reducible rfl
 rotate_left
 ·simp only [Act.put, List.setIfInBounds_toArray, List.set_cons_zero, List.set_cons_succ, qz, qA]
  rfl
 refine jd (i := 2) (N := some 29) #[true, true, true, false, false] rfl rfl (by kernel_rfl) (by decide) (fun K hK => ?_)
 refine zS Try.func70 (by kernel_rfl) rfl #[.int .i64 a2] (by rfl) rfl rfl (by (try simp only [List.map_toArray, List.map_cons, List.map_nil]); first | done | rfl | (simp only [List.length_drop, List.length_take]; rfl)) ?_
 with_reducible refine (qV.calls a2 t667 t668 t669 t670 t671 t672 t673 t674 t675 t676 _ A13.out).mono ?_
 rintro e w42 ⟨rfl, hb⟩
 refine ⟨_, rfl, ?_⟩
 have n0_ := qa.mk (qF (g := gb635) (o := .cells #[.int .i64 t625, .int .i64 t626, .int .i64 t627, .int .i64 t628, .int .i64 t629, .int .i64 t630, .int .i64 t631, .int .i64 t632, .int .i64 t633, .int .i64 t634] 116 (0, 0)) (kq BK635) hb)
 have n1_ := qa.mk (qh (bs HB GE635) hb)
 clear BK635
 clear HB
 have BK635 := n0_
 have HB := n1_
 clear n0_ n1_
 (try clear hb)
 (try clear hb2)
 (try clear hk)
 (try clear hi)
 refine hK.out _ _ ⟨(qb BK635.out 0).trans rfl, (qb BK635.out 1).trans rfl, (qb BK635.out 2).trans rfl, (qb BK635.out 3).trans rfl, (qb BK635.out 4).trans rfl, (qb BK635.out 5).trans rfl, (qb BK635.out 6).trans rfl, (qb BK635.out 7).trans rfl, (qb BK635.out 8).trans rfl, (qb BK635.out 9).trans rfl⟩ (fun hHeld => ?_)
 clear hK K
 refine zo (a' := ?_) ?_ ?_
 rotate_left
 ·show Act.put _ (some 29) _ = _
  simp only [Act.put, List.setIfInBounds_toArray, List.set_cons_zero, List.set_cons_succ, qz, qA]
  rfl
 refine jd (i := 3) (N := some 30) #[true, true, true, true, false] rfl rfl (by kernel_rfl) (by decide) (fun K hK => ?_)
 refine zS Try.func72 (by kernel_rfl) rfl #[.agg #[.int .i64 t625, .int .i64 t626, .int .i64 t627, .int .i64 t628, .int .i64 t629, .int .i64 t630, .int .i64 t631, .int .i64 t632, .int .i64 t633, .int .i64 t634], .agg #[.int .i64 t667, .int .i64 t668, .int .i64 t669, .int .i64 t670, .int .i64 t671, .int .i64 t672, .int .i64 t673, .int .i64 t674, .int .i64 t675, .int .i64 t676]] (by rfl) rfl rfl (by (try simp only [List.map_toArray, List.map_cons, List.map_nil]); first | done | rfl | (simp only [List.length_drop, List.length_take]; rfl)) ?_
 with_reducible refine (qB.calls k t625 t626 t627 t628 t629 t630 t631 t632 t633 t634 t667 t668 t669 t670 t671 t672 t673 t674 t675 t676 t677 _ A14.out).mono ?_
 rintro e w43 ⟨rfl, hb⟩
 refine ⟨_, rfl, ?_⟩
 have n0_ := qa.mk (qF (g := gb635) (o := .cells #[.int .i64 t625, .int .i64 t626, .int .i64 t627, .int .i64 t628, .int .i64 t629, .int .i64 t630, .int .i64 t631, .int .i64 t632, .int .i64 t633, .int .i64 t634] 116 (0, 0)) (kq BK635) hb)
 have n1_ := qa.mk (qh (bs HB GE635) hb)
 clear BK635
 clear HB
 have BK635 := n0_
 have HB := n1_
 clear n0_ n1_
 (try clear hb)
 (try clear hb2)
 (try clear hk)
 (try clear hi)
 refine hK.out _ _ ⟨(qb BK635.out 0).trans rfl, (qb BK635.out 1).trans rfl, (qb BK635.out 2).trans rfl, (qb BK635.out 3).trans rfl, (qb BK635.out 4).trans rfl, (qb BK635.out 5).trans rfl, (qb BK635.out 6).trans rfl, (qb BK635.out 7).trans rfl, (qb BK635.out 8).trans rfl, (qb BK635.out 9).trans rfl⟩ (fun hHeld => ?_)
 clear hK K
 refine zo (a' := ?_) ?_ ?_
 rotate_left
 ·show Act.put _ (some 30) _ = _
  simp only [Act.put, List.setIfInBounds_toArray, List.set_cons_zero, List.set_cons_succ, qz, qA]
  rfl
 refine za (i := 4) (N := some 9) (v := ?_) (a' := ?_) #[true, true, true, true, true] rfl rfl (by kernel_rfl) (fun _ _ _ h => h) (Or.inl ⟨by rfl, ?_⟩) ?_ ?_
 rotate_left
 ·intro w'
  go_simp
  with_reducible rfl
 rotate_left
 ·simp only [Act.put, List.setIfInBounds_toArray, List.set_cons_zero, List.set_cons_succ, qz, qA]
  rfl
 refine Qa (by kernel_rfl) ?_
 try go_wp2_with (first | ((with_reducible refine zl (N := 36) rfl ?_); refine Kd.Za (Kd.int .i64) _ 3 ?hg (N := 36) ?hd (xs := ([a0, a1, a2] : List Int)) (inner := [.int .i64 a0, .int .i64 a1, .int .i64 a2]) (ok := fun _ => True) (okp := fun _ => True) ?hr ?hp (fun _ hk => hk) trivial (Below.refl _ _) (Nat.le_refl _) (by simp) ?_; (case hd => rfl); (case hg => rfl); (case hr => first | (go_simp; done) | (go_simp; rfl)); (case hp => exact (zn.one (show Kd.M (Kd.int .i64) _ _ _ a0 [.int .i64 a0] from rfl) (zn.one (show Kd.M (Kd.int .i64) _ _ _ a1 [.int .i64 a1] from rfl) (zn.one (show Kd.M (Kd.int .i64) _ _ _ a2 [.int .i64 a2] from rfl) (zn.none _ _))))); intro v679 w44 ho45 hb hg_ hnew_; clear hg_ hnew_; (first | rw [← Ny678.out] at ho45 | (simp only [Int.reduceToNat] at ho45; rw [← Ny678.out] at ho45)); have n0_ := qa.mk (Kd.jU ho45 (qx (bs HB GE635))); have n1_ := qa.mk (qF (g := gb635) (o := .cells #[.int .i64 t625, .int .i64 t626, .int .i64 t627, .int .i64 t628, .int .i64 t629, .int .i64 t630, .int .i64 t631, .int .i64 t632, .int .i64 t633, .int .i64 t634] 116 (0, 0)) (kq BK635) hb); have n2_ := qa.mk (qh (bs HB GE635) hb); clear BK635; clear HB; have HO680 := n0_; have BK635 := n1_; have HB := n2_; clear n0_ n1_ n2_; clear hb ho45; obtain ⟨Ao46, co46, eo46⟩ := Kd.zX HO680.out; subst eo46))
 go_loopg [10, 38] k (fun kq v10 v38 w' => ∃ (x10_1 : Int) (x38_1 : Int), v10 = .int .i64 x10_1 ∧ v38 = .int .i64 x38_1 ∧ qa (qW.l0 kq t677 x10_1 y678 (y678.length : Int) x38_1 = some (r1, r2)) ∧ qa (kq ≤ k) ∧ qa (Kd.R (Kd.int .i64) 3 w' w.heap.size (fun _ => True) (.slice Ao46 y678.length co46) y678) ∧ qa (w'.heap[gb635]? = some (.cells #[.int .i64 t625, .int .i64 t626, .int .i64 t627, .int .i64 t628, .int .i64 t629, .int .i64 t630, .int .i64 t631, .int .i64 t632, .int .i64 t633, .int .i64 t634] 116 (0, 0))) ∧ qa (Below w.heap.size w w'))
 case atStart => exact ⟨(0), (0), (by first | rfl | (simp; done) | (simp [*]; done)), (by first | rfl | (simp; done) | (simp [*]; done)), H', ⟨Nat.le_refl _⟩, ⟨rq HO680⟩, ⟨kq BK635⟩, ⟨bs HB GE635⟩⟩
 case round =>
  clear H'
  try clear c1
  try clear p2
  try clear c4
  try clear c4b0
  try clear c4b1
  try clear c5
  try clear c6
  try clear c7
  try clear c12
  try clear c15
  try clear c15b0
  try clear hcz20_0
  try clear hcz20_1
  try clear hcz20_2
  try clear hcz20_3
  try clear hcz20_4
  try clear hcz20_5
  try clear hcz20_6
  try clear hcz20_7
  try clear hcz20_8
  try clear hcz20_9
  try clear hcz34_0
  try clear hcz34_1
  try clear hcz34_2
  try clear hcz34_3
  try clear hcz34_4
  try clear hcz34_5
  try clear hcz34_6
  try clear hcz34_7
  try clear hcz34_8
  try clear hcz34_9
  try clear hfz20_0
  try clear hfz20_1
  try clear hfz20_2
  try clear hfz20_3
  try clear hfz20_4
  try clear hfz20_5
  try clear hfz20_6
  try clear hfz20_7
  try clear hfz20_8
  try clear hfz20_9
  try clear hfz34_0
  try clear hfz34_1
  try clear hfz34_2
  try clear hfz34_3
  try clear hfz34_4
  try clear hfz34_5
  try clear hfz34_6
  try clear hfz34_7
  try clear hfz34_8
  try clear hfz34_9
  obtain ⟨x10_1, x38_1, rfl, rfl, HA, HK1, HO_36, BK635, HB⟩ := hrel
  cases gk with
  | zero => exact absurd HA.out (by simp [qW.l0])
  | succ k1 =>
   have H := HA.out
   clear HA
   simp only [qW.l0] at H
   by_cases c47 : x38_1 < (y678.length : Int)
   case neg =>
    rw [if_neg c47] at H
    have c47b0 : decide (x38_1 < (y678.length : Int)) = false := decide_eq_false c47
    clear c47
    by_cases c51 : (Int.tmod x10_1 2) = 1
    case neg =>
     rw [if_neg c51] at H
     have c51b0 : ((Int.tmod x10_1 2) == 1) = false := beq_eq_false_iff_ne.mpr c51
     have c51b1 : ((Int.tmod x10_1 2) != 1) = true := bne_iff_ne.mpr c51
     simp only [Option.some.injEq, Prod.mk.injEq] at H
     obtain ⟨rfl, rfl⟩ := H
     go_wp2
     go_ret2
     exact ⟨by first | rfl | (simp [qR, qU] <;> rfl) | (simp [*, qR, qU] <;> rfl), bs HB GE635⟩
    rw [if_pos c51] at H
    have c51b0 : ((Int.tmod x10_1 2) == 1) = true := beq_iff_eq.mpr c51
    have c51b1 : ((Int.tmod x10_1 2) != 1) = false := bne_eq_false_iff_eq.mpr c51
    clear c51
    simp only [Option.some.injEq, Prod.mk.injEq] at H
    obtain ⟨rfl, rfl⟩ := H
    go_wp2
    go_ret2
    exact ⟨by first | rfl | (simp [qR, qU] <;> rfl) | (simp [*, qR, qU] <;> rfl), bs HB GE635⟩
   rw [if_pos c47] at H
   have c47b0 : decide (x38_1 < (y678.length : Int)) = true := decide_eq_true c47
   clear c47
   by_cases c48 : 0 ≤ x38_1
   case neg =>
    rw [if_neg c48] at H
    exact absurd H (by simp)
   rw [if_pos c48] at H
   have c48b0 : decide (0 ≤ x38_1) = true := decide_eq_true c48
   clear c48
   by_cases c49 : x38_1 < (y678.length : Int)
   case neg =>
    rw [if_neg c49] at H
    exact absurd H (by simp)
   rw [if_pos c49] at H
   have c49b0 : decide (x38_1 < (y678.length : Int)) = true := decide_eq_true c49
   clear c49
   by_cases c50 : (rd y678 x38_1) < 0
   ·rw [if_pos c50] at H
    have c50b0 : decide ((rd y678 x38_1) < 0) = true := decide_eq_true c50
    clear c50
    have H' := qa.mk H
    clear H
    have p681 : 0 ≤ (x38_1 : Int) := odt
    have q681 : x38_1 < (y678.length : Int) := odt
    obtain ⟨ad681, e681, hx681_0⟩ := Kd.at_int (Kd.jq HO_36.out).2.2 x38_1 p681 q681
    cases e681
    replace p681 := eq_true p681
    replace q681 := eq_true q681
    go_wp2
    go_roundg k1
    case measure => have := HK1.out; omega
    case rel => exact ⟨(wrap64 (x10_1 + 1)), (wrap64 (x38_1 + 1)), (by first | rfl | (simp; done) | (simp [*]; done)), (by first | rfl | (simp; done) | (simp [*]; done)), H', ⟨by have := HK1.out; omega⟩, ⟨rq HO_36⟩, ⟨kq BK635⟩, ⟨bs HB GE635⟩⟩
   rw [if_neg c50] at H
   have c50b0 : decide ((rd y678 x38_1) < 0) = false := decide_eq_false c50
   clear c50
   have H' := qa.mk H
   clear H
   have p681 : 0 ≤ (x38_1 : Int) := odt
   have q681 : x38_1 < (y678.length : Int) := odt
   obtain ⟨ad681, e681, hx681_0⟩ := Kd.at_int (Kd.jq HO_36.out).2.2 x38_1 p681 q681
   cases e681
   replace p681 := eq_true p681
   replace q681 := eq_true q681
   go_wp2
   go_roundg k1
   case measure => have := HK1.out; omega
   case rel => exact ⟨(x10_1), (wrap64 (x38_1 + 1)), (by first | rfl | (simp; done) | (simp [*]; done)), (by first | rfl | (simp; done) | (simp [*]; done)), H', ⟨by have := HK1.out; omega⟩, ⟨rq HO_36⟩, ⟨kq BK635⟩, ⟨bs HB GE635⟩⟩
end Go.Proofs.Ytmlkpadlafjfeaa.P
