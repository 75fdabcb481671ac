import Derived.Test.YtfbanppdiglciaaXx0
import Derived.Test.YtfbanppdiglciaaXx17
import Derived.Test.YtfbanppdiglciaaXx18
import Derived.Test.YtfbanppdiglciaaXx20
import Derived.Test.YtfbanppdiglciaaXx22
import Derived.Test.YtfbanppdiglciaaXx23
import Derived.Test.YtfbanppdiglciaaXx25
import Derived.Test.YtfbanppdiglciaaXx27
namespace Go.Proofs.Ytfbanppdiglciaa.X
open Go.RowKit Go.Proofs.YtfbanppdiglciaaW.PrintWords Go.Proofs.YtfbanppdiglciaaW.PrintLast Go.Proofs.YtfbanppdiglciaaW.PrintMore
attribute [local go_sem] jw jv jJ jI jf je jA jC
set_option linter.unusedVariables false
set_option linter.unusedSimpArgs false
mutual
def qf.l0 : Nat → List (S31) → Int → Int → Int → List Bool → List Int → List (List Int) → Int → Option (List Int × Int × Bool × Int)
 | 0, _, _, _, _, _, _, _, _ => none
 | k + 1, x0, x1, x2, x9, x10, x11, x12, x13 => if x13 ≤ x9 then ((zZ.f x0 x13).bind fun t372 => (if t372 = true then (qf.l1 k x0 x1 x2 x9 x10 x11 x12 x13 (wrap64 (x13 - 1))) else (qf.l0 k x0 x1 x2 x9 x10 x11 x12 (wrap64 (x13 + 1))))) else (if 0 ≤ (wrap64 (x9 + 1)) then (if (wrap64 (x9 + 1)) < (x10.length : Int) then (if jN false x10 (wrap64 (x9 + 1)) = true then (if (wrap64 (x9 + 1)) < (x12.length : Int) then (if (wrap64 (x9 + 1)) < (x11.length : Int) then (some (jc x12 (wrap64 (x9 + 1)), rd x11 (wrap64 (x9 + 1)), false, 0)) else (none)) else (none)) else ((qp.f k x0 x1).bind fun t369 => (some (t369, 0, true, 0)))) else (none)) else (none))
def qf.l1 : Nat → List (S31) → Int → Int → Int → List Bool → List Int → List (List Int) → Int → Int → Option (List Int × Int × Bool × Int)
 | 0, _, _, _, _, _, _, _, _, _ => none
 | k + 1, x0, x1, x2, x9, x10, x11, x12, x13, x14 => if x14 ≥ (-1) then (if x14 ≥ 0 then ((zZ.f x0 x14).bind fun t373 => (qf.j2 k x0 x1 x2 x9 x10 x11 x12 x13 x14 (!t373))) else (qf.j2 k x0 x1 x2 x9 x10 x11 x12 x13 x14 false)) else (qf.l0 k x0 x1 x2 x9 x10 x11 x12 (wrap64 (x13 + 1)))
def qf.j2 : Nat → List (S31) → Int → Int → Int → List Bool → List Int → List (List Int) → Int → Int → Bool → Option (List Int × Int × Bool × Int)
 | 0, _, _, _, _, _, _, _, _, _, _ => none
 | k + 1, x0, x1, x2, x9, x10, x11, x12, x13, x14, x63 => if x63 = true then (qf.l1 k x0 x1 x2 x9 x10 x11 x12 x13 (wrap64 (x14 - 1))) else ((qY.f k x0 x14 x13 x1).bind fun bt374 => (if bt374.2.2 = true then (if bt374.1 ≤ x2 then (if 0 ≤ (wrap64 (x14 + 1)) then (if (wrap64 (x14 + 1)) < (x10.length : Int) then (qf.j3 k x0 x1 x2 x9 x10 x11 x12 x13 x14 bt374.2.1 (jN false x10 (wrap64 (x14 + 1)))) else (none)) else (none)) else (qf.j3 k x0 x1 x2 x9 x10 x11 x12 x13 x14 bt374.2.1 false)) else (qf.j3 k x0 x1 x2 x9 x10 x11 x12 x13 x14 bt374.2.1 false)))
def qf.j3 : Nat → List (S31) → Int → Int → Int → List Bool → List Int → List (List Int) → Int → Int → Int → Bool → Option (List Int × Int × Bool × Int)
 | 0, _, _, _, _, _, _, _, _, _, _, _ => none
 | k + 1, x0, x1, x2, x9, x10, x11, x12, x13, x14, x16, x85 => if x85 = true then (if 0 ≤ (wrap64 (x14 + 1)) then (if (wrap64 (x14 + 1)) < (x11.length : Int) then ((qQ.f k x0 x14 x13 x16).bind fun t379 => ((some (([] : List Int) : List Int)).bind fun y380 => (if (wrap64 (x14 + 1)) < (x12.length : Int) then (if y380.length + (jc x12 (wrap64 (x14 + 1))).length < 17592186044416 then ((some (y380 ++ (jc x12 (wrap64 (x14 + 1))) : List Int)).bind fun y384 => (if y384.length < 17592186044416 then ((some (y384 ++ [x13] : List Int)).bind fun y387 => (if 0 ≤ (wrap64 (x13 + 1)) then (if (wrap64 (x13 + 1)) < (x10.length : Int) then (if (jN false x10 (wrap64 (x13 + 1)) = true) then (if (wrap64 (x13 + 1)) < (x11.length : Int) then (if (wrap64 ((rd x11 (wrap64 (x14 + 1))) + t379)) < (rd x11 (wrap64 (x13 + 1))) then (qf.j4 k x0 x1 x2 x9 x10 x11 x12 x13 x14 (wrap64 ((rd x11 (wrap64 (x14 + 1))) + t379)) y387 true) else (if (wrap64 ((rd x11 (wrap64 (x14 + 1))) + t379)) = (rd x11 (wrap64 (x13 + 1))) then (if (wrap64 (x13 + 1)) < (x12.length : Int) then ((za.f k y387 (jc x12 (wrap64 (x13 + 1)))).bind fun t394 => (qf.j4 k x0 x1 x2 x9 x10 x11 x12 x13 x14 (wrap64 ((rd x11 (wrap64 (x14 + 1))) + t379)) y387 t394)) else (none)) else (qf.j4 k x0 x1 x2 x9 x10 x11 x12 x13 x14 (wrap64 ((rd x11 (wrap64 (x14 + 1))) + t379)) y387 false))) else (none)) else (qf.j4 k x0 x1 x2 x9 x10 x11 x12 x13 x14 (wrap64 ((rd x11 (wrap64 (x14 + 1))) + t379)) y387 true)) else (none)) else (none))) else (none))) else (none)) else (none)))) else (none)) else (none)) else (if x14 ≥ 0 then ((zx.f x0 x14).bind fun t400 => (if t400 = true then (qf.l0 k x0 x1 x2 x9 x10 x11 x12 (wrap64 (x13 + 1))) else (qf.l1 k x0 x1 x2 x9 x10 x11 x12 x13 (wrap64 (x14 - 1))))) else (qf.l1 k x0 x1 x2 x9 x10 x11 x12 x13 (wrap64 (x14 - 1))))
def qf.j4 : Nat → List (S31) → Int → Int → Int → List Bool → List Int → List (List Int) → Int → Int → Int → List Int → Bool → Option (List Int × Int × Bool × Int)
 | 0, _, _, _, _, _, _, _, _, _, _, _, _ => none
 | k + 1, x0, x1, x2, x9, x10, x11, x12, x13, x14, x18, x19, x139 => if x139 = true then (if 0 ≤ (wrap64 (x13 + 1)) then (if (wrap64 (x13 + 1)) < (x10.length : Int) then ((some (x10.set ((wrap64 (x13 + 1)) : Int).toNat true : List Bool)).bind fun y395 => (if (wrap64 (x13 + 1)) < (x11.length : Int) then ((some (x11.set ((wrap64 (x13 + 1)) : Int).toNat x18 : List Int)).bind fun y396 => (if (wrap64 (x13 + 1)) < (x12.length : Int) then ((some (x12.set ((wrap64 (x13 + 1)) : Int).toNat x19 : List (List Int))).bind fun y397 => (if x14 ≥ 0 then ((zx.f x0 x14).bind fun t398 => (if t398 = true then (qf.l0 k x0 x1 x2 x9 y395 y396 y397 (wrap64 (x13 + 1))) else (qf.l1 k x0 x1 x2 x9 y395 y396 y397 x13 (wrap64 (x14 - 1))))) else (qf.l1 k x0 x1 x2 x9 y395 y396 y397 x13 (wrap64 (x14 - 1))))) else (none))) else (none))) else (none)) else (none)) else (if x14 ≥ 0 then ((zx.f x0 x14).bind fun t399 => (if t399 = true then (qf.l0 k x0 x1 x2 x9 x10 x11 x12 (wrap64 (x13 + 1))) else (qf.l1 k x0 x1 x2 x9 x10 x11 x12 x13 (wrap64 (x14 - 1))))) else (qf.l1 k x0 x1 x2 x9 x10 x11 x12 x13 (wrap64 (x14 - 1))))
end
def qf.f (k : Nat) (l0 : List (S31)) (a1 : Int) (a2 : Int) : Option (List Int × Int × Bool × Int) := (zf.f k l0 a1 a2).bind fun t355 => (if t355 = 0 then (if 0 ≤ (wrap64 ((l0.length : Int) + 2)) then (if (wrap64 ((l0.length : Int) + 2) : Int).toNat ≤ 281474976710656 then ((some (List.replicate (wrap64 ((l0.length : Int) + 2) : Int).toNat false : List Bool)).bind fun y356 => (if (wrap64 ((l0.length : Int) + 2) : Int).toNat ≤ 35184372088832 then (if (wrap64 ((l0.length : Int) + 2) : Int).toNat ≤ 11728124029610 then (if 0 < (y356.length : Int) then (qf.l0 k l0 a1 a2 (l0.length : Int) (y356.set (0 : Int).toNat true) (List.replicate (wrap64 ((l0.length : Int) + 2) : Int).toNat 0) (List.replicate (wrap64 ((l0.length : Int) + 2) : Int).toNat []) 0) else (none)) else (none)) else (none))) else (none)) else (none)) else (some (([] : List Int), 0, false, t355)))
theorem qf.zT : ∀ k, (∀ y0 y1 y2 y3 y4 y5 y6 y7, LeO (qf.l0 k y0 y1 y2 y3 y4 y5 y6 y7) (qf.l0 (k + 1) y0 y1 y2 y3 y4 y5 y6 y7)) ∧ (∀ y0 y1 y2 y3 y4 y5 y6 y7 y8, LeO (qf.l1 k y0 y1 y2 y3 y4 y5 y6 y7 y8) (qf.l1 (k + 1) y0 y1 y2 y3 y4 y5 y6 y7 y8)) ∧ (∀ y0 y1 y2 y3 y4 y5 y6 y7 y8 y9, LeO (qf.j2 k y0 y1 y2 y3 y4 y5 y6 y7 y8 y9) (qf.j2 (k + 1) y0 y1 y2 y3 y4 y5 y6 y7 y8 y9)) ∧ (∀ y0 y1 y2 y3 y4 y5 y6 y7 y8 y9 y10, LeO (qf.j3 k y0 y1 y2 y3 y4 y5 y6 y7 y8 y9 y10) (qf.j3 (k + 1) y0 y1 y2 y3 y4 y5 y6 y7 y8 y9 y10)) ∧ (∀ y0 y1 y2 y3 y4 y5 y6 y7 y8 y9 y10 y11, LeO (qf.j4 k y0 y1 y2 y3 y4 y5 y6 y7 y8 y9 y10 y11) (qf.j4 (k + 1) y0 y1 y2 y3 y4 y5 y6 y7 y8 y9 y10 y11))
 | 0 => ⟨fun _ _ _ _ _ _ _ _ r h => by simp [qf.l0] at h, fun _ _ _ _ _ _ _ _ _ r h => by simp [qf.l1] at h, fun _ _ _ _ _ _ _ _ _ _ r h => by simp [qf.j2] at h, fun _ _ _ _ _ _ _ _ _ _ _ r h => by simp [qf.j3] at h, fun _ _ _ _ _ _ _ _ _ _ _ _ r h => by simp [qf.j4] at h⟩
 | k + 1 => by
  obtain ⟨ih0, ih1, ih2, ih3, ih4⟩ := qf.zT k
  refine ⟨?_, ?_, ?_, ?_, ?_⟩
  ·intro y0 y1 y2 y3 y4 y5 y6 y7
   unfold qf.l0
   repeat' first
   | (with_reducible exact ih0 _ _ _ _ _ _ _ _)
   | (with_reducible exact ih1 _ _ _ _ _ _ _ _ _)
   | (with_reducible exact ih2 _ _ _ _ _ _ _ _ _ _)
   | (with_reducible exact ih3 _ _ _ _ _ _ _ _ _ _ _)
   | (with_reducible exact ih4 _ _ _ _ _ _ _ _ _ _ _ _)
   | (with_reducible exact zf.mono _ _ _ _)
   | (with_reducible exact qQ.mono _ _ _ _ _)
   | (with_reducible exact qp.mono _ _ _)
   | (with_reducible exact qY.mono _ _ _ _ _)
   | (with_reducible exact za.mono _ _ _)
   | (with_reducible exact LeO.refl _)
   | (with_reducible exact LeO.none _)
   | (with_reducible refine LeO.ite ?_ ?_)
   | (with_reducible refine LeO.bind ?_ (fun _ => ?_))
   | exact ih0 _ _ _ _ _ _ _ _
   | exact ih1 _ _ _ _ _ _ _ _ _
   | exact ih2 _ _ _ _ _ _ _ _ _ _
   | exact ih3 _ _ _ _ _ _ _ _ _ _ _
   | exact ih4 _ _ _ _ _ _ _ _ _ _ _ _
   | exact zf.mono _ _ _ _
   | exact qQ.mono _ _ _ _ _
   | exact qp.mono _ _ _
   | exact qY.mono _ _ _ _ _
   | exact za.mono _ _ _
   | exact LeO.none _
   | refine LeO.ite ?_ ?_
   | refine LeO.bind ?_ (fun _ => ?_)
  ·intro y0 y1 y2 y3 y4 y5 y6 y7 y8
   unfold qf.l1
   repeat' first
   | (with_reducible exact ih0 _ _ _ _ _ _ _ _)
   | (with_reducible exact ih1 _ _ _ _ _ _ _ _ _)
   | (with_reducible exact ih2 _ _ _ _ _ _ _ _ _ _)
   | (with_reducible exact ih3 _ _ _ _ _ _ _ _ _ _ _)
   | (with_reducible exact ih4 _ _ _ _ _ _ _ _ _ _ _ _)
   | (with_reducible exact zf.mono _ _ _ _)
   | (with_reducible exact qQ.mono _ _ _ _ _)
   | (with_reducible exact qp.mono _ _ _)
   | (with_reducible exact qY.mono _ _ _ _ _)
   | (with_reducible exact za.mono _ _ _)
   | (with_reducible exact LeO.refl _)
   | (with_reducible exact LeO.none _)
   | (with_reducible refine LeO.ite ?_ ?_)
   | (with_reducible refine LeO.bind ?_ (fun _ => ?_))
   | exact ih0 _ _ _ _ _ _ _ _
   | exact ih1 _ _ _ _ _ _ _ _ _
   | exact ih2 _ _ _ _ _ _ _ _ _ _
   | exact ih3 _ _ _ _ _ _ _ _ _ _ _
   | exact ih4 _ _ _ _ _ _ _ _ _ _ _ _
   | exact zf.mono _ _ _ _
   | exact qQ.mono _ _ _ _ _
   | exact qp.mono _ _ _
   | exact qY.mono _ _ _ _ _
   | exact za.mono _ _ _
   | exact LeO.none _
   | refine LeO.ite ?_ ?_
   | refine LeO.bind ?_ (fun _ => ?_)
  ·intro y0 y1 y2 y3 y4 y5 y6 y7 y8 y9
   unfold qf.j2
   repeat' first
   | (with_reducible exact ih0 _ _ _ _ _ _ _ _)
   | (with_reducible exact ih1 _ _ _ _ _ _ _ _ _)
   | (with_reducible exact ih2 _ _ _ _ _ _ _ _ _ _)
   | (with_reducible exact ih3 _ _ _ _ _ _ _ _ _ _ _)
   | (with_reducible exact ih4 _ _ _ _ _ _ _ _ _ _ _ _)
   | (with_reducible exact zf.mono _ _ _ _)
   | (with_reducible exact qQ.mono _ _ _ _ _)
   | (with_reducible exact qp.mono _ _ _)
   | (with_reducible exact qY.mono _ _ _ _ _)
   | (with_reducible exact za.mono _ _ _)
   | (with_reducible exact LeO.refl _)
   | (with_reducible exact LeO.none _)
   | (with_reducible refine LeO.ite ?_ ?_)
   | (with_reducible refine LeO.bind ?_ (fun _ => ?_))
   | exact ih0 _ _ _ _ _ _ _ _
   | exact ih1 _ _ _ _ _ _ _ _ _
   | exact ih2 _ _ _ _ _ _ _ _ _ _
   | exact ih3 _ _ _ _ _ _ _ _ _ _ _
   | exact ih4 _ _ _ _ _ _ _ _ _ _ _ _
   | exact zf.mono _ _ _ _
   | exact qQ.mono _ _ _ _ _
   | exact qp.mono _ _ _
   | exact qY.mono _ _ _ _ _
   | exact za.mono _ _ _
   | exact LeO.none _
   | refine LeO.ite ?_ ?_
   | refine LeO.bind ?_ (fun _ => ?_)
  ·intro y0 y1 y2 y3 y4 y5 y6 y7 y8 y9 y10
   unfold qf.j3
   repeat' first
   | (with_reducible exact ih0 _ _ _ _ _ _ _ _)
   | (with_reducible exact ih1 _ _ _ _ _ _ _ _ _)
   | (with_reducible exact ih2 _ _ _ _ _ _ _ _ _ _)
   | (with_reducible exact ih3 _ _ _ _ _ _ _ _ _ _ _)
   | (with_reducible exact ih4 _ _ _ _ _ _ _ _ _ _ _ _)
   | (with_reducible exact zf.mono _ _ _ _)
   | (with_reducible exact qQ.mono _ _ _ _ _)
   | (with_reducible exact qp.mono _ _ _)
   | (with_reducible exact qY.mono _ _ _ _ _)
   | (with_reducible exact za.mono _ _ _)
   | (with_reducible exact LeO.refl _)
   | (with_reducible exact LeO.none _)
   | (with_reducible refine LeO.ite ?_ ?_)
   | (with_reducible refine LeO.bind ?_ (fun _ => ?_))
   | exact ih0 _ _ _ _ _ _ _ _
   | exact ih1 _ _ _ _ _ _ _ _ _
   | exact ih2 _ _ _ _ _ _ _ _ _ _
   | exact ih3 _ _ _ _ _ _ _ _ _ _ _
   | exact ih4 _ _ _ _ _ _ _ _ _ _ _ _
   | exact zf.mono _ _ _ _
   | exact qQ.mono _ _ _ _ _
   | exact qp.mono _ _ _
   | exact qY.mono _ _ _ _ _
   | exact za.mono _ _ _
   | exact LeO.none _
   | refine LeO.ite ?_ ?_
   | refine LeO.bind ?_ (fun _ => ?_)
  ·intro y0 y1 y2 y3 y4 y5 y6 y7 y8 y9 y10 y11
   unfold qf.j4
   repeat' first
   | (with_reducible exact ih0 _ _ _ _ _ _ _ _)
   | (with_reducible exact ih1 _ _ _ _ _ _ _ _ _)
   | (with_reducible exact ih2 _ _ _ _ _ _ _ _ _ _)
   | (with_reducible exact ih3 _ _ _ _ _ _ _ _ _ _ _)
   | (with_reducible exact ih4 _ _ _ _ _ _ _ _ _ _ _ _)
   | (with_reducible exact zf.mono _ _ _ _)
   | (with_reducible exact qQ.mono _ _ _ _ _)
   | (with_reducible exact qp.mono _ _ _)
   | (with_reducible exact qY.mono _ _ _ _ _)
   | (with_reducible exact za.mono _ _ _)
   | (with_reducible exact LeO.refl _)
   | (with_reducible exact LeO.none _)
   | (with_reducible refine LeO.ite ?_ ?_)
   | (with_reducible refine LeO.bind ?_ (fun _ => ?_))
   | exact ih0 _ _ _ _ _ _ _ _
   | exact ih1 _ _ _ _ _ _ _ _ _
   | exact ih2 _ _ _ _ _ _ _ _ _ _
   | exact ih3 _ _ _ _ _ _ _ _ _ _ _
   | exact ih4 _ _ _ _ _ _ _ _ _ _ _ _
   | exact zf.mono _ _ _ _
   | exact qQ.mono _ _ _ _ _
   | exact qp.mono _ _ _
   | exact qY.mono _ _ _ _ _
   | exact za.mono _ _ _
   | exact LeO.none _
   | refine LeO.ite ?_ ?_
   | refine LeO.bind ?_ (fun _ => ?_)
theorem qf.mono : ∀ a0 a1 a2 k, LeO (qf.f k a0 a1 a2) (qf.f (k + 1) a0 a1 a2) := by
 intro a0 a1 a2 k
 obtain ⟨ih0, ih1, ih2, ih3, ih4⟩ := qf.zT k
 unfold qf.f
 repeat' first
   | (with_reducible exact ih0 _ _ _ _ _ _ _ _)
   | (with_reducible exact ih1 _ _ _ _ _ _ _ _ _)
   | (with_reducible exact ih2 _ _ _ _ _ _ _ _ _ _)
   | (with_reducible exact ih3 _ _ _ _ _ _ _ _ _ _ _)
   | (with_reducible exact ih4 _ _ _ _ _ _ _ _ _ _ _ _)
   | (with_reducible exact zf.mono _ _ _ _)
   | (with_reducible exact qQ.mono _ _ _ _ _)
   | (with_reducible exact qp.mono _ _ _)
   | (with_reducible exact qY.mono _ _ _ _ _)
   | (with_reducible exact za.mono _ _ _)
   | (with_reducible exact LeO.refl _)
   | (with_reducible exact LeO.none _)
   | (with_reducible refine LeO.ite ?_ ?_)
   | (with_reducible refine LeO.bind ?_ (fun _ => ?_))
   | exact ih0 _ _ _ _ _ _ _ _
   | exact ih1 _ _ _ _ _ _ _ _ _
   | exact ih2 _ _ _ _ _ _ _ _ _ _
   | exact ih3 _ _ _ _ _ _ _ _ _ _ _
   | exact ih4 _ _ _ _ _ _ _ _ _ _ _ _
   | exact zf.mono _ _ _ _
   | exact qQ.mono _ _ _ _ _
   | exact qp.mono _ _ _
   | exact qY.mono _ _ _ _ _
   | exact za.mono _ _ _
   | exact LeO.none _
   | refine LeO.ite ?_ ?_
   | refine LeO.bind ?_ (fun _ => ?_)
def qf.T19 : Bool × List (List Nat × List Nat) := (true, [([], []), ([], []), ([1], [1]), ([0, 2], [0, 2]), ([3], [3]), ([], []), ([], []), ([], []), ([], []), ([5, 6, 7, 8], [5, 6, 7, 8]), ([4, 9], [4, 9]), ([10, 9, 0, 1, 2, 3, 4, 5, 6, 7, 8, 9, 10], [10])])
def qf.B19 : List Nat := [0, 0, 2, 7, 15, 0, 0, 0, 0, 480, 1023, 2047]
theorem qf.tab19 : rtab .any (opsOf Try.f15 19) = qf.T19 := by kernel_rfl
theorem qf.bits19 : QY qf.T19.2 qf.B19 = true := by kernel_rfl
def qf.T27 : Bool × List (List Nat × List Nat) := (true, [([], []), ([], []), ([1], [1]), ([0, 2], [0, 2]), ([3], [3]), ([], []), ([], []), ([6], [6]), ([5, 7], [5, 7]), ([8], [8]), ([4, 9], [4, 9]), ([10, 0, 1, 2, 3, 4, 5, 6, 7, 8, 9, 10], [10]), ([11, 0, 1, 2, 3, 4, 5, 6, 7, 8, 9, 10, 11], [])])
def qf.B27 : List Nat := [0, 0, 2, 7, 15, 0, 0, 64, 224, 480, 1023, 2047, 4095]
theorem qf.tab27 : rtab .any (opsOf Try.f15 27) = qf.T27 := by kernel_rfl
theorem qf.bits27 : QY qf.T27.2 qf.B27 = true := by kernel_rfl
set_option maxHeartbeats 8000000 in
set_option maxRecDepth 100000 in
theorem qf.calls (k : Nat) (A0 : Option Addr) (c0 : Nat) (l0 : List (S31)) (a1 : Int) (a2 : Int) (r1 : List Int) (r2 : Int) (r3 : Bool) (r4 : Int) (w : World) (hr0 : Kd.C k31 w A0 l0.length l0) (hc0 : l0.length ≤ c0) (h : qf.f k l0 a1 a2 = some (r1, r2, r3, r4)) :
  Calls Try.prog 15 #[.slice A0 l0.length c0, .int .i64 a1, .int .i64 a2] w fun e w' => ∃ v0_ : Value, e = .returned (.tuple #[.agg #[v0_, .int .i64 r2, .bool r3], .int .i64 r4]) ∧ Kd.R (Kd.int .i64) 3 w' w.heap.size (fun _ => True) v0_ r1 ∧ Below w.heap.size w w' := by
 have hu26 := Try.underlying26
 have HR0 := qa.mk hr0
 have HC0 := qa.mk hc0
 clear hr0 hc0
 have HB := qa.mk (Below.refl w.heap.size w)
 have H : ((zf.f k l0 a1 a2).bind fun t355 => (if t355 = 0 then (if 0 ≤ (wrap64 ((l0.length : Int) + 2)) then (if (wrap64 ((l0.length : Int) + 2) : Int).toNat ≤ 281474976710656 then ((some (List.replicate (wrap64 ((l0.length : Int) + 2) : Int).toNat false : List Bool)).bind fun y356 => (if (wrap64 ((l0.length : Int) + 2) : Int).toNat ≤ 35184372088832 then (if (wrap64 ((l0.length : Int) + 2) : Int).toNat ≤ 11728124029610 then (if 0 < (y356.length : Int) then (qf.l0 k l0 a1 a2 (l0.length : Int) (y356.set (0 : Int).toNat true) (List.replicate (wrap64 ((l0.length : Int) + 2) : Int).toNat 0) (List.replicate (wrap64 ((l0.length : Int) + 2) : Int).toNat []) 0) else (none)) else (none)) else (none))) else (none)) else (none)) else (some (([] : List Int), 0, false, t355)))) = some (r1, r2, r3, r4) := h
 clear h
 replace H := Option.bind_eq_some_iff.mp H
 obtain ⟨t355, A40, H⟩ := H
 replace H : (if t355 = 0 then (if 0 ≤ (wrap64 ((l0.length : Int) + 2)) then (if (wrap64 ((l0.length : Int) + 2) : Int).toNat ≤ 281474976710656 then ((some (List.replicate (wrap64 ((l0.length : Int) + 2) : Int).toNat false : List Bool)).bind fun y356 => (if (wrap64 ((l0.length : Int) + 2) : Int).toNat ≤ 35184372088832 then (if (wrap64 ((l0.length : Int) + 2) : Int).toNat ≤ 11728124029610 then (if 0 < (y356.length : Int) then (qf.l0 k l0 a1 a2 (l0.length : Int) (y356.set (0 : Int).toNat true) (List.replicate (wrap64 ((l0.length : Int) + 2) : Int).toNat 0) (List.replicate (wrap64 ((l0.length : Int) + 2) : Int).toNat []) 0) else (none)) else (none)) else (none))) else (none)) else (none)) else (some (([] : List Int), 0, false, t355))) = some (r1, r2, r3, r4) := H
 have A4 := qa.mk A40
 clear A40
 by_cases c5 : t355 = 0
 case neg =>
  rw [if_neg c5] at H
  have c5b0 : (t355 == 0) = false := beq_eq_false_iff_ne.mpr c5
  have c5b1 : (t355 != 0) = true := bne_iff_ne.mpr c5
  simp only [Option.some.injEq, Prod.mk.injEq] at H
  obtain ⟨rfl, rfl, rfl, rfl⟩ := H
  go_enter Try.func15, Try.ntmps15
  go_wp2_with (first | ((with_reducible refine zw (N := 6) rfl ?_); refine zB ?hg (N := 6) ?hd (cs := #[.slice none 0 0, .int .i64 0, .bool false]) (t := 26) ?hr ?_; (case hd => rfl); (case hg => rfl); (case hr => first | (go_simp; done) | (go_simp; rfl)); intro gb354 hg w118 hbox hb; have n0_ := qa.mk (qP (bq HB) hb); have n1_ := qa.mk (hbox); have n2_ := qa.mk ((by rw [hg]; exact (qI (bq HB)) : w.heap.size ≤ gb354)); have n3_ := qa.mk ((by rw [hg]; exact (qI (bq HB)) : w.heap.size ≤ gb354)); clear HB; have HB := n0_; have BK354 := n1_; have GW354 := n2_; have GE354 := n3_; clear n0_ n1_ n2_ n3_; clear hb hbox hg) | ((with_reducible refine zl (f := 14) rfl ?_); refine zM (some 23) rfl rfl Try.func14 (by kernel_rfl) rfl #[.slice A0 l0.length c0, .int .i64 a1, .int .i64 a2] rfl (by (try simp only [List.map_toArray, List.map_cons, List.map_nil]); first | done | rfl | (simp only [List.length_drop, List.length_take]; rfl)) ?_; (with_reducible refine (zf.calls k _ _ l0 a1 a2 t355 _ ?side1 ?side2 A4.out).mono ?_); (case side1 => repeat (first | exact (Kd.zS HR0.out HB.out) | (with_reducible refine Kd.zI ?_ _) | (with_reducible refine Kd.zH ?_ _) | (with_reducible refine Kd.zL ?_))); (case side2 => exact HC0.out); rintro e w119 ⟨rfl, hb⟩; refine ⟨_, rfl, ?_⟩; have n0_ := qa.mk (zD (g := gb354) (o := .cells #[.slice none 0 0, .int .i64 0, .bool false] 26 (0, 0)) (kq BK354) hb); have n1_ := qa.mk (qP (bs HB GE354) hb); clear BK354; clear HB; have BK354 := n0_; have HB := n1_; clear n0_ n1_; (try clear hb); (try clear hb2); (try clear hk); (try clear hi); have hcz120_0 : w119.cell? ⟨gb354, 0, none⟩ = some (.slice none 0 0) := (ql BK354.out 0).trans rfl; have hcz120_1 : w119.cell? ⟨gb354, 1, none⟩ = some (.int .i64 0) := (ql BK354.out 1).trans rfl; have hcz120_2 : w119.cell? ⟨gb354, 2, none⟩ = some (.bool false) := (ql BK354.out 2).trans rfl; have hfz120_0 := qg BK354.out 0; have hfz120_1 := qg BK354.out 1; have hfz120_2 := qg BK354.out 2))
  refine bodyPost_ret (jZ rfl _ _ gb354 26 #[.slice none 0 0, .int .i64 0, .bool false] (0, 0) _ rfl (by (with_reducible repeat (first | refine qj ?_ _ | refine qo ?_ | refine qi ?_ _)); refine qR (cs := #[.slice none 0 0, .int .i64 0, .bool false]) ?_ 2 _ rfl; (with_reducible repeat (first | refine qj ?_ _ | refine qo ?_ | refine qi ?_ _)); refine qR (cs := #[.slice none 0 0, .int .i64 0, .bool false]) ?_ 1 _ rfl; (with_reducible repeat (first | refine qj ?_ _ | refine qo ?_ | refine qi ?_ _)); refine qR (cs := #[.slice none 0 0, .int .i64 0, .bool false]) ?_ 0 _ rfl; exact kq BK354) Try.underlying26 rfl (by kernel_rfl)) rfl ?_
  exact ⟨_, by first | rfl | (simp [qN, qM] <;> rfl) | (simp [*, qN, qM] <;> rfl), by first | exact Kd.Zm _ _ _ _ _ | exact Kd.N_nil _ _ _ _ _ | exact Kd.V_nil _ _ _ _ _ | exact Kd.Q_nil _ _ _ _ _ | exact Kd.S_nil _ _ _ _ _, bs HB GE354⟩
 rw [if_pos c5] at H
 have c5b0 : (t355 == 0) = true := beq_iff_eq.mpr c5
 have c5b1 : (t355 != 0) = false := bne_eq_false_iff_eq.mpr c5
 clear c5
 obtain ⟨ji6, hji6⟩ : ∃ j_ : Int, (wrap64 ((l0.length : Int) + 2)) = j_ := ⟨_, rfl⟩
 replace H : (if 0 ≤ (ji6) then (if (ji6 : Int).toNat ≤ 281474976710656 then ((some (List.replicate (ji6 : Int).toNat false : List Bool)).bind fun y356 => (if (ji6 : Int).toNat ≤ 35184372088832 then (if (ji6 : Int).toNat ≤ 11728124029610 then (if 0 < (y356.length : Int) then (qf.l0 k l0 a1 a2 (l0.length : Int) (y356.set (0 : Int).toNat true) (List.replicate (ji6 : Int).toNat 0) (List.replicate (ji6 : Int).toNat []) 0) else (none)) else (none)) else (none))) else (none)) else (none)) = some (r1, r2, r3, r4) := by first | (rw [hji6] at H; exact H) | (simp only [hji6] at H ⊢; exact H)
 (try rw [hji6] at A4)
 have hji6w : (IntKind.i64.wrap ((l0.length : Int) + 2)) = ji6 := (zJ _).trans hji6
 by_cases c7 : 0 ≤ (ji6)
 case neg =>
  rw [if_neg c7] at H
  exact absurd H (by simp)
 rw [if_pos c7] at H
 have c7b0 := eq_true c7
 have c7b1 : decide (0 ≤ (ji6)) = true := decide_eq_true c7
 clear c7
 by_cases c8 : (ji6 : Int).toNat ≤ 281474976710656
 case neg =>
  rw [if_neg c8] at H
  exact absurd H (by simp)
 rw [if_pos c8] at H
 have c8b0 := eq_true c8
 have c8b1 : decide ((ji6 : Int).toNat ≤ 281474976710656) = true := decide_eq_true c8
 clear c8
 obtain ⟨y356, hy356⟩ : ∃ y_ : List Bool, y_ = (List.replicate (ji6 : Int).toNat false) := ⟨_, rfl⟩
 replace H : (if (ji6 : Int).toNat ≤ 35184372088832 then (if (ji6 : Int).toNat ≤ 11728124029610 then (if 0 < (y356.length : Int) then (qf.l0 k l0 a1 a2 (l0.length : Int) (y356.set (0 : Int).toNat true) (List.replicate (ji6 : Int).toNat 0) (List.replicate (ji6 : Int).toNat []) 0) else (none)) else (none)) else (none)) = some (r1, r2, r3, r4) := by first | (rw [hy356]; with_reducible exact H) | (have H2_ := (Option.bind_some _ _).symm.trans H; rw [hy356]; with_reducible exact H2_) | (have H2_ := (Option.bind_some _ _).symm.trans H; with_reducible exact H2_) | with_reducible exact H | (rw [hy356]; exact H) | exact H
 have Ny356 := qa.mk hy356
 clear hy356
 by_cases c9 : (ji6 : Int).toNat ≤ 35184372088832
 case neg =>
  rw [if_neg c9] at H
  exact absurd H (by simp)
 rw [if_pos c9] at H
 have c9b0 := eq_true c9
 have c9b1 : decide ((ji6 : Int).toNat ≤ 35184372088832) = true := decide_eq_true c9
 clear c9
 obtain ⟨y359, hy359⟩ : ∃ y_ : List Int, y_ = (List.replicate (ji6 : Int).toNat 0) := ⟨_, rfl⟩
 replace H : (if (ji6 : Int).toNat ≤ 11728124029610 then (if 0 < (y356.length : Int) then (qf.l0 k l0 a1 a2 (l0.length : Int) (y356.set (0 : Int).toNat true) y359 (List.replicate (ji6 : Int).toNat []) 0) else (none)) else (none)) = some (r1, r2, r3, r4) := by first | (rw [hy359]; with_reducible exact H) | (have H2_ := (Option.bind_some _ _).symm.trans H; rw [hy359]; with_reducible exact H2_) | (have H2_ := (Option.bind_some _ _).symm.trans H; with_reducible exact H2_) | with_reducible exact H | (rw [hy359]; exact H) | exact H
 have Ny359 := qa.mk hy359
 clear hy359
 by_cases c10 : (ji6 : Int).toNat ≤ 11728124029610
 case neg =>
  rw [if_neg c10] at H
  exact absurd H (by simp)
 rw [if_pos c10] at H
 have c10b0 := eq_true c10
 have c10b1 : decide ((ji6 : Int).toNat ≤ 11728124029610) = true := decide_eq_true c10
 clear c10
 obtain ⟨y362, hy362⟩ : ∃ y_ : List (List Int), y_ = (List.replicate (ji6 : Int).toNat []) := ⟨_, rfl⟩
 replace H : (if 0 < (y356.length : Int) then (qf.l0 k l0 a1 a2 (l0.length : Int) (y356.set (0 : Int).toNat true) y359 y362 0) else (none)) = some (r1, r2, r3, r4) := by first | (rw [hy362]; with_reducible exact H) | (have H2_ := (Option.bind_some _ _).symm.trans H; rw [hy362]; with_reducible exact H2_) | (have H2_ := (Option.bind_some _ _).symm.trans H; with_reducible exact H2_) | with_reducible exact H | (rw [hy362]; exact H) | exact H
 have Ny362 := qa.mk hy362
 clear hy362
 by_cases c11 : 0 < (y356.length : Int)
 case neg =>
  rw [if_neg c11] at H
  exact absurd H (by simp)
 rw [if_pos c11] at H
 have c11b0 : decide (0 < (y356.length : Int)) = true := decide_eq_true c11
 have c11b1 : decide (0 < y356.length) = true := decide_eq_true (by omega)
 clear c11
 obtain ⟨y365, hy365⟩ : ∃ y_ : List Bool, y_ = (y356.set (0 : Int).toNat true) := ⟨_, rfl⟩
 replace H : (qf.l0 k l0 a1 a2 (l0.length : Int) y365 y359 y362 0) = some (r1, r2, r3, r4) := by first | (rw [hy365]; with_reducible exact H) | (have H2_ := (Option.bind_some _ _).symm.trans H; rw [hy365]; with_reducible exact H2_) | (have H2_ := (Option.bind_some _ _).symm.trans H; with_reducible exact H2_) | with_reducible exact H | (rw [hy365]; exact H) | exact H
 have Ny365 := qa.mk hy365
 clear hy365
 have H' := qa.mk H
 clear H
 go_enter Try.func15, Try.ntmps15
 go_wp2_with (first | ((with_reducible refine zw (N := 6) rfl ?_); refine zB ?hg (N := 6) ?hd (cs := #[.slice none 0 0, .int .i64 0, .bool false]) (t := 26) ?hr ?_; (case hd => rfl); (case hg => rfl); (case hr => first | (go_simp; done) | (go_simp; rfl)); intro gb354 hg w13 hbox hb; have n0_ := qa.mk (qP (bq HB) hb); have n1_ := qa.mk (hbox); have n2_ := qa.mk ((by rw [hg]; exact (qI (bq HB)) : w.heap.size ≤ gb354)); have n3_ := qa.mk ((by rw [hg]; exact (qI (bq HB)) : w.heap.size ≤ gb354)); clear HB; have HB := n0_; have BK354 := n1_; have GW354 := n2_; have GE354 := n3_; clear n0_ n1_ n2_ n3_; clear hb hbox hg) | ((with_reducible refine zl (f := 14) rfl ?_); refine zM (some 23) rfl rfl Try.func14 (by kernel_rfl) rfl #[.slice A0 l0.length c0, .int .i64 a1, .int .i64 a2] rfl (by (try simp only [List.map_toArray, List.map_cons, List.map_nil]); first | done | rfl | (simp only [List.length_drop, List.length_take]; rfl)) ?_; (with_reducible refine (zf.calls k _ _ l0 a1 a2 t355 _ ?side1 ?side2 A4.out).mono ?_); (case side1 => repeat (first | exact (Kd.zS HR0.out HB.out) | (with_reducible refine Kd.zI ?_ _) | (with_reducible refine Kd.zH ?_ _) | (with_reducible refine Kd.zL ?_))); (case side2 => exact HC0.out); rintro e w14 ⟨rfl, hb⟩; refine ⟨_, rfl, ?_⟩; have n0_ := qa.mk (zD (g := gb354) (o := .cells #[.slice none 0 0, .int .i64 0, .bool false] 26 (0, 0)) (kq BK354) hb); have n1_ := qa.mk (qP (bs HB GE354) hb); clear BK354; clear HB; have BK354 := n0_; have HB := n1_; clear n0_ n1_; (try clear hb); (try clear hb2); (try clear hk); (try clear hi)) | ((with_reducible refine zw (N := 32) rfl ?_); refine Kd.R_make Kd.bool _ 4 rfl (N := 32) rfl 61 _ _ rfl ji6 rfl rfl Try.underlying61 (.bool false) 1 info4 rfl (by decide) (by omega) false (ok := fun _ => True) (okp := fun _ => True) rfl (fun _ hk => hk) trivial (odt) (Nat.le_trans (Nat.mul_le_mul_right _ (odt : ji6.toNat ≤ 281474976710656)) (by omega)) (Below.refl _ _) (Nat.le_refl _) ?_; intro v357 w15 ho16 hb hg_ hnew_; clear hg_ hnew_; (first | rw [← Ny356.out] at ho16 | (simp only [Int.reduceToNat] at ho16; rw [← Ny356.out] at ho16)); have n0_ := qa.mk (Kd.jm ho16 (qI (bs HB GE354))); have n1_ := qa.mk (zD (g := gb354) (o := .cells #[.slice none 0 0, .int .i64 0, .bool false] 26 (0, 0)) (kq BK354) hb); have n2_ := qa.mk (qP (bs HB GE354) hb); clear BK354; clear HB; have HO358 := n0_; have BK354 := n1_; have HB := n2_; clear n0_ n1_ n2_; clear hb ho16) | ((with_reducible refine zw (N := 35) rfl ?_); refine Kd.R_make (Kd.int .i64) _ 3 rfl (N := 35) rfl 24 _ _ rfl ji6 rfl rfl Try.underlying24 (.int .i64 0) 8 info3 rfl (by decide) (by omega) 0 (ok := fun _ => True) (okp := fun _ => True) rfl (fun _ hk => hk) trivial (odt) (Nat.le_trans (Nat.mul_le_mul_right _ (odt : ji6.toNat ≤ 35184372088832)) (by omega)) (Below.refl _ _) (Nat.le_refl _) ?_; intro v360 w17 ho18 hb hg_ hnew_; clear hg_ hnew_; (first | rw [← Ny359.out] at ho18 | (simp only [Int.reduceToNat] at ho18; rw [← Ny359.out] at ho18)); have n0_ := qa.mk (Kd.zz (rq HO358) hb); have n1_ := qa.mk (Kd.jm ho18 (qI (bs HB GE354))); have n2_ := qa.mk (zD (g := gb354) (o := .cells #[.slice none 0 0, .int .i64 0, .bool false] 26 (0, 0)) (kq BK354) hb); have n3_ := qa.mk (qP (bs HB GE354) hb); clear HO358; clear BK354; clear HB; have HO358 := n0_; have HO361 := n1_; have BK354 := n2_; have HB := n3_; clear n0_ n1_ n2_ n3_; clear hb ho18) | ((with_reducible refine zw (N := 38) rfl ?_); refine Kd.S_make (Kd.slice 3 (Kd.int .i64)) _ 24 rfl (N := 38) rfl 62 _ _ rfl ji6 rfl rfl Try.underlying62 (.slice none 0 0) 24 info24 rfl (by decide) (by omega) [] (ok := fun _ => True) (okp := fun _ => True) ⟨_, rfl, Kd.Zm _ _ _ _ _⟩ (fun _ hk => hk) trivial (odt) (Nat.le_trans (Nat.mul_le_mul_right _ (odt : ji6.toNat ≤ 11728124029610)) (by omega)) (Below.refl _ _) (Nat.le_refl _) ?_; intro v363 w19 ho20 hb hg_ hnew_; clear hg_ hnew_; (first | rw [← Ny362.out] at ho20 | (simp only [Int.reduceToNat] at ho20; rw [← Ny362.out] at ho20)); have n0_ := qa.mk (Kd.zz (rq HO358) hb); have n1_ := qa.mk (Kd.zz (rq HO361) hb); have n2_ := qa.mk (Kd.S_lower (Kd.S_new' ho20 (Kd.QN (rq HO361))) (qI (bs HB GE354))); have n3_ := qa.mk (zD (g := gb354) (o := .cells #[.slice none 0 0, .int .i64 0, .bool false] 26 (0, 0)) (kq BK354) hb); have n4_ := qa.mk (qP (bs HB GE354) hb); clear HO358; clear HO361; clear BK354; clear HB; have HO358 := n0_; have HO361 := n1_; have HO364 := n2_; have BK354 := n3_; have HB := n4_; clear n0_ n1_ n2_ n3_ n4_; clear hb ho20; have p12 : 0 ≤ (0 : Int) := (by omega); have q12 : (0 : Int) < ((y356.length : Int) : Int) := odt; have qi12 : (0 < y356.length) = True := eq_true (by omega); obtain ⟨go12, co12, eo12, gb12, gl12, cl12, HG12⟩ := Kd.ZR HO358.out (by omega); (first | cases eo12 | (injection eo12 with ea_ en_ ec_; (first | subst ea_ | (injection ea_ with ea_; subst ea_)); subst ec_; clear en_)); have GB12 := qa.mk gb12; have GG12 := qa.mk HG12; clear gb12 gl12 HG12; obtain ⟨hx12_0, hf12_0⟩ := Kd.QD false HO358.out (0 : Int) p12 q12; (try rw [show ((0 : Int)).toNat = 0 from rfl] at hx12_0); (try simp only [Nat.reduceMul, Nat.zero_mul, Nat.zero_add, Nat.reduceAdd] at hx12_0); (try rw [show ((0 : Int)).toNat = 0 from rfl] at hf12_0); (try simp only [Nat.reduceMul, Nat.zero_mul, Nat.zero_add, Nat.reduceAdd] at hf12_0); replace p12 := eq_true p12; replace q12 := eq_true q12; obtain ⟨hy21_, hz21_⟩ := Kd.QD false HO358.out (0 : Int) (by omega) (odt); (try simp only [Int.reduceToNat, Int.toNat_zero, Int.toNat_ofNat, Nat.reduceMul, Nat.zero_mul, Nat.zero_add] at hy21_ hz21_); (try rw [show ((0 : Int)).toNat = 0 from rfl] at hy21_); (try rw [show ((0 : Int)).toNat = 0 from rfl] at hz21_); have HP21 := Kd.Zq HO358.out (0 : Int) true) | ((with_reducible refine jY (t := 4) (p := 40) rfl ?_); refine jT (t := 4) (p := 40) (v := ?vo_w22) (w1 := (w19.setCell ⟨go12, (0 : Int).toNat, none⟩ (.bool true))) ?hg ?ho ?hn ?hr ?_; (case ho => rfl); (case hg => rfl); (case hn => rfl); (case hr => first | (go_simp; done) | (go_simp; rfl)); intro w22 hw; have hg : w19.grownBy w22 (some go12) := (by rw [hw]; exact HP21.2); have hp_ : Kd.R Kd.bool 4 w22 w.heap.size (fun _ => True) (.slice (some ⟨go12, 0, none⟩) y356.length co12) y365 := (by rw [hw, Ny365.out]; exact HP21.1); clear HP21; have n0_ := qa.mk (jd (g := gb354) (o := .cells #[.slice none 0 0, .int .i64 0, .bool false] 26 (0, 0)) (kq BK354) hg (Kd.jP HO358.out BK354.out (by decide))); have n1_ := qa.mk (hp_); have n2_ := qa.mk (Kd.jV (v := (.slice (some ⟨go12, 0, none⟩) y356.length co12)) (rq HO361) (Kd.Qa HO358.out) (by decide) hg); have n3_ := qa.mk (Kd.Jp (v := (.slice (some ⟨go12, 0, none⟩) y356.length co12)) (by (with_reducible repeat (first | apply Kd.jb | apply Kd.ja | apply Kd.jg)); exact HO364.out) (Kd.Qa HO358.out) (by decide) hg); have n4_ := qa.mk ((by rw [hw]; exact qm (HB.out) GB12.out : Below w.heap.size w w22)); clear BK354; clear HO358; clear HO361; clear HO364; clear HB; have BK354 := n0_; have HO358 := n1_; have HO361 := n2_; have HO364 := n3_; have HB := n4_; clear n0_ n1_ n2_ n3_ n4_; clear hg hw hp_))
 go_loopg [13] k (fun kq v13 w' => ∃ (x10_1 : List Bool) (x11_1 : List Int) (x12_1 : List (List Int)) (x13_1 : Int), v13 = .int .i64 x13_1 ∧ qa (qf.l0 kq l0 a1 a2 (l0.length : Int) x10_1 x11_1 x12_1 x13_1 = some (r1, r2, r3, r4)) ∧ qa (kq ≤ k) ∧ qa (Kd.R Kd.bool 4 w' w.heap.size (fun _ => True) (.slice (some ⟨go12, 0, none⟩) y356.length co12) x10_1) ∧ qa (Kd.R (Kd.int .i64) 3 w' w.heap.size (fun _ => True) v360 x11_1) ∧ qa (Kd.S (Kd.slice 3 (Kd.int .i64)) 24 w' w.heap.size (fun k_ => some k_ ≠ (v360 : Value).ownBlock) v363 x12_1) ∧ qa (w'.heap[gb354]? = some (.cells #[(.slice none 0 0), .int .i64 0, .bool false] 26 (0, 0))) ∧ qa (Below w.heap.size w w'))
 case atStart => exact ⟨(y365), (y359), (y362), (0), (by first | rfl | (simp; done) | (simp [*]; done)), H', ⟨Nat.le_refl _⟩, ⟨rq HO358⟩, ⟨rq HO361⟩, ⟨by (with_reducible repeat (first | apply Kd.jb | apply Kd.ja | apply Kd.jg)); exact Kd.QQ HO364.out (fun _ hk => hk.2)⟩, ⟨kq BK354⟩, ⟨bs HB GE354⟩⟩
 case round =>
  clear H'
  try clear c1
  try clear p1
  try clear q1
  try clear hx1
  try clear qi1
  try clear p2
  try clear c5
  try clear c5b0
  try clear c5b1
  try clear p6
  try clear c7
  try clear c7b0
  try clear c7b1
  try clear c8
  try clear c8b0
  try clear c8b1
  try clear c9
  try clear c9b0
  try clear c9b1
  try clear c10
  try clear c10b0
  try clear c10b1
  try clear c11
  try clear c11b0
  try clear c11b1
  try clear p12
  try clear q12
  try clear hx12
  try clear qi12
  try clear hf12
  try clear c14
  try clear c15
  try clear hx12_0
  try clear p12
  try clear q12
  obtain ⟨x10_1, x11_1, x12_1, x13_1, rfl, HA, HK1, HO_10, HO_11, HO_12, BK354, HB⟩ := hrel
  have hl10_1 := (Kd.zm HO_10.out).1
  rw [hl10_1] at HO_10
  (try simp only [hl10_1])
  (try simp only [hl10_1] at BK354)
  (try simp only [hl10_1] at HO_11)
  (try simp only [hl10_1] at HO_12)
  cases gk with
  | zero => exact absurd HA.out (by simp [qf.l0])
  | succ k1 =>
   have H := HA.out
   clear HA
   simp only [qf.l0] at H
   by_cases c23 : x13_1 ≤ (l0.length : Int)
   case neg =>
    rw [if_neg c23] at H
    have c23b0 : decide (x13_1 ≤ (l0.length : Int)) = false := decide_eq_false c23
    clear c23
    obtain ⟨ji101, hji101⟩ : ∃ j_ : Int, (wrap64 ((l0.length : Int) + 1)) = j_ := ⟨_, rfl⟩
    replace H : (if 0 ≤ (ji101) then (if (ji101) < (x10_1.length : Int) then (if jN false x10_1 (ji101) = true then (if (ji101) < (x12_1.length : Int) then (if (ji101) < (x11_1.length : Int) then (some (jc x12_1 (ji101), rd x11_1 (ji101), false, 0)) else (none)) else (none)) else ((qp.f k1 l0 a1).bind fun t369 => (some (t369, 0, true, 0)))) else (none)) else (none)) = some (r1, r2, r3, r4) := by first | (rw [hji101] at H; exact H) | (simp only [hji101] at H ⊢; exact H)
    have hji101w : (IntKind.i64.wrap ((l0.length : Int) + 1)) = ji101 := (zJ _).trans hji101
    by_cases c102 : 0 ≤ (ji101)
    case neg =>
     rw [if_neg c102] at H
     exact absurd H (by simp)
    rw [if_pos c102] at H
    have c102b0 : decide (0 ≤ (ji101)) = true := decide_eq_true c102
    clear c102
    by_cases c103 : (ji101) < (x10_1.length : Int)
    case neg =>
     rw [if_neg c103] at H
     exact absurd H (by simp)
    rw [if_pos c103] at H
    have c103b0 : decide ((ji101) < (x10_1.length : Int)) = true := decide_eq_true c103
    clear c103
    obtain ⟨bq104, hbq104⟩ : ∃ b_ : Bool, b_ = (jN false x10_1 (ji101)) := ⟨_, rfl⟩
    replace H : (if bq104 = true then (if (ji101) < (x12_1.length : Int) then (if (ji101) < (x11_1.length : Int) then (some (jc x12_1 (ji101), rd x11_1 (ji101), false, 0)) else (none)) else (none)) else ((qp.f k1 l0 a1).bind fun t369 => (some (t369, 0, true, 0)))) = some (r1, r2, r3, r4) := by rw [← hbq104] at H; exact H
    have Nbq104 := qa.mk hbq104
    clear hbq104
    by_cases c105 : bq104 = true
    case neg =>
     replace c105 := Bool.eq_false_iff.mpr c105
     subst c105
     have H1 : ((qp.f k1 l0 a1).bind fun t369 => (some (t369, 0, true, 0))) = some (r1, r2, r3, r4) := by rw [if_neg (show ¬ (false = true) by decide)] at H; exact H
     clear H
     have H := H1
     clear H1
     replace H := Option.bind_eq_some_iff.mp H
     obtain ⟨t369, A1140, H⟩ := H
     replace H : (some (t369, 0, true, 0)) = some (r1, r2, r3, r4) := H
     have A114 := qa.mk A1140
     clear A1140
     simp only [Option.some.injEq, Prod.mk.injEq] at H
     obtain ⟨rfl, rfl, rfl, rfl⟩ := H
     have p366 : 0 ≤ ((ji101) : Int) := odt
     have q366 : (ji101) < (x10_1.length : Int) := odt
     obtain ⟨ad366, e366, hx366_0⟩ := Kd.Q8 (Kd.zm HO_10.out).2.2 (ji101) p366 q366
     (try rw [← Nbq104.out] at hx366_0)
     obtain rfl : (⟨go12, 0, none⟩ : Addr) = ad366 := (by injection e366)
     (first | simp only [add_plain] at hx366_0 | simp only [jW] at hx366_0 | simp only [Addr.add, Nat.zero_add] at hx366_0 | skip)
     replace p366 := eq_true p366
     replace q366 := eq_true q366
     go_wp2_with (first | ((with_reducible refine zl (f := 34) rfl ?_); refine zM (some 179) rfl rfl Try.func34 (by kernel_rfl) rfl #[.slice A0 l0.length c0, .int .i64 a1] rfl (by (try simp only [List.map_toArray, List.map_cons, List.map_nil]); first | done | rfl | (simp only [List.length_drop, List.length_take]; rfl)) ?_; (with_reducible refine (qp.calls k1 _ _ l0 a1 t369 _ ?side1 ?side2 A114.out).mono ?_); (case side1 => repeat (first | exact (Kd.zS HR0.out HB.out) | (with_reducible refine Kd.zI ?_ _) | (with_reducible refine Kd.zH ?_ _) | (with_reducible refine Kd.zL ?_))); (case side2 => exact HC0.out); rintro e w115 ⟨v370, rfl, ho0, hb⟩; refine ⟨_, rfl, ?_⟩; have n0_ := qa.mk (Kd.zz (rq HO_10) hb); have n1_ := qa.mk (Kd.Qk (rq HO_11) (Kd.Qu ho0) hb); have n2_ := qa.mk (Kd.S_elder' (by (with_reducible repeat (first | apply Kd.jb | apply Kd.ja | apply Kd.jg)); exact HO_12.out) (Kd.Qu ho0) hb); have n3_ := qa.mk (Kd.jm (Kd.QA ho0 (Kd.QN (rq HO_11))) (qI (bs HB GE354))); have n4_ := qa.mk (zD (g := gb354) (o := .cells #[.slice none 0 0, .int .i64 0, .bool false] 26 (0, 0)) (kq BK354) hb); have n5_ := qa.mk (qP (bs HB GE354) hb); clear HO_10; clear HO_11; clear HO_12; clear BK354; clear HB; have HO_10 := n0_; have HO_11 := n1_; have HO_12 := n2_; have HO371 := n3_; have BK354 := n4_; have HB := n5_; clear n0_ n1_ n2_ n3_ n4_ n5_; (try clear hb); (try clear hb2); (try clear hk); (try clear hi); (try clear ho0); obtain ⟨Ao116, co116, eo116⟩ := Kd.jo HO371.out; subst eo116; have hcz117_0 : w115.cell? ⟨gb354, 0, none⟩ = some (.slice none 0 0) := (ql BK354.out 0).trans rfl; have hcz117_1 : w115.cell? ⟨gb354, 1, none⟩ = some (.int .i64 0) := (ql BK354.out 1).trans rfl; have hcz117_2 : w115.cell? ⟨gb354, 2, none⟩ = some (.bool false) := (ql BK354.out 2).trans rfl; have hfz117_0 := qg BK354.out 0; have hfz117_1 := qg BK354.out 1; have hfz117_2 := qg BK354.out 2))
     refine bodyPost_ret (jZ rfl _ _ gb354 26 #[.slice Ao116 t369.length co116, .int .i64 0, .bool true] (0, 0) _ rfl (by (with_reducible repeat (first | refine qj ?_ _ | refine qo ?_ | refine qi ?_ _)); refine qR (cs := #[.slice Ao116 t369.length co116, .int .i64 0, .bool false]) ?_ 2 _ rfl; (with_reducible repeat (first | refine qj ?_ _ | refine qo ?_ | refine qi ?_ _)); refine qR (cs := #[.slice Ao116 t369.length co116, .int .i64 0, .bool false]) ?_ 1 _ rfl; (with_reducible repeat (first | refine qj ?_ _ | refine qo ?_ | refine qi ?_ _)); refine qR (cs := #[.slice none 0 0, .int .i64 0, .bool false]) ?_ 0 _ rfl; exact kq BK354) Try.underlying26 rfl (by kernel_rfl)) rfl ?_
     exact ⟨_, by first | rfl | (simp [qN, qM] <;> rfl) | (simp only [← hji6, ← hji101]; first | rfl | (simp [qN, qM] <;> rfl)) | (simp [*, qN, qM] <;> rfl), by (with_reducible repeat (first | apply Kd.qD | apply Kd.qE | apply Kd.qG)); exact Kd.zi (Kd.ze (p := ⟨gb354, 2, none⟩) (Kd.ze (p := ⟨gb354, 1, none⟩) (Kd.ze (p := ⟨gb354, 0, none⟩) (Kd.zO HO371.out BK354.out (by decide)) (fun _ hk => hk.2) (.slice Ao116 t369.length co116)) (fun _ hk => hk.2) (.int .i64 0)) (fun _ hk => hk.2) (.bool true)) (fun _ hk => trivial), bs HB GE354⟩
    subst c105
    have H1 : (if (ji101) < (x12_1.length : Int) then (if (ji101) < (x11_1.length : Int) then (some (jc x12_1 (ji101), rd x11_1 (ji101), false, 0)) else (none)) else (none)) = some (r1, r2, r3, r4) := by rw [if_pos rfl] at H; exact H
    clear H
    have H := H1
    clear H1
    by_cases c106 : (ji101) < (x12_1.length : Int)
    case neg =>
     rw [if_neg c106] at H
     exact absurd H (by simp)
    rw [if_pos c106] at H
    have c106b0 : decide ((ji101) < (x12_1.length : Int)) = true := decide_eq_true c106
    clear c106
    by_cases c107 : (ji101) < (x11_1.length : Int)
    case neg =>
     rw [if_neg c107] at H
     exact absurd H (by simp)
    rw [if_pos c107] at H
    have c107b0 : decide ((ji101) < (x11_1.length : Int)) = true := decide_eq_true c107
    clear c107
    simp only [Option.some.injEq, Prod.mk.injEq] at H
    obtain ⟨rfl, rfl, rfl, rfl⟩ := H
    have p366 : 0 ≤ ((ji101) : Int) := odt
    have q366 : (ji101) < (x10_1.length : Int) := odt
    obtain ⟨ad366, e366, hx366_0⟩ := Kd.Q8 (Kd.zm HO_10.out).2.2 (ji101) p366 q366
    (try rw [← Nbq104.out] at hx366_0)
    obtain rfl : (⟨go12, 0, none⟩ : Addr) = ad366 := (by injection e366)
    (first | simp only [add_plain] at hx366_0 | simp only [jW] at hx366_0 | simp only [Addr.add, Nat.zero_add] at hx366_0 | skip)
    replace p366 := eq_true p366
    replace q366 := eq_true q366
    try go_wp2
    have n0_ := qa.mk (Kd.qG HO_10.out)
    have n1_ := qa.mk (Kd.qG HO_11.out)
    have n2_ := qa.mk (Kd.jg HO_12.out)
    have n3_ := qa.mk (qo BK354.out)
    have n4_ := qa.mk (qC HB.out)
    clear HO_10
    clear HO_11
    clear HO_12
    clear BK354
    clear HB
    have HO_10 := n0_
    have HO_11 := n1_
    have HO_12 := n2_
    have BK354 := n3_
    have HB := n4_
    clear n0_ n1_ n2_ n3_ n4_
    obtain ⟨Ao109, co109, eo109⟩ := Kd.S_slice HO_12.out
    (first | subst eo109 | (injection eo109 with f1_ f2_ f3_; have f4_ := f1_.symm; have f5_ := f3_.symm; clear f1_ f2_ f3_; subst f4_; subst f5_))
    have p367 : 0 ≤ ((ji101) : Int) := odt
    have q367 : (ji101) < (x12_1.length : Int) := odt
    obtain ⟨ad367, A367_0, c367_0, e367, hx367_0, hl367_0, hi367_0⟩ := at_L7 (Kd.Qo HO_12.out).2.2 (ji101) p367 q367
    cases e367
    obtain ⟨ce367, hce367, hMe367, hcc367⟩ := Kd.S_get HO_12.out [] (ji101) p367 (by first | exact q367 | exact odt | (have e_ := (Kd.Qo HO_12.out).1; omega))
    obtain ⟨ve367_0, rfl, ge367_0⟩ := hMe367
    have hv367_0 := hcc367 0 _ rfl
    rw [Nat.add_zero, show ((Kd.slice 3 (Kd.int .i64))).sz = 1 from rfl, Nat.mul_one] at hv367_0
    replace hv367_0 := Option.some.inj (hv367_0.symm.trans hx367_0)
    rw [hv367_0] at ge367_0
    have HL367_0 := qa.mk (show Kd.R (Kd.int .i64) 3 _ _ _ _ (jc x12_1 (ji101)) from ge367_0)
    clear hv367_0 ge367_0
    clear hcc367 hce367
    have HR367_0 := qa.mk hi367_0
    have HC367_0 := qa.mk hl367_0
    clear hi367_0 hl367_0
    replace p367 := eq_true p367
    replace q367 := eq_true q367
    obtain ⟨Ao110, co110, eo110⟩ := Kd.jo HO_11.out
    (first | subst eo110 | (injection eo110 with f1_ f2_ f3_; have f4_ := f1_.symm; have f5_ := f3_.symm; clear f1_ f2_ f3_; subst f4_; subst f5_))
    have p368 : 0 ≤ ((ji101) : Int) := odt
    have q368 : (ji101) < (x11_1.length : Int) := odt
    obtain ⟨ad368, e368, hx368_0⟩ := Kd.zY (Kd.zm HO_11.out).2.2 (ji101) p368 q368
    cases e368
    replace p368 := eq_true p368
    replace q368 := eq_true q368
    refine start_ (n := 13) (S := fun w' => w'.cell? (ad367.add ((ji101)).toNat) = some (.slice A367_0 (jc x12_1 (ji101)).length c367_0) ∧ w'.cell? (ad368.add ((ji101)).toNat) = some (.int .i64 (rd x11_1 (ji101)))) (ds := []) #[false, false, false, false, false, false, false, false, false, false, false, false, false] (by kernel_rfl) rfl rfl ⟨hx367_0, hx368_0⟩ (fun hHeld => ?_); refine ZA qf.tab27 qf.bits27 (fun HT_ HW_ => ?_)
    generalize wr.drew = w108 at HO_10 HO_11 HO_12 BK354 HB HL367_0 HR367_0 hx367_0 hx368_0 hHeld ⊢
    refine jD (i := 0) (N := some 166) (v := ?_) (a' := ?_) #[true, false, false, false, false, false, false, false, false, false, false, false, false] rfl rfl (jh HT_.out (by kernel_rfl)) (fun _ _ _ h => h) (Or.inl ⟨by rfl, ?_⟩) ?_ ?_
    rotate_left
    ·intro w'
     go_simp
     with_reducible rfl
    rotate_left
    ·simp only [Act.put, List.setIfInBounds_toArray, List.set_cons_zero, List.set_cons_succ, zJ, zN]
     rfl
    refine jD (i := 1) (N := some 167) (v := ?_) (a' := ?_) #[true, true, false, false, false, false, false, false, false, false, false, false, false] rfl rfl (jh HT_.out (by kernel_rfl)) (fun _ _ _ h => h) (Or.inl ⟨by rfl, ?_⟩) ?_ ?_
    rotate_left
    ·intro w'
     go_simp
     with_reducible rfl
    rotate_left
    ·simp only [Act.put, List.setIfInBounds_toArray, List.set_cons_zero, List.set_cons_succ, zJ, zN]
     rfl
    refine jD (i := 2) (N := some 168) (v := ?_) (a' := ?_) #[true, true, true, false, false, false, false, false, false, false, false, false, false] rfl rfl (jh HT_.out (by kernel_rfl)) (fun _ _ _ h => h) (Or.inl ⟨by rfl, ?_⟩) ?_ ?_
    rotate_left
    ·intro w'
     go_simp
     with_reducible rfl
    rotate_left
    ·simp only [Act.put, List.setIfInBounds_toArray, List.set_cons_zero, List.set_cons_succ, zJ, zN]
     rfl
    refine jD (i := 3) (N := some 169) (v := ?_) (a' := ?_) #[true, true, true, true, false, false, false, false, false, false, false, false, false] rfl rfl (jh HT_.out (by kernel_rfl)) (fun _ _ _ h => h) (Or.inl ⟨by rfl, ?_⟩) ?_ ?_
    rotate_left
    ·intro w'
     go_simp
     with_reducible rfl
    rotate_left
    ·simp only [Act.put, List.setIfInBounds_toArray, List.set_cons_zero, List.set_cons_succ, zJ, zN]
     rfl
    refine jD (i := 5) (N := some 171) (v := ?_) (a' := ?_) #[true, true, true, true, false, true, false, false, false, false, false, false, false] rfl rfl (jh HT_.out (by kernel_rfl)) (fun _ _ _ h => h) (Or.inl ⟨by rfl, ?_⟩) ?_ ?_
    rotate_left
    ·intro w'
     go_simp
     with_reducible rfl
    rotate_left
    ·simp only [Act.put, List.setIfInBounds_toArray, List.set_cons_zero, List.set_cons_succ, zJ, zN]
     rfl
    refine jD (i := 6) (N := some 172) (v := ?_) (a' := ?_) #[true, true, true, true, false, true, true, false, false, false, false, false, false] rfl rfl (jh HT_.out (by kernel_rfl)) (fun _ _ _ h => h) (Or.inl ⟨by rfl, ?_⟩) ?_ ?_
    rotate_left
    ·intro w'
     go_simp
     with_reducible rfl
    rotate_left
    ·simp only [Act.put, List.setIfInBounds_toArray, List.set_cons_zero, List.set_cons_succ, zJ, zN]
     rfl
    refine jD (i := 7) (N := some 173) (v := ?_) (a' := ?_) #[true, true, true, true, false, true, true, true, false, false, false, false, false] rfl rfl (jh HT_.out (by kernel_rfl)) (fun _ _ _ h => h) (Or.inl ⟨by rfl, ?_⟩) ?_ ?_
    rotate_left
    ·intro w'
     go_simp
     with_reducible rfl
    rotate_left
    ·simp only [Act.put, List.setIfInBounds_toArray, List.set_cons_zero, List.set_cons_succ, zJ, zN]
     rfl
    refine jD (i := 8) (N := some 174) (v := ?_) (a' := ?_) #[true, true, true, true, false, true, true, true, true, false, false, false, false] rfl rfl (jh HT_.out (by kernel_rfl)) (fun _ _ _ h => h) (Or.inl ⟨by rfl, ?_⟩) ?_ ?_
    rotate_left
    ·intro w'
     go_simp
     with_reducible rfl
    rotate_left
    ·simp only [Act.put, List.setIfInBounds_toArray, List.set_cons_zero, List.set_cons_succ, zJ, zN]
     rfl
    refine Zh (i := 4) (N := some 170) (v := ?_) (a' := ?_) #[true, true, true, true, true, true, true, true, true, false, false, false, false] rfl rfl (QO HT_.out HW_.out (by kernel_rfl)) (fun _ _ _ h => h) (Or.inl ⟨by rfl, ?_⟩) hHeld ?_ ?_
    rotate_left
    ·rintro w' ⟨s0, s1⟩
     go_simp
     with_reducible rfl
    rotate_left
    ·simp only [Act.put, List.setIfInBounds_toArray, List.set_cons_zero, List.set_cons_succ, zJ, zN]
     rfl
    refine Zh (i := 9) (N := some 175) (v := ?_) (a' := ?_) #[true, true, true, true, true, true, true, true, true, true, false, false, false] rfl rfl (QO HT_.out HW_.out (by kernel_rfl)) (fun _ _ _ h => h) (Or.inl ⟨by rfl, ?_⟩) hHeld ?_ ?_
    rotate_left
    ·rintro w' ⟨s0, s1⟩
     go_simp
     with_reducible rfl
    rotate_left
    ·simp only [Act.put, List.setIfInBounds_toArray, List.set_cons_zero, List.set_cons_succ, zJ, zN]
     rfl
    refine jD (i := 10) (N := some 176) (v := ?_) (a' := ?_) #[true, true, true, true, true, true, true, true, true, true, true, false, false] rfl rfl (jh HT_.out (by kernel_rfl)) (fun _ _ _ h => h) (Or.inl ⟨by rfl, ?_⟩) ?_ ?_
    rotate_left
    ·intro w'
     go_simp
     with_reducible rfl
    rotate_left
    ·simp only [Act.put, List.setIfInBounds_toArray, List.set_cons_zero, List.set_cons_succ, zJ, zN]
     rfl
    refine one_ (i := 11) (N := none) #[true, true, true, true, true, true, true, true, true, true, true, true, false] rfl rfl (ZJ HT_.out (by kernel_rfl)) (by decide) (fun K hK => ?_)
    have hs111 : w108.cell? ⟨gb354, 0, none⟩ = some (.slice none 0 0) := (ql BK354.out 0).trans rfl
    have hfs111 := qg BK354.out 0
    have hs112 : w108.cell? ⟨gb354, 1, none⟩ = some (.int .i64 0) := (ql BK354.out 1).trans rfl
    have hfs112 := qg BK354.out 1
    have hs113 : w108.cell? ⟨gb354, 2, none⟩ = some (.bool false) := (ql BK354.out 2).trans rfl
    have hfs113 := qg BK354.out 2
    refine skip_ (w1 := ?_) (by rfl) rfl ?_ ?_
    rotate_left
    ·go_simp
     rfl
    refine hK.out _ _ ⟨((cell_far (p := ⟨gb354, _, none⟩) (by first | exact Kd.zV (Kd.QU HO_12.out BK354.out (by decide)) | (rw [add_block]; exact Kd.zV (Kd.QU HO_12.out BK354.out (by decide))) | (show (Addr.add _ _).block ≠ _; rw [add_block]; exact Kd.zV (Kd.QU HO_12.out BK354.out (by decide))) | (dsimp only; exact Kd.zV (Kd.QU HO_12.out BK354.out (by decide)))) _).trans (((cell_far (p := ⟨gb354, _, none⟩) (by first | exact Kd.zV (Kd.QU HO_12.out BK354.out (by decide)) | (rw [add_block]; exact Kd.zV (Kd.QU HO_12.out BK354.out (by decide))) | (show (Addr.add _ _).block ≠ _; rw [add_block]; exact Kd.zV (Kd.QU HO_12.out BK354.out (by decide))) | (dsimp only; exact Kd.zV (Kd.QU HO_12.out BK354.out (by decide)))) _).trans (((cell_far (p := ⟨gb354, _, none⟩) (by first | exact Kd.zV (Kd.QU HO_12.out BK354.out (by decide)) | (rw [add_block]; exact Kd.zV (Kd.QU HO_12.out BK354.out (by decide))) | (show (Addr.add _ _).block ≠ _; rw [add_block]; exact Kd.zV (Kd.QU HO_12.out BK354.out (by decide))) | (dsimp only; exact Kd.zV (Kd.QU HO_12.out BK354.out (by decide)))) _).trans (hHeld.1)))))), ((cell_far (p := ⟨gb354, _, none⟩) (by first | exact Kd.zV (Kd.jP HO_11.out BK354.out (by decide)) | (rw [add_block]; exact Kd.zV (Kd.jP HO_11.out BK354.out (by decide))) | (show (Addr.add _ _).block ≠ _; rw [add_block]; exact Kd.zV (Kd.jP HO_11.out BK354.out (by decide))) | (dsimp only; exact Kd.zV (Kd.jP HO_11.out BK354.out (by decide)))) _).trans (((cell_far (p := ⟨gb354, _, none⟩) (by first | exact Kd.zV (Kd.jP HO_11.out BK354.out (by decide)) | (rw [add_block]; exact Kd.zV (Kd.jP HO_11.out BK354.out (by decide))) | (show (Addr.add _ _).block ≠ _; rw [add_block]; exact Kd.zV (Kd.jP HO_11.out BK354.out (by decide))) | (dsimp only; exact Kd.zV (Kd.jP HO_11.out BK354.out (by decide)))) _).trans (((cell_far (p := ⟨gb354, _, none⟩) (by first | exact Kd.zV (Kd.jP HO_11.out BK354.out (by decide)) | (rw [add_block]; exact Kd.zV (Kd.jP HO_11.out BK354.out (by decide))) | (show (Addr.add _ _).block ≠ _; rw [add_block]; exact Kd.zV (Kd.jP HO_11.out BK354.out (by decide))) | (dsimp only; exact Kd.zV (Kd.jP HO_11.out BK354.out (by decide)))) _).trans (hHeld.2))))))⟩ (fun hHeld => ?_)
    clear hK K
    refine jD (i := 12) (N := some 7) (v := ?_) (a' := ?_) #[true, true, true, true, true, true, true, true, true, true, true, true, true] rfl rfl (jh HT_.out (by kernel_rfl)) (fun _ _ _ h => h) (Or.inl ⟨by rfl, ?_⟩) ?_ ?_
    rotate_left
    ·intro w'
     go_simp
     with_reducible rfl
    rotate_left
    ·simp only [Act.put, List.setIfInBounds_toArray, List.set_cons_zero, List.set_cons_succ, zJ, zN]
     rfl
    refine done_ (Jr HT_.out (by kernel_rfl)) ?_
    try go_wp2
    refine bodyPost_ret (jZ rfl _ _ gb354 26 #[.slice A367_0 (jc x12_1 (ji101)).length c367_0, .int .i64 (rd x11_1 (ji101)), .bool false] (0, 0) _ rfl (by (with_reducible repeat (first | refine qj ?_ _ | refine qo ?_ | refine qi ?_ _)); refine qR (cs := #[.slice A367_0 (jc x12_1 (ji101)).length c367_0, .int .i64 (rd x11_1 (ji101)), .bool false]) ?_ 2 _ rfl; (with_reducible repeat (first | refine qj ?_ _ | refine qo ?_ | refine qi ?_ _)); refine qR (cs := #[.slice A367_0 (jc x12_1 (ji101)).length c367_0, .int .i64 0, .bool false]) ?_ 1 _ rfl; (with_reducible repeat (first | refine qj ?_ _ | refine qo ?_ | refine qi ?_ _)); refine qR (cs := #[.slice none 0 0, .int .i64 0, .bool false]) ?_ 0 _ rfl; exact kq BK354) Try.underlying26 rfl (by kernel_rfl)) rfl ?_
    exact ⟨_, by first | rfl | (simp [qN, qM] <;> rfl) | (simp only [← hji6, ← hji101]; first | rfl | (simp [qN, qM] <;> rfl)) | (simp [*, qN, qM] <;> rfl), by (with_reducible repeat (first | apply Kd.qD | apply Kd.qE | apply Kd.qG)); exact Kd.zi (Kd.ze (p := ⟨gb354, 2, none⟩) (Kd.ze (p := ⟨gb354, 1, none⟩) (Kd.ze (p := ⟨gb354, 0, none⟩) (Kd.zO HL367_0.out BK354.out (by decide)) (fun _ hk => hk.2) (.slice A367_0 (jc x12_1 (ji101)).length c367_0)) (fun _ hk => hk.2) (.int .i64 (rd x11_1 (ji101)))) (fun _ hk => hk.2) (.bool false)) (fun _ hk => trivial), bs HB GE354⟩
   rw [if_pos c23] at H
   have c23b0 : decide (x13_1 ≤ (l0.length : Int)) = true := decide_eq_true c23
   clear c23
   replace H := Option.bind_eq_some_iff.mp H
   obtain ⟨t372, A240, H⟩ := H
   replace H : (if t372 = true then (qf.l1 k1 l0 a1 a2 (l0.length : Int) x10_1 x11_1 x12_1 x13_1 (wrap64 (x13_1 - 1))) else (qf.l0 k1 l0 a1 a2 (l0.length : Int) x10_1 x11_1 x12_1 (wrap64 (x13_1 + 1)))) = some (r1, r2, r3, r4) := H
   have A24 := qa.mk A240
   clear A240
   by_cases c25 : t372 = true
   case neg =>
    replace c25 := Bool.eq_false_iff.mpr c25
    subst c25
    have H1 : (qf.l0 k1 l0 a1 a2 (l0.length : Int) x10_1 x11_1 x12_1 (wrap64 (x13_1 + 1))) = some (r1, r2, r3, r4) := by rw [if_neg (show ¬ (false = true) by decide)] at H; exact H
    clear H
    have H := H1
    clear H1
    have H' := qa.mk H
    clear H
    go_wp2_with (first | ((with_reducible refine zl (f := 19) rfl ?_); refine zM (some 48) rfl rfl Try.func19 (by kernel_rfl) rfl #[.slice A0 l0.length c0, .int .i64 x13_1] rfl (by (try simp only [List.map_toArray, List.map_cons, List.map_nil]); first | done | rfl | (simp only [List.length_drop, List.length_take]; rfl)) ?_; (with_reducible refine (zZ.calls _ _ l0 x13_1 false _ ?side1 ?side2 A24.out).mono ?_); (case side1 => repeat (first | exact (Kd.zS HR0.out HB.out) | (with_reducible refine Kd.zI ?_ _) | (with_reducible refine Kd.zH ?_ _) | (with_reducible refine Kd.zL ?_))); (case side2 => exact HC0.out); rintro e w' ⟨rfl, ⟨nd, rfl⟩⟩; refine ⟨_, rfl, ?_⟩))
    (try simp only [← hl10_1])
    go_roundg k1
    case measure => have := HK1.out; omega
    case rel => exact ⟨(x10_1), (x11_1), (x12_1), (wrap64 (x13_1 + 1)), (by first | rfl | (simp; done) | (simp [*]; done)), H', ⟨by have := HK1.out; omega⟩, ⟨by (try simp only [hl10_1]); exact rq HO_10⟩, ⟨by (try simp only [hl10_1]); exact rq HO_11⟩, ⟨by (try simp only [hl10_1]); (with_reducible repeat (first | apply Kd.jb | apply Kd.ja | apply Kd.jg)); exact HO_12.out⟩, ⟨by (try simp only [hl10_1]); exact kq BK354⟩, ⟨bs HB GE354⟩⟩
   subst c25
   have H1 : (qf.l1 k1 l0 a1 a2 (l0.length : Int) x10_1 x11_1 x12_1 x13_1 (wrap64 (x13_1 - 1))) = some (r1, r2, r3, r4) := by rw [if_pos rfl] at H; exact H
   clear H
   have H := H1
   clear H1
   have H' := qa.mk H
   clear H
   go_wp2_with (first | ((with_reducible refine zl (f := 19) rfl ?_); refine zM (some 48) rfl rfl Try.func19 (by kernel_rfl) rfl #[.slice A0 l0.length c0, .int .i64 x13_1] rfl (by (try simp only [List.map_toArray, List.map_cons, List.map_nil]); first | done | rfl | (simp only [List.length_drop, List.length_take]; rfl)) ?_; (with_reducible refine (zZ.calls _ _ l0 x13_1 true _ ?side1 ?side2 A24.out).mono ?_); (case side1 => repeat (first | exact (Kd.zS HR0.out HB.out) | (with_reducible refine Kd.zI ?_ _) | (with_reducible refine Kd.zH ?_ _) | (with_reducible refine Kd.zL ?_))); (case side2 => exact HC0.out); rintro e w' ⟨rfl, ⟨nd, rfl⟩⟩; refine ⟨_, rfl, ?_⟩))
   go_loopg [14] k1 (fun kq v14 w' => ∃ (x10_2 : List Bool) (x11_2 : List Int) (x12_2 : List (List Int)) (x14_2 : Int), v14 = .int .i64 x14_2 ∧ qa (qf.l1 kq l0 a1 a2 (l0.length : Int) x10_2 x11_2 x12_2 x13_1 x14_2 = some (r1, r2, r3, r4)) ∧ qa (kq ≤ k1) ∧ qa (Kd.R Kd.bool 4 w' w.heap.size (fun _ => True) (.slice (some ⟨go12, 0, none⟩) x10_1.length co12) x10_2) ∧ qa (Kd.R (Kd.int .i64) 3 w' w.heap.size (fun _ => True) v360 x11_2) ∧ qa (Kd.S (Kd.slice 3 (Kd.int .i64)) 24 w' w.heap.size (fun k_ => some k_ ≠ (v360 : Value).ownBlock) v363 x12_2) ∧ qa (w'.heap[gb354]? = some (.cells #[(.slice none 0 0), .int .i64 0, .bool false] 26 (0, 0))) ∧ qa (Below w.heap.size w w'))
   case atStart => exact ⟨(x10_1), (x11_1), (x12_1), (wrap64 (x13_1 - 1)), (by first | rfl | (simp; done) | (simp [*]; done)), H', ⟨Nat.le_refl _⟩, ⟨by (try simp only [hl10_1]); exact rq HO_10⟩, ⟨by (try simp only [hl10_1]); exact rq HO_11⟩, ⟨by (try simp only [hl10_1]); (with_reducible repeat (first | apply Kd.jb | apply Kd.ja | apply Kd.jg)); exact HO_12.out⟩, ⟨by (try simp only [hl10_1]); exact kq BK354⟩, ⟨bs HB GE354⟩⟩
   case round =>
    clear H'
    try clear c1
    try clear p1
    try clear q1
    try clear hx1
    try clear qi1
    try clear c2
    try clear p2
    try clear c5
    try clear c5b0
    try clear c5b1
    try clear p6
    try clear c7
    try clear c7b0
    try clear c7b1
    try clear c8
    try clear c8b0
    try clear c8b1
    try clear c9
    try clear c9b0
    try clear c9b1
    try clear c10
    try clear c10b0
    try clear c10b1
    try clear c11
    try clear c11b0
    try clear c11b1
    try clear p12
    try clear q12
    try clear hx12
    try clear qi12
    try clear hf12
    try clear c14
    try clear c15
    try clear c19
    try clear c23
    try clear c23b0
    try clear c25
    try clear hx12_0
    try clear p1
    try clear p12
    try clear p2
    try clear p6
    try clear q1
    try clear q12
    obtain ⟨x10_2, x11_2, x12_2, x14_2, rfl, HA, HK2, HO_10, HO_11, HO_12, BK354, HB⟩ := hrel
    have hl10_2 := (Kd.zm HO_10.out).1
    rw [hl10_2] at HO_10
    (try simp only [hl10_2])
    (try simp only [hl10_2] at BK354)
    (try simp only [hl10_2] at HO_11)
    (try simp only [hl10_2] at HO_12)
    cases gk with
    | zero => exact absurd HA.out (by simp [qf.l1])
    | succ k2 =>
     have H := HA.out
     clear HA
     simp only [qf.l1] at H
     by_cases c26 : x14_2 ≥ (-1)
     case neg =>
      rw [if_neg c26] at H
      have c26b0 : decide ((-1) ≤ x14_2) = false := decide_eq_false c26
      clear c26
      have H' := qa.mk H
      clear H
      go_wp2
      (try simp only [← hl10_1, ← hl10_2])
      go_roundg k2
      case measure => have := HK1.out; have := HK2.out; omega
      case rel => exact ⟨(x10_2), (x11_2), (x12_2), (wrap64 (x13_1 + 1)), (by first | rfl | (simp; done) | (simp [*]; done)), H', ⟨by have := HK1.out; have := HK2.out; omega⟩, ⟨by (try simp only [hl10_1]); (try simp only [hl10_2]); exact rq HO_10⟩, ⟨by (try simp only [hl10_1]); (try simp only [hl10_2]); exact rq HO_11⟩, ⟨by (try simp only [hl10_1]); (try simp only [hl10_2]); (with_reducible repeat (first | apply Kd.jb | apply Kd.ja | apply Kd.jg)); exact HO_12.out⟩, ⟨by (try simp only [hl10_1]); (try simp only [hl10_2]); exact kq BK354⟩, ⟨bs HB GE354⟩⟩
     rw [if_pos c26] at H
     have c26b0 : decide ((-1) ≤ x14_2) = true := decide_eq_true c26
     clear c26
     have HC27 := qa.mk H
     clear H
     go_upto_region 16 with (fail)
     go_cut [63] (fun v63 wc => ∃ (kq : Nat) (x63_26 : Bool), v63 = .bool x63_26 ∧ qa (qf.j2 kq l0 a1 a2 (l0.length : Int) x10_2 x11_2 x12_2 x13_1 x14_2 x63_26 = some (r1, r2, r3, r4)) ∧ qa (kq ≤ k2) ∧ qa (Kd.R Kd.bool 4 wc w.heap.size (fun _ => True) (.slice (some ⟨go12, 0, none⟩) x10_2.length co12) x10_2) ∧ qa (Kd.R (Kd.int .i64) 3 wc w.heap.size (fun _ => True) v360 x11_2) ∧ qa (Kd.S (Kd.slice 3 (Kd.int .i64)) 24 wc w.heap.size (fun k_ => some k_ ≠ (v360 : Value).ownBlock) v363 x12_2) ∧ qa (wc.heap[gb354]? = some (.cells #[(.slice none 0 0), .int .i64 0, .bool false] 26 (0, 0))) ∧ qa (Below w.heap.size w wc))
     case first =>
      have H := HC27.out
      clear HC27
      by_cases c28 : x14_2 ≥ 0
      case neg =>
       rw [if_neg c28] at H
       have c28b0 : decide (0 ≤ x14_2) = false := decide_eq_false c28
       clear c28
       (first | rw [c28b0] | (simp only [zJ, zN]; rw [c28b0]) | skip)
       have H' := qa.mk H
       clear H
       go_wp2
       go_meet
       case rel => exact ⟨_, (false), (by first | rfl | (simp; done) | (simp [*]; done)), H', ⟨by have := HK1.out; have := HK2.out; first | omega | exact Nat.le_refl _⟩, ⟨by (try simp only [hl10_1]); (try simp only [hl10_2]); exact rq HO_10⟩, ⟨by (try simp only [hl10_1]); (try simp only [hl10_2]); exact rq HO_11⟩, ⟨by (try simp only [hl10_1]); (try simp only [hl10_2]); (with_reducible repeat (first | apply Kd.jb | apply Kd.ja | apply Kd.jg)); exact HO_12.out⟩, ⟨by (try simp only [hl10_1]); (try simp only [hl10_2]); exact kq BK354⟩, ⟨bs HB GE354⟩⟩
      rw [if_pos c28] at H
      have c28b0 : decide (0 ≤ x14_2) = true := decide_eq_true c28
      clear c28
      (first | rw [c28b0] | (simp only [zJ, zN]; rw [c28b0]) | skip)
      replace H := Option.bind_eq_some_iff.mp H
      obtain ⟨t373, A290, H⟩ := H
      replace H : (qf.j2 k2 l0 a1 a2 (l0.length : Int) x10_2 x11_2 x12_2 x13_1 x14_2 (!t373)) = some (r1, r2, r3, r4) := H
      have A29 := qa.mk A290
      clear A290
      have H' := qa.mk H
      clear H
      go_wp2_with (first | (go_at_call 19; (with_reducible refine (zZ.calls _ _ l0 x14_2 t373 _ ?side1 ?side2 A29.out).mono ?_); (case side1 => repeat (first | exact (Kd.zS HR0.out HB.out) | (with_reducible refine Kd.zI ?_ _) | (with_reducible refine Kd.zH ?_ _) | (with_reducible refine Kd.zL ?_))); (case side2 => exact HC0.out); rintro e w' ⟨rfl, ⟨nd, rfl⟩⟩))
      go_meet
      case rel => exact ⟨_, (!t373), (by first | rfl | (simp; done) | (simp [*]; done)), H', ⟨by have := HK1.out; have := HK2.out; first | omega | exact Nat.le_refl _⟩, ⟨by (try simp only [hl10_1]); (try simp only [hl10_2]); exact rq HO_10⟩, ⟨by (try simp only [hl10_1]); (try simp only [hl10_2]); exact rq HO_11⟩, ⟨by (try simp only [hl10_1]); (try simp only [hl10_2]); (with_reducible repeat (first | apply Kd.jb | apply Kd.ja | apply Kd.jg)); exact HO_12.out⟩, ⟨by (try simp only [hl10_1]); (try simp only [hl10_2]); exact kq BK354⟩, ⟨bs HB GE354⟩⟩
     case rest =>
      clear HC27
      try clear c1
      try clear p1
      try clear q1
      try clear hx1
      try clear qi1
      try clear c2
      try clear p2
      try clear c5
      try clear c5b0
      try clear c5b1
      try clear p6
      try clear c7
      try clear c7b0
      try clear c7b1
      try clear c8
      try clear c8b0
      try clear c8b1
      try clear c9
      try clear c9b0
      try clear c9b1
      try clear c10
      try clear c10b0
      try clear c10b1
      try clear c11
      try clear c11b0
      try clear c11b1
      try clear p12
      try clear q12
      try clear hx12
      try clear qi12
      try clear hf12
      try clear c14
      try clear c15
      try clear c19
      try clear c23
      try clear c23b0
      try clear c25
      try clear c26
      try clear c26b0
      try clear c28
      try clear c28b0
      try clear hx12_0
      try clear p1
      try clear p12
      try clear p2
      try clear p6
      try clear q1
      try clear q12
      obtain ⟨kq, x63_26, rfl, HA, HJ26, HO_10, HO_11, HO_12, BK354, HB⟩ := hcut
      cases kq with
      | zero => exact absurd HA.out (by simp [qf.j2])
      | succ kj26 =>
       have H := HA.out
       clear HA
       simp only [qf.j2] at H
       by_cases c30 : x63_26 = true
       ·subst c30
        have H1 : (qf.l1 kj26 l0 a1 a2 (l0.length : Int) x10_2 x11_2 x12_2 x13_1 (wrap64 (x14_2 - 1))) = some (r1, r2, r3, r4) := by rw [if_pos rfl] at H; exact H
        clear H
        have H := H1
        clear H1
        have H' := qa.mk H
        clear H
        go_wp2
        (try simp only [← hl10_2])
        go_roundg kj26
        case measure => have := HK1.out; have := HK2.out; have := HJ26.out; omega
        case rel => exact ⟨(x10_2), (x11_2), (x12_2), (wrap64 (x14_2 - 1)), (by first | rfl | (simp; done) | (simp [*]; done)), H', ⟨by have := HK1.out; have := HK2.out; have := HJ26.out; omega⟩, ⟨by (try simp only [hl10_1]); (try simp only [hl10_2]); exact rq HO_10⟩, ⟨by (try simp only [hl10_1]); (try simp only [hl10_2]); exact rq HO_11⟩, ⟨by (try simp only [hl10_1]); (try simp only [hl10_2]); (with_reducible repeat (first | apply Kd.jb | apply Kd.ja | apply Kd.jg)); exact HO_12.out⟩, ⟨by (try simp only [hl10_1]); (try simp only [hl10_2]); exact kq BK354⟩, ⟨bs HB GE354⟩⟩
       replace c30 := Bool.eq_false_iff.mpr c30
       subst c30
       have H1 : ((qY.f kj26 l0 x14_2 x13_1 a1).bind fun bt374 => (if bt374.2.2 = true then (if bt374.1 ≤ a2 then (if 0 ≤ (wrap64 (x14_2 + 1)) then (if (wrap64 (x14_2 + 1)) < (x10_2.length : Int) then (qf.j3 kj26 l0 a1 a2 (l0.length : Int) x10_2 x11_2 x12_2 x13_1 x14_2 bt374.2.1 (jN false x10_2 (wrap64 (x14_2 + 1)))) else (none)) else (none)) else (qf.j3 kj26 l0 a1 a2 (l0.length : Int) x10_2 x11_2 x12_2 x13_1 x14_2 bt374.2.1 false)) else (qf.j3 kj26 l0 a1 a2 (l0.length : Int) x10_2 x11_2 x12_2 x13_1 x14_2 bt374.2.1 false))) = some (r1, r2, r3, r4) := by rw [if_neg (show ¬ (false = true) by decide)] at H; exact H
       clear H
       have H := H1
       clear H1
       replace H := Option.bind_eq_some_iff.mp H
       obtain ⟨⟨t374, t375, t376⟩, A310, H⟩ := H
       replace H : (if t376 = true then (if t374 ≤ a2 then (if 0 ≤ (wrap64 (x14_2 + 1)) then (if (wrap64 (x14_2 + 1)) < (x10_2.length : Int) then (qf.j3 kj26 l0 a1 a2 (l0.length : Int) x10_2 x11_2 x12_2 x13_1 x14_2 t375 (jN false x10_2 (wrap64 (x14_2 + 1)))) else (none)) else (none)) else (qf.j3 kj26 l0 a1 a2 (l0.length : Int) x10_2 x11_2 x12_2 x13_1 x14_2 t375 false)) else (qf.j3 kj26 l0 a1 a2 (l0.length : Int) x10_2 x11_2 x12_2 x13_1 x14_2 t375 false)) = some (r1, r2, r3, r4) := H
       have A31 := qa.mk A310
       clear A310
       have HC32 := qa.mk H
       clear H
       go_upto_region 18 with (first | ((with_reducible refine zl (f := 32) rfl ?_); refine zM (some 69) rfl rfl Try.func32 (by kernel_rfl) rfl #[.slice A0 l0.length c0, .int .i64 x14_2, .int .i64 x13_1, .int .i64 a1] rfl (by (try simp only [List.map_toArray, List.map_cons, List.map_nil]); first | done | rfl | (simp only [List.length_drop, List.length_take]; rfl)) ?_; (with_reducible refine (qY.calls kj26 _ _ l0 x14_2 x13_1 a1 t374 t375 t376 _ ?side1 ?side2 A31.out).mono ?_); (case side1 => repeat (first | exact (Kd.zS HR0.out HB.out) | (with_reducible refine Kd.zI ?_ _) | (with_reducible refine Kd.zH ?_ _) | (with_reducible refine Kd.zL ?_))); (case side2 => exact HC0.out); rintro e w' ⟨rfl, ⟨nd, rfl⟩⟩; refine ⟨_, rfl, ?_⟩))
       (try simp only [Act.put, List.setIfInBounds_toArray, List.set_cons_zero, List.set_cons_succ])
       go_cut [85] (fun v85 wc => ∃ (kq : Nat) (x85_31 : Bool), v85 = .bool x85_31 ∧ qa (qf.j3 kq l0 a1 a2 (l0.length : Int) x10_2 x11_2 x12_2 x13_1 x14_2 t375 x85_31 = some (r1, r2, r3, r4)) ∧ qa (kq ≤ kj26) ∧ qa (Kd.R Kd.bool 4 wc w.heap.size (fun _ => True) (.slice (some ⟨go12, 0, none⟩) x10_2.length co12) x10_2) ∧ qa (Kd.R (Kd.int .i64) 3 wc w.heap.size (fun _ => True) v360 x11_2) ∧ qa (Kd.S (Kd.slice 3 (Kd.int .i64)) 24 wc w.heap.size (fun k_ => some k_ ≠ (v360 : Value).ownBlock) v363 x12_2) ∧ qa (wc.heap[gb354]? = some (.cells #[(.slice none 0 0), .int .i64 0, .bool false] 26 (0, 0))) ∧ qa (Below w.heap.size w wc))
       case first =>
        have H := HC32.out
        clear HC32
        by_cases c33 : t376 = true
        case neg =>
         replace c33 := Bool.eq_false_iff.mpr c33
         subst c33
         have H1 : (qf.j3 kj26 l0 a1 a2 (l0.length : Int) x10_2 x11_2 x12_2 x13_1 x14_2 t375 false) = some (r1, r2, r3, r4) := by rw [if_neg (show ¬ (false = true) by decide)] at H; exact H
         clear H
         have H := H1
         clear H1
         have H' := qa.mk H
         clear H
         go_wp2
         go_meet
         case rel => exact ⟨_, (false), (by first | rfl | (simp; done) | (simp [*]; done)), H', ⟨by have := HK1.out; have := HK2.out; have := HJ26.out; first | omega | exact Nat.le_refl _⟩, ⟨by (try simp only [hl10_1]); (try simp only [hl10_2]); exact rq HO_10⟩, ⟨by (try simp only [hl10_1]); (try simp only [hl10_2]); exact rq HO_11⟩, ⟨by (try simp only [hl10_1]); (try simp only [hl10_2]); (with_reducible repeat (first | apply Kd.jb | apply Kd.ja | apply Kd.jg)); exact HO_12.out⟩, ⟨by (try simp only [hl10_1]); (try simp only [hl10_2]); exact kq BK354⟩, ⟨bs HB GE354⟩⟩
        subst c33
        have H1 : (if t374 ≤ a2 then (if 0 ≤ (wrap64 (x14_2 + 1)) then (if (wrap64 (x14_2 + 1)) < (x10_2.length : Int) then (qf.j3 kj26 l0 a1 a2 (l0.length : Int) x10_2 x11_2 x12_2 x13_1 x14_2 t375 (jN false x10_2 (wrap64 (x14_2 + 1)))) else (none)) else (none)) else (qf.j3 kj26 l0 a1 a2 (l0.length : Int) x10_2 x11_2 x12_2 x13_1 x14_2 t375 false)) = some (r1, r2, r3, r4) := by rw [if_pos rfl] at H; exact H
        clear H
        have H := H1
        clear H1
        by_cases c34 : t374 ≤ a2
        case neg =>
         rw [if_neg c34] at H
         have c34b0 : decide (t374 ≤ a2) = false := decide_eq_false c34
         clear c34
         (first | rw [c34b0] | (simp only [zJ, zN]; rw [c34b0]) | skip)
         have H' := qa.mk H
         clear H
         go_wp2
         go_meet
         case rel => exact ⟨_, (false), (by first | rfl | (simp; done) | (simp [*]; done)), H', ⟨by have := HK1.out; have := HK2.out; have := HJ26.out; first | omega | exact Nat.le_refl _⟩, ⟨by (try simp only [hl10_1]); (try simp only [hl10_2]); exact rq HO_10⟩, ⟨by (try simp only [hl10_1]); (try simp only [hl10_2]); exact rq HO_11⟩, ⟨by (try simp only [hl10_1]); (try simp only [hl10_2]); (with_reducible repeat (first | apply Kd.jb | apply Kd.ja | apply Kd.jg)); exact HO_12.out⟩, ⟨by (try simp only [hl10_1]); (try simp only [hl10_2]); exact kq BK354⟩, ⟨bs HB GE354⟩⟩
        rw [if_pos c34] at H
        have c34b0 : decide (t374 ≤ a2) = true := decide_eq_true c34
        clear c34
        (first | rw [c34b0] | (simp only [zJ, zN]; rw [c34b0]) | skip)
        obtain ⟨ji35, hji35⟩ : ∃ j_ : Int, (wrap64 (x14_2 + 1)) = j_ := ⟨_, rfl⟩
        replace H : (if 0 ≤ (ji35) then (if (ji35) < (x10_2.length : Int) then (qf.j3 kj26 l0 a1 a2 (l0.length : Int) x10_2 x11_2 x12_2 x13_1 x14_2 t375 (jN false x10_2 (ji35))) else (none)) else (none)) = some (r1, r2, r3, r4) := by first | (rw [hji35] at H; exact H) | (simp only [hji35] at H ⊢; exact H)
        have hji35w : (IntKind.i64.wrap (x14_2 + 1)) = ji35 := (zJ _).trans hji35
        by_cases c36 : 0 ≤ (ji35)
        case neg =>
         rw [if_neg c36] at H
         exact absurd H (by simp)
        rw [if_pos c36] at H
        have c36b0 : decide (0 ≤ (ji35)) = true := decide_eq_true c36
        clear c36
        by_cases c37 : (ji35) < (x10_2.length : Int)
        case neg =>
         rw [if_neg c37] at H
         exact absurd H (by simp)
        rw [if_pos c37] at H
        have c37b0 : decide ((ji35) < (x10_2.length : Int)) = true := decide_eq_true c37
        clear c37
        have H' := qa.mk H
        clear H
        have p377 : 0 ≤ ((ji35) : Int) := odt
        have q377 : (ji35) < (x10_2.length : Int) := odt
        obtain ⟨ad377, e377, hx377_0⟩ := Kd.Q8 (Kd.zm HO_10.out).2.2 (ji35) p377 q377
        obtain rfl : (⟨go12, 0, none⟩ : Addr) = ad377 := (by injection e377)
        (first | simp only [add_plain] at hx377_0 | simp only [jW] at hx377_0 | simp only [Addr.add, Nat.zero_add] at hx377_0 | skip)
        replace p377 := eq_true p377
        replace q377 := eq_true q377
        go_wp2
        go_meet
        case rel => exact ⟨_, (jN false x10_2 (ji35)), (by first | rfl | (simp; done) | (simp only [← hji35] <;> (first | rfl | simp)) | (simp [*]; done)), H', ⟨by have := HK1.out; have := HK2.out; have := HJ26.out; first | omega | exact Nat.le_refl _⟩, ⟨by (try simp only [hl10_1]); (try simp only [hl10_2]); exact rq HO_10⟩, ⟨by (try simp only [hl10_1]); (try simp only [hl10_2]); exact rq HO_11⟩, ⟨by (try simp only [hl10_1]); (try simp only [hl10_2]); (with_reducible repeat (first | apply Kd.jb | apply Kd.ja | apply Kd.jg)); exact HO_12.out⟩, ⟨by (try simp only [hl10_1]); (try simp only [hl10_2]); exact kq BK354⟩, ⟨bs HB GE354⟩⟩
       case rest =>
        clear HC32
        try clear c1
        try clear p1
        try clear q1
        try clear hx1
        try clear qi1
        try clear c2
        try clear p2
        try clear c3
        try clear p3
        try clear q3
        try clear hx3
        try clear c5
        try clear c5b0
        try clear c5b1
        try clear p6
        try clear c7
        try clear c7b0
        try clear c7b1
        try clear c8
        try clear c8b0
        try clear c8b1
        try clear c9
        try clear c9b0
        try clear c9b1
        try clear c10
        try clear c10b0
        try clear c10b1
        try clear c11
        try clear c11b0
        try clear c11b1
        try clear p12
        try clear q12
        try clear hx12
        try clear qi12
        try clear hf12
        try clear c14
        try clear c15
        try clear c19
        try clear c23
        try clear c23b0
        try clear c25
        try clear c26
        try clear c26b0
        try clear c28
        try clear c28b0
        try clear c30
        try clear c32
        try clear c33
        try clear c34
        try clear c34b0
        try clear c36
        try clear c36b0
        try clear c37
        try clear c37b0
        try clear p37
        try clear q37
        try clear hx37
        try clear hx12_0
        try clear hx377_0
        try clear p1
        try clear p12
        try clear p2
        try clear p377
        try clear p6
        try clear q1
        try clear q12
        try clear q377
        obtain ⟨kq, x85_31, rfl, HA, HJ31, HO_10, HO_11, HO_12, BK354, HB⟩ := hcut
        cases kq with
        | zero => exact absurd HA.out (by simp [qf.j3])
        | succ kj31 =>
         have H := HA.out
         clear HA
         simp only [qf.j3] at H
         by_cases c38 : x85_31 = true
         case neg =>
          replace c38 := Bool.eq_false_iff.mpr c38
          subst c38
          have H1 : (if x14_2 ≥ 0 then ((zx.f l0 x14_2).bind fun t400 => (if t400 = true then (qf.l0 kj31 l0 a1 a2 (l0.length : Int) x10_2 x11_2 x12_2 (wrap64 (x13_1 + 1))) else (qf.l1 kj31 l0 a1 a2 (l0.length : Int) x10_2 x11_2 x12_2 x13_1 (wrap64 (x14_2 - 1))))) else (qf.l1 kj31 l0 a1 a2 (l0.length : Int) x10_2 x11_2 x12_2 x13_1 (wrap64 (x14_2 - 1)))) = some (r1, r2, r3, r4) := by rw [if_neg (show ¬ (false = true) by decide)] at H; exact H
          clear H
          have H := H1
          clear H1
          by_cases c98 : x14_2 ≥ 0
          case neg =>
           rw [if_neg c98] at H
           have c98b0 : decide (0 ≤ x14_2) = false := decide_eq_false c98
           clear c98
           have H' := qa.mk H
           clear H
           go_wp2
           (try simp only [← hl10_2])
           go_roundg kj31
           case measure => have := HK1.out; have := HK2.out; have := HJ26.out; have := HJ31.out; omega
           case rel => exact ⟨(x10_2), (x11_2), (x12_2), (wrap64 (x14_2 - 1)), (by first | rfl | (simp; done) | (simp [*]; done)), H', ⟨by have := HK1.out; have := HK2.out; have := HJ26.out; have := HJ31.out; omega⟩, ⟨by (try simp only [hl10_1]); (try simp only [hl10_2]); exact rq HO_10⟩, ⟨by (try simp only [hl10_1]); (try simp only [hl10_2]); exact rq HO_11⟩, ⟨by (try simp only [hl10_1]); (try simp only [hl10_2]); (with_reducible repeat (first | apply Kd.jb | apply Kd.ja | apply Kd.jg)); exact HO_12.out⟩, ⟨by (try simp only [hl10_1]); (try simp only [hl10_2]); exact kq BK354⟩, ⟨bs HB GE354⟩⟩
          rw [if_pos c98] at H
          have c98b0 : decide (0 ≤ x14_2) = true := decide_eq_true c98
          clear c98
          replace H := Option.bind_eq_some_iff.mp H
          obtain ⟨t400, A990, H⟩ := H
          replace H : (if t400 = true then (qf.l0 kj31 l0 a1 a2 (l0.length : Int) x10_2 x11_2 x12_2 (wrap64 (x13_1 + 1))) else (qf.l1 kj31 l0 a1 a2 (l0.length : Int) x10_2 x11_2 x12_2 x13_1 (wrap64 (x14_2 - 1)))) = some (r1, r2, r3, r4) := H
          have A99 := qa.mk A990
          clear A990
          by_cases c100 : t400 = true
          ·subst c100
           have H1 : (qf.l0 kj31 l0 a1 a2 (l0.length : Int) x10_2 x11_2 x12_2 (wrap64 (x13_1 + 1))) = some (r1, r2, r3, r4) := by rw [if_pos rfl] at H; exact H
           clear H
           have H := H1
           clear H1
           have H' := qa.mk H
           clear H
           go_wp2_with (first | (go_at_call 20; (with_reducible refine (zx.calls _ _ l0 x14_2 true _ ?side1 ?side2 A99.out).mono ?_); (case side1 => repeat (first | exact (Kd.zS HR0.out HB.out) | (with_reducible refine Kd.zI ?_ _) | (with_reducible refine Kd.zH ?_ _) | (with_reducible refine Kd.zL ?_))); (case side2 => exact HC0.out); rintro e w' ⟨rfl, ⟨nd, rfl⟩⟩))
           (try simp only [← hl10_1, ← hl10_2])
           go_roundg kj31
           case measure => have := HK1.out; have := HK2.out; have := HJ26.out; have := HJ31.out; omega
           case rel => exact ⟨(x10_2), (x11_2), (x12_2), (wrap64 (x13_1 + 1)), (by first | rfl | (simp; done) | (simp [*]; done)), H', ⟨by have := HK1.out; have := HK2.out; have := HJ26.out; have := HJ31.out; omega⟩, ⟨by (try simp only [hl10_1]); (try simp only [hl10_2]); exact rq HO_10⟩, ⟨by (try simp only [hl10_1]); (try simp only [hl10_2]); exact rq HO_11⟩, ⟨by (try simp only [hl10_1]); (try simp only [hl10_2]); (with_reducible repeat (first | apply Kd.jb | apply Kd.ja | apply Kd.jg)); exact HO_12.out⟩, ⟨by (try simp only [hl10_1]); (try simp only [hl10_2]); exact kq BK354⟩, ⟨bs HB GE354⟩⟩
          replace c100 := Bool.eq_false_iff.mpr c100
          subst c100
          have H1 : (qf.l1 kj31 l0 a1 a2 (l0.length : Int) x10_2 x11_2 x12_2 x13_1 (wrap64 (x14_2 - 1))) = some (r1, r2, r3, r4) := by rw [if_neg (show ¬ (false = true) by decide)] at H; exact H
          clear H
          have H := H1
          clear H1
          have H' := qa.mk H
          clear H
          go_wp2_with (first | (go_at_call 20; (with_reducible refine (zx.calls _ _ l0 x14_2 false _ ?side1 ?side2 A99.out).mono ?_); (case side1 => repeat (first | exact (Kd.zS HR0.out HB.out) | (with_reducible refine Kd.zI ?_ _) | (with_reducible refine Kd.zH ?_ _) | (with_reducible refine Kd.zL ?_))); (case side2 => exact HC0.out); rintro e w' ⟨rfl, ⟨nd, rfl⟩⟩))
          (try simp only [← hl10_2])
          go_roundg kj31
          case measure => have := HK1.out; have := HK2.out; have := HJ26.out; have := HJ31.out; omega
          case rel => exact ⟨(x10_2), (x11_2), (x12_2), (wrap64 (x14_2 - 1)), (by first | rfl | (simp; done) | (simp [*]; done)), H', ⟨by have := HK1.out; have := HK2.out; have := HJ26.out; have := HJ31.out; omega⟩, ⟨by (try simp only [hl10_1]); (try simp only [hl10_2]); exact rq HO_10⟩, ⟨by (try simp only [hl10_1]); (try simp only [hl10_2]); exact rq HO_11⟩, ⟨by (try simp only [hl10_1]); (try simp only [hl10_2]); (with_reducible repeat (first | apply Kd.jb | apply Kd.ja | apply Kd.jg)); exact HO_12.out⟩, ⟨by (try simp only [hl10_1]); (try simp only [hl10_2]); exact kq BK354⟩, ⟨bs HB GE354⟩⟩
         subst c38
         have H1 : (if 0 ≤ (wrap64 (x14_2 + 1)) then (if (wrap64 (x14_2 + 1)) < (x11_2.length : Int) then ((qQ.f kj31 l0 x14_2 x13_1 t375).bind fun t379 => ((some (([] : List Int) : List Int)).bind fun y380 => (if (wrap64 (x14_2 + 1)) < (x12_2.length : Int) then (if y380.length + (jc x12_2 (wrap64 (x14_2 + 1))).length < 17592186044416 then ((some (y380 ++ (jc x12_2 (wrap64 (x14_2 + 1))) : List Int)).bind fun y384 => (if y384.length < 17592186044416 then ((some (y384 ++ [x13_1] : List Int)).bind fun y387 => (if 0 ≤ (wrap64 (x13_1 + 1)) then (if (wrap64 (x13_1 + 1)) < (x10_2.length : Int) then (if (jN false x10_2 (wrap64 (x13_1 + 1)) = true) then (if (wrap64 (x13_1 + 1)) < (x11_2.length : Int) then (if (wrap64 ((rd x11_2 (wrap64 (x14_2 + 1))) + t379)) < (rd x11_2 (wrap64 (x13_1 + 1))) then (qf.j4 kj31 l0 a1 a2 (l0.length : Int) x10_2 x11_2 x12_2 x13_1 x14_2 (wrap64 ((rd x11_2 (wrap64 (x14_2 + 1))) + t379)) y387 true) else (if (wrap64 ((rd x11_2 (wrap64 (x14_2 + 1))) + t379)) = (rd x11_2 (wrap64 (x13_1 + 1))) then (if (wrap64 (x13_1 + 1)) < (x12_2.length : Int) then ((za.f kj31 y387 (jc x12_2 (wrap64 (x13_1 + 1)))).bind fun t394 => (qf.j4 kj31 l0 a1 a2 (l0.length : Int) x10_2 x11_2 x12_2 x13_1 x14_2 (wrap64 ((rd x11_2 (wrap64 (x14_2 + 1))) + t379)) y387 t394)) else (none)) else (qf.j4 kj31 l0 a1 a2 (l0.length : Int) x10_2 x11_2 x12_2 x13_1 x14_2 (wrap64 ((rd x11_2 (wrap64 (x14_2 + 1))) + t379)) y387 false))) else (none)) else (qf.j4 kj31 l0 a1 a2 (l0.length : Int) x10_2 x11_2 x12_2 x13_1 x14_2 (wrap64 ((rd x11_2 (wrap64 (x14_2 + 1))) + t379)) y387 true)) else (none)) else (none))) else (none))) else (none)) else (none)))) else (none)) else (none)) = some (r1, r2, r3, r4) := by rw [if_pos rfl] at H; exact H
         clear H
         have H := H1
         clear H1
         obtain ⟨ji39, hji39⟩ : ∃ j_ : Int, (wrap64 (x14_2 + 1)) = j_ := ⟨_, rfl⟩
         replace H : (if 0 ≤ (ji39) then (if (ji39) < (x11_2.length : Int) then ((qQ.f kj31 l0 x14_2 x13_1 t375).bind fun t379 => ((some (([] : List Int) : List Int)).bind fun y380 => (if (ji39) < (x12_2.length : Int) then (if y380.length + (jc x12_2 (ji39)).length < 17592186044416 then ((some (y380 ++ (jc x12_2 (ji39)) : List Int)).bind fun y384 => (if y384.length < 17592186044416 then ((some (y384 ++ [x13_1] : List Int)).bind fun y387 => (if 0 ≤ (wrap64 (x13_1 + 1)) then (if (wrap64 (x13_1 + 1)) < (x10_2.length : Int) then (if (jN false x10_2 (wrap64 (x13_1 + 1)) = true) then (if (wrap64 (x13_1 + 1)) < (x11_2.length : Int) then (if (wrap64 ((rd x11_2 (ji39)) + t379)) < (rd x11_2 (wrap64 (x13_1 + 1))) then (qf.j4 kj31 l0 a1 a2 (l0.length : Int) x10_2 x11_2 x12_2 x13_1 x14_2 (wrap64 ((rd x11_2 (ji39)) + t379)) y387 true) else (if (wrap64 ((rd x11_2 (ji39)) + t379)) = (rd x11_2 (wrap64 (x13_1 + 1))) then (if (wrap64 (x13_1 + 1)) < (x12_2.length : Int) then ((za.f kj31 y387 (jc x12_2 (wrap64 (x13_1 + 1)))).bind fun t394 => (qf.j4 kj31 l0 a1 a2 (l0.length : Int) x10_2 x11_2 x12_2 x13_1 x14_2 (wrap64 ((rd x11_2 (ji39)) + t379)) y387 t394)) else (none)) else (qf.j4 kj31 l0 a1 a2 (l0.length : Int) x10_2 x11_2 x12_2 x13_1 x14_2 (wrap64 ((rd x11_2 (ji39)) + t379)) y387 false))) else (none)) else (qf.j4 kj31 l0 a1 a2 (l0.length : Int) x10_2 x11_2 x12_2 x13_1 x14_2 (wrap64 ((rd x11_2 (ji39)) + t379)) y387 true)) else (none)) else (none))) else (none))) else (none)) else (none)))) else (none)) else (none)) = some (r1, r2, r3, r4) := by first | (rw [hji39] at H; exact H) | (simp only [hji39] at H ⊢; exact H)
         have hji39w : (IntKind.i64.wrap (x14_2 + 1)) = ji39 := (zJ _).trans hji39
         by_cases c40 : 0 ≤ (ji39)
         case neg =>
          rw [if_neg c40] at H
          exact absurd H (by simp)
         rw [if_pos c40] at H
         have c40b0 : decide (0 ≤ (ji39)) = true := decide_eq_true c40
         clear c40
         by_cases c41 : (ji39) < (x11_2.length : Int)
         case neg =>
          rw [if_neg c41] at H
          exact absurd H (by simp)
         rw [if_pos c41] at H
         have c41b0 : decide ((ji39) < (x11_2.length : Int)) = true := decide_eq_true c41
         clear c41
         replace H := Option.bind_eq_some_iff.mp H
         obtain ⟨t379, A420, H⟩ := H
         replace H : ((some (([] : List Int) : List Int)).bind fun y380 => (if (ji39) < (x12_2.length : Int) then (if y380.length + (jc x12_2 (ji39)).length < 17592186044416 then ((some (y380 ++ (jc x12_2 (ji39)) : List Int)).bind fun y384 => (if y384.length < 17592186044416 then ((some (y384 ++ [x13_1] : List Int)).bind fun y387 => (if 0 ≤ (wrap64 (x13_1 + 1)) then (if (wrap64 (x13_1 + 1)) < (x10_2.length : Int) then (if (jN false x10_2 (wrap64 (x13_1 + 1)) = true) then (if (wrap64 (x13_1 + 1)) < (x11_2.length : Int) then (if (wrap64 ((rd x11_2 (ji39)) + t379)) < (rd x11_2 (wrap64 (x13_1 + 1))) then (qf.j4 kj31 l0 a1 a2 (l0.length : Int) x10_2 x11_2 x12_2 x13_1 x14_2 (wrap64 ((rd x11_2 (ji39)) + t379)) y387 true) else (if (wrap64 ((rd x11_2 (ji39)) + t379)) = (rd x11_2 (wrap64 (x13_1 + 1))) then (if (wrap64 (x13_1 + 1)) < (x12_2.length : Int) then ((za.f kj31 y387 (jc x12_2 (wrap64 (x13_1 + 1)))).bind fun t394 => (qf.j4 kj31 l0 a1 a2 (l0.length : Int) x10_2 x11_2 x12_2 x13_1 x14_2 (wrap64 ((rd x11_2 (ji39)) + t379)) y387 t394)) else (none)) else (qf.j4 kj31 l0 a1 a2 (l0.length : Int) x10_2 x11_2 x12_2 x13_1 x14_2 (wrap64 ((rd x11_2 (ji39)) + t379)) y387 false))) else (none)) else (qf.j4 kj31 l0 a1 a2 (l0.length : Int) x10_2 x11_2 x12_2 x13_1 x14_2 (wrap64 ((rd x11_2 (ji39)) + t379)) y387 true)) else (none)) else (none))) else (none))) else (none)) else (none))) = some (r1, r2, r3, r4) := H
         have A42 := qa.mk A420
         clear A420
         obtain ⟨y380, hy380⟩ : ∃ y_ : List Int, y_ = (([] : List Int)) := ⟨_, rfl⟩
         replace H : (if (ji39) < (x12_2.length : Int) then (if y380.length + (jc x12_2 (ji39)).length < 17592186044416 then ((some (y380 ++ (jc x12_2 (ji39)) : List Int)).bind fun y384 => (if y384.length < 17592186044416 then ((some (y384 ++ [x13_1] : List Int)).bind fun y387 => (if 0 ≤ (wrap64 (x13_1 + 1)) then (if (wrap64 (x13_1 + 1)) < (x10_2.length : Int) then (if (jN false x10_2 (wrap64 (x13_1 + 1)) = true) then (if (wrap64 (x13_1 + 1)) < (x11_2.length : Int) then (if (wrap64 ((rd x11_2 (ji39)) + t379)) < (rd x11_2 (wrap64 (x13_1 + 1))) then (qf.j4 kj31 l0 a1 a2 (l0.length : Int) x10_2 x11_2 x12_2 x13_1 x14_2 (wrap64 ((rd x11_2 (ji39)) + t379)) y387 true) else (if (wrap64 ((rd x11_2 (ji39)) + t379)) = (rd x11_2 (wrap64 (x13_1 + 1))) then (if (wrap64 (x13_1 + 1)) < (x12_2.length : Int) then ((za.f kj31 y387 (jc x12_2 (wrap64 (x13_1 + 1)))).bind fun t394 => (qf.j4 kj31 l0 a1 a2 (l0.length : Int) x10_2 x11_2 x12_2 x13_1 x14_2 (wrap64 ((rd x11_2 (ji39)) + t379)) y387 t394)) else (none)) else (qf.j4 kj31 l0 a1 a2 (l0.length : Int) x10_2 x11_2 x12_2 x13_1 x14_2 (wrap64 ((rd x11_2 (ji39)) + t379)) y387 false))) else (none)) else (qf.j4 kj31 l0 a1 a2 (l0.length : Int) x10_2 x11_2 x12_2 x13_1 x14_2 (wrap64 ((rd x11_2 (ji39)) + t379)) y387 true)) else (none)) else (none))) else (none))) else (none)) else (none)) = some (r1, r2, r3, r4) := by first | (rw [hy380]; with_reducible exact H) | (have H2_ := (Option.bind_some _ _).symm.trans H; rw [hy380]; with_reducible exact H2_) | (have H2_ := (Option.bind_some _ _).symm.trans H; with_reducible exact H2_) | with_reducible exact H | (rw [hy380]; exact H) | exact H
         have Ny380 := qa.mk hy380
         clear hy380
         by_cases c43 : (ji39) < (x12_2.length : Int)
         case neg =>
          rw [if_neg c43] at H
          exact absurd H (by simp)
         rw [if_pos c43] at H
         have c43b0 : decide ((ji39) < (x12_2.length : Int)) = true := decide_eq_true c43
         clear c43
         by_cases c44 : y380.length + (jc x12_2 (ji39)).length < 17592186044416
         case neg =>
          rw [if_neg c44] at H
          exact absurd H (by simp)
         rw [if_pos c44] at H
         have LMc44 := qa.mk c44
         clear c44
         obtain ⟨y384, hy384⟩ : ∃ y_ : List Int, y_ = (y380 ++ (jc x12_2 (ji39))) := ⟨_, rfl⟩
         replace H : (if y384.length < 17592186044416 then ((some (y384 ++ [x13_1] : List Int)).bind fun y387 => (if 0 ≤ (wrap64 (x13_1 + 1)) then (if (wrap64 (x13_1 + 1)) < (x10_2.length : Int) then (if (jN false x10_2 (wrap64 (x13_1 + 1)) = true) then (if (wrap64 (x13_1 + 1)) < (x11_2.length : Int) then (if (wrap64 ((rd x11_2 (ji39)) + t379)) < (rd x11_2 (wrap64 (x13_1 + 1))) then (qf.j4 kj31 l0 a1 a2 (l0.length : Int) x10_2 x11_2 x12_2 x13_1 x14_2 (wrap64 ((rd x11_2 (ji39)) + t379)) y387 true) else (if (wrap64 ((rd x11_2 (ji39)) + t379)) = (rd x11_2 (wrap64 (x13_1 + 1))) then (if (wrap64 (x13_1 + 1)) < (x12_2.length : Int) then ((za.f kj31 y387 (jc x12_2 (wrap64 (x13_1 + 1)))).bind fun t394 => (qf.j4 kj31 l0 a1 a2 (l0.length : Int) x10_2 x11_2 x12_2 x13_1 x14_2 (wrap64 ((rd x11_2 (ji39)) + t379)) y387 t394)) else (none)) else (qf.j4 kj31 l0 a1 a2 (l0.length : Int) x10_2 x11_2 x12_2 x13_1 x14_2 (wrap64 ((rd x11_2 (ji39)) + t379)) y387 false))) else (none)) else (qf.j4 kj31 l0 a1 a2 (l0.length : Int) x10_2 x11_2 x12_2 x13_1 x14_2 (wrap64 ((rd x11_2 (ji39)) + t379)) y387 true)) else (none)) else (none))) else (none)) = some (r1, r2, r3, r4) := by first | (rw [hy384]; with_reducible exact H) | (have H2_ := (Option.bind_some _ _).symm.trans H; rw [hy384]; with_reducible exact H2_) | (have H2_ := (Option.bind_some _ _).symm.trans H; with_reducible exact H2_) | with_reducible exact H | (rw [hy384]; exact H) | exact H
         have Ny384 := qa.mk hy384
         clear hy384
         by_cases c45 : y384.length < 17592186044416
         case neg =>
          rw [if_neg c45] at H
          exact absurd H (by simp)
         rw [if_pos c45] at H
         have LMc45 := qa.mk c45
         clear c45
         obtain ⟨y387, hy387⟩ : ∃ y_ : List Int, y_ = (y384 ++ [x13_1]) := ⟨_, rfl⟩
         replace H : (if 0 ≤ (wrap64 (x13_1 + 1)) then (if (wrap64 (x13_1 + 1)) < (x10_2.length : Int) then (if (jN false x10_2 (wrap64 (x13_1 + 1)) = true) then (if (wrap64 (x13_1 + 1)) < (x11_2.length : Int) then (if (wrap64 ((rd x11_2 (ji39)) + t379)) < (rd x11_2 (wrap64 (x13_1 + 1))) then (qf.j4 kj31 l0 a1 a2 (l0.length : Int) x10_2 x11_2 x12_2 x13_1 x14_2 (wrap64 ((rd x11_2 (ji39)) + t379)) y387 true) else (if (wrap64 ((rd x11_2 (ji39)) + t379)) = (rd x11_2 (wrap64 (x13_1 + 1))) then (if (wrap64 (x13_1 + 1)) < (x12_2.length : Int) then ((za.f kj31 y387 (jc x12_2 (wrap64 (x13_1 + 1)))).bind fun t394 => (qf.j4 kj31 l0 a1 a2 (l0.length : Int) x10_2 x11_2 x12_2 x13_1 x14_2 (wrap64 ((rd x11_2 (ji39)) + t379)) y387 t394)) else (none)) else (qf.j4 kj31 l0 a1 a2 (l0.length : Int) x10_2 x11_2 x12_2 x13_1 x14_2 (wrap64 ((rd x11_2 (ji39)) + t379)) y387 false))) else (none)) else (qf.j4 kj31 l0 a1 a2 (l0.length : Int) x10_2 x11_2 x12_2 x13_1 x14_2 (wrap64 ((rd x11_2 (ji39)) + t379)) y387 true)) else (none)) else (none)) = some (r1, r2, r3, r4) := by first | (rw [hy387]; with_reducible exact H) | (have H2_ := (Option.bind_some _ _).symm.trans H; rw [hy387]; with_reducible exact H2_) | (have H2_ := (Option.bind_some _ _).symm.trans H; with_reducible exact H2_) | with_reducible exact H | (rw [hy387]; exact H) | exact H
         have Ny387 := qa.mk hy387
         clear hy387
         have HC46 := qa.mk H
         clear H
         try go_wp2
         have n0_ := qa.mk (Kd.qG HO_10.out)
         have n1_ := qa.mk (Kd.qG HO_11.out)
         have n2_ := qa.mk (Kd.jg HO_12.out)
         have n3_ := qa.mk (qo BK354.out)
         have n4_ := qa.mk (qC HB.out)
         clear HO_10
         clear HO_11
         clear HO_12
         clear BK354
         clear HB
         have HO_10 := n0_
         have HO_11 := n1_
         have HO_12 := n2_
         have BK354 := n3_
         have HB := n4_
         clear n0_ n1_ n2_ n3_ n4_
         obtain ⟨Ao48, co48, eo48⟩ := Kd.jo HO_11.out
         (first | subst eo48 | (injection eo48 with f1_ f2_ f3_; have f4_ := f1_.symm; have f5_ := f3_.symm; clear f1_ f2_ f3_; subst f4_; subst f5_))
         have p378 : 0 ≤ ((ji39) : Int) := odt
         have q378 : (ji39) < (x11_2.length : Int) := odt
         obtain ⟨ad378, e378, hx378_0⟩ := Kd.zY (Kd.zm HO_11.out).2.2 (ji39) p378 q378
         cases e378
         replace p378 := eq_true p378
         replace q378 := eq_true q378
         refine start_ (n := 12) (S := fun w' => w'.cell? (ad378.add ((ji39)).toNat) = some (.int .i64 (rd x11_2 (ji39)))) (ds := []) #[false, false, false, false, false, false, false, false, false, false, false, false] (by kernel_rfl) rfl rfl (hx378_0) (fun hHeld => ?_); refine ZA qf.tab19 qf.bits19 (fun HT_ HW_ => ?_)
         generalize wc.drew = w47 at HO_10 HO_11 HO_12 BK354 HB hx378_0 hHeld ⊢
         refine jD (i := 0) (N := some 86) (v := ?_) (a' := ?_) #[true, false, false, false, false, false, false, false, false, false, false, false] rfl rfl (jh HT_.out (by kernel_rfl)) (fun _ _ _ h => h) (Or.inl ⟨by rfl, ?_⟩) ?_ ?_
         rotate_left
         ·intro w'
          go_simp
          with_reducible rfl
         rotate_left
         ·simp only [Act.put, List.setIfInBounds_toArray, List.set_cons_zero, List.set_cons_succ, zJ, zN]
          rfl
         refine jD (i := 1) (N := some 87) (v := ?_) (a' := ?_) #[true, true, false, false, false, false, false, false, false, false, false, false] rfl rfl (jh HT_.out (by kernel_rfl)) (fun _ _ _ h => h) (Or.inl ⟨by rfl, ?_⟩) ?_ ?_
         rotate_left
         ·intro w'
          go_simp
          with_reducible rfl
         rotate_left
         ·simp only [Act.put, List.setIfInBounds_toArray, List.set_cons_zero, List.set_cons_succ, zJ, zN]
          rfl
         refine jD (i := 2) (N := some 88) (v := ?_) (a' := ?_) #[true, true, true, false, false, false, false, false, false, false, false, false] rfl rfl (jh HT_.out (by kernel_rfl)) (fun _ _ _ h => h) (Or.inl ⟨by rfl, ?_⟩) ?_ ?_
         rotate_left
         ·intro w'
          go_simp
          with_reducible rfl
         rotate_left
         ·simp only [Act.put, List.setIfInBounds_toArray, List.set_cons_zero, List.set_cons_succ, zJ, zN]
          rfl
         refine jD (i := 3) (N := some 89) (v := ?_) (a' := ?_) #[true, true, true, true, false, false, false, false, false, false, false, false] rfl rfl (jh HT_.out (by kernel_rfl)) (fun _ _ _ h => h) (Or.inl ⟨by rfl, ?_⟩) ?_ ?_
         rotate_left
         ·intro w'
          go_simp
          with_reducible rfl
         rotate_left
         ·simp only [Act.put, List.setIfInBounds_toArray, List.set_cons_zero, List.set_cons_succ, zJ, zN]
          rfl
         refine jD (i := 5) (N := some 91) (v := ?_) (a' := ?_) #[true, true, true, true, false, true, false, false, false, false, false, false] rfl rfl (jh HT_.out (by kernel_rfl)) (fun _ _ _ h => h) (Or.inl ⟨by rfl, ?_⟩) ?_ ?_
         rotate_left
         ·intro w'
          go_simp
          with_reducible rfl
         rotate_left
         ·simp only [Act.put, List.setIfInBounds_toArray, List.set_cons_zero, List.set_cons_succ, zJ, zN]
          rfl
         refine jD (i := 6) (N := some 92) (v := ?_) (a' := ?_) #[true, true, true, true, false, true, true, false, false, false, false, false] rfl rfl (jh HT_.out (by kernel_rfl)) (fun _ _ _ h => h) (Or.inl ⟨by rfl, ?_⟩) ?_ ?_
         rotate_left
         ·intro w'
          go_simp
          with_reducible rfl
         rotate_left
         ·simp only [Act.put, List.setIfInBounds_toArray, List.set_cons_zero, List.set_cons_succ, zJ, zN]
          rfl
         refine jD (i := 7) (N := some 93) (v := ?_) (a' := ?_) #[true, true, true, true, false, true, true, true, false, false, false, false] rfl rfl (jh HT_.out (by kernel_rfl)) (fun _ _ _ h => h) (Or.inl ⟨by rfl, ?_⟩) ?_ ?_
         rotate_left
         ·intro w'
          go_simp
          with_reducible rfl
         rotate_left
         ·simp only [Act.put, List.setIfInBounds_toArray, List.set_cons_zero, List.set_cons_succ, zJ, zN]
          rfl
         refine jD (i := 8) (N := some 94) (v := ?_) (a' := ?_) #[true, true, true, true, false, true, true, true, true, false, false, false] rfl rfl (jh HT_.out (by kernel_rfl)) (fun _ _ _ h => h) (Or.inl ⟨by rfl, ?_⟩) ?_ ?_
         rotate_left
         ·intro w'
          go_simp
          with_reducible rfl
         rotate_left
         ·simp only [Act.put, List.setIfInBounds_toArray, List.set_cons_zero, List.set_cons_succ, zJ, zN]
          rfl
         refine Zh (i := 4) (N := some 90) (v := ?_) (a' := ?_) #[true, true, true, true, true, true, true, true, true, false, false, false] rfl rfl (QO HT_.out HW_.out (by kernel_rfl)) (fun _ _ _ h => h) (Or.inl ⟨by rfl, ?_⟩) hHeld ?_ ?_
         rotate_left
         ·intro w' s0
          go_simp
          with_reducible rfl
         rotate_left
         ·simp only [Act.put, List.setIfInBounds_toArray, List.set_cons_zero, List.set_cons_succ, zJ, zN]
          rfl
         refine one_ (i := 9) (N := some 95) #[true, true, true, true, true, true, true, true, true, true, false, false] rfl rfl (ZJ HT_.out (by kernel_rfl)) (by decide) (fun K hK => ?_)
         refine goes_ Try.func33 (by kernel_rfl) rfl #[.slice A0 l0.length c0, .int .i64 x14_2, .int .i64 x13_1, .int .i64 t375] (by rfl) rfl rfl (by (try simp only [List.map_toArray, List.map_cons, List.map_nil]); first | done | rfl | (simp only [List.length_drop, List.length_take]; rfl)) ?_
         with_reducible refine (qQ.calls kj31 _ _ l0 x14_2 x13_1 t375 t379 _ ?side1 ?side2 A42.out).mono ?_
         (case side1 => repeat (first | exact (Kd.zS HR0.out HB.out) | (with_reducible refine Kd.zI ?_ _) | (with_reducible refine Kd.zH ?_ _) | (with_reducible refine Kd.zL ?_)))
         (case side2 => exact HC0.out)
         rintro e w' ⟨rfl, ⟨nd, rfl⟩⟩
         refine ⟨_, rfl, ?_⟩
         refine hK.out _ _ (hHeld) (fun hHeld => ?_)
         clear hK K
         refine norm_ (a' := ?_) ?_ ?_
         rotate_left
         ·show Act.put _ (some 95) _ = _
          simp only [Act.put, List.setIfInBounds_toArray, List.set_cons_zero, List.set_cons_succ, zJ, zN]
          rfl
         refine jD (i := 10) (N := some 96) (v := ?_) (a' := ?_) #[true, true, true, true, true, true, true, true, true, true, true, false] rfl rfl (jh HT_.out (by kernel_rfl)) (fun _ _ _ h => h) (Or.inl ⟨by rfl, ?_⟩) ?_ ?_
         rotate_left
         ·intro w'
          go_simp
          with_reducible rfl
         rotate_left
         ·simp only [Act.put, List.setIfInBounds_toArray, List.set_cons_zero, List.set_cons_succ, zJ, zN]
          rfl
         refine jD (i := 11) (N := some 18) (v := ?_) (a' := ?_) #[true, true, true, true, true, true, true, true, true, true, true, true] rfl rfl (jh HT_.out (by kernel_rfl)) (fun _ _ _ h => h) (Or.inl ⟨by rfl, ?_⟩) ?_ ?_
         rotate_left
         ·intro w'
          go_simp
          with_reducible rfl
         rotate_left
         ·simp only [Act.put, List.setIfInBounds_toArray, List.set_cons_zero, List.set_cons_succ, zJ, zN]
          rfl
         refine done_ (Jr HT_.out (by kernel_rfl)) ?_
         go_upto_region 21 with (first | ((with_reducible refine zw (N := 97) rfl ?_); refine Kd.QW (Kd.int .i64) _ 3 ?hg (N := 97) ?hd (xs := ([] : List Int)) (inner := []) (ok := fun _ => True) (okp := fun _ => True) ?hr ?hp (fun _ hk => hk) trivial (Below.refl _ _) (Nat.le_refl _) (by simp) ?_; (case hd => rfl); (case hg => rfl); (case hr => first | (go_simp; done) | (go_simp; rfl)); (case hp => exact (zR.none _ _)); intro v381 w49 ho50 hb hg_ hnew_; clear hg_ hnew_; (first | rw [← Ny380.out] at ho50 | (simp only [Int.reduceToNat] at ho50; rw [← Ny380.out] at ho50)); have n0_ := qa.mk (Kd.zz (rq HO_10) hb); have n1_ := qa.mk (Kd.Qk (rq HO_11) (Kd.Qu ho50) hb); have n2_ := qa.mk (Kd.S_elder' (by (with_reducible repeat (first | apply Kd.jb | apply Kd.ja | apply Kd.jg)); exact HO_12.out) (Kd.Qu ho50) hb); have n3_ := qa.mk (Kd.jm (Kd.QA ho50 (Kd.QN (rq HO_11))) (qI (bs HB GE354))); have n4_ := qa.mk (zD (g := gb354) (o := .cells #[.slice none 0 0, .int .i64 0, .bool false] 26 (0, 0)) (kq BK354) hb); have n5_ := qa.mk (qP (bs HB GE354) hb); clear HO_10; clear HO_11; clear HO_12; clear BK354; clear HB; have HO_10 := n0_; have HO_11 := n1_; have HO_12 := n2_; have HO382 := n3_; have BK354 := n4_; have HB := n5_; clear n0_ n1_ n2_ n3_ n4_ n5_; clear hb ho50; obtain ⟨Ao51, co51, eo51⟩ := Kd.S_slice HO_12.out; subst eo51; have p383 : 0 ≤ ((ji39) : Int) := odt; have q383 : (ji39) < (x12_2.length : Int) := odt; obtain ⟨ad383, A383_0, c383_0, e383, hx383_0, hl383_0, hi383_0⟩ := at_L7 (Kd.Qo HO_12.out).2.2 (ji39) p383 q383; cases e383; obtain ⟨ce383, hce383, hMe383, hcc383⟩ := Kd.S_get HO_12.out [] (ji39) p383 (by first | exact q383 | exact odt | (have e_ := (Kd.Qo HO_12.out).1; omega)); obtain ⟨ve383_0, rfl, ge383_0⟩ := hMe383; have hv383_0 := hcc383 0 _ rfl; rw [Nat.add_zero, show ((Kd.slice 3 (Kd.int .i64))).sz = 1 from rfl, Nat.mul_one] at hv383_0; replace hv383_0 := Option.some.inj (hv383_0.symm.trans hx383_0); rw [hv383_0] at ge383_0; have HL383_0 := qa.mk (show Kd.R (Kd.int .i64) 3 _ _ _ _ (jc x12_2 (ji39)) from ge383_0); clear hv383_0 ge383_0; clear hcc383 hce383; have HR383_0 := qa.mk hi383_0; have HC383_0 := qa.mk hl383_0; clear hi383_0 hl383_0; replace p383 := eq_true p383; replace q383 := eq_true q383) | ((with_reducible refine zU (b := .append) (xs := #[.tmp 97, .tmp 102]) rfl ?_); at_builtin; refine Kd.Qx (Kd.int .i64) (w0 := w) w.heap.size rfl (.tmp 97) (.tmp 102) 24 3 (.int .i64 0) 8 rfl Try.underlying24 info3 rfl (by decide) (by omega) v381 y380 (jc x12_2 (ji39)) _ _ _ (fun k_ => some k_ ≠ (.slice (some ad378) x11_2.length co48 : Value).ownBlock) (fun _ => False) rfl rfl ?aO ?aR (fun _ _ h => h) (fun _ h => h.elim) ?aF ?aB ?aS ?aL ?_; (case aR => repeat (first | exact (by repeat (first | (with_reducible exact HR383_0.out) | (with_reducible refine Kd.zI ?_ _) | (with_reducible refine Kd.zH ?_ _) | (with_reducible refine Kd.zL ?_) | exact HR383_0.out)) | (with_reducible refine Kd.zI ?_ _) | (with_reducible refine Kd.zH ?_ _) | (with_reducible refine Kd.zL ?_))); (case aB => exact (bs HB GE354)); (case aF => exact (fun k_ hk => Kd.fresh' (Kd.QN (rq HO_11)) k_ hk)); (case aO => exact (by (with_reducible repeat (first | apply Kd.qD | apply Kd.qE | apply Kd.qG)); exact Kd.zi HO382.out (fun _ hk => hk.2))); (case aS => exact (qI (bs HB GE354))); (case aL => have := LMc44.out; omega); intro v385 w52 ho hb hg hat; rw [← Ny384.out] at ho; have n0_ := qa.mk (Kd.jV (rq HO_10) (Kd.Qa (rq HO382)) (by decide) hg); have n1_ := qa.mk (Kd.QT (ok := (fun _ => True)) (rq HO_11) hg hat); have n2_ := qa.mk (Kd.ZL (ok := (fun k_ => some k_ ≠ (.slice (some ad378) x11_2.length co48 : Value).ownBlock)) (by (with_reducible repeat (first | apply Kd.jb | apply Kd.ja | apply Kd.jg)); exact HO_12.out) hg hat); have n3_ := qa.mk (jd (g := gb354) (o := .cells #[.slice none 0 0, .int .i64 0, .bool false] 26 (0, 0)) (kq BK354) hg (Kd.jP HO382.out BK354.out (by decide))); have n4_ := qa.mk (Kd.QT (ok := (fun k_ => some k_ ≠ (.slice (some ad378) x11_2.length co48 : Value).ownBlock ∧ some k_ ≠ (.slice (some ad383) x12_2.length co51 : Value).ownBlock)) (by (with_reducible repeat (first | apply Kd.qD | apply Kd.qE | apply Kd.qG)); exact Kd.zi HL383_0.out (fun _ hk => ⟨⟨hk.1.1, hk.2⟩, hk.1.2⟩)) hg hat); have n5_ := qa.mk (hb); have n6_ := qa.mk (ho); clear HO_10; clear HO_11; clear HO_12; clear BK354; clear HL383_0; clear HB; clear HO382; have HO_10 := n0_; have HO_11 := n1_; have HO_12 := n2_; have BK354 := n3_; have HL383_0 := n4_; have HB := n5_; have HO386 := n6_; clear n0_ n1_ n2_ n3_ n4_ n5_ n6_; clear ho hb hg hat) | ((with_reducible refine zU (b := .append) (xs := #[.tmp 103, .tmp 105]) rfl ?_); at_builtin; refine Kd.jU (Kd.int .i64) (w0 := w) w.heap.size rfl (.tmp 103) (.tmp 105) 24 3 (.int .i64 0) 8 rfl Try.underlying24 info3 rfl (by decide) (by omega) v385 y384 x13_1 [.int .i64 x13_1] (fun k_ => some k_ ≠ (.slice (some ad378) x11_2.length co48 : Value).ownBlock) (fun _ => False) rfl rfl ?aP (fun _ hk => hk.elim) ?aF ?aO ?aB ?aS ?aL ?_; (case aP => exact rfl); (case aB => exact (bs HB GE354)); (case aF => exact (fun k_ hk => Kd.fresh' (Kd.QN (rq HO_11)) k_ hk)); (case aO => exact (rq HO386)); (case aS => exact (qI (bs HB GE354))); (case aL => have := LMc45.out; omega); intro v388 w53 ho hb hg hat; rw [← Ny387.out] at ho; have n0_ := qa.mk (Kd.jV (rq HO_10) (Kd.Qa (rq HO386)) (by decide) hg); have n1_ := qa.mk (Kd.QT (ok := (fun _ => True)) (rq HO_11) hg hat); have n2_ := qa.mk (Kd.ZL (ok := (fun k_ => some k_ ≠ (.slice (some ad378) x11_2.length co48 : Value).ownBlock)) (by (with_reducible repeat (first | apply Kd.jb | apply Kd.ja | apply Kd.jg)); exact HO_12.out) hg hat); have n3_ := qa.mk (jd (g := gb354) (o := .cells #[.slice none 0 0, .int .i64 0, .bool false] 26 (0, 0)) (kq BK354) hg (Kd.jP HO386.out BK354.out (by decide))); have n4_ := qa.mk (Kd.QT (ok := (fun k_ => some k_ ≠ (.slice (some ad378) x11_2.length co48 : Value).ownBlock ∧ some k_ ≠ (.slice (some ad383) x12_2.length co51 : Value).ownBlock)) (by (with_reducible repeat (first | apply Kd.qD | apply Kd.qE | apply Kd.qG)); exact HL383_0.out) hg hat); have n5_ := qa.mk (hb); have n6_ := qa.mk (ho); clear HO_10; clear HO_11; clear HO_12; clear BK354; clear HL383_0; clear HB; clear HO386; have HO_10 := n0_; have HO_11 := n1_; have HO_12 := n2_; have BK354 := n3_; have HL383_0 := n4_; have HB := n5_; have HO389 := n6_; clear n0_ n1_ n2_ n3_ n4_ n5_ n6_; clear ho hb hg hat))
         (try simp only [Act.put, List.setIfInBounds_toArray, List.set_cons_zero, List.set_cons_succ])
         go_cut [139] (fun v139 wc => ∃ (kq : Nat) (x139_45 : Bool), v139 = .bool x139_45 ∧ qa (qf.j4 kq l0 a1 a2 (l0.length : Int) x10_2 x11_2 x12_2 x13_1 x14_2 (wrap64 ((rd x11_2 (ji39)) + t379)) y387 x139_45 = some (r1, r2, r3, r4)) ∧ qa (kq ≤ kj31) ∧ qa (Kd.R Kd.bool 4 wc w.heap.size (fun _ => True) (.slice (some ⟨go12, 0, none⟩) x10_2.length co12) x10_2) ∧ qa (Kd.R (Kd.int .i64) 3 wc w.heap.size (fun k_ => some k_ ≠ (v388 : Value).ownBlock) (.slice (some ad378) x11_2.length co48) x11_2) ∧ qa (Kd.S (Kd.slice 3 (Kd.int .i64)) 24 wc w.heap.size (fun k_ => some k_ ≠ ((.slice (some ad378) x11_2.length co48) : Value).ownBlock ∧ some k_ ≠ (v388 : Value).ownBlock) (.slice (some ad383) x12_2.length co51) x12_2) ∧ qa (Kd.R (Kd.int .i64) 3 wc w.heap.size (fun k_ => some k_ ≠ ((.slice (some ad378) x11_2.length co48) : Value).ownBlock) v388 y387) ∧ qa (wc.heap[gb354]? = some (.cells #[(.slice none 0 0), .int .i64 0, .bool false] 26 (0, 0))) ∧ qa (Below w.heap.size w wc))
         case first =>
          have H := HC46.out
          clear HC46
          obtain ⟨ji54, hji54⟩ : ∃ j_ : Int, (wrap64 (x13_1 + 1)) = j_ := ⟨_, rfl⟩
          replace H : (if 0 ≤ (ji54) then (if (ji54) < (x10_2.length : Int) then (if (jN false x10_2 (ji54) = true) then (if (ji54) < (x11_2.length : Int) then (if (wrap64 ((rd x11_2 (ji39)) + t379)) < (rd x11_2 (ji54)) then (qf.j4 kj31 l0 a1 a2 (l0.length : Int) x10_2 x11_2 x12_2 x13_1 x14_2 (wrap64 ((rd x11_2 (ji39)) + t379)) y387 true) else (if (wrap64 ((rd x11_2 (ji39)) + t379)) = (rd x11_2 (ji54)) then (if (ji54) < (x12_2.length : Int) then ((za.f kj31 y387 (jc x12_2 (ji54))).bind fun t394 => (qf.j4 kj31 l0 a1 a2 (l0.length : Int) x10_2 x11_2 x12_2 x13_1 x14_2 (wrap64 ((rd x11_2 (ji39)) + t379)) y387 t394)) else (none)) else (qf.j4 kj31 l0 a1 a2 (l0.length : Int) x10_2 x11_2 x12_2 x13_1 x14_2 (wrap64 ((rd x11_2 (ji39)) + t379)) y387 false))) else (none)) else (qf.j4 kj31 l0 a1 a2 (l0.length : Int) x10_2 x11_2 x12_2 x13_1 x14_2 (wrap64 ((rd x11_2 (ji39)) + t379)) y387 true)) else (none)) else (none)) = some (r1, r2, r3, r4) := by first | (rw [hji54] at H; exact H) | (simp only [hji54] at H ⊢; exact H)
          have hji54w : (IntKind.i64.wrap (x13_1 + 1)) = ji54 := (zJ _).trans hji54
          by_cases c55 : 0 ≤ (ji54)
          case neg =>
           rw [if_neg c55] at H
           exact absurd H (by simp)
          rw [if_pos c55] at H
          have c55b0 : decide (0 ≤ (ji54)) = true := decide_eq_true c55
          clear c55
          (first | rw [c55b0] | (simp only [zJ, zN]; rw [c55b0]) | skip)
          by_cases c56 : (ji54) < (x10_2.length : Int)
          case neg =>
           rw [if_neg c56] at H
           exact absurd H (by simp)
          rw [if_pos c56] at H
          have c56b0 : decide ((ji54) < (x10_2.length : Int)) = true := decide_eq_true c56
          clear c56
          obtain ⟨bq57, hbq57⟩ : ∃ b_ : Bool, b_ = (jN false x10_2 (ji54)) := ⟨_, rfl⟩
          replace H : (if (bq57 = true) then (if (ji54) < (x11_2.length : Int) then (if (wrap64 ((rd x11_2 (ji39)) + t379)) < (rd x11_2 (ji54)) then (qf.j4 kj31 l0 a1 a2 (l0.length : Int) x10_2 x11_2 x12_2 x13_1 x14_2 (wrap64 ((rd x11_2 (ji39)) + t379)) y387 true) else (if (wrap64 ((rd x11_2 (ji39)) + t379)) = (rd x11_2 (ji54)) then (if (ji54) < (x12_2.length : Int) then ((za.f kj31 y387 (jc x12_2 (ji54))).bind fun t394 => (qf.j4 kj31 l0 a1 a2 (l0.length : Int) x10_2 x11_2 x12_2 x13_1 x14_2 (wrap64 ((rd x11_2 (ji39)) + t379)) y387 t394)) else (none)) else (qf.j4 kj31 l0 a1 a2 (l0.length : Int) x10_2 x11_2 x12_2 x13_1 x14_2 (wrap64 ((rd x11_2 (ji39)) + t379)) y387 false))) else (none)) else (qf.j4 kj31 l0 a1 a2 (l0.length : Int) x10_2 x11_2 x12_2 x13_1 x14_2 (wrap64 ((rd x11_2 (ji39)) + t379)) y387 true)) = some (r1, r2, r3, r4) := by rw [← hbq57] at H; exact H
          have Nbq57 := qa.mk hbq57
          clear hbq57
          by_cases c58 : (bq57 = true)
          case neg =>
           replace c58 := Bool.eq_false_iff.mpr c58
           subst c58
           have H1 : (qf.j4 kj31 l0 a1 a2 (l0.length : Int) x10_2 x11_2 x12_2 x13_1 x14_2 (wrap64 ((rd x11_2 (ji39)) + t379)) y387 true) = some (r1, r2, r3, r4) := by rw [if_neg (show ¬ (false = true) by decide)] at H; exact H
           clear H
           have H := H1
           clear H1
           have H' := qa.mk H
           clear H
           have p390 : 0 ≤ ((ji54) : Int) := odt
           have q390 : (ji54) < (x10_2.length : Int) := odt
           obtain ⟨ad390, e390, hx390_0⟩ := Kd.Q8 (Kd.zm HO_10.out).2.2 (ji54) p390 q390
           (try rw [← Nbq57.out] at hx390_0)
           obtain rfl : (⟨go12, 0, none⟩ : Addr) = ad390 := (by injection e390)
           (first | simp only [add_plain] at hx390_0 | simp only [jW] at hx390_0 | simp only [Addr.add, Nat.zero_add] at hx390_0 | skip)
           replace p390 := eq_true p390
           replace q390 := eq_true q390
           go_wp2
           go_meet
           case rel => exact ⟨_, (true), (by first | rfl | (simp; done) | (simp [*]; done)), H', ⟨by have := HK1.out; have := HK2.out; have := HJ26.out; have := HJ31.out; first | omega | exact Nat.le_refl _⟩, ⟨by (try simp only [hl10_1]); (try simp only [hl10_2]); exact rq HO_10⟩, ⟨by (try simp only [hl10_1]); (try simp only [hl10_2]); (with_reducible repeat (first | apply Kd.qD | apply Kd.qE | apply Kd.qG)); exact Kd.zi HO_11.out (fun _ hk => hk.2)⟩, ⟨by (try simp only [hl10_1]); (try simp only [hl10_2]); (with_reducible repeat (first | apply Kd.jb | apply Kd.ja | apply Kd.jg)); exact HO_12.out⟩, ⟨by (try simp only [hl10_1]); (try simp only [hl10_2]); exact rq HO389⟩, ⟨by (try simp only [hl10_1]); (try simp only [hl10_2]); exact kq BK354⟩, ⟨bs HB GE354⟩⟩
          subst c58
          have H1 : (if (ji54) < (x11_2.length : Int) then (if (wrap64 ((rd x11_2 (ji39)) + t379)) < (rd x11_2 (ji54)) then (qf.j4 kj31 l0 a1 a2 (l0.length : Int) x10_2 x11_2 x12_2 x13_1 x14_2 (wrap64 ((rd x11_2 (ji39)) + t379)) y387 true) else (if (wrap64 ((rd x11_2 (ji39)) + t379)) = (rd x11_2 (ji54)) then (if (ji54) < (x12_2.length : Int) then ((za.f kj31 y387 (jc x12_2 (ji54))).bind fun t394 => (qf.j4 kj31 l0 a1 a2 (l0.length : Int) x10_2 x11_2 x12_2 x13_1 x14_2 (wrap64 ((rd x11_2 (ji39)) + t379)) y387 t394)) else (none)) else (qf.j4 kj31 l0 a1 a2 (l0.length : Int) x10_2 x11_2 x12_2 x13_1 x14_2 (wrap64 ((rd x11_2 (ji39)) + t379)) y387 false))) else (none)) = some (r1, r2, r3, r4) := by rw [if_pos rfl] at H; exact H
          clear H
          have H := H1
          clear H1
          by_cases c59 : (ji54) < (x11_2.length : Int)
          case neg =>
           rw [if_neg c59] at H
           exact absurd H (by simp)
          rw [if_pos c59] at H
          have c59b0 : decide ((ji54) < (x11_2.length : Int)) = true := decide_eq_true c59
          clear c59
          by_cases c60 : (wrap64 ((rd x11_2 (ji39)) + t379)) < (rd x11_2 (ji54))
          ·rw [if_pos c60] at H
           have c60b0 : decide ((wrap64 ((rd x11_2 (ji39)) + t379)) < (rd x11_2 (ji54))) = true := decide_eq_true c60
           clear c60
           have H' := qa.mk H
           clear H
           have p390 : 0 ≤ ((ji54) : Int) := odt
           have q390 : (ji54) < (x10_2.length : Int) := odt
           obtain ⟨ad390, e390, hx390_0⟩ := Kd.Q8 (Kd.zm HO_10.out).2.2 (ji54) p390 q390
           (try rw [← Nbq57.out] at hx390_0)
           obtain rfl : (⟨go12, 0, none⟩ : Addr) = ad390 := (by injection e390)
           (first | simp only [add_plain] at hx390_0 | simp only [jW] at hx390_0 | simp only [Addr.add, Nat.zero_add] at hx390_0 | skip)
           replace p390 := eq_true p390
           replace q390 := eq_true q390
           have p391 : 0 ≤ ((ji54) : Int) := odt
           have q391 : (ji54) < (x11_2.length : Int) := odt
           obtain ⟨ad391, e391, hx391_0⟩ := Kd.zY (Kd.zm HO_11.out).2.2 (ji54) p391 q391
           obtain rfl : ad378 = ad391 := (by injection e391)
           replace p391 := eq_true p391
           replace q391 := eq_true q391
           go_wp2
           go_meet
           case rel => exact ⟨_, (true), (by first | rfl | (simp; done) | (simp [*]; done)), H', ⟨by have := HK1.out; have := HK2.out; have := HJ26.out; have := HJ31.out; first | omega | exact Nat.le_refl _⟩, ⟨by (try simp only [hl10_1]); (try simp only [hl10_2]); exact rq HO_10⟩, ⟨by (try simp only [hl10_1]); (try simp only [hl10_2]); (with_reducible repeat (first | apply Kd.qD | apply Kd.qE | apply Kd.qG)); exact Kd.zi HO_11.out (fun _ hk => hk.2)⟩, ⟨by (try simp only [hl10_1]); (try simp only [hl10_2]); (with_reducible repeat (first | apply Kd.jb | apply Kd.ja | apply Kd.jg)); exact HO_12.out⟩, ⟨by (try simp only [hl10_1]); (try simp only [hl10_2]); exact rq HO389⟩, ⟨by (try simp only [hl10_1]); (try simp only [hl10_2]); exact kq BK354⟩, ⟨bs HB GE354⟩⟩
          rw [if_neg c60] at H
          have c60b0 : decide ((wrap64 ((rd x11_2 (ji39)) + t379)) < (rd x11_2 (ji54))) = false := decide_eq_false c60
          clear c60
          by_cases c61 : (wrap64 ((rd x11_2 (ji39)) + t379)) = (rd x11_2 (ji54))
          case neg =>
           rw [if_neg c61] at H
           have c61b0 : ((wrap64 ((rd x11_2 (ji39)) + t379)) == (rd x11_2 (ji54))) = false := beq_eq_false_iff_ne.mpr c61
           have c61b1 : ((wrap64 ((rd x11_2 (ji39)) + t379)) != (rd x11_2 (ji54))) = true := bne_iff_ne.mpr c61
           have H' := qa.mk H
           clear H
           have p390 : 0 ≤ ((ji54) : Int) := odt
           have q390 : (ji54) < (x10_2.length : Int) := odt
           obtain ⟨ad390, e390, hx390_0⟩ := Kd.Q8 (Kd.zm HO_10.out).2.2 (ji54) p390 q390
           (try rw [← Nbq57.out] at hx390_0)
           obtain rfl : (⟨go12, 0, none⟩ : Addr) = ad390 := (by injection e390)
           (first | simp only [add_plain] at hx390_0 | simp only [jW] at hx390_0 | simp only [Addr.add, Nat.zero_add] at hx390_0 | skip)
           replace p390 := eq_true p390
           replace q390 := eq_true q390
           have p391 : 0 ≤ ((ji54) : Int) := odt
           have q391 : (ji54) < (x11_2.length : Int) := odt
           obtain ⟨ad391, e391, hx391_0⟩ := Kd.zY (Kd.zm HO_11.out).2.2 (ji54) p391 q391
           obtain rfl : ad378 = ad391 := (by injection e391)
           replace p391 := eq_true p391
           replace q391 := eq_true q391
           have p392 : 0 ≤ ((ji54) : Int) := odt
           have q392 : (ji54) < (x11_2.length : Int) := odt
           obtain ⟨ad392, e392, hx392_0⟩ := Kd.zY (Kd.zm HO_11.out).2.2 (ji54) p392 q392
           obtain rfl : ad378 = ad392 := (by injection e392)
           replace p392 := eq_true p392
           replace q392 := eq_true q392
           go_wp2
           go_meet
           case rel => exact ⟨_, (false), (by first | rfl | (simp; done) | (simp [*]; done)), H', ⟨by have := HK1.out; have := HK2.out; have := HJ26.out; have := HJ31.out; first | omega | exact Nat.le_refl _⟩, ⟨by (try simp only [hl10_1]); (try simp only [hl10_2]); exact rq HO_10⟩, ⟨by (try simp only [hl10_1]); (try simp only [hl10_2]); (with_reducible repeat (first | apply Kd.qD | apply Kd.qE | apply Kd.qG)); exact Kd.zi HO_11.out (fun _ hk => hk.2)⟩, ⟨by (try simp only [hl10_1]); (try simp only [hl10_2]); (with_reducible repeat (first | apply Kd.jb | apply Kd.ja | apply Kd.jg)); exact HO_12.out⟩, ⟨by (try simp only [hl10_1]); (try simp only [hl10_2]); exact rq HO389⟩, ⟨by (try simp only [hl10_1]); (try simp only [hl10_2]); exact kq BK354⟩, ⟨bs HB GE354⟩⟩
          rw [if_pos c61] at H
          have c61b0 : ((wrap64 ((rd x11_2 (ji39)) + t379)) == (rd x11_2 (ji54))) = true := beq_iff_eq.mpr c61
          have c61b1 : ((wrap64 ((rd x11_2 (ji39)) + t379)) != (rd x11_2 (ji54))) = false := bne_eq_false_iff_eq.mpr c61
          clear c61
          by_cases c62 : (ji54) < (x12_2.length : Int)
          case neg =>
           rw [if_neg c62] at H
           exact absurd H (by simp)
          rw [if_pos c62] at H
          have c62b0 : decide ((ji54) < (x12_2.length : Int)) = true := decide_eq_true c62
          clear c62
          replace H := Option.bind_eq_some_iff.mp H
          obtain ⟨t394, A630, H⟩ := H
          replace H : (qf.j4 kj31 l0 a1 a2 (l0.length : Int) x10_2 x11_2 x12_2 x13_1 x14_2 (wrap64 ((rd x11_2 (ji39)) + t379)) y387 t394) = some (r1, r2, r3, r4) := H
          have A63 := qa.mk A630
          clear A630
          have H' := qa.mk H
          clear H
          have p390 : 0 ≤ ((ji54) : Int) := odt
          have q390 : (ji54) < (x10_2.length : Int) := odt
          obtain ⟨ad390, e390, hx390_0⟩ := Kd.Q8 (Kd.zm HO_10.out).2.2 (ji54) p390 q390
          (try rw [← Nbq57.out] at hx390_0)
          obtain rfl : (⟨go12, 0, none⟩ : Addr) = ad390 := (by injection e390)
          (first | simp only [add_plain] at hx390_0 | simp only [jW] at hx390_0 | simp only [Addr.add, Nat.zero_add] at hx390_0 | skip)
          replace p390 := eq_true p390
          replace q390 := eq_true q390
          have p391 : 0 ≤ ((ji54) : Int) := odt
          have q391 : (ji54) < (x11_2.length : Int) := odt
          obtain ⟨ad391, e391, hx391_0⟩ := Kd.zY (Kd.zm HO_11.out).2.2 (ji54) p391 q391
          obtain rfl : ad378 = ad391 := (by injection e391)
          replace p391 := eq_true p391
          replace q391 := eq_true q391
          have p392 : 0 ≤ ((ji54) : Int) := odt
          have q392 : (ji54) < (x11_2.length : Int) := odt
          obtain ⟨ad392, e392, hx392_0⟩ := Kd.zY (Kd.zm HO_11.out).2.2 (ji54) p392 q392
          obtain rfl : ad378 = ad392 := (by injection e392)
          replace p392 := eq_true p392
          replace q392 := eq_true q392
          have p393 : 0 ≤ ((ji54) : Int) := odt
          have q393 : (ji54) < (x12_2.length : Int) := odt
          obtain ⟨ad393, A393_0, c393_0, e393, hx393_0, hl393_0, hi393_0⟩ := at_L7 (Kd.Qo HO_12.out).2.2 (ji54) p393 q393
          obtain rfl : ad383 = ad393 := (by injection e393)
          obtain ⟨ce393, hce393, hMe393, hcc393⟩ := Kd.S_get HO_12.out [] (ji54) p393 (by first | exact q393 | exact odt | (have e_ := (Kd.Qo HO_12.out).1; omega))
          obtain ⟨ve393_0, rfl, ge393_0⟩ := hMe393
          have hv393_0 := hcc393 0 _ rfl
          rw [Nat.add_zero, show ((Kd.slice 3 (Kd.int .i64))).sz = 1 from rfl, Nat.mul_one] at hv393_0
          replace hv393_0 := Option.some.inj (hv393_0.symm.trans hx393_0)
          rw [hv393_0] at ge393_0
          have HL393_0 := qa.mk (show Kd.R (Kd.int .i64) 3 _ _ _ _ (jc x12_2 (ji54)) from ge393_0)
          clear hv393_0 ge393_0
          clear hcc393 hce393
          have HR393_0 := qa.mk hi393_0
          have HC393_0 := qa.mk hl393_0
          clear hi393_0 hl393_0
          replace p393 := eq_true p393
          replace q393 := eq_true q393
          obtain ⟨Ao64, co64, eo64⟩ := Kd.jo HO389.out
          subst eo64
          go_wp2_with (first | (go_at_call 18; (with_reducible refine (za.calls kj31 _ _ y387 _ _ (jc x12_2 (ji54)) t394 _ ?side1 ?side2 ?side3 ?side4 A63.out).mono ?_); (case side1 => repeat (first | exact (Kd.zm HO389.out).2.2 | (with_reducible refine Kd.zI ?_ _) | (with_reducible refine Kd.zH ?_ _) | (with_reducible refine Kd.zL ?_))); (case side2 => exact (Kd.zm HO389.out).2.1); (case side3 => repeat (first | exact (by repeat (first | (with_reducible exact HR393_0.out) | (with_reducible refine Kd.zI ?_ _) | (with_reducible refine Kd.zH ?_ _) | (with_reducible refine Kd.zL ?_) | exact HR393_0.out)) | (with_reducible refine Kd.zI ?_ _) | (with_reducible refine Kd.zH ?_ _) | (with_reducible refine Kd.zL ?_))); (case side4 => exact HC393_0.out); rintro e w' ⟨rfl, ⟨nd, rfl⟩⟩))
          go_meet
          case rel => exact ⟨_, (t394), (by first | rfl | (simp; done) | (simp [*]; done)), H', ⟨by have := HK1.out; have := HK2.out; have := HJ26.out; have := HJ31.out; first | omega | exact Nat.le_refl _⟩, ⟨by (try simp only [hl10_1]); (try simp only [hl10_2]); exact rq HO_10⟩, ⟨by (try simp only [hl10_1]); (try simp only [hl10_2]); (with_reducible repeat (first | apply Kd.qD | apply Kd.qE | apply Kd.qG)); exact Kd.zi HO_11.out (fun _ hk => hk.2)⟩, ⟨by (try simp only [hl10_1]); (try simp only [hl10_2]); (with_reducible repeat (first | apply Kd.jb | apply Kd.ja | apply Kd.jg)); exact HO_12.out⟩, ⟨by (try simp only [hl10_1]); (try simp only [hl10_2]); exact rq HO389⟩, ⟨by (try simp only [hl10_1]); (try simp only [hl10_2]); exact kq BK354⟩, ⟨bs HB GE354⟩⟩
         case rest =>
          clear HC46
          try clear c1
          try clear p1
          try clear q1
          try clear hx1
          try clear qi1
          try clear c2
          try clear p2
          try clear c3
          try clear p3
          try clear q3
          try clear hx3
          try clear c4
          try clear c5
          try clear c5b0
          try clear c5b1
          try clear q5
          try clear c6
          try clear p6
          try clear c7
          try clear c7b0
          try clear c7b1
          try clear c8
          try clear c8b0
          try clear c8b1
          try clear c9
          try clear c9b0
          try clear c9b1
          try clear c10
          try clear c10b0
          try clear c10b1
          try clear c11
          try clear c11b0
          try clear c11b1
          try clear p12
          try clear q12
          try clear hx12
          try clear qi12
          try clear hf12
          try clear c14
          try clear c15
          try clear c19
          try clear c23
          try clear c23b0
          try clear c25
          try clear c26
          try clear c26b0
          try clear c28
          try clear c28b0
          try clear c30
          try clear c32
          try clear c33
          try clear c34
          try clear c34b0
          try clear c36
          try clear c36b0
          try clear c37
          try clear c37b0
          try clear p37
          try clear q37
          try clear hx37
          try clear c38
          try clear p38
          try clear q38
          try clear hx38
          try clear c39
          try clear p39
          try clear q39
          try clear hx39
          try clear c40
          try clear c40b0
          try clear c41
          try clear c41b0
          try clear c43
          try clear c43b0
          try clear c44
          try clear c45
          try clear c55
          try clear c55b0
          try clear c56
          try clear c56b0
          try clear q57
          try clear c58
          try clear c59
          try clear c59b0
          try clear c60
          try clear c60b0
          try clear c61
          try clear c61b0
          try clear c61b1
          try clear c62
          try clear c62b0
          try clear p64
          try clear hx12_0
          try clear hx377_0
          try clear hx378_0
          try clear hx383_0
          try clear hx390_0
          try clear hx391_0
          try clear hx392_0
          try clear hx393_0
          try clear p1
          try clear p12
          try clear p2
          try clear p3
          try clear p37
          try clear p377
          try clear p378
          try clear p383
          try clear p390
          try clear p391
          try clear p392
          try clear p393
          try clear p6
          try clear q1
          try clear q12
          try clear q3
          try clear q37
          try clear q377
          try clear q378
          try clear q383
          try clear q390
          try clear q391
          try clear q392
          try clear q393
          obtain ⟨kq, x139_45, rfl, HA, HJ45, HO_10, HO_11, HO_12, HO_19, BK354, HB⟩ := hcut
          cases kq with
          | zero => exact absurd HA.out (by simp [qf.j4])
          | succ kj45 =>
           have H := HA.out
           clear HA
           simp only [qf.j4] at H
           by_cases c65 : x139_45 = true
           case neg =>
            replace c65 := Bool.eq_false_iff.mpr c65
            subst c65
            have H1 : (if x14_2 ≥ 0 then ((zx.f l0 x14_2).bind fun t399 => (if t399 = true then (qf.l0 kj45 l0 a1 a2 (l0.length : Int) x10_2 x11_2 x12_2 (wrap64 (x13_1 + 1))) else (qf.l1 kj45 l0 a1 a2 (l0.length : Int) x10_2 x11_2 x12_2 x13_1 (wrap64 (x14_2 - 1))))) else (qf.l1 kj45 l0 a1 a2 (l0.length : Int) x10_2 x11_2 x12_2 x13_1 (wrap64 (x14_2 - 1)))) = some (r1, r2, r3, r4) := by rw [if_neg (show ¬ (false = true) by decide)] at H; exact H
            clear H
            have H := H1
            clear H1
            by_cases c95 : x14_2 ≥ 0
            case neg =>
             rw [if_neg c95] at H
             have c95b0 : decide (0 ≤ x14_2) = false := decide_eq_false c95
             clear c95
             have H' := qa.mk H
             clear H
             go_wp2
             (try simp only [← hl10_2])
             go_roundg kj45
             case measure => have := HK1.out; have := HK2.out; have := HJ26.out; have := HJ31.out; have := HJ45.out; omega
             case rel => exact ⟨(x10_2), (x11_2), (x12_2), (wrap64 (x14_2 - 1)), (by first | rfl | (simp; done) | (simp [*]; done)), H', ⟨by have := HK1.out; have := HK2.out; have := HJ26.out; have := HJ31.out; have := HJ45.out; omega⟩, ⟨by (try simp only [hl10_1]); (try simp only [hl10_2]); exact rq HO_10⟩, ⟨by (try simp only [hl10_1]); (try simp only [hl10_2]); (with_reducible repeat (first | apply Kd.qD | apply Kd.qE | apply Kd.qG)); exact Kd.zi HO_11.out (fun _ hk => trivial)⟩, ⟨by (try simp only [hl10_1]); (try simp only [hl10_2]); (with_reducible repeat (first | apply Kd.jb | apply Kd.ja | apply Kd.jg)); exact Kd.QQ HO_12.out (fun _ hk => hk.1)⟩, ⟨by (try simp only [hl10_1]); (try simp only [hl10_2]); exact kq BK354⟩, ⟨bs HB GE354⟩⟩
            rw [if_pos c95] at H
            have c95b0 : decide (0 ≤ x14_2) = true := decide_eq_true c95
            clear c95
            replace H := Option.bind_eq_some_iff.mp H
            obtain ⟨t399, A960, H⟩ := H
            replace H : (if t399 = true then (qf.l0 kj45 l0 a1 a2 (l0.length : Int) x10_2 x11_2 x12_2 (wrap64 (x13_1 + 1))) else (qf.l1 kj45 l0 a1 a2 (l0.length : Int) x10_2 x11_2 x12_2 x13_1 (wrap64 (x14_2 - 1)))) = some (r1, r2, r3, r4) := H
            have A96 := qa.mk A960
            clear A960
            by_cases c97 : t399 = true
            ·subst c97
             have H1 : (qf.l0 kj45 l0 a1 a2 (l0.length : Int) x10_2 x11_2 x12_2 (wrap64 (x13_1 + 1))) = some (r1, r2, r3, r4) := by rw [if_pos rfl] at H; exact H
             clear H
             have H := H1
             clear H1
             have H' := qa.mk H
             clear H
             go_wp2_with (first | (go_at_call 20; (with_reducible refine (zx.calls _ _ l0 x14_2 true _ ?side1 ?side2 A96.out).mono ?_); (case side1 => repeat (first | exact (Kd.zS HR0.out HB.out) | (with_reducible refine Kd.zI ?_ _) | (with_reducible refine Kd.zH ?_ _) | (with_reducible refine Kd.zL ?_))); (case side2 => exact HC0.out); rintro e w' ⟨rfl, ⟨nd, rfl⟩⟩))
             (try simp only [← hl10_1, ← hl10_2])
             go_roundg kj45
             case measure => have := HK1.out; have := HK2.out; have := HJ26.out; have := HJ31.out; have := HJ45.out; omega
             case rel => exact ⟨(x10_2), (x11_2), (x12_2), (wrap64 (x13_1 + 1)), (by first | rfl | (simp; done) | (simp [*]; done)), H', ⟨by have := HK1.out; have := HK2.out; have := HJ26.out; have := HJ31.out; have := HJ45.out; omega⟩, ⟨by (try simp only [hl10_1]); (try simp only [hl10_2]); exact rq HO_10⟩, ⟨by (try simp only [hl10_1]); (try simp only [hl10_2]); (with_reducible repeat (first | apply Kd.qD | apply Kd.qE | apply Kd.qG)); exact Kd.zi HO_11.out (fun _ hk => trivial)⟩, ⟨by (try simp only [hl10_1]); (try simp only [hl10_2]); (with_reducible repeat (first | apply Kd.jb | apply Kd.ja | apply Kd.jg)); exact Kd.QQ HO_12.out (fun _ hk => hk.1)⟩, ⟨by (try simp only [hl10_1]); (try simp only [hl10_2]); exact kq BK354⟩, ⟨bs HB GE354⟩⟩
            replace c97 := Bool.eq_false_iff.mpr c97
            subst c97
            have H1 : (qf.l1 kj45 l0 a1 a2 (l0.length : Int) x10_2 x11_2 x12_2 x13_1 (wrap64 (x14_2 - 1))) = some (r1, r2, r3, r4) := by rw [if_neg (show ¬ (false = true) by decide)] at H; exact H
            clear H
            have H := H1
            clear H1
            have H' := qa.mk H
            clear H
            go_wp2_with (first | (go_at_call 20; (with_reducible refine (zx.calls _ _ l0 x14_2 false _ ?side1 ?side2 A96.out).mono ?_); (case side1 => repeat (first | exact (Kd.zS HR0.out HB.out) | (with_reducible refine Kd.zI ?_ _) | (with_reducible refine Kd.zH ?_ _) | (with_reducible refine Kd.zL ?_))); (case side2 => exact HC0.out); rintro e w' ⟨rfl, ⟨nd, rfl⟩⟩))
            (try simp only [← hl10_2])
            go_roundg kj45
            case measure => have := HK1.out; have := HK2.out; have := HJ26.out; have := HJ31.out; have := HJ45.out; omega
            case rel => exact ⟨(x10_2), (x11_2), (x12_2), (wrap64 (x14_2 - 1)), (by first | rfl | (simp; done) | (simp [*]; done)), H', ⟨by have := HK1.out; have := HK2.out; have := HJ26.out; have := HJ31.out; have := HJ45.out; omega⟩, ⟨by (try simp only [hl10_1]); (try simp only [hl10_2]); exact rq HO_10⟩, ⟨by (try simp only [hl10_1]); (try simp only [hl10_2]); (with_reducible repeat (first | apply Kd.qD | apply Kd.qE | apply Kd.qG)); exact Kd.zi HO_11.out (fun _ hk => trivial)⟩, ⟨by (try simp only [hl10_1]); (try simp only [hl10_2]); (with_reducible repeat (first | apply Kd.jb | apply Kd.ja | apply Kd.jg)); exact Kd.QQ HO_12.out (fun _ hk => hk.1)⟩, ⟨by (try simp only [hl10_1]); (try simp only [hl10_2]); exact kq BK354⟩, ⟨bs HB GE354⟩⟩
           subst c65
           have H1 : (if 0 ≤ (wrap64 (x13_1 + 1)) then (if (wrap64 (x13_1 + 1)) < (x10_2.length : Int) then ((some (x10_2.set ((wrap64 (x13_1 + 1)) : Int).toNat true : List Bool)).bind fun y395 => (if (wrap64 (x13_1 + 1)) < (x11_2.length : Int) then ((some (x11_2.set ((wrap64 (x13_1 + 1)) : Int).toNat (wrap64 ((rd x11_2 (ji39)) + t379)) : List Int)).bind fun y396 => (if (wrap64 (x13_1 + 1)) < (x12_2.length : Int) then ((some (x12_2.set ((wrap64 (x13_1 + 1)) : Int).toNat y387 : List (List Int))).bind fun y397 => (if x14_2 ≥ 0 then ((zx.f l0 x14_2).bind fun t398 => (if t398 = true then (qf.l0 kj45 l0 a1 a2 (l0.length : Int) y395 y396 y397 (wrap64 (x13_1 + 1))) else (qf.l1 kj45 l0 a1 a2 (l0.length : Int) y395 y396 y397 x13_1 (wrap64 (x14_2 - 1))))) else (qf.l1 kj45 l0 a1 a2 (l0.length : Int) y395 y396 y397 x13_1 (wrap64 (x14_2 - 1))))) else (none))) else (none))) else (none)) else (none)) = some (r1, r2, r3, r4) := by rw [if_pos rfl] at H; exact H
           clear H
           have H := H1
           clear H1
           obtain ⟨ji66, hji66⟩ : ∃ j_ : Int, (wrap64 (x13_1 + 1)) = j_ := ⟨_, rfl⟩
           replace H : (if 0 ≤ (ji66) then (if (ji66) < (x10_2.length : Int) then ((some (x10_2.set ((ji66) : Int).toNat true : List Bool)).bind fun y395 => (if (ji66) < (x11_2.length : Int) then ((some (x11_2.set ((ji66) : Int).toNat (wrap64 ((rd x11_2 (ji39)) + t379)) : List Int)).bind fun y396 => (if (ji66) < (x12_2.length : Int) then ((some (x12_2.set ((ji66) : Int).toNat y387 : List (List Int))).bind fun y397 => (if x14_2 ≥ 0 then ((zx.f l0 x14_2).bind fun t398 => (if t398 = true then (qf.l0 kj45 l0 a1 a2 (l0.length : Int) y395 y396 y397 ji66) else (qf.l1 kj45 l0 a1 a2 (l0.length : Int) y395 y396 y397 x13_1 (wrap64 (x14_2 - 1))))) else (qf.l1 kj45 l0 a1 a2 (l0.length : Int) y395 y396 y397 x13_1 (wrap64 (x14_2 - 1))))) else (none))) else (none))) else (none)) else (none)) = some (r1, r2, r3, r4) := by first | (rw [hji66] at H; exact H) | (simp only [hji66] at H ⊢; exact H)
           have hji66w : (IntKind.i64.wrap (x13_1 + 1)) = ji66 := (zJ _).trans hji66
           by_cases c67 : 0 ≤ (ji66)
           case neg =>
            rw [if_neg c67] at H
            exact absurd H (by simp)
           rw [if_pos c67] at H
           have c67b0 : decide (0 ≤ (ji66)) = true := decide_eq_true c67
           clear c67
           by_cases c68 : (ji66) < (x10_2.length : Int)
           case neg =>
            rw [if_neg c68] at H
            exact absurd H (by simp)
           rw [if_pos c68] at H
           have c68b0 : decide ((ji66) < (x10_2.length : Int)) = true := decide_eq_true c68
           clear c68
           obtain ⟨y395, hy395⟩ : ∃ y_ : List Bool, y_ = (x10_2.set ((ji66) : Int).toNat true) := ⟨_, rfl⟩
           replace H : (if (ji66) < (x11_2.length : Int) then ((some (x11_2.set ((ji66) : Int).toNat (wrap64 ((rd x11_2 (ji39)) + t379)) : List Int)).bind fun y396 => (if (ji66) < (x12_2.length : Int) then ((some (x12_2.set ((ji66) : Int).toNat y387 : List (List Int))).bind fun y397 => (if x14_2 ≥ 0 then ((zx.f l0 x14_2).bind fun t398 => (if t398 = true then (qf.l0 kj45 l0 a1 a2 (l0.length : Int) y395 y396 y397 ji66) else (qf.l1 kj45 l0 a1 a2 (l0.length : Int) y395 y396 y397 x13_1 (wrap64 (x14_2 - 1))))) else (qf.l1 kj45 l0 a1 a2 (l0.length : Int) y395 y396 y397 x13_1 (wrap64 (x14_2 - 1))))) else (none))) else (none)) = some (r1, r2, r3, r4) := by first | (rw [hy395]; with_reducible exact H) | (have H2_ := (Option.bind_some _ _).symm.trans H; rw [hy395]; with_reducible exact H2_) | (have H2_ := (Option.bind_some _ _).symm.trans H; with_reducible exact H2_) | with_reducible exact H | (rw [hy395]; exact H) | exact H
           have Ny395 := qa.mk hy395
           clear hy395
           by_cases c70 : (ji66) < (x11_2.length : Int)
           case neg =>
            rw [if_neg c70] at H
            exact absurd H (by simp)
           rw [if_pos c70] at H
           have c70b0 : decide ((ji66) < (x11_2.length : Int)) = true := decide_eq_true c70
           clear c70
           obtain ⟨y396, hy396⟩ : ∃ y_ : List Int, y_ = (x11_2.set ((ji66) : Int).toNat (wrap64 ((rd x11_2 (ji39)) + t379))) := ⟨_, rfl⟩
           replace H : (if (ji66) < (x12_2.length : Int) then ((some (x12_2.set ((ji66) : Int).toNat y387 : List (List Int))).bind fun y397 => (if x14_2 ≥ 0 then ((zx.f l0 x14_2).bind fun t398 => (if t398 = true then (qf.l0 kj45 l0 a1 a2 (l0.length : Int) y395 y396 y397 ji66) else (qf.l1 kj45 l0 a1 a2 (l0.length : Int) y395 y396 y397 x13_1 (wrap64 (x14_2 - 1))))) else (qf.l1 kj45 l0 a1 a2 (l0.length : Int) y395 y396 y397 x13_1 (wrap64 (x14_2 - 1))))) else (none)) = some (r1, r2, r3, r4) := by first | (rw [hy396]; with_reducible exact H) | (have H2_ := (Option.bind_some _ _).symm.trans H; rw [hy396]; with_reducible exact H2_) | (have H2_ := (Option.bind_some _ _).symm.trans H; with_reducible exact H2_) | with_reducible exact H | (rw [hy396]; exact H) | exact H
           have Ny396 := qa.mk hy396
           clear hy396
           by_cases c72 : (ji66) < (x12_2.length : Int)
           case neg =>
            rw [if_neg c72] at H
            exact absurd H (by simp)
           rw [if_pos c72] at H
           have c72b0 : decide ((ji66) < (x12_2.length : Int)) = true := decide_eq_true c72
           clear c72
           obtain ⟨y397, hy397⟩ : ∃ y_ : List (List Int), y_ = (x12_2.set ((ji66) : Int).toNat y387) := ⟨_, rfl⟩
           replace H : (if x14_2 ≥ 0 then ((zx.f l0 x14_2).bind fun t398 => (if t398 = true then (qf.l0 kj45 l0 a1 a2 (l0.length : Int) y395 y396 y397 ji66) else (qf.l1 kj45 l0 a1 a2 (l0.length : Int) y395 y396 y397 x13_1 (wrap64 (x14_2 - 1))))) else (qf.l1 kj45 l0 a1 a2 (l0.length : Int) y395 y396 y397 x13_1 (wrap64 (x14_2 - 1)))) = some (r1, r2, r3, r4) := by first | (rw [hy397]; with_reducible exact H) | (have H2_ := (Option.bind_some _ _).symm.trans H; rw [hy397]; with_reducible exact H2_) | (have H2_ := (Option.bind_some _ _).symm.trans H; with_reducible exact H2_) | with_reducible exact H | (rw [hy397]; exact H) | exact H
           have Ny397 := qa.mk hy397
           clear hy397
           by_cases c74 : x14_2 ≥ 0
           case neg =>
            rw [if_neg c74] at H
            have c74b0 : decide (0 ≤ x14_2) = false := decide_eq_false c74
            clear c74
            have H' := qa.mk H
            clear H
            have p69 : 0 ≤ ((ji66) : Int) := odt
            have q69 : ((ji66) : Int) < ((x10_2.length : Int) : Int) := odt
            obtain ⟨hx69_0, hf69_0⟩ := Kd.QD false HO_10.out ((ji66) : Int) p69 q69
            replace p69 := eq_true p69
            replace q69 := eq_true q69
            have HP89 := Kd.Zq HO_10.out ((ji66) : Int) true
            go_wp2_with (first | ((with_reducible refine jY (t := 4) (p := 143) rfl ?_); refine jT (t := 4) (p := 143) (v := ?vo_w90) (w1 := (wc.setCell ⟨go12, ((ji66) : Int).toNat, none⟩ (.bool true))) ?hg ?ho ?hn ?hr ?_; (case ho => rfl); (case hg => rfl); (case hn => rfl); (case hr => first | (go_simp; done) | (go_simp; rfl)); intro w90 hw; have hg : wc.grownBy w90 (some go12) := (by rw [hw]; exact HP89.2); have hp_ : Kd.R Kd.bool 4 w90 w.heap.size (fun _ => True) (.slice (some ⟨go12, 0, none⟩) x10_2.length co12) y395 := (by rw [hw, Ny395.out]; exact HP89.1); clear HP89; have n0_ := qa.mk (hp_); have n1_ := qa.mk (Kd.jV (v := (.slice (some ⟨go12, 0, none⟩) x10_2.length co12)) (rq HO_11) (Kd.Qa HO_10.out) (by decide) hg); have n2_ := qa.mk (Kd.Jp (v := (.slice (some ⟨go12, 0, none⟩) x10_2.length co12)) (by (with_reducible repeat (first | apply Kd.jb | apply Kd.ja | apply Kd.jg)); exact HO_12.out) (Kd.Qa HO_10.out) (by decide) hg); have n3_ := qa.mk (Kd.jV (v := (.slice (some ⟨go12, 0, none⟩) x10_2.length co12)) (rq HO_19) (Kd.Qa HO_10.out) (by decide) hg); have n4_ := qa.mk (jd (g := gb354) (o := .cells #[.slice none 0 0, .int .i64 0, .bool false] 26 (0, 0)) (kq BK354) hg (Kd.jP HO_10.out BK354.out (by decide))); have n5_ := qa.mk ((by rw [hw]; exact qm (HB.out) GB12.out : Below w.heap.size w w90)); clear HO_10; clear HO_11; clear HO_12; clear HO_19; clear BK354; clear HB; have HO_10 := n0_; have HO_11 := n1_; have HO_12 := n2_; have HO_19 := n3_; have BK354 := n4_; have HB := n5_; clear n0_ n1_ n2_ n3_ n4_ n5_; clear hg hw hp_; have p71 : 0 ≤ ((ji66) : Int) := odt; have q71 : ((ji66) : Int) < ((x11_2.length : Int) : Int) := odt; obtain ⟨go71, co71, eo71, gb71, gl71, cl71, HG71⟩ := Kd.ZR HO_11.out (by omega); (first | cases eo71 | (injection eo71 with ea_ en_ ec_; (first | subst ea_ | (injection ea_ with ea_; subst ea_)); subst ec_; clear en_)); have GB71 := qa.mk gb71; have GG71 := qa.mk HG71; clear gb71 gl71 HG71; obtain ⟨hx71_0, hf71_0⟩ := Kd.QD 0 HO_11.out ((ji66) : Int) p71 q71; replace p71 := eq_true p71; replace q71 := eq_true q71; obtain ⟨hy91_, hz91_⟩ := Kd.QD 0 HO_11.out ((ji66) : Int) (odt) (odt); have HP91 := Kd.Zq HO_11.out ((ji66) : Int) (wrap64 ((rd x11_2 (ji39)) + t379))) | ((with_reducible refine jY (t := 3) (p := 148) rfl ?_); refine jT (t := 3) (p := 148) (v := ?vo_w92) (w1 := (w90.setCell ⟨go71, ((ji66) : Int).toNat, none⟩ (.int .i64 (wrap64 ((rd x11_2 (ji39)) + t379))))) ?hg ?ho ?hn ?hr ?_; (case ho => rfl); (case hg => rfl); (case hn => rfl); (case hr => first | (go_simp; done) | (go_simp; rfl)); intro w92 hw; have hg : w90.grownBy w92 (some go71) := (by rw [hw]; exact HP91.2); have hp_ : Kd.R (Kd.int .i64) 3 w92 w.heap.size (fun k_ => some k_ ≠ (v388 : Value).ownBlock) (.slice (some ⟨go71, 0, none⟩) x11_2.length co48) y396 := (by rw [hw, Ny396.out]; exact HP91.1); clear HP91; have n0_ := qa.mk (Kd.jV (v := (.slice (some ⟨go71, 0, none⟩) x11_2.length co48)) (rq HO_10) (Kd.Qa HO_11.out) (by decide) hg); have n1_ := qa.mk (hp_); have n2_ := qa.mk (Kd.ZL (v := (.slice (some ⟨go71, 0, none⟩) x11_2.length co48)) (v1 := (.slice (some ⟨go71, 0, none⟩) x11_2.length co48)) (ok := (fun k_ => some k_ ≠ (v388 : Value).ownBlock)) (by (with_reducible repeat (first | apply Kd.jb | apply Kd.ja | apply Kd.jg)); exact Kd.QQ HO_12.out (fun _ hk => ⟨hk.2, hk.1⟩)) hg (.inl rfl)); have n3_ := qa.mk (Kd.QT (v := (.slice (some ⟨go71, 0, none⟩) x11_2.length co48)) (v1 := (.slice (some ⟨go71, 0, none⟩) x11_2.length co48)) (ok := (fun _ => True)) (by (with_reducible repeat (first | apply Kd.qD | apply Kd.qE | apply Kd.qG)); exact Kd.zi HO_19.out (fun _ hk => ⟨trivial, hk⟩)) hg (.inl rfl)); have n4_ := qa.mk (jd (g := gb354) (o := .cells #[.slice none 0 0, .int .i64 0, .bool false] 26 (0, 0)) (kq BK354) hg (Kd.jP HO_11.out BK354.out (by decide))); have n5_ := qa.mk ((by rw [hw]; exact qm (HB.out) GB71.out : Below w.heap.size w w92)); clear HO_10; clear HO_11; clear HO_12; clear HO_19; clear BK354; clear HB; have HO_10 := n0_; have HO_11 := n1_; have HO_12 := n2_; have HO_19 := n3_; have BK354 := n4_; have HB := n5_; clear n0_ n1_ n2_ n3_ n4_ n5_; clear hg hw hp_; have p73 : 0 ≤ ((ji66) : Int) := odt; have q73 : ((ji66) : Int) < ((x12_2.length : Int) : Int) := odt; obtain ⟨go73, co73, eo73, gb73, gl73, cl73, HG73⟩ := Kd.S_form HO_12.out (by omega); (first | cases eo73 | (injection eo73 with ea_ en_ ec_; (first | subst ea_ | (injection ea_ with ea_; subst ea_)); subst ec_; clear en_)); have GB73 := qa.mk gb73; have GG73 := qa.mk HG73; clear gb73 gl73 HG73; obtain ⟨_, ce73, hcl73, hM73, hcc73, hfr73, _, _⟩ := Kd.ZN HO_12.out [] ((ji66) : Int) p73 q73; obtain ⟨ve73_0, rfl, ge73_0⟩ := hM73; have hx73_0 := hcc73 0 _ rfl; have hf73_0 := hfr73 0; (try simp only [show ((Kd.slice 3 (Kd.int .i64))).sz = 1 from rfl, Nat.mul_one, Nat.add_zero] at hx73_0); (try simp only [show ((Kd.slice 3 (Kd.int .i64))).sz = 1 from rfl, Nat.mul_one, Nat.add_zero] at hf73_0); (try clear hcl73); (try clear hcc73); (try clear hfr73); (try clear hM73); replace p73 := eq_true p73; replace q73 := eq_true q73; have HX93 := qa.mk (show Kd.S (Kd.slice 3 (Kd.int .i64)) 24 w92 w.heap.size (fun k_ => ((fun k_ => some k_ ≠ (.slice (some ⟨go71, 0, none⟩) x11_2.length co48 : Value).ownBlock)) k_ ∧ ¬ ((fun k_ => some k_ = (v388 : Value).ownBlock)) k_) (.slice (some ⟨go73, 0, none⟩) x12_2.length co51) x12_2 from (by (with_reducible repeat (first | apply Kd.jb | apply Kd.ja | apply Kd.jg)); exact Kd.QQ HO_12.out (fun k_ hk => ⟨hk.2, fun e_ => hk.1 e_⟩))); obtain ⟨oki93, ce93, hcl93, hM93, hcc93, hfr93, hoki93, hH93⟩ := Kd.ZN HX93.out [] ((ji66) : Int) (odt) (by have h_ : ((ji66) : Int) < ((x12_2.length : Int) : Int) := odt; first | exact h_ | (have e_ := (Kd.Qo HO_12.out).1; omega) | simpa using h_); obtain ⟨ve93_0, rfl, ge93_0⟩ := hM93; have HP93 := Kd.S_seg hH93 (odt) (by have h_ : ((ji66) : Int) < ((x12_2.length : Int) : Int) := odt; first | exact h_ | (have e_ := (Kd.Qo HO_12.out).1; omega) | simpa using h_) (seg := [v388]) (j := 0) (show 1 ≤ 1 from by decide) (x' := y387) (Kd.M_row (Kd.zi (Kd.R_tight rfl (Kd.zi (ok' := fun k_ => ((fun k_ => some k_ ≠ (.slice (some ⟨go71, 0, none⟩) x11_2.length co48 : Value).ownBlock)) k_ ∧ k_ ≠ go73) (Kd.Q9 (HO_19.out) (Kd.Qz HO_12.out) (by decide)) (fun k_ hk => ⟨hk.1.2, fun e_ => (hk.2) (by rw [e_]; rfl)⟩))) (fun _ h_ => Or.inr (h_)))) (fun _ hk => hk) (fun k_ hk_ => ((Kd.zi (ok' := fun k_ => ((fun k_ => some k_ ≠ (.slice (some ⟨go71, 0, none⟩) x11_2.length co48 : Value).ownBlock)) k_ ∧ k_ ≠ go73) (Kd.Q9 (HO_19.out) (Kd.Qz HO_12.out) (by decide)) (fun k_ hk => ⟨hk.1.2, fun e_ => (hk.2) (by rw [e_]; rfl)⟩))).1 k_ hk_.symm); have hx93_0 := hcc93 0 _ rfl; (try simp only [show ((Kd.slice 3 (Kd.int .i64))).sz = 1 from rfl, Nat.mul_one, Nat.add_zero] at hx93_0); have hf93_0 := hfr93 0; (try simp only [show ((Kd.slice 3 (Kd.int .i64))).sz = 1 from rfl, Nat.mul_one, Nat.add_zero] at hf93_0); (try clear hcl93); (try clear hcc93); (try clear hfr93); (try clear hM93); (try clear hoki93); (try clear hH93); (try simp only [show ((Kd.slice 3 (Kd.int .i64))).sz = 1 from rfl, Nat.mul_one, Nat.add_zero] at HP93)) | ((with_reducible refine jY (t := 24) (p := 153) rfl ?_); refine jT (t := 24) (p := 153) (v := ?vo_w94) (w1 := (w92.setCell ⟨go73, ((ji66) : Int).toNat, none⟩ (v388))) ?hg ?ho ?hn ?hr ?_; (case ho => rfl); (case hg => rfl); (case hn => rfl); (case hr => (go_simp; have hv_ : v388.cells = #[v388] := Array.ext' (Kd.Jq HO_19.out).1; unfold Value.cells at hv_; rw [hv_, if_pos (show (#[v388] : Array Value).size = 1 from rfl)]; have hs_ := run_storeCells_cells (P := Try.prog) go73 ((ji66) : Int).toNat [v388] 0 w92 (fun j hj => by obtain rfl : j = 0 := Nat.lt_one_iff.1 hj; exact (congrArg Option.isSome hx93_0).trans rfl) (fun j hj => by obtain rfl : j = 0 := Nat.lt_one_iff.1 hj; exact hf93_0) (fun v hv => by obtain rfl := List.mem_singleton.1 hv; exact (Kd.Jq HO_19.out).2); show (Sem.run Try.prog (storeCells _ [v388]) w92).andThen _ = _; rw [hs_]; rfl)); intro w94 hw; have hg : w92.grownBy w94 (some go73) := (by rw [hw]; exact HP93.2); have hp_ : Kd.S (Kd.slice 3 (Kd.int .i64)) 24 w94 w.heap.size (fun k_ => some k_ ≠ (.slice (some ⟨go71, 0, none⟩) x11_2.length co48 : Value).ownBlock) (.slice (some ⟨go73, 0, none⟩) x12_2.length co51) y397 := (by rw [hw, Ny397.out]; exact HP93.1); clear HP93; have n0_ := qa.mk (Kd.jV (v := (.slice (some ⟨go73, 0, none⟩) x12_2.length co51)) (rq HO_10) (Kd.Qz HO_12.out) (by decide) hg); have n1_ := qa.mk (Kd.jV (v := (.slice (some ⟨go73, 0, none⟩) x12_2.length co51)) (rq HO_11) (Kd.Qz HO_12.out) (by decide) hg); have n2_ := qa.mk (hp_); have n3_ := qa.mk (jd (g := gb354) (o := .cells #[.slice none 0 0, .int .i64 0, .bool false] 26 (0, 0)) (kq BK354) hg (Kd.QU HO_12.out BK354.out (by decide))); have n4_ := qa.mk ((by rw [hw]; exact qm (HB.out) GB73.out : Below w.heap.size w w94)); clear HO_10; clear HO_11; clear HO_12; clear BK354; clear HB; clear HO_19; have HO_10 := n0_; have HO_11 := n1_; have HO_12 := n2_; have BK354 := n3_; have HB := n4_; clear n0_ n1_ n2_ n3_ n4_; clear hg hw hp_))
            (try simp only [← hl10_2])
            go_roundg kj45
            case measure => have := HK1.out; have := HK2.out; have := HJ26.out; have := HJ31.out; have := HJ45.out; omega
            case rel => exact ⟨(y395), (y396), (y397), (wrap64 (x14_2 - 1)), (by first | rfl | (simp; done) | (simp [*]; done)), H', ⟨by have := HK1.out; have := HK2.out; have := HJ26.out; have := HJ31.out; have := HJ45.out; omega⟩, ⟨by (try simp only [hl10_1]); (try simp only [hl10_2]); exact rq HO_10⟩, ⟨by (try simp only [hl10_1]); (try simp only [hl10_2]); (with_reducible repeat (first | apply Kd.qD | apply Kd.qE | apply Kd.qG)); exact Kd.zi HO_11.out (fun _ hk => trivial)⟩, ⟨by (try simp only [hl10_1]); (try simp only [hl10_2]); (with_reducible repeat (first | apply Kd.jb | apply Kd.ja | apply Kd.jg)); exact HO_12.out⟩, ⟨by (try simp only [hl10_1]); (try simp only [hl10_2]); exact kq BK354⟩, ⟨bs HB GE354⟩⟩
           rw [if_pos c74] at H
           have c74b0 : decide (0 ≤ x14_2) = true := decide_eq_true c74
           clear c74
           replace H := Option.bind_eq_some_iff.mp H
           obtain ⟨t398, A750, H⟩ := H
           replace H : (if t398 = true then (qf.l0 kj45 l0 a1 a2 (l0.length : Int) y395 y396 y397 ji66) else (qf.l1 kj45 l0 a1 a2 (l0.length : Int) y395 y396 y397 x13_1 (wrap64 (x14_2 - 1)))) = some (r1, r2, r3, r4) := H
           have A75 := qa.mk A750
           clear A750
           by_cases c76 : t398 = true
           case neg =>
            replace c76 := Bool.eq_false_iff.mpr c76
            subst c76
            have H1 : (qf.l1 kj45 l0 a1 a2 (l0.length : Int) y395 y396 y397 x13_1 (wrap64 (x14_2 - 1))) = some (r1, r2, r3, r4) := by rw [if_neg (show ¬ (false = true) by decide)] at H; exact H
            clear H
            have H := H1
            clear H1
            have H' := qa.mk H
            clear H
            have p69 : 0 ≤ ((ji66) : Int) := odt
            have q69 : ((ji66) : Int) < ((x10_2.length : Int) : Int) := odt
            obtain ⟨hx69_0, hf69_0⟩ := Kd.QD false HO_10.out ((ji66) : Int) p69 q69
            replace p69 := eq_true p69
            replace q69 := eq_true q69
            have HP83 := Kd.Zq HO_10.out ((ji66) : Int) true
            go_wp2_with (first | ((with_reducible refine jY (t := 4) (p := 143) rfl ?_); refine jT (t := 4) (p := 143) (v := ?vo_w84) (w1 := (wc.setCell ⟨go12, ((ji66) : Int).toNat, none⟩ (.bool true))) ?hg ?ho ?hn ?hr ?_; (case ho => rfl); (case hg => rfl); (case hn => rfl); (case hr => first | (go_simp; done) | (go_simp; rfl)); intro w84 hw; have hg : wc.grownBy w84 (some go12) := (by rw [hw]; exact HP83.2); have hp_ : Kd.R Kd.bool 4 w84 w.heap.size (fun _ => True) (.slice (some ⟨go12, 0, none⟩) x10_2.length co12) y395 := (by rw [hw, Ny395.out]; exact HP83.1); clear HP83; have n0_ := qa.mk (hp_); have n1_ := qa.mk (Kd.jV (v := (.slice (some ⟨go12, 0, none⟩) x10_2.length co12)) (rq HO_11) (Kd.Qa HO_10.out) (by decide) hg); have n2_ := qa.mk (Kd.Jp (v := (.slice (some ⟨go12, 0, none⟩) x10_2.length co12)) (by (with_reducible repeat (first | apply Kd.jb | apply Kd.ja | apply Kd.jg)); exact HO_12.out) (Kd.Qa HO_10.out) (by decide) hg); have n3_ := qa.mk (Kd.jV (v := (.slice (some ⟨go12, 0, none⟩) x10_2.length co12)) (rq HO_19) (Kd.Qa HO_10.out) (by decide) hg); have n4_ := qa.mk (jd (g := gb354) (o := .cells #[.slice none 0 0, .int .i64 0, .bool false] 26 (0, 0)) (kq BK354) hg (Kd.jP HO_10.out BK354.out (by decide))); have n5_ := qa.mk ((by rw [hw]; exact qm (HB.out) GB12.out : Below w.heap.size w w84)); clear HO_10; clear HO_11; clear HO_12; clear HO_19; clear BK354; clear HB; have HO_10 := n0_; have HO_11 := n1_; have HO_12 := n2_; have HO_19 := n3_; have BK354 := n4_; have HB := n5_; clear n0_ n1_ n2_ n3_ n4_ n5_; clear hg hw hp_; have p71 : 0 ≤ ((ji66) : Int) := odt; have q71 : ((ji66) : Int) < ((x11_2.length : Int) : Int) := odt; obtain ⟨go71, co71, eo71, gb71, gl71, cl71, HG71⟩ := Kd.ZR HO_11.out (by omega); (first | cases eo71 | (injection eo71 with ea_ en_ ec_; (first | subst ea_ | (injection ea_ with ea_; subst ea_)); subst ec_; clear en_)); have GB71 := qa.mk gb71; have GG71 := qa.mk HG71; clear gb71 gl71 HG71; obtain ⟨hx71_0, hf71_0⟩ := Kd.QD 0 HO_11.out ((ji66) : Int) p71 q71; replace p71 := eq_true p71; replace q71 := eq_true q71; obtain ⟨hy85_, hz85_⟩ := Kd.QD 0 HO_11.out ((ji66) : Int) (odt) (odt); have HP85 := Kd.Zq HO_11.out ((ji66) : Int) (wrap64 ((rd x11_2 (ji39)) + t379))) | ((with_reducible refine jY (t := 3) (p := 148) rfl ?_); refine jT (t := 3) (p := 148) (v := ?vo_w86) (w1 := (w84.setCell ⟨go71, ((ji66) : Int).toNat, none⟩ (.int .i64 (wrap64 ((rd x11_2 (ji39)) + t379))))) ?hg ?ho ?hn ?hr ?_; (case ho => rfl); (case hg => rfl); (case hn => rfl); (case hr => first | (go_simp; done) | (go_simp; rfl)); intro w86 hw; have hg : w84.grownBy w86 (some go71) := (by rw [hw]; exact HP85.2); have hp_ : Kd.R (Kd.int .i64) 3 w86 w.heap.size (fun k_ => some k_ ≠ (v388 : Value).ownBlock) (.slice (some ⟨go71, 0, none⟩) x11_2.length co48) y396 := (by rw [hw, Ny396.out]; exact HP85.1); clear HP85; have n0_ := qa.mk (Kd.jV (v := (.slice (some ⟨go71, 0, none⟩) x11_2.length co48)) (rq HO_10) (Kd.Qa HO_11.out) (by decide) hg); have n1_ := qa.mk (hp_); have n2_ := qa.mk (Kd.ZL (v := (.slice (some ⟨go71, 0, none⟩) x11_2.length co48)) (v1 := (.slice (some ⟨go71, 0, none⟩) x11_2.length co48)) (ok := (fun k_ => some k_ ≠ (v388 : Value).ownBlock)) (by (with_reducible repeat (first | apply Kd.jb | apply Kd.ja | apply Kd.jg)); exact Kd.QQ HO_12.out (fun _ hk => ⟨hk.2, hk.1⟩)) hg (.inl rfl)); have n3_ := qa.mk (Kd.QT (v := (.slice (some ⟨go71, 0, none⟩) x11_2.length co48)) (v1 := (.slice (some ⟨go71, 0, none⟩) x11_2.length co48)) (ok := (fun _ => True)) (by (with_reducible repeat (first | apply Kd.qD | apply Kd.qE | apply Kd.qG)); exact Kd.zi HO_19.out (fun _ hk => ⟨trivial, hk⟩)) hg (.inl rfl)); have n4_ := qa.mk (jd (g := gb354) (o := .cells #[.slice none 0 0, .int .i64 0, .bool false] 26 (0, 0)) (kq BK354) hg (Kd.jP HO_11.out BK354.out (by decide))); have n5_ := qa.mk ((by rw [hw]; exact qm (HB.out) GB71.out : Below w.heap.size w w86)); clear HO_10; clear HO_11; clear HO_12; clear HO_19; clear BK354; clear HB; have HO_10 := n0_; have HO_11 := n1_; have HO_12 := n2_; have HO_19 := n3_; have BK354 := n4_; have HB := n5_; clear n0_ n1_ n2_ n3_ n4_ n5_; clear hg hw hp_; have p73 : 0 ≤ ((ji66) : Int) := odt; have q73 : ((ji66) : Int) < ((x12_2.length : Int) : Int) := odt; obtain ⟨go73, co73, eo73, gb73, gl73, cl73, HG73⟩ := Kd.S_form HO_12.out (by omega); (first | cases eo73 | (injection eo73 with ea_ en_ ec_; (first | subst ea_ | (injection ea_ with ea_; subst ea_)); subst ec_; clear en_)); have GB73 := qa.mk gb73; have GG73 := qa.mk HG73; clear gb73 gl73 HG73; obtain ⟨_, ce73, hcl73, hM73, hcc73, hfr73, _, _⟩ := Kd.ZN HO_12.out [] ((ji66) : Int) p73 q73; obtain ⟨ve73_0, rfl, ge73_0⟩ := hM73; have hx73_0 := hcc73 0 _ rfl; have hf73_0 := hfr73 0; (try simp only [show ((Kd.slice 3 (Kd.int .i64))).sz = 1 from rfl, Nat.mul_one, Nat.add_zero] at hx73_0); (try simp only [show ((Kd.slice 3 (Kd.int .i64))).sz = 1 from rfl, Nat.mul_one, Nat.add_zero] at hf73_0); (try clear hcl73); (try clear hcc73); (try clear hfr73); (try clear hM73); replace p73 := eq_true p73; replace q73 := eq_true q73; have HX87 := qa.mk (show Kd.S (Kd.slice 3 (Kd.int .i64)) 24 w86 w.heap.size (fun k_ => ((fun k_ => some k_ ≠ (.slice (some ⟨go71, 0, none⟩) x11_2.length co48 : Value).ownBlock)) k_ ∧ ¬ ((fun k_ => some k_ = (v388 : Value).ownBlock)) k_) (.slice (some ⟨go73, 0, none⟩) x12_2.length co51) x12_2 from (by (with_reducible repeat (first | apply Kd.jb | apply Kd.ja | apply Kd.jg)); exact Kd.QQ HO_12.out (fun k_ hk => ⟨hk.2, fun e_ => hk.1 e_⟩))); obtain ⟨oki87, ce87, hcl87, hM87, hcc87, hfr87, hoki87, hH87⟩ := Kd.ZN HX87.out [] ((ji66) : Int) (odt) (by have h_ : ((ji66) : Int) < ((x12_2.length : Int) : Int) := odt; first | exact h_ | (have e_ := (Kd.Qo HO_12.out).1; omega) | simpa using h_); obtain ⟨ve87_0, rfl, ge87_0⟩ := hM87; have HP87 := Kd.S_seg hH87 (odt) (by have h_ : ((ji66) : Int) < ((x12_2.length : Int) : Int) := odt; first | exact h_ | (have e_ := (Kd.Qo HO_12.out).1; omega) | simpa using h_) (seg := [v388]) (j := 0) (show 1 ≤ 1 from by decide) (x' := y387) (Kd.M_row (Kd.zi (Kd.R_tight rfl (Kd.zi (ok' := fun k_ => ((fun k_ => some k_ ≠ (.slice (some ⟨go71, 0, none⟩) x11_2.length co48 : Value).ownBlock)) k_ ∧ k_ ≠ go73) (Kd.Q9 (HO_19.out) (Kd.Qz HO_12.out) (by decide)) (fun k_ hk => ⟨hk.1.2, fun e_ => (hk.2) (by rw [e_]; rfl)⟩))) (fun _ h_ => Or.inr (h_)))) (fun _ hk => hk) (fun k_ hk_ => ((Kd.zi (ok' := fun k_ => ((fun k_ => some k_ ≠ (.slice (some ⟨go71, 0, none⟩) x11_2.length co48 : Value).ownBlock)) k_ ∧ k_ ≠ go73) (Kd.Q9 (HO_19.out) (Kd.Qz HO_12.out) (by decide)) (fun k_ hk => ⟨hk.1.2, fun e_ => (hk.2) (by rw [e_]; rfl)⟩))).1 k_ hk_.symm); have hx87_0 := hcc87 0 _ rfl; (try simp only [show ((Kd.slice 3 (Kd.int .i64))).sz = 1 from rfl, Nat.mul_one, Nat.add_zero] at hx87_0); have hf87_0 := hfr87 0; (try simp only [show ((Kd.slice 3 (Kd.int .i64))).sz = 1 from rfl, Nat.mul_one, Nat.add_zero] at hf87_0); (try clear hcl87); (try clear hcc87); (try clear hfr87); (try clear hM87); (try clear hoki87); (try clear hH87); (try simp only [show ((Kd.slice 3 (Kd.int .i64))).sz = 1 from rfl, Nat.mul_one, Nat.add_zero] at HP87)) | ((with_reducible refine jY (t := 24) (p := 153) rfl ?_); refine jT (t := 24) (p := 153) (v := ?vo_w88) (w1 := (w86.setCell ⟨go73, ((ji66) : Int).toNat, none⟩ (v388))) ?hg ?ho ?hn ?hr ?_; (case ho => rfl); (case hg => rfl); (case hn => rfl); (case hr => (go_simp; have hv_ : v388.cells = #[v388] := Array.ext' (Kd.Jq HO_19.out).1; unfold Value.cells at hv_; rw [hv_, if_pos (show (#[v388] : Array Value).size = 1 from rfl)]; have hs_ := run_storeCells_cells (P := Try.prog) go73 ((ji66) : Int).toNat [v388] 0 w86 (fun j hj => by obtain rfl : j = 0 := Nat.lt_one_iff.1 hj; exact (congrArg Option.isSome hx87_0).trans rfl) (fun j hj => by obtain rfl : j = 0 := Nat.lt_one_iff.1 hj; exact hf87_0) (fun v hv => by obtain rfl := List.mem_singleton.1 hv; exact (Kd.Jq HO_19.out).2); show (Sem.run Try.prog (storeCells _ [v388]) w86).andThen _ = _; rw [hs_]; rfl)); intro w88 hw; have hg : w86.grownBy w88 (some go73) := (by rw [hw]; exact HP87.2); have hp_ : Kd.S (Kd.slice 3 (Kd.int .i64)) 24 w88 w.heap.size (fun k_ => some k_ ≠ (.slice (some ⟨go71, 0, none⟩) x11_2.length co48 : Value).ownBlock) (.slice (some ⟨go73, 0, none⟩) x12_2.length co51) y397 := (by rw [hw, Ny397.out]; exact HP87.1); clear HP87; have n0_ := qa.mk (Kd.jV (v := (.slice (some ⟨go73, 0, none⟩) x12_2.length co51)) (rq HO_10) (Kd.Qz HO_12.out) (by decide) hg); have n1_ := qa.mk (Kd.jV (v := (.slice (some ⟨go73, 0, none⟩) x12_2.length co51)) (rq HO_11) (Kd.Qz HO_12.out) (by decide) hg); have n2_ := qa.mk (hp_); have n3_ := qa.mk (jd (g := gb354) (o := .cells #[.slice none 0 0, .int .i64 0, .bool false] 26 (0, 0)) (kq BK354) hg (Kd.QU HO_12.out BK354.out (by decide))); have n4_ := qa.mk ((by rw [hw]; exact qm (HB.out) GB73.out : Below w.heap.size w w88)); clear HO_10; clear HO_11; clear HO_12; clear BK354; clear HB; clear HO_19; have HO_10 := n0_; have HO_11 := n1_; have HO_12 := n2_; have BK354 := n3_; have HB := n4_; clear n0_ n1_ n2_ n3_ n4_; clear hg hw hp_) | (go_at_call 20; (with_reducible refine (zx.calls _ _ l0 x14_2 false _ ?side1 ?side2 A75.out).mono ?_); (case side1 => repeat (first | exact (Kd.zS HR0.out HB.out) | (with_reducible refine Kd.zI ?_ _) | (with_reducible refine Kd.zH ?_ _) | (with_reducible refine Kd.zL ?_))); (case side2 => exact HC0.out); rintro e w' ⟨rfl, ⟨nd, rfl⟩⟩))
            (try simp only [← hl10_2])
            go_roundg kj45
            case measure => have := HK1.out; have := HK2.out; have := HJ26.out; have := HJ31.out; have := HJ45.out; omega
            case rel => exact ⟨(y395), (y396), (y397), (wrap64 (x14_2 - 1)), (by first | rfl | (simp; done) | (simp [*]; done)), H', ⟨by have := HK1.out; have := HK2.out; have := HJ26.out; have := HJ31.out; have := HJ45.out; omega⟩, ⟨by (try simp only [hl10_1]); (try simp only [hl10_2]); exact rq HO_10⟩, ⟨by (try simp only [hl10_1]); (try simp only [hl10_2]); (with_reducible repeat (first | apply Kd.qD | apply Kd.qE | apply Kd.qG)); exact Kd.zi HO_11.out (fun _ hk => trivial)⟩, ⟨by (try simp only [hl10_1]); (try simp only [hl10_2]); (with_reducible repeat (first | apply Kd.jb | apply Kd.ja | apply Kd.jg)); exact HO_12.out⟩, ⟨by (try simp only [hl10_1]); (try simp only [hl10_2]); exact kq BK354⟩, ⟨bs HB GE354⟩⟩
           subst c76
           have H1 : (qf.l0 kj45 l0 a1 a2 (l0.length : Int) y395 y396 y397 ji66) = some (r1, r2, r3, r4) := by rw [if_pos rfl] at H; exact H
           clear H
           have H := H1
           clear H1
           have H' := qa.mk H
           clear H
           have p69 : 0 ≤ ((ji66) : Int) := odt
           have q69 : ((ji66) : Int) < ((x10_2.length : Int) : Int) := odt
           obtain ⟨hx69_0, hf69_0⟩ := Kd.QD false HO_10.out ((ji66) : Int) p69 q69
           replace p69 := eq_true p69
           replace q69 := eq_true q69
           have HP77 := Kd.Zq HO_10.out ((ji66) : Int) true
           go_wp2_with (first | ((with_reducible refine jY (t := 4) (p := 143) rfl ?_); refine jT (t := 4) (p := 143) (v := ?vo_w78) (w1 := (wc.setCell ⟨go12, ((ji66) : Int).toNat, none⟩ (.bool true))) ?hg ?ho ?hn ?hr ?_; (case ho => rfl); (case hg => rfl); (case hn => rfl); (case hr => first | (go_simp; done) | (go_simp; rfl)); intro w78 hw; have hg : wc.grownBy w78 (some go12) := (by rw [hw]; exact HP77.2); have hp_ : Kd.R Kd.bool 4 w78 w.heap.size (fun _ => True) (.slice (some ⟨go12, 0, none⟩) x10_2.length co12) y395 := (by rw [hw, Ny395.out]; exact HP77.1); clear HP77; have n0_ := qa.mk (hp_); have n1_ := qa.mk (Kd.jV (v := (.slice (some ⟨go12, 0, none⟩) x10_2.length co12)) (rq HO_11) (Kd.Qa HO_10.out) (by decide) hg); have n2_ := qa.mk (Kd.Jp (v := (.slice (some ⟨go12, 0, none⟩) x10_2.length co12)) (by (with_reducible repeat (first | apply Kd.jb | apply Kd.ja | apply Kd.jg)); exact HO_12.out) (Kd.Qa HO_10.out) (by decide) hg); have n3_ := qa.mk (Kd.jV (v := (.slice (some ⟨go12, 0, none⟩) x10_2.length co12)) (rq HO_19) (Kd.Qa HO_10.out) (by decide) hg); have n4_ := qa.mk (jd (g := gb354) (o := .cells #[.slice none 0 0, .int .i64 0, .bool false] 26 (0, 0)) (kq BK354) hg (Kd.jP HO_10.out BK354.out (by decide))); have n5_ := qa.mk ((by rw [hw]; exact qm (HB.out) GB12.out : Below w.heap.size w w78)); clear HO_10; clear HO_11; clear HO_12; clear HO_19; clear BK354; clear HB; have HO_10 := n0_; have HO_11 := n1_; have HO_12 := n2_; have HO_19 := n3_; have BK354 := n4_; have HB := n5_; clear n0_ n1_ n2_ n3_ n4_ n5_; clear hg hw hp_; have p71 : 0 ≤ ((ji66) : Int) := odt; have q71 : ((ji66) : Int) < ((x11_2.length : Int) : Int) := odt; obtain ⟨go71, co71, eo71, gb71, gl71, cl71, HG71⟩ := Kd.ZR HO_11.out (by omega); (first | cases eo71 | (injection eo71 with ea_ en_ ec_; (first | subst ea_ | (injection ea_ with ea_; subst ea_)); subst ec_; clear en_)); have GB71 := qa.mk gb71; have GG71 := qa.mk HG71; clear gb71 gl71 HG71; (first | simp only [add_plain] at hx378_0 | skip); (first | simp only [add_plain] at hx391_0 | skip); (first | simp only [add_plain] at hx392_0 | skip); obtain ⟨hx71_0, hf71_0⟩ := Kd.QD 0 HO_11.out ((ji66) : Int) p71 q71; replace p71 := eq_true p71; replace q71 := eq_true q71; obtain ⟨hy79_, hz79_⟩ := Kd.QD 0 HO_11.out ((ji66) : Int) (odt) (odt); have HP79 := Kd.Zq HO_11.out ((ji66) : Int) (wrap64 ((rd x11_2 (ji39)) + t379))) | ((with_reducible refine jY (t := 3) (p := 148) rfl ?_); refine jT (t := 3) (p := 148) (v := ?vo_w80) (w1 := (w78.setCell ⟨go71, ((ji66) : Int).toNat, none⟩ (.int .i64 (wrap64 ((rd x11_2 (ji39)) + t379))))) ?hg ?ho ?hn ?hr ?_; (case ho => rfl); (case hg => rfl); (case hn => rfl); (case hr => first | (go_simp; done) | (go_simp; rfl)); intro w80 hw; have hg : w78.grownBy w80 (some go71) := (by rw [hw]; exact HP79.2); have hp_ : Kd.R (Kd.int .i64) 3 w80 w.heap.size (fun k_ => some k_ ≠ (v388 : Value).ownBlock) (.slice (some ⟨go71, 0, none⟩) x11_2.length co48) y396 := (by rw [hw, Ny396.out]; exact HP79.1); clear HP79; have n0_ := qa.mk (Kd.jV (v := (.slice (some ⟨go71, 0, none⟩) x11_2.length co48)) (rq HO_10) (Kd.Qa HO_11.out) (by decide) hg); have n1_ := qa.mk (hp_); have n2_ := qa.mk (Kd.ZL (v := (.slice (some ⟨go71, 0, none⟩) x11_2.length co48)) (v1 := (.slice (some ⟨go71, 0, none⟩) x11_2.length co48)) (ok := (fun k_ => some k_ ≠ (v388 : Value).ownBlock)) (by (with_reducible repeat (first | apply Kd.jb | apply Kd.ja | apply Kd.jg)); exact Kd.QQ HO_12.out (fun _ hk => ⟨hk.2, hk.1⟩)) hg (.inl rfl)); have n3_ := qa.mk (Kd.QT (v := (.slice (some ⟨go71, 0, none⟩) x11_2.length co48)) (v1 := (.slice (some ⟨go71, 0, none⟩) x11_2.length co48)) (ok := (fun _ => True)) (by (with_reducible repeat (first | apply Kd.qD | apply Kd.qE | apply Kd.qG)); exact Kd.zi HO_19.out (fun _ hk => ⟨trivial, hk⟩)) hg (.inl rfl)); have n4_ := qa.mk (jd (g := gb354) (o := .cells #[.slice none 0 0, .int .i64 0, .bool false] 26 (0, 0)) (kq BK354) hg (Kd.jP HO_11.out BK354.out (by decide))); have n5_ := qa.mk ((by rw [hw]; exact qm (HB.out) GB71.out : Below w.heap.size w w80)); clear HO_10; clear HO_11; clear HO_12; clear HO_19; clear BK354; clear HB; have HO_10 := n0_; have HO_11 := n1_; have HO_12 := n2_; have HO_19 := n3_; have BK354 := n4_; have HB := n5_; clear n0_ n1_ n2_ n3_ n4_ n5_; clear hg hw hp_; have p73 : 0 ≤ ((ji66) : Int) := odt; have q73 : ((ji66) : Int) < ((x12_2.length : Int) : Int) := odt; obtain ⟨go73, co73, eo73, gb73, gl73, cl73, HG73⟩ := Kd.S_form HO_12.out (by omega); (first | cases eo73 | (injection eo73 with ea_ en_ ec_; (first | subst ea_ | (injection ea_ with ea_; subst ea_)); subst ec_; clear en_)); have GB73 := qa.mk gb73; have GG73 := qa.mk HG73; clear gb73 gl73 HG73; (first | simp only [add_plain] at hx383_0 | skip); (first | simp only [add_plain] at hx393_0 | skip); obtain ⟨_, ce73, hcl73, hM73, hcc73, hfr73, _, _⟩ := Kd.ZN HO_12.out [] ((ji66) : Int) p73 q73; obtain ⟨ve73_0, rfl, ge73_0⟩ := hM73; have hx73_0 := hcc73 0 _ rfl; have hf73_0 := hfr73 0; (try simp only [show ((Kd.slice 3 (Kd.int .i64))).sz = 1 from rfl, Nat.mul_one, Nat.add_zero] at hx73_0); (try simp only [show ((Kd.slice 3 (Kd.int .i64))).sz = 1 from rfl, Nat.mul_one, Nat.add_zero] at hf73_0); (try clear hcl73); (try clear hcc73); (try clear hfr73); (try clear hM73); replace p73 := eq_true p73; replace q73 := eq_true q73; have HX81 := qa.mk (show Kd.S (Kd.slice 3 (Kd.int .i64)) 24 w80 w.heap.size (fun k_ => ((fun k_ => some k_ ≠ (.slice (some ⟨go71, 0, none⟩) x11_2.length co48 : Value).ownBlock)) k_ ∧ ¬ ((fun k_ => some k_ = (v388 : Value).ownBlock)) k_) (.slice (some ⟨go73, 0, none⟩) x12_2.length co51) x12_2 from (by (with_reducible repeat (first | apply Kd.jb | apply Kd.ja | apply Kd.jg)); exact Kd.QQ HO_12.out (fun k_ hk => ⟨hk.2, fun e_ => hk.1 e_⟩))); obtain ⟨oki81, ce81, hcl81, hM81, hcc81, hfr81, hoki81, hH81⟩ := Kd.ZN HX81.out [] ((ji66) : Int) (odt) (by have h_ : ((ji66) : Int) < ((x12_2.length : Int) : Int) := odt; first | exact h_ | (have e_ := (Kd.Qo HO_12.out).1; omega) | simpa using h_); obtain ⟨ve81_0, rfl, ge81_0⟩ := hM81; have HP81 := Kd.S_seg hH81 (odt) (by have h_ : ((ji66) : Int) < ((x12_2.length : Int) : Int) := odt; first | exact h_ | (have e_ := (Kd.Qo HO_12.out).1; omega) | simpa using h_) (seg := [v388]) (j := 0) (show 1 ≤ 1 from by decide) (x' := y387) (Kd.M_row (Kd.zi (Kd.R_tight rfl (Kd.zi (ok' := fun k_ => ((fun k_ => some k_ ≠ (.slice (some ⟨go71, 0, none⟩) x11_2.length co48 : Value).ownBlock)) k_ ∧ k_ ≠ go73) (Kd.Q9 (HO_19.out) (Kd.Qz HO_12.out) (by decide)) (fun k_ hk => ⟨hk.1.2, fun e_ => (hk.2) (by rw [e_]; rfl)⟩))) (fun _ h_ => Or.inr (h_)))) (fun _ hk => hk) (fun k_ hk_ => ((Kd.zi (ok' := fun k_ => ((fun k_ => some k_ ≠ (.slice (some ⟨go71, 0, none⟩) x11_2.length co48 : Value).ownBlock)) k_ ∧ k_ ≠ go73) (Kd.Q9 (HO_19.out) (Kd.Qz HO_12.out) (by decide)) (fun k_ hk => ⟨hk.1.2, fun e_ => (hk.2) (by rw [e_]; rfl)⟩))).1 k_ hk_.symm); have hx81_0 := hcc81 0 _ rfl; (try simp only [show ((Kd.slice 3 (Kd.int .i64))).sz = 1 from rfl, Nat.mul_one, Nat.add_zero] at hx81_0); have hf81_0 := hfr81 0; (try simp only [show ((Kd.slice 3 (Kd.int .i64))).sz = 1 from rfl, Nat.mul_one, Nat.add_zero] at hf81_0); (try clear hcl81); (try clear hcc81); (try clear hfr81); (try clear hM81); (try clear hoki81); (try clear hH81); (try simp only [show ((Kd.slice 3 (Kd.int .i64))).sz = 1 from rfl, Nat.mul_one, Nat.add_zero] at HP81)) | ((with_reducible refine jY (t := 24) (p := 153) rfl ?_); refine jT (t := 24) (p := 153) (v := ?vo_w82) (w1 := (w80.setCell ⟨go73, ((ji66) : Int).toNat, none⟩ (v388))) ?hg ?ho ?hn ?hr ?_; (case ho => rfl); (case hg => rfl); (case hn => rfl); (case hr => (go_simp; have hv_ : v388.cells = #[v388] := Array.ext' (Kd.Jq HO_19.out).1; unfold Value.cells at hv_; rw [hv_, if_pos (show (#[v388] : Array Value).size = 1 from rfl)]; have hs_ := run_storeCells_cells (P := Try.prog) go73 ((ji66) : Int).toNat [v388] 0 w80 (fun j hj => by obtain rfl : j = 0 := Nat.lt_one_iff.1 hj; exact (congrArg Option.isSome hx81_0).trans rfl) (fun j hj => by obtain rfl : j = 0 := Nat.lt_one_iff.1 hj; exact hf81_0) (fun v hv => by obtain rfl := List.mem_singleton.1 hv; exact (Kd.Jq HO_19.out).2); show (Sem.run Try.prog (storeCells _ [v388]) w80).andThen _ = _; rw [hs_]; rfl)); intro w82 hw; have hg : w80.grownBy w82 (some go73) := (by rw [hw]; exact HP81.2); have hp_ : Kd.S (Kd.slice 3 (Kd.int .i64)) 24 w82 w.heap.size (fun k_ => some k_ ≠ (.slice (some ⟨go71, 0, none⟩) x11_2.length co48 : Value).ownBlock) (.slice (some ⟨go73, 0, none⟩) x12_2.length co51) y397 := (by rw [hw, Ny397.out]; exact HP81.1); clear HP81; have n0_ := qa.mk (Kd.jV (v := (.slice (some ⟨go73, 0, none⟩) x12_2.length co51)) (rq HO_10) (Kd.Qz HO_12.out) (by decide) hg); have n1_ := qa.mk (Kd.jV (v := (.slice (some ⟨go73, 0, none⟩) x12_2.length co51)) (rq HO_11) (Kd.Qz HO_12.out) (by decide) hg); have n2_ := qa.mk (hp_); have n3_ := qa.mk (jd (g := gb354) (o := .cells #[.slice none 0 0, .int .i64 0, .bool false] 26 (0, 0)) (kq BK354) hg (Kd.QU HO_12.out BK354.out (by decide))); have n4_ := qa.mk ((by rw [hw]; exact qm (HB.out) GB73.out : Below w.heap.size w w82)); clear HO_10; clear HO_11; clear HO_12; clear BK354; clear HB; clear HO_19; have HO_10 := n0_; have HO_11 := n1_; have HO_12 := n2_; have BK354 := n3_; have HB := n4_; clear n0_ n1_ n2_ n3_ n4_; clear hg hw hp_) | (go_at_call 20; (with_reducible refine (zx.calls _ _ l0 x14_2 true _ ?side1 ?side2 A75.out).mono ?_); (case side1 => repeat (first | exact (Kd.zS HR0.out HB.out) | (with_reducible refine Kd.zI ?_ _) | (with_reducible refine Kd.zH ?_ _) | (with_reducible refine Kd.zL ?_))); (case side2 => exact HC0.out); rintro e w' ⟨rfl, ⟨nd, rfl⟩⟩))
           (try simp only [← hl10_1, ← hl10_2])
           go_roundg kj45
           case measure => have := HK1.out; have := HK2.out; have := HJ26.out; have := HJ31.out; have := HJ45.out; omega
           case rel => exact ⟨(y395), (y396), (y397), (ji66), (by first | rfl | (simp; done) | (simp only [← hji66] <;> (first | rfl | simp)) | (simp [*]; done)), H', ⟨by have := HK1.out; have := HK2.out; have := HJ26.out; have := HJ31.out; have := HJ45.out; omega⟩, ⟨by (try simp only [hl10_1]); (try simp only [hl10_2]); exact rq HO_10⟩, ⟨by (try simp only [hl10_1]); (try simp only [hl10_2]); (with_reducible repeat (first | apply Kd.qD | apply Kd.qE | apply Kd.qG)); exact Kd.zi HO_11.out (fun _ hk => trivial)⟩, ⟨by (try simp only [hl10_1]); (try simp only [hl10_2]); (with_reducible repeat (first | apply Kd.jb | apply Kd.ja | apply Kd.jg)); exact HO_12.out⟩, ⟨by (try simp only [hl10_1]); (try simp only [hl10_2]); exact kq BK354⟩, ⟨bs HB GE354⟩⟩
end Go.Proofs.Ytfbanppdiglciaa.X
