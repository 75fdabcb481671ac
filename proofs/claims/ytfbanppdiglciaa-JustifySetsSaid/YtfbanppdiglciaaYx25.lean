-- written by a program of this session (wip/xprint.py) over the kit's print
import Derived.Test.YtfbanppdiglciaaYx0
import Derived.Test.YtfbanppdiglciaaYx19
import Derived.Test.YtfbanppdiglciaaYx20
import Derived.Test.YtfbanppdiglciaaYx24
namespace Go.Proofs.Ytfbanppdiglciaa.Y
open Go.RowKit Go.Proofs.YtfbanppdiglciaaW.PrintWords Go.Proofs.YtfbanppdiglciaaW.PrintLast Go.Proofs.YtfbanppdiglciaaW.PrintMore
attribute [local go_sem] max2_int min2_int max_two min_two max_three min_three max_four min_four   -- for this text's walks alone
set_option linter.unusedVariables false
set_option linter.unusedSimpArgs false

/-! ### serifref20_Set: function 22 -/
mutual
def serifref20_Set.j0 : Nat → List (S31) → Int → Int → Int → Bool → Option (List Int × Bool × Int)
 | 0, _, _, _, _, _ => none
 | k + 1, x0, x1, x2, x3, x43 => if x43 = true then (some (([] : List Int), false, 205)) else ((serifref19_Line.f k x0 x1 x2).bind fun bt273 => (if (wrap64 (x3 - bt273.1)) > 0 then (if bt273.2.1 > 0 then (serifref20_Set.j1 k x0 x1 x2 bt273.2.1 bt273.2.2 (wrap64 (x3 - bt273.1)) true) else (if (wrap64 (x3 - bt273.1)) < 0 then (serifref20_Set.j1 k x0 x1 x2 bt273.2.1 bt273.2.2 (wrap64 (x3 - bt273.1)) (decide ((wrap64 (-(wrap64 (x3 - bt273.1)))) ≤ bt273.2.2))) else (serifref20_Set.j1 k x0 x1 x2 bt273.2.1 bt273.2.2 (wrap64 (x3 - bt273.1)) false))) else (if (wrap64 (x3 - bt273.1)) < 0 then (serifref20_Set.j1 k x0 x1 x2 bt273.2.1 bt273.2.2 (wrap64 (x3 - bt273.1)) (decide ((wrap64 (-(wrap64 (x3 - bt273.1)))) ≤ bt273.2.2))) else (serifref20_Set.j1 k x0 x1 x2 bt273.2.1 bt273.2.2 (wrap64 (x3 - bt273.1)) false))))
def serifref20_Set.j1 : Nat → List (S31) → Int → Int → Int → Int → Int → Bool → Option (List Int × Bool × Int)
 | 0, _, _, _, _, _, _, _ => none
 | k + 1, x0, x1, x2, x12, x13, x14, x15 => if x14 < 0 then (serifref20_Set.j2 k x0 x1 x2 x14 x15 x13) else (serifref20_Set.j2 k x0 x1 x2 x14 x15 x12)
def serifref20_Set.j2 : Nat → List (S31) → Int → Int → Int → Bool → Int → Option (List Int × Bool × Int)
 | 0, _, _, _, _, _, _ => none
 | k + 1, x0, x1, x2, x14, x15, x16 => serifref20_Set.l0 k x0 x2 x14 x15 x16 (([] : List Int)) false 0 0 (wrap64 (x1 + 1))
def serifref20_Set.l0 : Nat → List (S31) → Int → Int → Bool → Int → List Int → Bool → Int → Int → Int → Option (List Int × Bool × Int)
 | 0, _, _, _, _, _, _, _, _, _, _ => none
 | k + 1, x0, x2, x14, x15, x16, x17, x18, x19, x20, x21 => if x21 < x2 then (if 0 ≤ x21 then (if x21 < (x0.length : Int) then (if x18 = true then (serifref20_Set.j4 k x0 x2 x14 x15 x16 x17 true x19 x20 x21 ((rd_T31 x0 x21).f0) ((rd_T31 x0 x21).f1) ((rd_T31 x0 x21).f2) ((rd_T31 x0 x21).f3) ((rd_T31 x0 x21).f4) ((rd_T31 x0 x21).f5)) else (serifref20_Set.j4 k x0 x2 x14 x15 x16 x17 (((rd_T31 x0 x21).f0) == 1) x19 x20 x21 ((rd_T31 x0 x21).f0) ((rd_T31 x0 x21).f1) ((rd_T31 x0 x21).f2) ((rd_T31 x0 x21).f3) ((rd_T31 x0 x21).f4) ((rd_T31 x0 x21).f5))) else (none)) else (none)) else (if x2 < (x0.length : Int) then (if 0 ≤ x2 then (if ((rd_T31 x0 x2).f0) = 3 then (if x17.length < 17592186044416 then ((some (x17 ++ [(rd_T31 x0 x2).f1] : List Int)).bind fun y296 => (if x14 = 0 then (some (y296, true, 0)) else (some (y296, x15, 0)))) else (none)) else (if x17.length < 17592186044416 then ((some (x17 ++ [0] : List Int)).bind fun y299 => (if x14 = 0 then (some (y299, true, 0)) else (some (y299, x15, 0)))) else (none))) else (none)) else (if x14 = 0 then (some (x17, true, 0)) else (some (x17, x15, 0))))
def serifref20_Set.j4 : Nat → List (S31) → Int → Int → Bool → Int → List Int → Bool → Int → Int → Int → Int → Int → Int → Int → Int → Bool → Option (List Int × Bool × Int)
 | 0, _, _, _, _, _, _, _, _, _, _, _, _, _, _, _, _ => none
 | k + 1, x0, x2, x14, x15, x16, x17, x18, x19, x20, x21, x281000, x281001, x281002, x281003, x281004, x281005 => if x18 = true then (serifref20_Set.j5 k x0 x2 x14 x15 x16 x17 x18 x19 x20 x21 0 (x281000 != 3) x281000 x281001 x281002 x281003 x281004 x281005) else (serifref20_Set.j5 k x0 x2 x14 x15 x16 x17 x18 x19 x20 x21 0 false x281000 x281001 x281002 x281003 x281004 x281005)
def serifref20_Set.j5 : Nat → List (S31) → Int → Int → Bool → Int → List Int → Bool → Int → Int → Int → Int → Bool → Int → Int → Int → Int → Int → Bool → Option (List Int × Bool × Int)
 | 0, _, _, _, _, _, _, _, _, _, _, _, _, _, _, _, _, _, _ => none
 | k + 1, x0, x2, x14, x15, x16, x17, x18, x19, x20, x21, x23, x98, x281000, x281001, x281002, x281003, x281004, x281005 => if x98 = true then (serifref20_Set.j6 k x0 x2 x14 x15 x16 x17 x18 x19 x20 x21 x281001 x281000 x281001 x281002 x281003 x281004 x281005) else (serifref20_Set.j6 k x0 x2 x14 x15 x16 x17 x18 x19 x20 x21 x23 x281000 x281001 x281002 x281003 x281004 x281005)
def serifref20_Set.j6 : Nat → List (S31) → Int → Int → Bool → Int → List Int → Bool → Int → Int → Int → Int → Int → Int → Int → Int → Int → Bool → Option (List Int × Bool × Int)
 | 0, _, _, _, _, _, _, _, _, _, _, _, _, _, _, _, _, _ => none
 | k + 1, x0, x2, x14, x15, x16, x17, x18, x19, x20, x21, x23, x281000, x281001, x281002, x281003, x281004, x281005 => if x18 = true then (if x281000 = 2 then (serifref20_Set.j7 k x0 x2 x14 x15 x16 x17 x18 x19 x20 x21 x23 x15 x281000 x281001 x281002 x281003 x281004 x281005) else (serifref20_Set.j7 k x0 x2 x14 x15 x16 x17 x18 x19 x20 x21 x23 false x281000 x281001 x281002 x281003 x281004 x281005)) else (serifref20_Set.j7 k x0 x2 x14 x15 x16 x17 x18 x19 x20 x21 x23 false x281000 x281001 x281002 x281003 x281004 x281005)
def serifref20_Set.j7 : Nat → List (S31) → Int → Int → Bool → Int → List Int → Bool → Int → Int → Int → Int → Bool → Int → Int → Int → Int → Int → Bool → Option (List Int × Bool × Int)
 | 0, _, _, _, _, _, _, _, _, _, _, _, _, _, _, _, _, _, _ => none
 | k + 1, x0, x2, x14, x15, x16, x17, x18, x19, x20, x21, x23, x109, x281000, x281001, x281002, x281003, x281004, x281005 => if x109 = true then (if x14 > 0 then ((serifref20_Down.f k x14 (wrap64 (x19 + x281002)) x16).bind fun t281 => ((serifref20_Down.f k x14 (wrap64 (x19 + x281002)) x16).bind fun t282 => (if x17.length < 17592186044416 then (serifref20_Set.l0 k x0 x2 x14 x15 x16 (x17 ++ [wrap64 (x23 + (wrap64 (t281 - x20)))]) x18 (wrap64 (x19 + x281002)) t282 (wrap64 (x21 + 1))) else (none)))) else ((serifref20_Down.f k x14 (wrap64 (x19 + x281003)) x16).bind fun t286 => ((serifref20_Down.f k x14 (wrap64 (x19 + x281003)) x16).bind fun t287 => (if x17.length < 17592186044416 then (serifref20_Set.l0 k x0 x2 x14 x15 x16 (x17 ++ [wrap64 (x23 + (wrap64 (t286 - x20)))]) x18 (wrap64 (x19 + x281003)) t287 (wrap64 (x21 + 1))) else (none))))) else (if x17.length < 17592186044416 then (serifref20_Set.l0 k x0 x2 x14 x15 x16 (x17 ++ [x23]) x18 x19 x20 (wrap64 (x21 + 1))) else (none))
end
def serifref20_Set.f (k : Nat) (l0 : List (S31)) (a1 : Int) (a2 : Int) (a3 : Int) : Option (List Int × Bool × Int) := (serifref19_Check.f k l0 a3 0).bind fun t272 => (if t272 = 0 then (if a1 < (-1) then (serifref20_Set.j0 k l0 a1 a2 a3 true) else (if a2 ≤ a1 then (serifref20_Set.j0 k l0 a1 a2 a3 true) else (serifref20_Set.j0 k l0 a1 a2 a3 (decide (a2 > (l0.length : Int)))))) else (serifref20_Set.j0 k l0 a1 a2 a3 true))
theorem serifref20_Set.mono_l : ∀ k, (∀ y0 y1 y2 y3 y4, LeO (serifref20_Set.j0 k y0 y1 y2 y3 y4) (serifref20_Set.j0 (k + 1) y0 y1 y2 y3 y4)) ∧ (∀ y0 y1 y2 y3 y4 y5 y6, LeO (serifref20_Set.j1 k y0 y1 y2 y3 y4 y5 y6) (serifref20_Set.j1 (k + 1) y0 y1 y2 y3 y4 y5 y6)) ∧ (∀ y0 y1 y2 y3 y4 y5, LeO (serifref20_Set.j2 k y0 y1 y2 y3 y4 y5) (serifref20_Set.j2 (k + 1) y0 y1 y2 y3 y4 y5)) ∧ (∀ y0 y1 y2 y3 y4 y5 y6 y7 y8 y9, LeO (serifref20_Set.l0 k y0 y1 y2 y3 y4 y5 y6 y7 y8 y9) (serifref20_Set.l0 (k + 1) y0 y1 y2 y3 y4 y5 y6 y7 y8 y9)) ∧ (∀ y0 y1 y2 y3 y4 y5 y6 y7 y8 y9 y10 y11 y12 y13 y14 y15, LeO (serifref20_Set.j4 k y0 y1 y2 y3 y4 y5 y6 y7 y8 y9 y10 y11 y12 y13 y14 y15) (serifref20_Set.j4 (k + 1) y0 y1 y2 y3 y4 y5 y6 y7 y8 y9 y10 y11 y12 y13 y14 y15)) ∧ (∀ y0 y1 y2 y3 y4 y5 y6 y7 y8 y9 y10 y11 y12 y13 y14 y15 y16 y17, LeO (serifref20_Set.j5 k y0 y1 y2 y3 y4 y5 y6 y7 y8 y9 y10 y11 y12 y13 y14 y15 y16 y17) (serifref20_Set.j5 (k + 1) y0 y1 y2 y3 y4 y5 y6 y7 y8 y9 y10 y11 y12 y13 y14 y15 y16 y17)) ∧ (∀ y0 y1 y2 y3 y4 y5 y6 y7 y8 y9 y10 y11 y12 y13 y14 y15 y16, LeO (serifref20_Set.j6 k y0 y1 y2 y3 y4 y5 y6 y7 y8 y9 y10 y11 y12 y13 y14 y15 y16) (serifref20_Set.j6 (k + 1) y0 y1 y2 y3 y4 y5 y6 y7 y8 y9 y10 y11 y12 y13 y14 y15 y16)) ∧ (∀ y0 y1 y2 y3 y4 y5 y6 y7 y8 y9 y10 y11 y12 y13 y14 y15 y16 y17, LeO (serifref20_Set.j7 k y0 y1 y2 y3 y4 y5 y6 y7 y8 y9 y10 y11 y12 y13 y14 y15 y16 y17) (serifref20_Set.j7 (k + 1) y0 y1 y2 y3 y4 y5 y6 y7 y8 y9 y10 y11 y12 y13 y14 y15 y16 y17))
 | 0 => ⟨fun _ _ _ _ _ r h => by simp [serifref20_Set.j0] at h, fun _ _ _ _ _ _ _ r h => by simp [serifref20_Set.j1] at h, fun _ _ _ _ _ _ r h => by simp [serifref20_Set.j2] at h, fun _ _ _ _ _ _ _ _ _ _ r h => by simp [serifref20_Set.l0] at h, fun _ _ _ _ _ _ _ _ _ _ _ _ _ _ _ _ r h => by simp [serifref20_Set.j4] at h, fun _ _ _ _ _ _ _ _ _ _ _ _ _ _ _ _ _ _ r h => by simp [serifref20_Set.j5] at h, fun _ _ _ _ _ _ _ _ _ _ _ _ _ _ _ _ _ r h => by simp [serifref20_Set.j6] at h, fun _ _ _ _ _ _ _ _ _ _ _ _ _ _ _ _ _ _ r h => by simp [serifref20_Set.j7] at h⟩
 | k + 1 => by
  obtain ⟨ih0, ih1, ih2, ih3, ih4, ih5, ih6, ih7⟩ := serifref20_Set.mono_l k
  refine ⟨?_, ?_, ?_, ?_, ?_, ?_, ?_, ?_⟩
  ·intro y0 y1 y2 y3 y4
   unfold serifref20_Set.j0
   repeat' first
   | (with_reducible exact ih0 _ _ _ _ _)
   | (with_reducible exact ih1 _ _ _ _ _ _ _)
   | (with_reducible exact ih2 _ _ _ _ _ _)
   | (with_reducible exact ih3 _ _ _ _ _ _ _ _ _ _)
   | (with_reducible exact ih4 _ _ _ _ _ _ _ _ _ _ _ _ _ _ _ _)
   | (with_reducible exact ih5 _ _ _ _ _ _ _ _ _ _ _ _ _ _ _ _ _ _)
   | (with_reducible exact ih6 _ _ _ _ _ _ _ _ _ _ _ _ _ _ _ _ _)
   | (with_reducible exact ih7 _ _ _ _ _ _ _ _ _ _ _ _ _ _ _ _ _ _)
   | (with_reducible exact serifref19_Check.mono _ _ _ _)
   | (with_reducible exact serifref19_Line.mono _ _ _ _)
   | (with_reducible exact serifref20_Down.mono _ _ _ _)
   | (with_reducible exact LeO.refl _)
   | (with_reducible exact LeO.none _)
   | (with_reducible refine LeO.ite ?_ ?_)
   | (with_reducible refine LeO.bind ?_ (fun _ => ?_))
   | exact ih0 _ _ _ _ _
   | exact ih1 _ _ _ _ _ _ _
   | exact ih2 _ _ _ _ _ _
   | exact ih3 _ _ _ _ _ _ _ _ _ _
   | exact ih4 _ _ _ _ _ _ _ _ _ _ _ _ _ _ _ _
   | exact ih5 _ _ _ _ _ _ _ _ _ _ _ _ _ _ _ _ _ _
   | exact ih6 _ _ _ _ _ _ _ _ _ _ _ _ _ _ _ _ _
   | exact ih7 _ _ _ _ _ _ _ _ _ _ _ _ _ _ _ _ _ _
   | exact serifref19_Check.mono _ _ _ _
   | exact serifref19_Line.mono _ _ _ _
   | exact serifref20_Down.mono _ _ _ _
   | exact LeO.none _
   | refine LeO.ite ?_ ?_
   | refine LeO.bind ?_ (fun _ => ?_)
  ·intro y0 y1 y2 y3 y4 y5 y6
   unfold serifref20_Set.j1
   repeat' first
   | (with_reducible exact ih0 _ _ _ _ _)
   | (with_reducible exact ih1 _ _ _ _ _ _ _)
   | (with_reducible exact ih2 _ _ _ _ _ _)
   | (with_reducible exact ih3 _ _ _ _ _ _ _ _ _ _)
   | (with_reducible exact ih4 _ _ _ _ _ _ _ _ _ _ _ _ _ _ _ _)
   | (with_reducible exact ih5 _ _ _ _ _ _ _ _ _ _ _ _ _ _ _ _ _ _)
   | (with_reducible exact ih6 _ _ _ _ _ _ _ _ _ _ _ _ _ _ _ _ _)
   | (with_reducible exact ih7 _ _ _ _ _ _ _ _ _ _ _ _ _ _ _ _ _ _)
   | (with_reducible exact serifref19_Check.mono _ _ _ _)
   | (with_reducible exact serifref19_Line.mono _ _ _ _)
   | (with_reducible exact serifref20_Down.mono _ _ _ _)
   | (with_reducible exact LeO.refl _)
   | (with_reducible exact LeO.none _)
   | (with_reducible refine LeO.ite ?_ ?_)
   | (with_reducible refine LeO.bind ?_ (fun _ => ?_))
   | exact ih0 _ _ _ _ _
   | exact ih1 _ _ _ _ _ _ _
   | exact ih2 _ _ _ _ _ _
   | exact ih3 _ _ _ _ _ _ _ _ _ _
   | exact ih4 _ _ _ _ _ _ _ _ _ _ _ _ _ _ _ _
   | exact ih5 _ _ _ _ _ _ _ _ _ _ _ _ _ _ _ _ _ _
   | exact ih6 _ _ _ _ _ _ _ _ _ _ _ _ _ _ _ _ _
   | exact ih7 _ _ _ _ _ _ _ _ _ _ _ _ _ _ _ _ _ _
   | exact serifref19_Check.mono _ _ _ _
   | exact serifref19_Line.mono _ _ _ _
   | exact serifref20_Down.mono _ _ _ _
   | exact LeO.none _
   | refine LeO.ite ?_ ?_
   | refine LeO.bind ?_ (fun _ => ?_)
  ·intro y0 y1 y2 y3 y4 y5
   unfold serifref20_Set.j2
   repeat' first
   | (with_reducible exact ih0 _ _ _ _ _)
   | (with_reducible exact ih1 _ _ _ _ _ _ _)
   | (with_reducible exact ih2 _ _ _ _ _ _)
   | (with_reducible exact ih3 _ _ _ _ _ _ _ _ _ _)
   | (with_reducible exact ih4 _ _ _ _ _ _ _ _ _ _ _ _ _ _ _ _)
   | (with_reducible exact ih5 _ _ _ _ _ _ _ _ _ _ _ _ _ _ _ _ _ _)
   | (with_reducible exact ih6 _ _ _ _ _ _ _ _ _ _ _ _ _ _ _ _ _)
   | (with_reducible exact ih7 _ _ _ _ _ _ _ _ _ _ _ _ _ _ _ _ _ _)
   | (with_reducible exact serifref19_Check.mono _ _ _ _)
   | (with_reducible exact serifref19_Line.mono _ _ _ _)
   | (with_reducible exact serifref20_Down.mono _ _ _ _)
   | (with_reducible exact LeO.refl _)
   | (with_reducible exact LeO.none _)
   | (with_reducible refine LeO.ite ?_ ?_)
   | (with_reducible refine LeO.bind ?_ (fun _ => ?_))
   | exact ih0 _ _ _ _ _
   | exact ih1 _ _ _ _ _ _ _
   | exact ih2 _ _ _ _ _ _
   | exact ih3 _ _ _ _ _ _ _ _ _ _
   | exact ih4 _ _ _ _ _ _ _ _ _ _ _ _ _ _ _ _
   | exact ih5 _ _ _ _ _ _ _ _ _ _ _ _ _ _ _ _ _ _
   | exact ih6 _ _ _ _ _ _ _ _ _ _ _ _ _ _ _ _ _
   | exact ih7 _ _ _ _ _ _ _ _ _ _ _ _ _ _ _ _ _ _
   | exact serifref19_Check.mono _ _ _ _
   | exact serifref19_Line.mono _ _ _ _
   | exact serifref20_Down.mono _ _ _ _
   | exact LeO.none _
   | refine LeO.ite ?_ ?_
   | refine LeO.bind ?_ (fun _ => ?_)
  ·intro y0 y1 y2 y3 y4 y5 y6 y7 y8 y9
   unfold serifref20_Set.l0
   repeat' first
   | (with_reducible exact ih0 _ _ _ _ _)
   | (with_reducible exact ih1 _ _ _ _ _ _ _)
   | (with_reducible exact ih2 _ _ _ _ _ _)
   | (with_reducible exact ih3 _ _ _ _ _ _ _ _ _ _)
   | (with_reducible exact ih4 _ _ _ _ _ _ _ _ _ _ _ _ _ _ _ _)
   | (with_reducible exact ih5 _ _ _ _ _ _ _ _ _ _ _ _ _ _ _ _ _ _)
   | (with_reducible exact ih6 _ _ _ _ _ _ _ _ _ _ _ _ _ _ _ _ _)
   | (with_reducible exact ih7 _ _ _ _ _ _ _ _ _ _ _ _ _ _ _ _ _ _)
   | (with_reducible exact serifref19_Check.mono _ _ _ _)
   | (with_reducible exact serifref19_Line.mono _ _ _ _)
   | (with_reducible exact serifref20_Down.mono _ _ _ _)
   | (with_reducible exact LeO.refl _)
   | (with_reducible exact LeO.none _)
   | (with_reducible refine LeO.ite ?_ ?_)
   | (with_reducible refine LeO.bind ?_ (fun _ => ?_))
   | exact ih0 _ _ _ _ _
   | exact ih1 _ _ _ _ _ _ _
   | exact ih2 _ _ _ _ _ _
   | exact ih3 _ _ _ _ _ _ _ _ _ _
   | exact ih4 _ _ _ _ _ _ _ _ _ _ _ _ _ _ _ _
   | exact ih5 _ _ _ _ _ _ _ _ _ _ _ _ _ _ _ _ _ _
   | exact ih6 _ _ _ _ _ _ _ _ _ _ _ _ _ _ _ _ _
   | exact ih7 _ _ _ _ _ _ _ _ _ _ _ _ _ _ _ _ _ _
   | exact serifref19_Check.mono _ _ _ _
   | exact serifref19_Line.mono _ _ _ _
   | exact serifref20_Down.mono _ _ _ _
   | exact LeO.none _
   | refine LeO.ite ?_ ?_
   | refine LeO.bind ?_ (fun _ => ?_)
  ·intro y0 y1 y2 y3 y4 y5 y6 y7 y8 y9 y10 y11 y12 y13 y14 y15
   unfold serifref20_Set.j4
   repeat' first
   | (with_reducible exact ih0 _ _ _ _ _)
   | (with_reducible exact ih1 _ _ _ _ _ _ _)
   | (with_reducible exact ih2 _ _ _ _ _ _)
   | (with_reducible exact ih3 _ _ _ _ _ _ _ _ _ _)
   | (with_reducible exact ih4 _ _ _ _ _ _ _ _ _ _ _ _ _ _ _ _)
   | (with_reducible exact ih5 _ _ _ _ _ _ _ _ _ _ _ _ _ _ _ _ _ _)
   | (with_reducible exact ih6 _ _ _ _ _ _ _ _ _ _ _ _ _ _ _ _ _)
   | (with_reducible exact ih7 _ _ _ _ _ _ _ _ _ _ _ _ _ _ _ _ _ _)
   | (with_reducible exact serifref19_Check.mono _ _ _ _)
   | (with_reducible exact serifref19_Line.mono _ _ _ _)
   | (with_reducible exact serifref20_Down.mono _ _ _ _)
   | (with_reducible exact LeO.refl _)
   | (with_reducible exact LeO.none _)
   | (with_reducible refine LeO.ite ?_ ?_)
   | (with_reducible refine LeO.bind ?_ (fun _ => ?_))
   | exact ih0 _ _ _ _ _
   | exact ih1 _ _ _ _ _ _ _
   | exact ih2 _ _ _ _ _ _
   | exact ih3 _ _ _ _ _ _ _ _ _ _
   | exact ih4 _ _ _ _ _ _ _ _ _ _ _ _ _ _ _ _
   | exact ih5 _ _ _ _ _ _ _ _ _ _ _ _ _ _ _ _ _ _
   | exact ih6 _ _ _ _ _ _ _ _ _ _ _ _ _ _ _ _ _
   | exact ih7 _ _ _ _ _ _ _ _ _ _ _ _ _ _ _ _ _ _
   | exact serifref19_Check.mono _ _ _ _
   | exact serifref19_Line.mono _ _ _ _
   | exact serifref20_Down.mono _ _ _ _
   | exact LeO.none _
   | refine LeO.ite ?_ ?_
   | refine LeO.bind ?_ (fun _ => ?_)
  ·intro y0 y1 y2 y3 y4 y5 y6 y7 y8 y9 y10 y11 y12 y13 y14 y15 y16 y17
   unfold serifref20_Set.j5
   repeat' first
   | (with_reducible exact ih0 _ _ _ _ _)
   | (with_reducible exact ih1 _ _ _ _ _ _ _)
   | (with_reducible exact ih2 _ _ _ _ _ _)
   | (with_reducible exact ih3 _ _ _ _ _ _ _ _ _ _)
   | (with_reducible exact ih4 _ _ _ _ _ _ _ _ _ _ _ _ _ _ _ _)
   | (with_reducible exact ih5 _ _ _ _ _ _ _ _ _ _ _ _ _ _ _ _ _ _)
   | (with_reducible exact ih6 _ _ _ _ _ _ _ _ _ _ _ _ _ _ _ _ _)
   | (with_reducible exact ih7 _ _ _ _ _ _ _ _ _ _ _ _ _ _ _ _ _ _)
   | (with_reducible exact serifref19_Check.mono _ _ _ _)
   | (with_reducible exact serifref19_Line.mono _ _ _ _)
   | (with_reducible exact serifref20_Down.mono _ _ _ _)
   | (with_reducible exact LeO.refl _)
   | (with_reducible exact LeO.none _)
   | (with_reducible refine LeO.ite ?_ ?_)
   | (with_reducible refine LeO.bind ?_ (fun _ => ?_))
   | exact ih0 _ _ _ _ _
   | exact ih1 _ _ _ _ _ _ _
   | exact ih2 _ _ _ _ _ _
   | exact ih3 _ _ _ _ _ _ _ _ _ _
   | exact ih4 _ _ _ _ _ _ _ _ _ _ _ _ _ _ _ _
   | exact ih5 _ _ _ _ _ _ _ _ _ _ _ _ _ _ _ _ _ _
   | exact ih6 _ _ _ _ _ _ _ _ _ _ _ _ _ _ _ _ _
   | exact ih7 _ _ _ _ _ _ _ _ _ _ _ _ _ _ _ _ _ _
   | exact serifref19_Check.mono _ _ _ _
   | exact serifref19_Line.mono _ _ _ _
   | exact serifref20_Down.mono _ _ _ _
   | exact LeO.none _
   | refine LeO.ite ?_ ?_
   | refine LeO.bind ?_ (fun _ => ?_)
  ·intro y0 y1 y2 y3 y4 y5 y6 y7 y8 y9 y10 y11 y12 y13 y14 y15 y16
   unfold serifref20_Set.j6
   repeat' first
   | (with_reducible exact ih0 _ _ _ _ _)
   | (with_reducible exact ih1 _ _ _ _ _ _ _)
   | (with_reducible exact ih2 _ _ _ _ _ _)
   | (with_reducible exact ih3 _ _ _ _ _ _ _ _ _ _)
   | (with_reducible exact ih4 _ _ _ _ _ _ _ _ _ _ _ _ _ _ _ _)
   | (with_reducible exact ih5 _ _ _ _ _ _ _ _ _ _ _ _ _ _ _ _ _ _)
   | (with_reducible exact ih6 _ _ _ _ _ _ _ _ _ _ _ _ _ _ _ _ _)
   | (with_reducible exact ih7 _ _ _ _ _ _ _ _ _ _ _ _ _ _ _ _ _ _)
   | (with_reducible exact serifref19_Check.mono _ _ _ _)
   | (with_reducible exact serifref19_Line.mono _ _ _ _)
   | (with_reducible exact serifref20_Down.mono _ _ _ _)
   | (with_reducible exact LeO.refl _)
   | (with_reducible exact LeO.none _)
   | (with_reducible refine LeO.ite ?_ ?_)
   | (with_reducible refine LeO.bind ?_ (fun _ => ?_))
   | exact ih0 _ _ _ _ _
   | exact ih1 _ _ _ _ _ _ _
   | exact ih2 _ _ _ _ _ _
   | exact ih3 _ _ _ _ _ _ _ _ _ _
   | exact ih4 _ _ _ _ _ _ _ _ _ _ _ _ _ _ _ _
   | exact ih5 _ _ _ _ _ _ _ _ _ _ _ _ _ _ _ _ _ _
   | exact ih6 _ _ _ _ _ _ _ _ _ _ _ _ _ _ _ _ _
   | exact ih7 _ _ _ _ _ _ _ _ _ _ _ _ _ _ _ _ _ _
   | exact serifref19_Check.mono _ _ _ _
   | exact serifref19_Line.mono _ _ _ _
   | exact serifref20_Down.mono _ _ _ _
   | exact LeO.none _
   | refine LeO.ite ?_ ?_
   | refine LeO.bind ?_ (fun _ => ?_)
  ·intro y0 y1 y2 y3 y4 y5 y6 y7 y8 y9 y10 y11 y12 y13 y14 y15 y16 y17
   unfold serifref20_Set.j7
   repeat' first
   | (with_reducible exact ih0 _ _ _ _ _)
   | (with_reducible exact ih1 _ _ _ _ _ _ _)
   | (with_reducible exact ih2 _ _ _ _ _ _)
   | (with_reducible exact ih3 _ _ _ _ _ _ _ _ _ _)
   | (with_reducible exact ih4 _ _ _ _ _ _ _ _ _ _ _ _ _ _ _ _)
   | (with_reducible exact ih5 _ _ _ _ _ _ _ _ _ _ _ _ _ _ _ _ _ _)
   | (with_reducible exact ih6 _ _ _ _ _ _ _ _ _ _ _ _ _ _ _ _ _)
   | (with_reducible exact ih7 _ _ _ _ _ _ _ _ _ _ _ _ _ _ _ _ _ _)
   | (with_reducible exact serifref19_Check.mono _ _ _ _)
   | (with_reducible exact serifref19_Line.mono _ _ _ _)
   | (with_reducible exact serifref20_Down.mono _ _ _ _)
   | (with_reducible exact LeO.refl _)
   | (with_reducible exact LeO.none _)
   | (with_reducible refine LeO.ite ?_ ?_)
   | (with_reducible refine LeO.bind ?_ (fun _ => ?_))
   | exact ih0 _ _ _ _ _
   | exact ih1 _ _ _ _ _ _ _
   | exact ih2 _ _ _ _ _ _
   | exact ih3 _ _ _ _ _ _ _ _ _ _
   | exact ih4 _ _ _ _ _ _ _ _ _ _ _ _ _ _ _ _
   | exact ih5 _ _ _ _ _ _ _ _ _ _ _ _ _ _ _ _ _ _
   | exact ih6 _ _ _ _ _ _ _ _ _ _ _ _ _ _ _ _ _
   | exact ih7 _ _ _ _ _ _ _ _ _ _ _ _ _ _ _ _ _ _
   | exact serifref19_Check.mono _ _ _ _
   | exact serifref19_Line.mono _ _ _ _
   | exact serifref20_Down.mono _ _ _ _
   | exact LeO.none _
   | refine LeO.ite ?_ ?_
   | refine LeO.bind ?_ (fun _ => ?_)
theorem serifref20_Set.mono : ∀ a0 a1 a2 a3 k, LeO (serifref20_Set.f k a0 a1 a2 a3) (serifref20_Set.f (k + 1) a0 a1 a2 a3) := by
 intro a0 a1 a2 a3 k
 obtain ⟨ih0, ih1, ih2, ih3, ih4, ih5, ih6, ih7⟩ := serifref20_Set.mono_l k
 unfold serifref20_Set.f
 repeat' first
   | (with_reducible exact ih0 _ _ _ _ _)
   | (with_reducible exact ih1 _ _ _ _ _ _ _)
   | (with_reducible exact ih2 _ _ _ _ _ _)
   | (with_reducible exact ih3 _ _ _ _ _ _ _ _ _ _)
   | (with_reducible exact ih4 _ _ _ _ _ _ _ _ _ _ _ _ _ _ _ _)
   | (with_reducible exact ih5 _ _ _ _ _ _ _ _ _ _ _ _ _ _ _ _ _ _)
   | (with_reducible exact ih6 _ _ _ _ _ _ _ _ _ _ _ _ _ _ _ _ _)
   | (with_reducible exact ih7 _ _ _ _ _ _ _ _ _ _ _ _ _ _ _ _ _ _)
   | (with_reducible exact serifref19_Check.mono _ _ _ _)
   | (with_reducible exact serifref19_Line.mono _ _ _ _)
   | (with_reducible exact serifref20_Down.mono _ _ _ _)
   | (with_reducible exact LeO.refl _)
   | (with_reducible exact LeO.none _)
   | (with_reducible refine LeO.ite ?_ ?_)
   | (with_reducible refine LeO.bind ?_ (fun _ => ?_))
   | exact ih0 _ _ _ _ _
   | exact ih1 _ _ _ _ _ _ _
   | exact ih2 _ _ _ _ _ _
   | exact ih3 _ _ _ _ _ _ _ _ _ _
   | exact ih4 _ _ _ _ _ _ _ _ _ _ _ _ _ _ _ _
   | exact ih5 _ _ _ _ _ _ _ _ _ _ _ _ _ _ _ _ _ _
   | exact ih6 _ _ _ _ _ _ _ _ _ _ _ _ _ _ _ _ _
   | exact ih7 _ _ _ _ _ _ _ _ _ _ _ _ _ _ _ _ _ _
   | exact serifref19_Check.mono _ _ _ _
   | exact serifref19_Line.mono _ _ _ _
   | exact serifref20_Down.mono _ _ _ _
   | exact LeO.none _
   | refine LeO.ite ?_ ?_
   | refine LeO.bind ?_ (fun _ => ?_)
set_option maxHeartbeats 8000000 in
set_option maxRecDepth 100000 in
theorem serifref20_Set.calls (k : Nat) (A0 : Option Addr) (c0 : Nat) (l0 : List (S31)) (a1 : Int) (a2 : Int) (a3 : Int) (r1 : List Int) (r2 : Bool) (r3 : Int) (w : World) (hr0 : Kd.C k31 w A0 l0.length l0) (hc0 : l0.length ≤ c0) (h : serifref20_Set.f k l0 a1 a2 a3 = some (r1, r2, r3)) :
  Calls Try.prog 22 #[.slice A0 l0.length c0, .int .i64 a1, .int .i64 a2, .int .i64 a3] w fun e w' => ∃ v0_ : Value, e = .returned (.tuple #[v0_, .bool r2, .int .i64 r3]) ∧ Kd.R (Kd.int .i64) 3 w' w.heap.size (fun _ => True) v0_ r1 ∧ Below w.heap.size w w' := by
 have hu31 := Try.underlying31
 have HR0 := Aside0.mk hr0
 have HC0 := Aside0.mk hc0
 clear hr0 hc0
 have HB := Aside0.mk (Below.refl w.heap.size w)
 have H : ((serifref19_Check.f k l0 a3 0).bind fun t272 => (if t272 = 0 then (if a1 < (-1) then (serifref20_Set.j0 k l0 a1 a2 a3 true) else (if a2 ≤ a1 then (serifref20_Set.j0 k l0 a1 a2 a3 true) else (serifref20_Set.j0 k l0 a1 a2 a3 (decide (a2 > (l0.length : Int)))))) else (serifref20_Set.j0 k l0 a1 a2 a3 true))) = some (r1, r2, r3) := h
 clear h
 have HC5 := Aside0.mk H
 clear H
 go_enter Try.func22, Try.ntmps22
 go_upto_region 1 with (fail)
 go_cut [43] (fun v43 wc => ∃ (kq : Nat) (x43_4 : Bool), v43 = .bool x43_4 ∧ Aside0 (serifref20_Set.j0 kq l0 a1 a2 a3 x43_4 = some (r1, r2, r3)) ∧ Aside0 (kq ≤ k) ∧ Aside0 (Below w.heap.size w wc))
 case first =>
  have H := HC5.out
  clear HC5
  replace H := Option.bind_eq_some_iff.mp H
  obtain ⟨t272, A60, H⟩ := H
  replace H : (if t272 = 0 then (if a1 < (-1) then (serifref20_Set.j0 k l0 a1 a2 a3 true) else (if a2 ≤ a1 then (serifref20_Set.j0 k l0 a1 a2 a3 true) else (serifref20_Set.j0 k l0 a1 a2 a3 (decide (a2 > (l0.length : Int)))))) else (serifref20_Set.j0 k l0 a1 a2 a3 true)) = some (r1, r2, r3) := H
  have A6 := Aside0.mk A60
  clear A60
  by_cases c7 : t272 = 0
  ·rw [if_pos c7] at H
   have c7b0 : (t272 == 0) = true := beq_iff_eq.mpr c7
   have c7b1 : (t272 != 0) = false := bne_eq_false_iff_eq.mpr c7
   clear c7
   (first | rw [c7b0] | (simp only [i64_w, i32_w]; rw [c7b0]) | skip)
   by_cases c8 : a1 < (-1)
   ·rw [if_pos c8] at H
    have c8b0 : decide (a1 < (-1)) = true := decide_eq_true c8
    clear c8
    have H' := Aside0.mk H
    clear H
    go_wp2_with (first | ((with_reducible refine gate_callee (f := 14) rfl ?_); refine goesL_ (some 27) rfl rfl Try.func14 (by kernel_rfl) rfl #[.slice A0 l0.length c0, .int .i64 a3, .int .i64 0] rfl (by (try simp only [List.map_toArray, List.map_cons, List.map_nil]); first | done | rfl | (simp only [List.length_drop, List.length_take]; rfl)) ?_; (with_reducible refine (serifref19_Check.calls k _ _ l0 a3 0 t272 _ ?side1 ?side2 A6.out).mono ?_); (case side1 => repeat (first | exact (Kd.C_below HR0.out HB.out) | (with_reducible refine Kd.C_alloc ?_ _) | (with_reducible refine Kd.C_drewN ?_ _) | (with_reducible refine Kd.C_drew ?_))); (case side2 => exact HC0.out); rintro e w9 ⟨rfl, hb⟩; refine ⟨_, rfl, ?_⟩; have n0_ := Aside0.mk (below_step (bq HB) hb); clear HB; have HB := n0_; clear n0_; (try clear hb); (try clear hb2); (try clear hk); (try clear hi)))
    go_meet
    case rel => exact ⟨_, (true), (by first | rfl | (simp; done) | (simp [*]; done)), H', ⟨by first | omega | exact Nat.le_refl _⟩, ⟨bq HB⟩⟩
   ·rw [if_neg c8] at H
    have c8b0 : decide (a1 < (-1)) = false := decide_eq_false c8
    clear c8
    by_cases c10 : a2 ≤ a1
    ·rw [if_pos c10] at H
     have c10b0 : decide (a2 ≤ a1) = true := decide_eq_true c10
     clear c10
     have H' := Aside0.mk H
     clear H
     go_wp2_with (first | ((with_reducible refine gate_callee (f := 14) rfl ?_); refine goesL_ (some 27) rfl rfl Try.func14 (by kernel_rfl) rfl #[.slice A0 l0.length c0, .int .i64 a3, .int .i64 0] rfl (by (try simp only [List.map_toArray, List.map_cons, List.map_nil]); first | done | rfl | (simp only [List.length_drop, List.length_take]; rfl)) ?_; (with_reducible refine (serifref19_Check.calls k _ _ l0 a3 0 t272 _ ?side1 ?side2 A6.out).mono ?_); (case side1 => repeat (first | exact (Kd.C_below HR0.out HB.out) | (with_reducible refine Kd.C_alloc ?_ _) | (with_reducible refine Kd.C_drewN ?_ _) | (with_reducible refine Kd.C_drew ?_))); (case side2 => exact HC0.out); rintro e w11 ⟨rfl, hb⟩; refine ⟨_, rfl, ?_⟩; have n0_ := Aside0.mk (below_step (bq HB) hb); clear HB; have HB := n0_; clear n0_; (try clear hb); (try clear hb2); (try clear hk); (try clear hi)))
     go_meet
     case rel => exact ⟨_, (true), (by first | rfl | (simp; done) | (simp [*]; done)), H', ⟨by first | omega | exact Nat.le_refl _⟩, ⟨bq HB⟩⟩
    ·rw [if_neg c10] at H
     have c10b0 : decide (a2 ≤ a1) = false := decide_eq_false c10
     clear c10
     have H' := Aside0.mk H
     clear H
     go_wp2_with (first | ((with_reducible refine gate_callee (f := 14) rfl ?_); refine goesL_ (some 27) rfl rfl Try.func14 (by kernel_rfl) rfl #[.slice A0 l0.length c0, .int .i64 a3, .int .i64 0] rfl (by (try simp only [List.map_toArray, List.map_cons, List.map_nil]); first | done | rfl | (simp only [List.length_drop, List.length_take]; rfl)) ?_; (with_reducible refine (serifref19_Check.calls k _ _ l0 a3 0 t272 _ ?side1 ?side2 A6.out).mono ?_); (case side1 => repeat (first | exact (Kd.C_below HR0.out HB.out) | (with_reducible refine Kd.C_alloc ?_ _) | (with_reducible refine Kd.C_drewN ?_ _) | (with_reducible refine Kd.C_drew ?_))); (case side2 => exact HC0.out); rintro e w12 ⟨rfl, hb⟩; refine ⟨_, rfl, ?_⟩; have n0_ := Aside0.mk (below_step (bq HB) hb); clear HB; have HB := n0_; clear n0_; (try clear hb); (try clear hb2); (try clear hk); (try clear hi)))
     go_meet
     case rel => exact ⟨_, (decide (a2 > (l0.length : Int))), (by first | rfl | (simp; done) | (simp [*]; done)), H', ⟨by first | omega | exact Nat.le_refl _⟩, ⟨bq HB⟩⟩
  ·rw [if_neg c7] at H
   have c7b0 : (t272 == 0) = false := beq_eq_false_iff_ne.mpr c7
   have c7b1 : (t272 != 0) = true := bne_iff_ne.mpr c7
   (first | rw [c7b0] | (simp only [i64_w, i32_w]; rw [c7b0]) | skip)
   have H' := Aside0.mk H
   clear H
   go_wp2_with (first | ((with_reducible refine gate_callee (f := 14) rfl ?_); refine goesL_ (some 27) rfl rfl Try.func14 (by kernel_rfl) rfl #[.slice A0 l0.length c0, .int .i64 a3, .int .i64 0] rfl (by (try simp only [List.map_toArray, List.map_cons, List.map_nil]); first | done | rfl | (simp only [List.length_drop, List.length_take]; rfl)) ?_; (with_reducible refine (serifref19_Check.calls k _ _ l0 a3 0 t272 _ ?side1 ?side2 A6.out).mono ?_); (case side1 => repeat (first | exact (Kd.C_below HR0.out HB.out) | (with_reducible refine Kd.C_alloc ?_ _) | (with_reducible refine Kd.C_drewN ?_ _) | (with_reducible refine Kd.C_drew ?_))); (case side2 => exact HC0.out); rintro e w13 ⟨rfl, hb⟩; refine ⟨_, rfl, ?_⟩; have n0_ := Aside0.mk (below_step (bq HB) hb); clear HB; have HB := n0_; clear n0_; (try clear hb); (try clear hb2); (try clear hk); (try clear hi)))
   go_meet
   case rel => exact ⟨_, (true), (by first | rfl | (simp; done) | (simp [*]; done)), H', ⟨by first | omega | exact Nat.le_refl _⟩, ⟨bq HB⟩⟩
 case rest =>
  clear HC5
  try clear c1
  try clear c2
  try clear p2
  try clear c7
  try clear c7b0
  try clear c7b1
  try clear c8
  try clear c8b0
  try clear c10
  try clear c10b0
  obtain ⟨kq, x43_4, rfl, HA, HJ4, HB⟩ := hcut
  cases kq with
  | zero => exact absurd HA.out (by simp [serifref20_Set.j0])
  | succ kj4 =>
   have H := HA.out
   clear HA
   simp only [serifref20_Set.j0] at H
   by_cases c14 : x43_4 = true
   ·subst c14
    have H1 : (some (([] : List Int), false, 205)) = some (r1, r2, r3) := by rw [if_pos rfl] at H; exact H
    clear H
    have H := H1
    clear H1
    simp only [Option.some.injEq, Prod.mk.injEq] at H
    obtain ⟨rfl, rfl, rfl⟩ := H
    go_wp2
    go_ret3
    exact ⟨_, by first | rfl | (simp [errW_none, errW_some] <;> rfl) | (simp [*, errW_none, errW_some] <;> rfl), by first | exact Kd.R_nil _ _ _ _ _ | exact Kd.N_nil _ _ _ _ _ | exact Kd.V_nil _ _ _ _ _ | exact Kd.Q_nil _ _ _ _ _ | exact Kd.S_nil _ _ _ _ _, bq HB⟩
   ·replace c14 := Bool.eq_false_iff.mpr c14
    subst c14
    have H1 : ((serifref19_Line.f kj4 l0 a1 a2).bind fun bt273 => (if (wrap64 (a3 - bt273.1)) > 0 then (if bt273.2.1 > 0 then (serifref20_Set.j1 kj4 l0 a1 a2 bt273.2.1 bt273.2.2 (wrap64 (a3 - bt273.1)) true) else (if (wrap64 (a3 - bt273.1)) < 0 then (serifref20_Set.j1 kj4 l0 a1 a2 bt273.2.1 bt273.2.2 (wrap64 (a3 - bt273.1)) (decide ((wrap64 (-(wrap64 (a3 - bt273.1)))) ≤ bt273.2.2))) else (serifref20_Set.j1 kj4 l0 a1 a2 bt273.2.1 bt273.2.2 (wrap64 (a3 - bt273.1)) false))) else (if (wrap64 (a3 - bt273.1)) < 0 then (serifref20_Set.j1 kj4 l0 a1 a2 bt273.2.1 bt273.2.2 (wrap64 (a3 - bt273.1)) (decide ((wrap64 (-(wrap64 (a3 - bt273.1)))) ≤ bt273.2.2))) else (serifref20_Set.j1 kj4 l0 a1 a2 bt273.2.1 bt273.2.2 (wrap64 (a3 - bt273.1)) false)))) = some (r1, r2, r3) := by rw [if_neg (show ¬ (false = true) by decide)] at H; exact H
    clear H
    have H := H1
    clear H1
    replace H := Option.bind_eq_some_iff.mp H
    obtain ⟨⟨t273, t274, t275⟩, A150, H⟩ := H
    replace H : (if (wrap64 (a3 - t273)) > 0 then (if t274 > 0 then (serifref20_Set.j1 kj4 l0 a1 a2 t274 t275 (wrap64 (a3 - t273)) true) else (if (wrap64 (a3 - t273)) < 0 then (serifref20_Set.j1 kj4 l0 a1 a2 t274 t275 (wrap64 (a3 - t273)) (decide ((wrap64 (-(wrap64 (a3 - t273)))) ≤ t275))) else (serifref20_Set.j1 kj4 l0 a1 a2 t274 t275 (wrap64 (a3 - t273)) false))) else (if (wrap64 (a3 - t273)) < 0 then (serifref20_Set.j1 kj4 l0 a1 a2 t274 t275 (wrap64 (a3 - t273)) (decide ((wrap64 (-(wrap64 (a3 - t273)))) ≤ t275))) else (serifref20_Set.j1 kj4 l0 a1 a2 t274 t275 (wrap64 (a3 - t273)) false))) = some (r1, r2, r3) := H
    have A15 := Aside0.mk A150
    clear A150
    have HC16 := Aside0.mk H
    clear H
    go_upto_region 5 with (first | ((with_reducible refine gate_callee (f := 35) rfl ?_); refine goesL_ (some 48) rfl rfl Try.func35 (by kernel_rfl) rfl #[.slice A0 l0.length c0, .int .i64 a1, .int .i64 a2] rfl (by (try simp only [List.map_toArray, List.map_cons, List.map_nil]); first | done | rfl | (simp only [List.length_drop, List.length_take]; rfl)) ?_; (with_reducible refine (serifref19_Line.calls kj4 _ _ l0 a1 a2 t273 t274 t275 _ ?side1 ?side2 A15.out).mono ?_); (case side1 => repeat (first | exact (Kd.C_below HR0.out HB.out) | (with_reducible refine Kd.C_alloc ?_ _) | (with_reducible refine Kd.C_drewN ?_ _) | (with_reducible refine Kd.C_drew ?_))); (case side2 => exact HC0.out); rintro e w' ⟨rfl, ⟨nd, rfl⟩⟩; refine ⟨_, rfl, ?_⟩))
    (try simp only [Act.put, List.setIfInBounds_toArray, List.set_cons_zero, List.set_cons_succ])
    go_cut [15] (fun v15 wc => ∃ (kq : Nat) (x15_15 : Bool), v15 = .bool x15_15 ∧ Aside0 (serifref20_Set.j1 kq l0 a1 a2 t274 t275 (wrap64 (a3 - t273)) x15_15 = some (r1, r2, r3)) ∧ Aside0 (kq ≤ kj4) ∧ Aside0 (Below w.heap.size w wc))
    case first =>
     have H := HC16.out
     clear HC16
     by_cases c17 : (wrap64 (a3 - t273)) > 0
     ·rw [if_pos c17] at H
      have c17b0 : decide (0 < (wrap64 (a3 - t273))) = true := decide_eq_true c17
      clear c17
      (first | rw [c17b0] | (simp only [i64_w, i32_w]; rw [c17b0]) | skip)
      by_cases c18 : t274 > 0
      ·rw [if_pos c18] at H
       have c18b0 : decide (0 < t274) = true := decide_eq_true c18
       clear c18
       have H' := Aside0.mk H
       clear H
       go_wp2
       go_meet
       case rel => exact ⟨_, (true), (by first | rfl | (simp; done) | (simp [*]; done)), H', ⟨by have := HJ4.out; first | omega | exact Nat.le_refl _⟩, ⟨bq HB⟩⟩
      ·rw [if_neg c18] at H
       have c18b0 : decide (0 < t274) = false := decide_eq_false c18
       clear c18
       by_cases c19 : (wrap64 (a3 - t273)) < 0
       ·rw [if_pos c19] at H
        have c19b0 : decide ((wrap64 (a3 - t273)) < 0) = true := decide_eq_true c19
        clear c19
        have H' := Aside0.mk H
        clear H
        go_wp2
        go_meet
        case rel => exact ⟨_, (decide ((wrap64 (-(wrap64 (a3 - t273)))) ≤ t275)), (by first | rfl | (simp; done) | (simp [*]; done)), H', ⟨by have := HJ4.out; first | omega | exact Nat.le_refl _⟩, ⟨bq HB⟩⟩
       ·rw [if_neg c19] at H
        have c19b0 : decide ((wrap64 (a3 - t273)) < 0) = false := decide_eq_false c19
        clear c19
        have H' := Aside0.mk H
        clear H
        go_wp2
        go_meet
        case rel => exact ⟨_, (false), (by first | rfl | (simp; done) | (simp [*]; done)), H', ⟨by have := HJ4.out; first | omega | exact Nat.le_refl _⟩, ⟨bq HB⟩⟩
     ·rw [if_neg c17] at H
      have c17b0 : decide (0 < (wrap64 (a3 - t273))) = false := decide_eq_false c17
      clear c17
      (first | rw [c17b0] | (simp only [i64_w, i32_w]; rw [c17b0]) | skip)
      by_cases c20 : (wrap64 (a3 - t273)) < 0
      ·rw [if_pos c20] at H
       have c20b0 : decide ((wrap64 (a3 - t273)) < 0) = true := decide_eq_true c20
       clear c20
       have H' := Aside0.mk H
       clear H
       go_wp2
       go_meet
       case rel => exact ⟨_, (decide ((wrap64 (-(wrap64 (a3 - t273)))) ≤ t275)), (by first | rfl | (simp; done) | (simp [*]; done)), H', ⟨by have := HJ4.out; first | omega | exact Nat.le_refl _⟩, ⟨bq HB⟩⟩
      ·rw [if_neg c20] at H
       have c20b0 : decide ((wrap64 (a3 - t273)) < 0) = false := decide_eq_false c20
       clear c20
       have H' := Aside0.mk H
       clear H
       go_wp2
       go_meet
       case rel => exact ⟨_, (false), (by first | rfl | (simp; done) | (simp [*]; done)), H', ⟨by have := HJ4.out; first | omega | exact Nat.le_refl _⟩, ⟨bq HB⟩⟩
    case rest =>
     clear HC16
     try clear c1
     try clear c2
     try clear p2
     try clear c3
     try clear p6
     try clear c7
     try clear c7b0
     try clear c7b1
     try clear c8
     try clear c8b0
     try clear c10
     try clear c10b0
     try clear c14
     try clear c17
     try clear c17b0
     try clear c18
     try clear c18b0
     try clear c19
     try clear c19b0
     try clear c20
     try clear c20b0
     try clear p2
     obtain ⟨kq, x15_15, rfl, HA, HJ15, HB⟩ := hcut
     cases kq with
     | zero => exact absurd HA.out (by simp [serifref20_Set.j1])
     | succ kj15 =>
      have H := HA.out
      clear HA
      simp only [serifref20_Set.j1] at H
      have HC21 := Aside0.mk H
      clear H
      go_upto_if 73 with (fail)
      go_cut [16] (fun v16 wc => ∃ (kq : Nat) (x16_20 : Int), v16 = .int .i64 x16_20 ∧ Aside0 (serifref20_Set.j2 kq l0 a1 a2 (wrap64 (a3 - t273)) x15_15 x16_20 = some (r1, r2, r3)) ∧ Aside0 (kq ≤ kj15) ∧ Aside0 (Below w.heap.size w wc))
      case first =>
       have H := HC21.out
       clear HC21
       by_cases c22 : (wrap64 (a3 - t273)) < 0
       ·rw [if_pos c22] at H
        have c22b0 : decide ((wrap64 (a3 - t273)) < 0) = true := decide_eq_true c22
        clear c22
        (first | rw [c22b0] | (simp only [i64_w, i32_w]; rw [c22b0]) | skip)
        have H' := Aside0.mk H
        clear H
        go_wp2
        go_meet
        case rel => exact ⟨_, (t275), (by first | rfl | (simp; done) | (simp [*]; done)), H', ⟨by have := HJ4.out; have := HJ15.out; first | omega | exact Nat.le_refl _⟩, ⟨bq HB⟩⟩
       ·rw [if_neg c22] at H
        have c22b0 : decide ((wrap64 (a3 - t273)) < 0) = false := decide_eq_false c22
        clear c22
        (first | rw [c22b0] | (simp only [i64_w, i32_w]; rw [c22b0]) | skip)
        have H' := Aside0.mk H
        clear H
        go_wp2
        go_meet
        case rel => exact ⟨_, (t274), (by first | rfl | (simp; done) | (simp [*]; done)), H', ⟨by have := HJ4.out; have := HJ15.out; first | omega | exact Nat.le_refl _⟩, ⟨bq HB⟩⟩
      case rest =>
       clear HC21
       try clear c1
       try clear c2
       try clear p2
       try clear c3
       try clear p6
       try clear c7
       try clear c7b0
       try clear c7b1
       try clear c8
       try clear c8b0
       try clear c10
       try clear c10b0
       try clear c14
       try clear c17
       try clear c17b0
       try clear c18
       try clear c18b0
       try clear c19
       try clear c19b0
       try clear c20
       try clear c20b0
       try clear c22
       try clear c22b0
       try clear p2
       try clear p6
       obtain ⟨kq, x16_20, rfl, HA, HJ20, HB⟩ := hcut
       cases kq with
       | zero => exact absurd HA.out (by simp [serifref20_Set.j2])
       | succ kj20 =>
        have H := HA.out
        clear HA
        simp only [serifref20_Set.j2] at H
        obtain ⟨y276, hy276⟩ : ∃ y_ : List Int, y_ = (([] : List Int)) := ⟨_, rfl⟩
        replace H : (serifref20_Set.l0 kj20 l0 a2 (wrap64 (a3 - t273)) x15_15 x16_20 y276 false 0 0 (wrap64 (a1 + 1))) = some (r1, r2, r3) := by first | (rw [hy276]; with_reducible exact H) | (have H2_ := (Option.bind_some _ _).symm.trans H; rw [hy276]; with_reducible exact H2_) | (have H2_ := (Option.bind_some _ _).symm.trans H; with_reducible exact H2_) | with_reducible exact H | (rw [hy276]; exact H) | exact H
        have Ny276 := Aside0.mk hy276
        clear hy276
        have H' := Aside0.mk H
        clear H
        go_wp2_with (first | ((with_reducible refine gate_dst (N := 75) rfl ?_); (try (refine gate_guard (by rfl) ?_; dsimp only)); refine Kd.R_lit (Kd.int .i64) _ 3 ?hg (N := 75) ?hd (xs := ([] : List Int)) (inner := []) (ok := fun _ => True) (okp := fun _ => True) ?hr ?hp (fun _ hk => hk) trivial (Below.refl _ _) (Nat.le_refl _) (by simp) ?_; (case hd => rfl); (case hg => rfl); (case hr => first | (go_simp; done) | (go_simp; rfl)); (case hp => exact (Reps.none _ _)); intro v277 w23 ho24 hb hg_ hnew_; clear hg_ hnew_; (first | rw [← Ny276.out] at ho24 | (simp only [Int.reduceToNat] at ho24; rw [← Ny276.out] at ho24)); have n0_ := Aside0.mk (Kd.R_lower ho24 (below_size (bq HB))); have n1_ := Aside0.mk (below_step (bq HB) hb); clear HB; have HO278 := n0_; have HB := n1_; clear n0_ n1_; clear hb ho24))
        go_loopg [17, 18, 19, 20, 21] kj20 (fun kq v17 v18 v19 v20 v21 w' => ∃ (x17_4 : List Int) (x18_4 : Bool) (x19_4 : Int) (x20_4 : Int) (x21_4 : Int), v18 = .bool x18_4 ∧ v19 = .int .i64 x19_4 ∧ v20 = .int .i64 x20_4 ∧ v21 = .int .i64 x21_4 ∧ Aside0 (serifref20_Set.l0 kq l0 a2 (wrap64 (a3 - t273)) x15_15 x16_20 x17_4 x18_4 x19_4 x20_4 x21_4 = some (r1, r2, r3)) ∧ Aside0 (kq ≤ kj20) ∧ Aside0 (Kd.R (Kd.int .i64) 3 w' w.heap.size (fun _ => True) v17 x17_4) ∧ Aside0 (Below w.heap.size w w'))
        case atStart => exact ⟨(y276), (false), (0), (0), (wrap64 (a1 + 1)), (by first | rfl | (simp; done) | (simp [*]; done)), (by first | rfl | (simp; done) | (simp [*]; done)), (by first | rfl | (simp; done) | (simp [*]; done)), (by first | rfl | (simp; done) | (simp [*]; done)), H', ⟨Nat.le_refl _⟩, ⟨by (with_reducible repeat (first | apply Kd.R_alloc | apply Kd.R_drewN | apply Kd.R_drew)); exact HO278.out⟩, ⟨bq HB⟩⟩
        case round =>
         clear H'
         try clear c1
         try clear c2
         try clear p2
         try clear c3
         try clear p6
         try clear c7
         try clear c7b0
         try clear c7b1
         try clear c8
         try clear c8b0
         try clear c10
         try clear c10b0
         try clear c14
         try clear c17
         try clear c17b0
         try clear c18
         try clear c18b0
         try clear c19
         try clear c19b0
         try clear c20
         try clear c20b0
         try clear c22
         try clear c22b0
         try clear p2
         try clear p6
         obtain ⟨x17_4, x18_4, x19_4, x20_4, x21_4, rfl, rfl, rfl, rfl, HA, HK4, HO_17, HB⟩ := hrel
         cases gk with
         | zero => exact absurd HA.out (by simp [serifref20_Set.l0])
         | succ k4 =>
          have H := HA.out
          clear HA
          simp only [serifref20_Set.l0] at H
          by_cases c25 : x21_4 < a2
          ·rw [if_pos c25] at H
           have c25b0 : decide (x21_4 < a2) = true := decide_eq_true c25
           clear c25
           by_cases c26 : 0 ≤ x21_4
           ·rw [if_pos c26] at H
            have c26b0 : decide (0 ≤ x21_4) = true := decide_eq_true c26
            clear c26
            by_cases c27 : x21_4 < (l0.length : Int)
            ·rw [if_pos c27] at H
             have c27b0 : decide (x21_4 < (l0.length : Int)) = true := decide_eq_true c27
             clear c27
             have HC28 := Aside0.mk H
             clear H
             have p279 : 0 ≤ (x21_4 : Int) := odt
             have q279 : x21_4 < (l0.length : Int) := odt
             obtain ⟨ad279, e279, hx279_0, hx279_1, hx279_2, hx279_3, hx279_4, hx279_5⟩ := at_T31 HR0.out x21_4 p279 q279
             cases e279
             replace hx279_0 := (HB.out.cell (World.block_lt_of_cell? w _ hx279_0)).trans hx279_0
             replace hx279_1 := (HB.out.cell (World.block_lt_of_cell? w _ hx279_1)).trans hx279_1
             replace hx279_2 := (HB.out.cell (World.block_lt_of_cell? w _ hx279_2)).trans hx279_2
             replace hx279_3 := (HB.out.cell (World.block_lt_of_cell? w _ hx279_3)).trans hx279_3
             replace hx279_4 := (HB.out.cell (World.block_lt_of_cell? w _ hx279_4)).trans hx279_4
             replace hx279_5 := (HB.out.cell (World.block_lt_of_cell? w _ hx279_5)).trans hx279_5
             replace p279 := eq_true p279
             replace q279 := eq_true q279
             go_upto_region 16 with (first | ((with_reducible refine gate_dst (N := 22) rfl ?_); (try (refine gate_guard (by rfl) ?_; dsimp only)); refine box_event ?hg (N := 22) ?hd (cs := #[.int .i64 0, .int .i64 0, .int .i64 0, .int .i64 0, .int .i64 0, .bool false]) (t := 31) ?hr ?_; (case hd => rfl); (case hg => rfl); (case hr => first | (go_simp; done) | (go_simp; rfl)); intro gb280 hg w29 hbox hb; have n0_ := Aside0.mk (Kd.R_below (rq HO_17) hb); have n1_ := Aside0.mk (below_step (bq HB) hb); have n2_ := Aside0.mk (hbox); have n3_ := Aside0.mk ((by rw [hg]; exact (below_size (bq HB)) : w.heap.size ≤ gb280)); have n4_ := Aside0.mk ((by rw [hg]; exact (below_size (bq HB)) : w.heap.size ≤ gb280)); clear HO_17; clear HB; have HO_17 := n0_; have HB := n1_; have BK280 := n2_; have GW280 := n3_; have GE280 := n4_; clear n0_ n1_ n2_ n3_ n4_; clear hb hbox hg; have hcz30_0 : w29.cell? ⟨gb280, 0, none⟩ = some (.int .i64 0) := (blk_cell BK280.out 0).trans rfl; have hcz30_1 : w29.cell? ⟨gb280, 1, none⟩ = some (.int .i64 0) := (blk_cell BK280.out 1).trans rfl; have hcz30_2 : w29.cell? ⟨gb280, 2, none⟩ = some (.int .i64 0) := (blk_cell BK280.out 2).trans rfl; have hcz30_3 : w29.cell? ⟨gb280, 3, none⟩ = some (.int .i64 0) := (blk_cell BK280.out 3).trans rfl; have hcz30_4 : w29.cell? ⟨gb280, 4, none⟩ = some (.int .i64 0) := (blk_cell BK280.out 4).trans rfl; have hcz30_5 : w29.cell? ⟨gb280, 5, none⟩ = some (.bool false) := (blk_cell BK280.out 5).trans rfl; have hfz30_0 := blk_frozen BK280.out 0; have hfz30_1 := blk_frozen BK280.out 1; have hfz30_2 := blk_frozen BK280.out 2; have hfz30_3 := blk_frozen BK280.out 3; have hfz30_4 := blk_frozen BK280.out 4; have hfz30_5 := blk_frozen BK280.out 5))
             (try simp only [Act.put, List.setIfInBounds_toArray, List.set_cons_zero, List.set_cons_succ])
             go_cut [18] (fun v18 wc => ∃ (kq : Nat) (x18_27 : Bool), v18 = .bool x18_27 ∧ Aside0 (serifref20_Set.j4 kq l0 a2 (wrap64 (a3 - t273)) x15_15 x16_20 x17_4 x18_27 x19_4 x20_4 x21_4 ((rd_T31 l0 x21_4).f0) ((rd_T31 l0 x21_4).f1) ((rd_T31 l0 x21_4).f2) ((rd_T31 l0 x21_4).f3) ((rd_T31 l0 x21_4).f4) ((rd_T31 l0 x21_4).f5) = some (r1, r2, r3)) ∧ Aside0 (kq ≤ k4) ∧ Aside0 (Kd.R (Kd.int .i64) 3 wc w.heap.size (fun _ => True) u17 x17_4) ∧ Aside0 (wc.heap[gb280]? = some (.cells #[.int .i64 ((rd_T31 l0 x21_4).f0), .int .i64 ((rd_T31 l0 x21_4).f1), .int .i64 ((rd_T31 l0 x21_4).f2), .int .i64 ((rd_T31 l0 x21_4).f3), .int .i64 ((rd_T31 l0 x21_4).f4), .bool ((rd_T31 l0 x21_4).f5)] 31 (0, 0))) ∧ Aside0 (Below w.heap.size w wc))
             case first =>
              have H := HC28.out
              clear HC28
              by_cases c31 : x18_4 = true
              ·subst c31
               have H1 : (serifref20_Set.j4 k4 l0 a2 (wrap64 (a3 - t273)) x15_15 x16_20 x17_4 true x19_4 x20_4 x21_4 ((rd_T31 l0 x21_4).f0) ((rd_T31 l0 x21_4).f1) ((rd_T31 l0 x21_4).f2) ((rd_T31 l0 x21_4).f3) ((rd_T31 l0 x21_4).f4) ((rd_T31 l0 x21_4).f5)) = some (r1, r2, r3) := by rw [if_pos rfl] at H; exact H
               clear H
               have H := H1
               clear H1
               have H' := Aside0.mk H
               clear H
               go_wp2
               go_meet
               case rel => exact ⟨_, (true), (by first | rfl | (simp; done) | (simp [*]; done)), H', ⟨by have := HJ4.out; have := HJ15.out; have := HJ20.out; have := HK4.out; first | omega | exact Nat.le_refl _⟩, ⟨by (with_reducible repeat (first | apply Kd.R_alloc | apply Kd.R_drewN | apply Kd.R_drew)); exact Kd.R_mono (Kd.R_far (p := ⟨gb280, 5, none⟩) (Kd.R_far (p := ⟨gb280, 4, none⟩) (Kd.R_far (p := ⟨gb280, 3, none⟩) (Kd.R_far (p := ⟨gb280, 2, none⟩) (Kd.R_far (p := ⟨gb280, 1, none⟩) (Kd.R_far (p := ⟨gb280, 0, none⟩) (Kd.R_types HO_17.out BK280.out (by decide)) (fun _ hk => hk.2) (.int .i64 ((rd_T31 l0 x21_4).f0))) (fun _ hk => hk.2) (.int .i64 ((rd_T31 l0 x21_4).f1))) (fun _ hk => hk.2) (.int .i64 ((rd_T31 l0 x21_4).f2))) (fun _ hk => hk.2) (.int .i64 ((rd_T31 l0 x21_4).f3))) (fun _ hk => hk.2) (.int .i64 ((rd_T31 l0 x21_4).f4))) (fun _ hk => hk.2) (.bool ((rd_T31 l0 x21_4).f5))) (fun _ hk => trivial)⟩, ⟨by (with_reducible repeat (first | refine blk_drewN ?_ _ | refine blk_drew ?_ | refine blk_alloc ?_ _)); refine blk_put (cs := #[.int .i64 ((rd_T31 l0 x21_4).f0), .int .i64 ((rd_T31 l0 x21_4).f1), .int .i64 ((rd_T31 l0 x21_4).f2), .int .i64 ((rd_T31 l0 x21_4).f3), .int .i64 ((rd_T31 l0 x21_4).f4), .bool false]) ?_ 5 _ rfl; (with_reducible repeat (first | refine blk_drewN ?_ _ | refine blk_drew ?_ | refine blk_alloc ?_ _)); refine blk_put (cs := #[.int .i64 ((rd_T31 l0 x21_4).f0), .int .i64 ((rd_T31 l0 x21_4).f1), .int .i64 ((rd_T31 l0 x21_4).f2), .int .i64 ((rd_T31 l0 x21_4).f3), .int .i64 0, .bool false]) ?_ 4 _ rfl; (with_reducible repeat (first | refine blk_drewN ?_ _ | refine blk_drew ?_ | refine blk_alloc ?_ _)); refine blk_put (cs := #[.int .i64 ((rd_T31 l0 x21_4).f0), .int .i64 ((rd_T31 l0 x21_4).f1), .int .i64 ((rd_T31 l0 x21_4).f2), .int .i64 0, .int .i64 0, .bool false]) ?_ 3 _ rfl; (with_reducible repeat (first | refine blk_drewN ?_ _ | refine blk_drew ?_ | refine blk_alloc ?_ _)); refine blk_put (cs := #[.int .i64 ((rd_T31 l0 x21_4).f0), .int .i64 ((rd_T31 l0 x21_4).f1), .int .i64 0, .int .i64 0, .int .i64 0, .bool false]) ?_ 2 _ rfl; (with_reducible repeat (first | refine blk_drewN ?_ _ | refine blk_drew ?_ | refine blk_alloc ?_ _)); refine blk_put (cs := #[.int .i64 ((rd_T31 l0 x21_4).f0), .int .i64 0, .int .i64 0, .int .i64 0, .int .i64 0, .bool false]) ?_ 1 _ rfl; (with_reducible repeat (first | refine blk_drewN ?_ _ | refine blk_drew ?_ | refine blk_alloc ?_ _)); refine blk_put (cs := #[.int .i64 0, .int .i64 0, .int .i64 0, .int .i64 0, .int .i64 0, .bool false]) ?_ 0 _ rfl; (with_reducible repeat (first | refine blk_drewN ?_ _ | refine blk_drew ?_ | refine blk_alloc ?_ _)); exact BK280.out⟩, ⟨bs HB GE280⟩⟩
              ·replace c31 := Bool.eq_false_iff.mpr c31
               subst c31
               have H1 : (serifref20_Set.j4 k4 l0 a2 (wrap64 (a3 - t273)) x15_15 x16_20 x17_4 (((rd_T31 l0 x21_4).f0) == 1) x19_4 x20_4 x21_4 ((rd_T31 l0 x21_4).f0) ((rd_T31 l0 x21_4).f1) ((rd_T31 l0 x21_4).f2) ((rd_T31 l0 x21_4).f3) ((rd_T31 l0 x21_4).f4) ((rd_T31 l0 x21_4).f5)) = some (r1, r2, r3) := by rw [if_neg (show ¬ (false = true) by decide)] at H; exact H
               clear H
               have H := H1
               clear H1
               have H' := Aside0.mk H
               clear H
               have hcz32_0 : w29.cell? ⟨gb280, 0, none⟩ = some (.int .i64 0) := (blk_cell BK280.out 0).trans rfl
               have hcz32_1 : w29.cell? ⟨gb280, 1, none⟩ = some (.int .i64 0) := (blk_cell BK280.out 1).trans rfl
               have hcz32_2 : w29.cell? ⟨gb280, 2, none⟩ = some (.int .i64 0) := (blk_cell BK280.out 2).trans rfl
               have hcz32_3 : w29.cell? ⟨gb280, 3, none⟩ = some (.int .i64 0) := (blk_cell BK280.out 3).trans rfl
               have hcz32_4 : w29.cell? ⟨gb280, 4, none⟩ = some (.int .i64 0) := (blk_cell BK280.out 4).trans rfl
               have hcz32_5 : w29.cell? ⟨gb280, 5, none⟩ = some (.bool false) := (blk_cell BK280.out 5).trans rfl
               have hfz32_0 := blk_frozen BK280.out 0
               have hfz32_1 := blk_frozen BK280.out 1
               have hfz32_2 := blk_frozen BK280.out 2
               have hfz32_3 := blk_frozen BK280.out 3
               have hfz32_4 := blk_frozen BK280.out 4
               have hfz32_5 := blk_frozen BK280.out 5
               go_wp2
               go_meet
               case rel => exact ⟨_, ((((rd_T31 l0 x21_4).f0) == 1)), (by first | rfl | (simp; done) | (simp [*]; done)), H', ⟨by have := HJ4.out; have := HJ15.out; have := HJ20.out; have := HK4.out; first | omega | exact Nat.le_refl _⟩, ⟨by (with_reducible repeat (first | apply Kd.R_alloc | apply Kd.R_drewN | apply Kd.R_drew)); exact Kd.R_mono (Kd.R_far (p := ⟨gb280, 5, none⟩) (Kd.R_far (p := ⟨gb280, 4, none⟩) (Kd.R_far (p := ⟨gb280, 3, none⟩) (Kd.R_far (p := ⟨gb280, 2, none⟩) (Kd.R_far (p := ⟨gb280, 1, none⟩) (Kd.R_far (p := ⟨gb280, 0, none⟩) (Kd.R_types HO_17.out BK280.out (by decide)) (fun _ hk => hk.2) (.int .i64 ((rd_T31 l0 x21_4).f0))) (fun _ hk => hk.2) (.int .i64 ((rd_T31 l0 x21_4).f1))) (fun _ hk => hk.2) (.int .i64 ((rd_T31 l0 x21_4).f2))) (fun _ hk => hk.2) (.int .i64 ((rd_T31 l0 x21_4).f3))) (fun _ hk => hk.2) (.int .i64 ((rd_T31 l0 x21_4).f4))) (fun _ hk => hk.2) (.bool ((rd_T31 l0 x21_4).f5))) (fun _ hk => trivial)⟩, ⟨by (with_reducible repeat (first | refine blk_drewN ?_ _ | refine blk_drew ?_ | refine blk_alloc ?_ _)); refine blk_put (cs := #[.int .i64 ((rd_T31 l0 x21_4).f0), .int .i64 ((rd_T31 l0 x21_4).f1), .int .i64 ((rd_T31 l0 x21_4).f2), .int .i64 ((rd_T31 l0 x21_4).f3), .int .i64 ((rd_T31 l0 x21_4).f4), .bool false]) ?_ 5 _ rfl; (with_reducible repeat (first | refine blk_drewN ?_ _ | refine blk_drew ?_ | refine blk_alloc ?_ _)); refine blk_put (cs := #[.int .i64 ((rd_T31 l0 x21_4).f0), .int .i64 ((rd_T31 l0 x21_4).f1), .int .i64 ((rd_T31 l0 x21_4).f2), .int .i64 ((rd_T31 l0 x21_4).f3), .int .i64 0, .bool false]) ?_ 4 _ rfl; (with_reducible repeat (first | refine blk_drewN ?_ _ | refine blk_drew ?_ | refine blk_alloc ?_ _)); refine blk_put (cs := #[.int .i64 ((rd_T31 l0 x21_4).f0), .int .i64 ((rd_T31 l0 x21_4).f1), .int .i64 ((rd_T31 l0 x21_4).f2), .int .i64 0, .int .i64 0, .bool false]) ?_ 3 _ rfl; (with_reducible repeat (first | refine blk_drewN ?_ _ | refine blk_drew ?_ | refine blk_alloc ?_ _)); refine blk_put (cs := #[.int .i64 ((rd_T31 l0 x21_4).f0), .int .i64 ((rd_T31 l0 x21_4).f1), .int .i64 0, .int .i64 0, .int .i64 0, .bool false]) ?_ 2 _ rfl; (with_reducible repeat (first | refine blk_drewN ?_ _ | refine blk_drew ?_ | refine blk_alloc ?_ _)); refine blk_put (cs := #[.int .i64 ((rd_T31 l0 x21_4).f0), .int .i64 0, .int .i64 0, .int .i64 0, .int .i64 0, .bool false]) ?_ 1 _ rfl; (with_reducible repeat (first | refine blk_drewN ?_ _ | refine blk_drew ?_ | refine blk_alloc ?_ _)); refine blk_put (cs := #[.int .i64 0, .int .i64 0, .int .i64 0, .int .i64 0, .int .i64 0, .bool false]) ?_ 0 _ rfl; (with_reducible repeat (first | refine blk_drewN ?_ _ | refine blk_drew ?_ | refine blk_alloc ?_ _)); exact BK280.out⟩, ⟨bs HB GE280⟩⟩
             case rest =>
              clear HC28
              try clear c1
              try clear c2
              try clear p2
              try clear q2
              try clear hx2
              try clear c3
              try clear p6
              try clear c7
              try clear c7b0
              try clear c7b1
              try clear c8
              try clear c8b0
              try clear c10
              try clear c10b0
              try clear c14
              try clear c17
              try clear c17b0
              try clear c18
              try clear c18b0
              try clear c19
              try clear c19b0
              try clear c20
              try clear c20b0
              try clear c22
              try clear c22b0
              try clear c25
              try clear c25b0
              try clear c26
              try clear c26b0
              try clear c27
              try clear c27b0
              try clear p27
              try clear q27
              try clear hx27
              try clear c31
              try clear hcz30_0
              try clear hcz30_1
              try clear hcz30_2
              try clear hcz30_3
              try clear hcz30_4
              try clear hcz30_5
              try clear hcz32_0
              try clear hcz32_1
              try clear hcz32_2
              try clear hcz32_3
              try clear hcz32_4
              try clear hcz32_5
              try clear hfz30_0
              try clear hfz30_1
              try clear hfz30_2
              try clear hfz30_3
              try clear hfz30_4
              try clear hfz30_5
              try clear hfz32_0
              try clear hfz32_1
              try clear hfz32_2
              try clear hfz32_3
              try clear hfz32_4
              try clear hfz32_5
              try clear hx279_0
              try clear hx279_1
              try clear hx279_2
              try clear hx279_3
              try clear hx279_4
              try clear hx279_5
              try clear p2
              try clear p279
              try clear p6
              try clear q279
              obtain ⟨kq, x18_27, rfl, HA, HJ27, HO_17, BK280, HB⟩ := hcut
              cases kq with
              | zero => exact absurd HA.out (by simp [serifref20_Set.j4])
              | succ kj27 =>
               have H := HA.out
               clear HA
               simp only [serifref20_Set.j4] at H
               have HC33 := Aside0.mk H
               clear H
               go_upto_region 18 with (fail)
               go_cut [98] (fun v98 wc => ∃ (kq : Nat) (x98_32 : Bool), v98 = .bool x98_32 ∧ Aside0 (serifref20_Set.j5 kq l0 a2 (wrap64 (a3 - t273)) x15_15 x16_20 x17_4 x18_27 x19_4 x20_4 x21_4 0 x98_32 ((rd_T31 l0 x21_4).f0) ((rd_T31 l0 x21_4).f1) ((rd_T31 l0 x21_4).f2) ((rd_T31 l0 x21_4).f3) ((rd_T31 l0 x21_4).f4) ((rd_T31 l0 x21_4).f5) = some (r1, r2, r3)) ∧ Aside0 (kq ≤ kj27) ∧ Aside0 (Kd.R (Kd.int .i64) 3 wc w.heap.size (fun _ => True) u17 x17_4) ∧ Aside0 (wc.heap[gb280]? = some (.cells #[.int .i64 ((rd_T31 l0 x21_4).f0), .int .i64 ((rd_T31 l0 x21_4).f1), .int .i64 ((rd_T31 l0 x21_4).f2), .int .i64 ((rd_T31 l0 x21_4).f3), .int .i64 ((rd_T31 l0 x21_4).f4), .bool ((rd_T31 l0 x21_4).f5)] 31 (0, 0))) ∧ Aside0 (Below w.heap.size w wc))
               case first =>
                have H := HC33.out
                clear HC33
                by_cases c34 : x18_27 = true
                ·subst c34
                 have H1 : (serifref20_Set.j5 kj27 l0 a2 (wrap64 (a3 - t273)) x15_15 x16_20 x17_4 true x19_4 x20_4 x21_4 0 (((rd_T31 l0 x21_4).f0) != 3) ((rd_T31 l0 x21_4).f0) ((rd_T31 l0 x21_4).f1) ((rd_T31 l0 x21_4).f2) ((rd_T31 l0 x21_4).f3) ((rd_T31 l0 x21_4).f4) ((rd_T31 l0 x21_4).f5)) = some (r1, r2, r3) := by rw [if_pos rfl] at H; exact H
                 clear H
                 have H := H1
                 clear H1
                 have H' := Aside0.mk H
                 clear H
                 have hcz35_0 : wc.cell? ⟨gb280, 0, none⟩ = some (.int .i64 ((rd_T31 l0 x21_4).f0)) := (blk_cell BK280.out 0).trans rfl
                 have hcz35_1 : wc.cell? ⟨gb280, 1, none⟩ = some (.int .i64 ((rd_T31 l0 x21_4).f1)) := (blk_cell BK280.out 1).trans rfl
                 have hcz35_2 : wc.cell? ⟨gb280, 2, none⟩ = some (.int .i64 ((rd_T31 l0 x21_4).f2)) := (blk_cell BK280.out 2).trans rfl
                 have hcz35_3 : wc.cell? ⟨gb280, 3, none⟩ = some (.int .i64 ((rd_T31 l0 x21_4).f3)) := (blk_cell BK280.out 3).trans rfl
                 have hcz35_4 : wc.cell? ⟨gb280, 4, none⟩ = some (.int .i64 ((rd_T31 l0 x21_4).f4)) := (blk_cell BK280.out 4).trans rfl
                 have hcz35_5 : wc.cell? ⟨gb280, 5, none⟩ = some (.bool ((rd_T31 l0 x21_4).f5)) := (blk_cell BK280.out 5).trans rfl
                 have hfz35_0 := blk_frozen BK280.out 0
                 have hfz35_1 := blk_frozen BK280.out 1
                 have hfz35_2 := blk_frozen BK280.out 2
                 have hfz35_3 := blk_frozen BK280.out 3
                 have hfz35_4 := blk_frozen BK280.out 4
                 have hfz35_5 := blk_frozen BK280.out 5
                 go_wp2
                 go_meet
                 case rel => exact ⟨_, ((((rd_T31 l0 x21_4).f0) != 3)), (by first | rfl | (simp; done) | (simp [*]; done)), H', ⟨by have := HJ4.out; have := HJ15.out; have := HJ20.out; have := HK4.out; have := HJ27.out; first | omega | exact Nat.le_refl _⟩, ⟨by (with_reducible repeat (first | apply Kd.R_alloc | apply Kd.R_drewN | apply Kd.R_drew)); exact HO_17.out⟩, ⟨by (with_reducible repeat (first | refine blk_drewN ?_ _ | refine blk_drew ?_ | refine blk_alloc ?_ _)); exact BK280.out⟩, ⟨bs HB GE280⟩⟩
                ·replace c34 := Bool.eq_false_iff.mpr c34
                 subst c34
                 have H1 : (serifref20_Set.j5 kj27 l0 a2 (wrap64 (a3 - t273)) x15_15 x16_20 x17_4 false x19_4 x20_4 x21_4 0 false ((rd_T31 l0 x21_4).f0) ((rd_T31 l0 x21_4).f1) ((rd_T31 l0 x21_4).f2) ((rd_T31 l0 x21_4).f3) ((rd_T31 l0 x21_4).f4) ((rd_T31 l0 x21_4).f5)) = some (r1, r2, r3) := by rw [if_neg (show ¬ (false = true) by decide)] at H; exact H
                 clear H
                 have H := H1
                 clear H1
                 have H' := Aside0.mk H
                 clear H
                 go_wp2
                 go_meet
                 case rel => exact ⟨_, (false), (by first | rfl | (simp; done) | (simp [*]; done)), H', ⟨by have := HJ4.out; have := HJ15.out; have := HJ20.out; have := HK4.out; have := HJ27.out; first | omega | exact Nat.le_refl _⟩, ⟨by (with_reducible repeat (first | apply Kd.R_alloc | apply Kd.R_drewN | apply Kd.R_drew)); exact HO_17.out⟩, ⟨by (with_reducible repeat (first | refine blk_drewN ?_ _ | refine blk_drew ?_ | refine blk_alloc ?_ _)); exact BK280.out⟩, ⟨bs HB GE280⟩⟩
               case rest =>
                clear HC33
                try clear c1
                try clear c2
                try clear p2
                try clear q2
                try clear hx2
                try clear c3
                try clear p6
                try clear c7
                try clear c7b0
                try clear c7b1
                try clear c8
                try clear c8b0
                try clear c10
                try clear c10b0
                try clear c14
                try clear c17
                try clear c17b0
                try clear c18
                try clear c18b0
                try clear c19
                try clear c19b0
                try clear c20
                try clear c20b0
                try clear c22
                try clear c22b0
                try clear c25
                try clear c25b0
                try clear c26
                try clear c26b0
                try clear c27
                try clear c27b0
                try clear p27
                try clear q27
                try clear hx27
                try clear c31
                try clear c34
                try clear c35
                try clear hcz30_0
                try clear hcz30_1
                try clear hcz30_2
                try clear hcz30_3
                try clear hcz30_4
                try clear hcz30_5
                try clear hcz32_0
                try clear hcz32_1
                try clear hcz32_2
                try clear hcz32_3
                try clear hcz32_4
                try clear hcz32_5
                try clear hcz35_0
                try clear hcz35_1
                try clear hcz35_2
                try clear hcz35_3
                try clear hcz35_4
                try clear hcz35_5
                try clear hfz30_0
                try clear hfz30_1
                try clear hfz30_2
                try clear hfz30_3
                try clear hfz30_4
                try clear hfz30_5
                try clear hfz32_0
                try clear hfz32_1
                try clear hfz32_2
                try clear hfz32_3
                try clear hfz32_4
                try clear hfz32_5
                try clear hfz35_0
                try clear hfz35_1
                try clear hfz35_2
                try clear hfz35_3
                try clear hfz35_4
                try clear hfz35_5
                try clear hx279_0
                try clear hx279_1
                try clear hx279_2
                try clear hx279_3
                try clear hx279_4
                try clear hx279_5
                try clear p2
                try clear p27
                try clear p279
                try clear p6
                try clear q2
                try clear q27
                try clear q279
                obtain ⟨kq, x98_32, rfl, HA, HJ32, HO_17, BK280, HB⟩ := hcut
                cases kq with
                | zero => exact absurd HA.out (by simp [serifref20_Set.j5])
                | succ kj32 =>
                 have H := HA.out
                 clear HA
                 simp only [serifref20_Set.j5] at H
                 have HC36 := Aside0.mk H
                 clear H
                 go_upto_if 98 with (fail)
                 go_cut [23] (fun v23 wc => ∃ (kq : Nat) (x23_35 : Int), v23 = .int .i64 x23_35 ∧ Aside0 (serifref20_Set.j6 kq l0 a2 (wrap64 (a3 - t273)) x15_15 x16_20 x17_4 x18_27 x19_4 x20_4 x21_4 x23_35 ((rd_T31 l0 x21_4).f0) ((rd_T31 l0 x21_4).f1) ((rd_T31 l0 x21_4).f2) ((rd_T31 l0 x21_4).f3) ((rd_T31 l0 x21_4).f4) ((rd_T31 l0 x21_4).f5) = some (r1, r2, r3)) ∧ Aside0 (kq ≤ kj32) ∧ Aside0 (Kd.R (Kd.int .i64) 3 wc w.heap.size (fun _ => True) u17 x17_4) ∧ Aside0 (wc.heap[gb280]? = some (.cells #[.int .i64 ((rd_T31 l0 x21_4).f0), .int .i64 ((rd_T31 l0 x21_4).f1), .int .i64 ((rd_T31 l0 x21_4).f2), .int .i64 ((rd_T31 l0 x21_4).f3), .int .i64 ((rd_T31 l0 x21_4).f4), .bool ((rd_T31 l0 x21_4).f5)] 31 (0, 0))) ∧ Aside0 (Below w.heap.size w wc))
                 case first =>
                  have H := HC36.out
                  clear HC36
                  by_cases c37 : x98_32 = true
                  ·subst c37
                   have H1 : (serifref20_Set.j6 kj32 l0 a2 (wrap64 (a3 - t273)) x15_15 x16_20 x17_4 x18_27 x19_4 x20_4 x21_4 ((rd_T31 l0 x21_4).f1) ((rd_T31 l0 x21_4).f0) ((rd_T31 l0 x21_4).f1) ((rd_T31 l0 x21_4).f2) ((rd_T31 l0 x21_4).f3) ((rd_T31 l0 x21_4).f4) ((rd_T31 l0 x21_4).f5)) = some (r1, r2, r3) := by rw [if_pos rfl] at H; exact H
                   clear H
                   have H := H1
                   clear H1
                   have H' := Aside0.mk H
                   clear H
                   have hcz38_0 : wc.cell? ⟨gb280, 0, none⟩ = some (.int .i64 ((rd_T31 l0 x21_4).f0)) := (blk_cell BK280.out 0).trans rfl
                   have hcz38_1 : wc.cell? ⟨gb280, 1, none⟩ = some (.int .i64 ((rd_T31 l0 x21_4).f1)) := (blk_cell BK280.out 1).trans rfl
                   have hcz38_2 : wc.cell? ⟨gb280, 2, none⟩ = some (.int .i64 ((rd_T31 l0 x21_4).f2)) := (blk_cell BK280.out 2).trans rfl
                   have hcz38_3 : wc.cell? ⟨gb280, 3, none⟩ = some (.int .i64 ((rd_T31 l0 x21_4).f3)) := (blk_cell BK280.out 3).trans rfl
                   have hcz38_4 : wc.cell? ⟨gb280, 4, none⟩ = some (.int .i64 ((rd_T31 l0 x21_4).f4)) := (blk_cell BK280.out 4).trans rfl
                   have hcz38_5 : wc.cell? ⟨gb280, 5, none⟩ = some (.bool ((rd_T31 l0 x21_4).f5)) := (blk_cell BK280.out 5).trans rfl
                   have hfz38_0 := blk_frozen BK280.out 0
                   have hfz38_1 := blk_frozen BK280.out 1
                   have hfz38_2 := blk_frozen BK280.out 2
                   have hfz38_3 := blk_frozen BK280.out 3
                   have hfz38_4 := blk_frozen BK280.out 4
                   have hfz38_5 := blk_frozen BK280.out 5
                   go_wp2
                   go_meet
                   case rel => exact ⟨_, (((rd_T31 l0 x21_4).f1)), (by first | rfl | (simp; done) | (simp [*]; done)), H', ⟨by have := HJ4.out; have := HJ15.out; have := HJ20.out; have := HK4.out; have := HJ27.out; have := HJ32.out; first | omega | exact Nat.le_refl _⟩, ⟨by (with_reducible repeat (first | apply Kd.R_alloc | apply Kd.R_drewN | apply Kd.R_drew)); exact HO_17.out⟩, ⟨by (with_reducible repeat (first | refine blk_drewN ?_ _ | refine blk_drew ?_ | refine blk_alloc ?_ _)); exact BK280.out⟩, ⟨bs HB GE280⟩⟩
                  ·replace c37 := Bool.eq_false_iff.mpr c37
                   subst c37
                   have H1 : (serifref20_Set.j6 kj32 l0 a2 (wrap64 (a3 - t273)) x15_15 x16_20 x17_4 x18_27 x19_4 x20_4 x21_4 0 ((rd_T31 l0 x21_4).f0) ((rd_T31 l0 x21_4).f1) ((rd_T31 l0 x21_4).f2) ((rd_T31 l0 x21_4).f3) ((rd_T31 l0 x21_4).f4) ((rd_T31 l0 x21_4).f5)) = some (r1, r2, r3) := by rw [if_neg (show ¬ (false = true) by decide)] at H; exact H
                   clear H
                   have H := H1
                   clear H1
                   have H' := Aside0.mk H
                   clear H
                   go_wp2
                   go_meet
                   case rel => exact ⟨_, (0), (by first | rfl | (simp; done) | (simp [*]; done)), H', ⟨by have := HJ4.out; have := HJ15.out; have := HJ20.out; have := HK4.out; have := HJ27.out; have := HJ32.out; first | omega | exact Nat.le_refl _⟩, ⟨by (with_reducible repeat (first | apply Kd.R_alloc | apply Kd.R_drewN | apply Kd.R_drew)); exact HO_17.out⟩, ⟨by (with_reducible repeat (first | refine blk_drewN ?_ _ | refine blk_drew ?_ | refine blk_alloc ?_ _)); exact BK280.out⟩, ⟨bs HB GE280⟩⟩
                 case rest =>
                  clear HC36
                  try clear c1
                  try clear c2
                  try clear p2
                  try clear q2
                  try clear hx2
                  try clear c3
                  try clear p6
                  try clear c7
                  try clear c7b0
                  try clear c7b1
                  try clear c8
                  try clear c8b0
                  try clear c10
                  try clear c10b0
                  try clear c14
                  try clear c17
                  try clear c17b0
                  try clear c18
                  try clear c18b0
                  try clear c19
                  try clear c19b0
                  try clear c20
                  try clear c20b0
                  try clear c22
                  try clear c22b0
                  try clear c25
                  try clear c25b0
                  try clear c26
                  try clear c26b0
                  try clear c27
                  try clear c27b0
                  try clear p27
                  try clear q27
                  try clear hx27
                  try clear c31
                  try clear c34
                  try clear c35
                  try clear c37
                  try clear hcz30_0
                  try clear hcz30_1
                  try clear hcz30_2
                  try clear hcz30_3
                  try clear hcz30_4
                  try clear hcz30_5
                  try clear hcz32_0
                  try clear hcz32_1
                  try clear hcz32_2
                  try clear hcz32_3
                  try clear hcz32_4
                  try clear hcz32_5
                  try clear hcz35_0
                  try clear hcz35_1
                  try clear hcz35_2
                  try clear hcz35_3
                  try clear hcz35_4
                  try clear hcz35_5
                  try clear hcz38_0
                  try clear hcz38_1
                  try clear hcz38_2
                  try clear hcz38_3
                  try clear hcz38_4
                  try clear hcz38_5
                  try clear hfz30_0
                  try clear hfz30_1
                  try clear hfz30_2
                  try clear hfz30_3
                  try clear hfz30_4
                  try clear hfz30_5
                  try clear hfz32_0
                  try clear hfz32_1
                  try clear hfz32_2
                  try clear hfz32_3
                  try clear hfz32_4
                  try clear hfz32_5
                  try clear hfz35_0
                  try clear hfz35_1
                  try clear hfz35_2
                  try clear hfz35_3
                  try clear hfz35_4
                  try clear hfz35_5
                  try clear hfz38_0
                  try clear hfz38_1
                  try clear hfz38_2
                  try clear hfz38_3
                  try clear hfz38_4
                  try clear hfz38_5
                  try clear hx279_0
                  try clear hx279_1
                  try clear hx279_2
                  try clear hx279_3
                  try clear hx279_4
                  try clear hx279_5
                  try clear p2
                  try clear p27
                  try clear p279
                  try clear p6
                  try clear q2
                  try clear q27
                  try clear q279
                  obtain ⟨kq, x23_35, rfl, HA, HJ35, HO_17, BK280, HB⟩ := hcut
                  cases kq with
                  | zero => exact absurd HA.out (by simp [serifref20_Set.j6])
                  | succ kj35 =>
                   have H := HA.out
                   clear HA
                   simp only [serifref20_Set.j6] at H
                   have HC39 := Aside0.mk H
                   clear H
                   go_upto_region 20 with (fail)
                   go_cut [109] (fun v109 wc => ∃ (kq : Nat) (x109_38 : Bool), v109 = .bool x109_38 ∧ Aside0 (serifref20_Set.j7 kq l0 a2 (wrap64 (a3 - t273)) x15_15 x16_20 x17_4 x18_27 x19_4 x20_4 x21_4 x23_35 x109_38 ((rd_T31 l0 x21_4).f0) ((rd_T31 l0 x21_4).f1) ((rd_T31 l0 x21_4).f2) ((rd_T31 l0 x21_4).f3) ((rd_T31 l0 x21_4).f4) ((rd_T31 l0 x21_4).f5) = some (r1, r2, r3)) ∧ Aside0 (kq ≤ kj35) ∧ Aside0 (Kd.R (Kd.int .i64) 3 wc w.heap.size (fun _ => True) u17 x17_4) ∧ Aside0 (wc.heap[gb280]? = some (.cells #[.int .i64 ((rd_T31 l0 x21_4).f0), .int .i64 ((rd_T31 l0 x21_4).f1), .int .i64 ((rd_T31 l0 x21_4).f2), .int .i64 ((rd_T31 l0 x21_4).f3), .int .i64 ((rd_T31 l0 x21_4).f4), .bool ((rd_T31 l0 x21_4).f5)] 31 (0, 0))) ∧ Aside0 (Below w.heap.size w wc))
                   case first =>
                    have H := HC39.out
                    clear HC39
                    by_cases c40 : x18_27 = true
                    ·subst c40
                     have H1 : (if ((rd_T31 l0 x21_4).f0) = 2 then (serifref20_Set.j7 kj35 l0 a2 (wrap64 (a3 - t273)) x15_15 x16_20 x17_4 true x19_4 x20_4 x21_4 x23_35 x15_15 ((rd_T31 l0 x21_4).f0) ((rd_T31 l0 x21_4).f1) ((rd_T31 l0 x21_4).f2) ((rd_T31 l0 x21_4).f3) ((rd_T31 l0 x21_4).f4) ((rd_T31 l0 x21_4).f5)) else (serifref20_Set.j7 kj35 l0 a2 (wrap64 (a3 - t273)) x15_15 x16_20 x17_4 true x19_4 x20_4 x21_4 x23_35 false ((rd_T31 l0 x21_4).f0) ((rd_T31 l0 x21_4).f1) ((rd_T31 l0 x21_4).f2) ((rd_T31 l0 x21_4).f3) ((rd_T31 l0 x21_4).f4) ((rd_T31 l0 x21_4).f5))) = some (r1, r2, r3) := by rw [if_pos rfl] at H; exact H
                     clear H
                     have H := H1
                     clear H1
                     by_cases c41 : ((rd_T31 l0 x21_4).f0) = 2
                     ·rw [if_pos c41] at H
                      have c41b0 : (((rd_T31 l0 x21_4).f0) == 2) = true := beq_iff_eq.mpr c41
                      have c41b1 : (((rd_T31 l0 x21_4).f0) != 2) = false := bne_eq_false_iff_eq.mpr c41
                      clear c41
                      (first | rw [c41b0] | (simp only [i64_w, i32_w]; rw [c41b0]) | skip)
                      have H' := Aside0.mk H
                      clear H
                      have hcz42_0 : wc.cell? ⟨gb280, 0, none⟩ = some (.int .i64 ((rd_T31 l0 x21_4).f0)) := (blk_cell BK280.out 0).trans rfl
                      have hcz42_1 : wc.cell? ⟨gb280, 1, none⟩ = some (.int .i64 ((rd_T31 l0 x21_4).f1)) := (blk_cell BK280.out 1).trans rfl
                      have hcz42_2 : wc.cell? ⟨gb280, 2, none⟩ = some (.int .i64 ((rd_T31 l0 x21_4).f2)) := (blk_cell BK280.out 2).trans rfl
                      have hcz42_3 : wc.cell? ⟨gb280, 3, none⟩ = some (.int .i64 ((rd_T31 l0 x21_4).f3)) := (blk_cell BK280.out 3).trans rfl
                      have hcz42_4 : wc.cell? ⟨gb280, 4, none⟩ = some (.int .i64 ((rd_T31 l0 x21_4).f4)) := (blk_cell BK280.out 4).trans rfl
                      have hcz42_5 : wc.cell? ⟨gb280, 5, none⟩ = some (.bool ((rd_T31 l0 x21_4).f5)) := (blk_cell BK280.out 5).trans rfl
                      have hfz42_0 := blk_frozen BK280.out 0
                      have hfz42_1 := blk_frozen BK280.out 1
                      have hfz42_2 := blk_frozen BK280.out 2
                      have hfz42_3 := blk_frozen BK280.out 3
                      have hfz42_4 := blk_frozen BK280.out 4
                      have hfz42_5 := blk_frozen BK280.out 5
                      go_wp2
                      go_meet
                      case rel => exact ⟨_, (x15_15), (by first | rfl | (simp; done) | (simp [*]; done)), H', ⟨by have := HJ4.out; have := HJ15.out; have := HJ20.out; have := HK4.out; have := HJ27.out; have := HJ32.out; have := HJ35.out; first | omega | exact Nat.le_refl _⟩, ⟨by (with_reducible repeat (first | apply Kd.R_alloc | apply Kd.R_drewN | apply Kd.R_drew)); exact HO_17.out⟩, ⟨by (with_reducible repeat (first | refine blk_drewN ?_ _ | refine blk_drew ?_ | refine blk_alloc ?_ _)); exact BK280.out⟩, ⟨bs HB GE280⟩⟩
                     ·rw [if_neg c41] at H
                      have c41b0 : (((rd_T31 l0 x21_4).f0) == 2) = false := beq_eq_false_iff_ne.mpr c41
                      have c41b1 : (((rd_T31 l0 x21_4).f0) != 2) = true := bne_iff_ne.mpr c41
                      (first | rw [c41b0] | (simp only [i64_w, i32_w]; rw [c41b0]) | skip)
                      have H' := Aside0.mk H
                      clear H
                      have hcz43_0 : wc.cell? ⟨gb280, 0, none⟩ = some (.int .i64 ((rd_T31 l0 x21_4).f0)) := (blk_cell BK280.out 0).trans rfl
                      have hcz43_1 : wc.cell? ⟨gb280, 1, none⟩ = some (.int .i64 ((rd_T31 l0 x21_4).f1)) := (blk_cell BK280.out 1).trans rfl
                      have hcz43_2 : wc.cell? ⟨gb280, 2, none⟩ = some (.int .i64 ((rd_T31 l0 x21_4).f2)) := (blk_cell BK280.out 2).trans rfl
                      have hcz43_3 : wc.cell? ⟨gb280, 3, none⟩ = some (.int .i64 ((rd_T31 l0 x21_4).f3)) := (blk_cell BK280.out 3).trans rfl
                      have hcz43_4 : wc.cell? ⟨gb280, 4, none⟩ = some (.int .i64 ((rd_T31 l0 x21_4).f4)) := (blk_cell BK280.out 4).trans rfl
                      have hcz43_5 : wc.cell? ⟨gb280, 5, none⟩ = some (.bool ((rd_T31 l0 x21_4).f5)) := (blk_cell BK280.out 5).trans rfl
                      have hfz43_0 := blk_frozen BK280.out 0
                      have hfz43_1 := blk_frozen BK280.out 1
                      have hfz43_2 := blk_frozen BK280.out 2
                      have hfz43_3 := blk_frozen BK280.out 3
                      have hfz43_4 := blk_frozen BK280.out 4
                      have hfz43_5 := blk_frozen BK280.out 5
                      go_wp2
                      go_meet
                      case rel => exact ⟨_, (false), (by first | rfl | (simp; done) | (simp [*]; done)), H', ⟨by have := HJ4.out; have := HJ15.out; have := HJ20.out; have := HK4.out; have := HJ27.out; have := HJ32.out; have := HJ35.out; first | omega | exact Nat.le_refl _⟩, ⟨by (with_reducible repeat (first | apply Kd.R_alloc | apply Kd.R_drewN | apply Kd.R_drew)); exact HO_17.out⟩, ⟨by (with_reducible repeat (first | refine blk_drewN ?_ _ | refine blk_drew ?_ | refine blk_alloc ?_ _)); exact BK280.out⟩, ⟨bs HB GE280⟩⟩
                    ·replace c40 := Bool.eq_false_iff.mpr c40
                     subst c40
                     have H1 : (serifref20_Set.j7 kj35 l0 a2 (wrap64 (a3 - t273)) x15_15 x16_20 x17_4 false x19_4 x20_4 x21_4 x23_35 false ((rd_T31 l0 x21_4).f0) ((rd_T31 l0 x21_4).f1) ((rd_T31 l0 x21_4).f2) ((rd_T31 l0 x21_4).f3) ((rd_T31 l0 x21_4).f4) ((rd_T31 l0 x21_4).f5)) = some (r1, r2, r3) := by rw [if_neg (show ¬ (false = true) by decide)] at H; exact H
                     clear H
                     have H := H1
                     clear H1
                     have H' := Aside0.mk H
                     clear H
                     go_wp2
                     go_meet
                     case rel => exact ⟨_, (false), (by first | rfl | (simp; done) | (simp [*]; done)), H', ⟨by have := HJ4.out; have := HJ15.out; have := HJ20.out; have := HK4.out; have := HJ27.out; have := HJ32.out; have := HJ35.out; first | omega | exact Nat.le_refl _⟩, ⟨by (with_reducible repeat (first | apply Kd.R_alloc | apply Kd.R_drewN | apply Kd.R_drew)); exact HO_17.out⟩, ⟨by (with_reducible repeat (first | refine blk_drewN ?_ _ | refine blk_drew ?_ | refine blk_alloc ?_ _)); exact BK280.out⟩, ⟨bs HB GE280⟩⟩
                   case rest =>
                    clear HC39
                    try clear c1
                    try clear c2
                    try clear p2
                    try clear q2
                    try clear hx2
                    try clear c3
                    try clear c4
                    try clear p6
                    try clear c7
                    try clear c7b0
                    try clear c7b1
                    try clear c8
                    try clear c8b0
                    try clear c10
                    try clear c10b0
                    try clear c14
                    try clear c17
                    try clear c17b0
                    try clear c18
                    try clear c18b0
                    try clear c19
                    try clear c19b0
                    try clear c20
                    try clear c20b0
                    try clear c22
                    try clear c22b0
                    try clear c25
                    try clear c25b0
                    try clear c26
                    try clear c26b0
                    try clear c27
                    try clear c27b0
                    try clear p27
                    try clear q27
                    try clear hx27
                    try clear c31
                    try clear c34
                    try clear c35
                    try clear c37
                    try clear c40
                    try clear c41
                    try clear c41b0
                    try clear c41b1
                    try clear hcz30_0
                    try clear hcz30_1
                    try clear hcz30_2
                    try clear hcz30_3
                    try clear hcz30_4
                    try clear hcz30_5
                    try clear hcz32_0
                    try clear hcz32_1
                    try clear hcz32_2
                    try clear hcz32_3
                    try clear hcz32_4
                    try clear hcz32_5
                    try clear hcz35_0
                    try clear hcz35_1
                    try clear hcz35_2
                    try clear hcz35_3
                    try clear hcz35_4
                    try clear hcz35_5
                    try clear hcz38_0
                    try clear hcz38_1
                    try clear hcz38_2
                    try clear hcz38_3
                    try clear hcz38_4
                    try clear hcz38_5
                    try clear hcz42_0
                    try clear hcz42_1
                    try clear hcz42_2
                    try clear hcz42_3
                    try clear hcz42_4
                    try clear hcz42_5
                    try clear hcz43_0
                    try clear hcz43_1
                    try clear hcz43_2
                    try clear hcz43_3
                    try clear hcz43_4
                    try clear hcz43_5
                    try clear hfz30_0
                    try clear hfz30_1
                    try clear hfz30_2
                    try clear hfz30_3
                    try clear hfz30_4
                    try clear hfz30_5
                    try clear hfz32_0
                    try clear hfz32_1
                    try clear hfz32_2
                    try clear hfz32_3
                    try clear hfz32_4
                    try clear hfz32_5
                    try clear hfz35_0
                    try clear hfz35_1
                    try clear hfz35_2
                    try clear hfz35_3
                    try clear hfz35_4
                    try clear hfz35_5
                    try clear hfz38_0
                    try clear hfz38_1
                    try clear hfz38_2
                    try clear hfz38_3
                    try clear hfz38_4
                    try clear hfz38_5
                    try clear hfz42_0
                    try clear hfz42_1
                    try clear hfz42_2
                    try clear hfz42_3
                    try clear hfz42_4
                    try clear hfz42_5
                    try clear hfz43_0
                    try clear hfz43_1
                    try clear hfz43_2
                    try clear hfz43_3
                    try clear hfz43_4
                    try clear hfz43_5
                    try clear hx279_0
                    try clear hx279_1
                    try clear hx279_2
                    try clear hx279_3
                    try clear hx279_4
                    try clear hx279_5
                    try clear p2
                    try clear p27
                    try clear p279
                    try clear p6
                    try clear q2
                    try clear q27
                    try clear q279
                    obtain ⟨kq, x109_38, rfl, HA, HJ38, HO_17, BK280, HB⟩ := hcut
                    cases kq with
                    | zero => exact absurd HA.out (by simp [serifref20_Set.j7])
                    | succ kj38 =>
                     have H := HA.out
                     clear HA
                     simp only [serifref20_Set.j7] at H
                     by_cases c44 : x109_38 = true
                     ·subst c44
                      have H1 : (if (wrap64 (a3 - t273)) > 0 then ((serifref20_Down.f kj38 (wrap64 (a3 - t273)) (wrap64 (x19_4 + ((rd_T31 l0 x21_4).f2))) x16_20).bind fun t281 => ((serifref20_Down.f kj38 (wrap64 (a3 - t273)) (wrap64 (x19_4 + ((rd_T31 l0 x21_4).f2))) x16_20).bind fun t282 => (if x17_4.length < 17592186044416 then (serifref20_Set.l0 kj38 l0 a2 (wrap64 (a3 - t273)) x15_15 x16_20 (x17_4 ++ [wrap64 (x23_35 + (wrap64 (t281 - x20_4)))]) x18_27 (wrap64 (x19_4 + ((rd_T31 l0 x21_4).f2))) t282 (wrap64 (x21_4 + 1))) else (none)))) else ((serifref20_Down.f kj38 (wrap64 (a3 - t273)) (wrap64 (x19_4 + ((rd_T31 l0 x21_4).f3))) x16_20).bind fun t286 => ((serifref20_Down.f kj38 (wrap64 (a3 - t273)) (wrap64 (x19_4 + ((rd_T31 l0 x21_4).f3))) x16_20).bind fun t287 => (if x17_4.length < 17592186044416 then (serifref20_Set.l0 kj38 l0 a2 (wrap64 (a3 - t273)) x15_15 x16_20 (x17_4 ++ [wrap64 (x23_35 + (wrap64 (t286 - x20_4)))]) x18_27 (wrap64 (x19_4 + ((rd_T31 l0 x21_4).f3))) t287 (wrap64 (x21_4 + 1))) else (none))))) = some (r1, r2, r3) := by rw [if_pos rfl] at H; exact H
                      clear H
                      have H := H1
                      clear H1
                      by_cases c45 : (wrap64 (a3 - t273)) > 0
                      ·rw [if_pos c45] at H
                       have c45b0 : decide (0 < (wrap64 (a3 - t273))) = true := decide_eq_true c45
                       clear c45
                       replace H := Option.bind_eq_some_iff.mp H
                       obtain ⟨t281, A460, H⟩ := H
                       replace H : ((serifref20_Down.f kj38 (wrap64 (a3 - t273)) (wrap64 (x19_4 + ((rd_T31 l0 x21_4).f2))) x16_20).bind fun t282 => (if x17_4.length < 17592186044416 then (serifref20_Set.l0 kj38 l0 a2 (wrap64 (a3 - t273)) x15_15 x16_20 (x17_4 ++ [wrap64 (x23_35 + (wrap64 (t281 - x20_4)))]) x18_27 (wrap64 (x19_4 + ((rd_T31 l0 x21_4).f2))) t282 (wrap64 (x21_4 + 1))) else (none))) = some (r1, r2, r3) := H
                       have A46 := Aside0.mk A460
                       clear A460
                       replace H := Option.bind_eq_some_iff.mp H
                       obtain ⟨t282, A470, H⟩ := H
                       replace H : (if x17_4.length < 17592186044416 then (serifref20_Set.l0 kj38 l0 a2 (wrap64 (a3 - t273)) x15_15 x16_20 (x17_4 ++ [wrap64 (x23_35 + (wrap64 (t281 - x20_4)))]) x18_27 (wrap64 (x19_4 + ((rd_T31 l0 x21_4).f2))) t282 (wrap64 (x21_4 + 1))) else (none)) = some (r1, r2, r3) := H
                       have A47 := Aside0.mk A470
                       clear A470
                       by_cases c48 : x17_4.length < 17592186044416
                       ·rw [if_pos c48] at H
                        have LMc48 := Aside0.mk c48
                        clear c48
                        obtain ⟨y283, hy283⟩ : ∃ y_ : List Int, y_ = (x17_4 ++ [wrap64 (x23_35 + (wrap64 (t281 - x20_4)))]) := ⟨_, rfl⟩
                        replace H : (serifref20_Set.l0 kj38 l0 a2 (wrap64 (a3 - t273)) x15_15 x16_20 y283 x18_27 (wrap64 (x19_4 + ((rd_T31 l0 x21_4).f2))) t282 (wrap64 (x21_4 + 1))) = some (r1, r2, r3) := by first | (rw [hy283]; with_reducible exact H) | (have H2_ := (Option.bind_some _ _).symm.trans H; rw [hy283]; with_reducible exact H2_) | (have H2_ := (Option.bind_some _ _).symm.trans H; with_reducible exact H2_) | with_reducible exact H | (rw [hy283]; exact H) | exact H
                        have Ny283 := Aside0.mk hy283
                        clear hy283
                        have H' := Aside0.mk H
                        clear H
                        have hcz49_0 : wc.cell? ⟨gb280, 0, none⟩ = some (.int .i64 ((rd_T31 l0 x21_4).f0)) := (blk_cell BK280.out 0).trans rfl
                        have hcz49_1 : wc.cell? ⟨gb280, 1, none⟩ = some (.int .i64 ((rd_T31 l0 x21_4).f1)) := (blk_cell BK280.out 1).trans rfl
                        have hcz49_2 : wc.cell? ⟨gb280, 2, none⟩ = some (.int .i64 ((rd_T31 l0 x21_4).f2)) := (blk_cell BK280.out 2).trans rfl
                        have hcz49_3 : wc.cell? ⟨gb280, 3, none⟩ = some (.int .i64 ((rd_T31 l0 x21_4).f3)) := (blk_cell BK280.out 3).trans rfl
                        have hcz49_4 : wc.cell? ⟨gb280, 4, none⟩ = some (.int .i64 ((rd_T31 l0 x21_4).f4)) := (blk_cell BK280.out 4).trans rfl
                        have hcz49_5 : wc.cell? ⟨gb280, 5, none⟩ = some (.bool ((rd_T31 l0 x21_4).f5)) := (blk_cell BK280.out 5).trans rfl
                        have hfz49_0 := blk_frozen BK280.out 0
                        have hfz49_1 := blk_frozen BK280.out 1
                        have hfz49_2 := blk_frozen BK280.out 2
                        have hfz49_3 := blk_frozen BK280.out 3
                        have hfz49_4 := blk_frozen BK280.out 4
                        have hfz49_5 := blk_frozen BK280.out 5
                        go_wp2_with (first | ((with_reducible refine gate_callee (f := 36) rfl ?_); refine goesL_ (some 124) rfl rfl Try.func36 (by kernel_rfl) rfl #[.int .i64 (wrap64 (a3 - t273)), .int .i64 (wrap64 (x19_4 + ((rd_T31 l0 x21_4).f2))), .int .i64 x16_20] rfl (by (try simp only [List.map_toArray, List.map_cons, List.map_nil]); first | done | rfl | (simp only [List.length_drop, List.length_take]; rfl)) ?_; (with_reducible refine (serifref20_Down.calls kj38 (wrap64 (a3 - t273)) (wrap64 (x19_4 + ((rd_T31 l0 x21_4).f2))) x16_20 t281 _ A46.out).mono ?_); rintro e w50 ⟨rfl, hb⟩; refine ⟨_, rfl, ?_⟩; have n0_ := Aside0.mk (Kd.R_below (rq HO_17) hb); have n1_ := Aside0.mk (blk_below (g := gb280) (o := .cells #[.int .i64 ((rd_T31 l0 x21_4).f0), .int .i64 ((rd_T31 l0 x21_4).f1), .int .i64 ((rd_T31 l0 x21_4).f2), .int .i64 ((rd_T31 l0 x21_4).f3), .int .i64 ((rd_T31 l0 x21_4).f4), .bool ((rd_T31 l0 x21_4).f5)] 31 (0, 0)) (kq BK280) hb); have n2_ := Aside0.mk (below_step (bs HB GE280) hb); clear HO_17; clear BK280; clear HB; have HO_17 := n0_; have BK280 := n1_; have HB := n2_; clear n0_ n1_ n2_; (try clear hb); (try clear hb2); (try clear hk); (try clear hi)) | ((with_reducible refine gate_callee (f := 36) rfl ?_); refine goesL_ (some 131) rfl rfl Try.func36 (by kernel_rfl) rfl #[.int .i64 (wrap64 (a3 - t273)), .int .i64 (wrap64 (x19_4 + ((rd_T31 l0 x21_4).f2))), .int .i64 x16_20] rfl (by (try simp only [List.map_toArray, List.map_cons, List.map_nil]); first | done | rfl | (simp only [List.length_drop, List.length_take]; rfl)) ?_; (with_reducible refine (serifref20_Down.calls kj38 (wrap64 (a3 - t273)) (wrap64 (x19_4 + ((rd_T31 l0 x21_4).f2))) x16_20 t282 _ A47.out).mono ?_); rintro e w51 ⟨rfl, hb⟩; refine ⟨_, rfl, ?_⟩; have n0_ := Aside0.mk (Kd.R_below (rq HO_17) hb); have n1_ := Aside0.mk (blk_below (g := gb280) (o := .cells #[.int .i64 ((rd_T31 l0 x21_4).f0), .int .i64 ((rd_T31 l0 x21_4).f1), .int .i64 ((rd_T31 l0 x21_4).f2), .int .i64 ((rd_T31 l0 x21_4).f3), .int .i64 ((rd_T31 l0 x21_4).f4), .bool ((rd_T31 l0 x21_4).f5)] 31 (0, 0)) (kq BK280) hb); have n2_ := Aside0.mk (below_step (bs HB GE280) hb); clear HO_17; clear BK280; clear HB; have HO_17 := n0_; have BK280 := n1_; have HB := n2_; clear n0_ n1_ n2_; (try clear hb); (try clear hb2); (try clear hk); (try clear hi)) | ((with_reducible refine gate_builtin (b := .append) (xs := #[.tmp 132, .tmp 134]) rfl ?_); (try (refine gate_guard (by rfl) ?_; dsimp only)); at_builtin; refine Kd.R_append (Kd.int .i64) (w0 := w) w.heap.size rfl (.tmp 132) (.tmp 134) 24 3 (.int .i64 0) 8 rfl Try.underlying24 info3 rfl (by decide) (by omega) u17 x17_4 (wrap64 (x23_35 + (wrap64 (t281 - x20_4)))) [.int .i64 (wrap64 (x23_35 + (wrap64 (t281 - x20_4))))] (fun _ => True) (fun _ => False) rfl rfl ?aP (fun _ hk => hk.elim) ?aF ?aO ?aB ?aS ?aL ?_; (case aP => exact rfl); (case aB => exact (bs HB GE280)); (case aF => exact (fun _ _ => trivial)); (case aO => exact (rq HO_17)); (case aS => exact (below_size (bs HB GE280))); (case aL => have := LMc48.out; omega); intro v284 w52 ho hb hg hat; rw [← Ny283.out] at ho; have n0_ := Aside0.mk (blk_grown (g := gb280) (o := .cells #[.int .i64 ((rd_T31 l0 x21_4).f0), .int .i64 ((rd_T31 l0 x21_4).f1), .int .i64 ((rd_T31 l0 x21_4).f2), .int .i64 ((rd_T31 l0 x21_4).f3), .int .i64 ((rd_T31 l0 x21_4).f4), .bool ((rd_T31 l0 x21_4).f5)] 31 (0, 0)) (kq BK280) hg (Kd.R_ne HO_17.out BK280.out (by decide))); have n1_ := Aside0.mk (hb); have n2_ := Aside0.mk (ho); clear BK280; clear HB; clear HO_17; have BK280 := n0_; have HB := n1_; have HO285 := n2_; clear n0_ n1_ n2_; clear ho hb hg hat))
                        go_roundg kj38
                        case measure => have := HJ4.out; have := HJ15.out; have := HJ20.out; have := HK4.out; have := HJ27.out; have := HJ32.out; have := HJ35.out; have := HJ38.out; omega
                        case rel => exact ⟨(y283), (x18_27), (wrap64 (x19_4 + ((rd_T31 l0 x21_4).f2))), (t282), (wrap64 (x21_4 + 1)), (by first | rfl | (simp; done) | (simp [*]; done)), (by first | rfl | (simp; done) | (simp [*]; done)), (by first | rfl | (simp; done) | (simp [*]; done)), (by first | rfl | (simp; done) | (simp [*]; done)), H', ⟨by have := HJ4.out; have := HJ15.out; have := HJ20.out; have := HK4.out; have := HJ27.out; have := HJ32.out; have := HJ35.out; have := HJ38.out; omega⟩, ⟨by (with_reducible repeat (first | apply Kd.R_alloc | apply Kd.R_drewN | apply Kd.R_drew)); exact HO285.out⟩, ⟨bs HB GE280⟩⟩
                       ·rw [if_neg c48] at H
                        exact absurd H (by simp)
                      ·rw [if_neg c45] at H
                       have c45b0 : decide (0 < (wrap64 (a3 - t273))) = false := decide_eq_false c45
                       clear c45
                       replace H := Option.bind_eq_some_iff.mp H
                       obtain ⟨t286, A530, H⟩ := H
                       replace H : ((serifref20_Down.f kj38 (wrap64 (a3 - t273)) (wrap64 (x19_4 + ((rd_T31 l0 x21_4).f3))) x16_20).bind fun t287 => (if x17_4.length < 17592186044416 then (serifref20_Set.l0 kj38 l0 a2 (wrap64 (a3 - t273)) x15_15 x16_20 (x17_4 ++ [wrap64 (x23_35 + (wrap64 (t286 - x20_4)))]) x18_27 (wrap64 (x19_4 + ((rd_T31 l0 x21_4).f3))) t287 (wrap64 (x21_4 + 1))) else (none))) = some (r1, r2, r3) := H
                       have A53 := Aside0.mk A530
                       clear A530
                       replace H := Option.bind_eq_some_iff.mp H
                       obtain ⟨t287, A540, H⟩ := H
                       replace H : (if x17_4.length < 17592186044416 then (serifref20_Set.l0 kj38 l0 a2 (wrap64 (a3 - t273)) x15_15 x16_20 (x17_4 ++ [wrap64 (x23_35 + (wrap64 (t286 - x20_4)))]) x18_27 (wrap64 (x19_4 + ((rd_T31 l0 x21_4).f3))) t287 (wrap64 (x21_4 + 1))) else (none)) = some (r1, r2, r3) := H
                       have A54 := Aside0.mk A540
                       clear A540
                       by_cases c55 : x17_4.length < 17592186044416
                       ·rw [if_pos c55] at H
                        have LMc55 := Aside0.mk c55
                        clear c55
                        obtain ⟨y288, hy288⟩ : ∃ y_ : List Int, y_ = (x17_4 ++ [wrap64 (x23_35 + (wrap64 (t286 - x20_4)))]) := ⟨_, rfl⟩
                        replace H : (serifref20_Set.l0 kj38 l0 a2 (wrap64 (a3 - t273)) x15_15 x16_20 y288 x18_27 (wrap64 (x19_4 + ((rd_T31 l0 x21_4).f3))) t287 (wrap64 (x21_4 + 1))) = some (r1, r2, r3) := by first | (rw [hy288]; with_reducible exact H) | (have H2_ := (Option.bind_some _ _).symm.trans H; rw [hy288]; with_reducible exact H2_) | (have H2_ := (Option.bind_some _ _).symm.trans H; with_reducible exact H2_) | with_reducible exact H | (rw [hy288]; exact H) | exact H
                        have Ny288 := Aside0.mk hy288
                        clear hy288
                        have H' := Aside0.mk H
                        clear H
                        have hcz56_0 : wc.cell? ⟨gb280, 0, none⟩ = some (.int .i64 ((rd_T31 l0 x21_4).f0)) := (blk_cell BK280.out 0).trans rfl
                        have hcz56_1 : wc.cell? ⟨gb280, 1, none⟩ = some (.int .i64 ((rd_T31 l0 x21_4).f1)) := (blk_cell BK280.out 1).trans rfl
                        have hcz56_2 : wc.cell? ⟨gb280, 2, none⟩ = some (.int .i64 ((rd_T31 l0 x21_4).f2)) := (blk_cell BK280.out 2).trans rfl
                        have hcz56_3 : wc.cell? ⟨gb280, 3, none⟩ = some (.int .i64 ((rd_T31 l0 x21_4).f3)) := (blk_cell BK280.out 3).trans rfl
                        have hcz56_4 : wc.cell? ⟨gb280, 4, none⟩ = some (.int .i64 ((rd_T31 l0 x21_4).f4)) := (blk_cell BK280.out 4).trans rfl
                        have hcz56_5 : wc.cell? ⟨gb280, 5, none⟩ = some (.bool ((rd_T31 l0 x21_4).f5)) := (blk_cell BK280.out 5).trans rfl
                        have hfz56_0 := blk_frozen BK280.out 0
                        have hfz56_1 := blk_frozen BK280.out 1
                        have hfz56_2 := blk_frozen BK280.out 2
                        have hfz56_3 := blk_frozen BK280.out 3
                        have hfz56_4 := blk_frozen BK280.out 4
                        have hfz56_5 := blk_frozen BK280.out 5
                        go_wp2_with (first | ((with_reducible refine gate_callee (f := 36) rfl ?_); refine goesL_ (some 124) rfl rfl Try.func36 (by kernel_rfl) rfl #[.int .i64 (wrap64 (a3 - t273)), .int .i64 (wrap64 (x19_4 + ((rd_T31 l0 x21_4).f3))), .int .i64 x16_20] rfl (by (try simp only [List.map_toArray, List.map_cons, List.map_nil]); first | done | rfl | (simp only [List.length_drop, List.length_take]; rfl)) ?_; (with_reducible refine (serifref20_Down.calls kj38 (wrap64 (a3 - t273)) (wrap64 (x19_4 + ((rd_T31 l0 x21_4).f3))) x16_20 t286 _ A53.out).mono ?_); rintro e w57 ⟨rfl, hb⟩; refine ⟨_, rfl, ?_⟩; have n0_ := Aside0.mk (Kd.R_below (rq HO_17) hb); have n1_ := Aside0.mk (blk_below (g := gb280) (o := .cells #[.int .i64 ((rd_T31 l0 x21_4).f0), .int .i64 ((rd_T31 l0 x21_4).f1), .int .i64 ((rd_T31 l0 x21_4).f2), .int .i64 ((rd_T31 l0 x21_4).f3), .int .i64 ((rd_T31 l0 x21_4).f4), .bool ((rd_T31 l0 x21_4).f5)] 31 (0, 0)) (kq BK280) hb); have n2_ := Aside0.mk (below_step (bs HB GE280) hb); clear HO_17; clear BK280; clear HB; have HO_17 := n0_; have BK280 := n1_; have HB := n2_; clear n0_ n1_ n2_; (try clear hb); (try clear hb2); (try clear hk); (try clear hi)) | ((with_reducible refine gate_callee (f := 36) rfl ?_); refine goesL_ (some 131) rfl rfl Try.func36 (by kernel_rfl) rfl #[.int .i64 (wrap64 (a3 - t273)), .int .i64 (wrap64 (x19_4 + ((rd_T31 l0 x21_4).f3))), .int .i64 x16_20] rfl (by (try simp only [List.map_toArray, List.map_cons, List.map_nil]); first | done | rfl | (simp only [List.length_drop, List.length_take]; rfl)) ?_; (with_reducible refine (serifref20_Down.calls kj38 (wrap64 (a3 - t273)) (wrap64 (x19_4 + ((rd_T31 l0 x21_4).f3))) x16_20 t287 _ A54.out).mono ?_); rintro e w58 ⟨rfl, hb⟩; refine ⟨_, rfl, ?_⟩; have n0_ := Aside0.mk (Kd.R_below (rq HO_17) hb); have n1_ := Aside0.mk (blk_below (g := gb280) (o := .cells #[.int .i64 ((rd_T31 l0 x21_4).f0), .int .i64 ((rd_T31 l0 x21_4).f1), .int .i64 ((rd_T31 l0 x21_4).f2), .int .i64 ((rd_T31 l0 x21_4).f3), .int .i64 ((rd_T31 l0 x21_4).f4), .bool ((rd_T31 l0 x21_4).f5)] 31 (0, 0)) (kq BK280) hb); have n2_ := Aside0.mk (below_step (bs HB GE280) hb); clear HO_17; clear BK280; clear HB; have HO_17 := n0_; have BK280 := n1_; have HB := n2_; clear n0_ n1_ n2_; (try clear hb); (try clear hb2); (try clear hk); (try clear hi)) | ((with_reducible refine gate_builtin (b := .append) (xs := #[.tmp 132, .tmp 134]) rfl ?_); (try (refine gate_guard (by rfl) ?_; dsimp only)); at_builtin; refine Kd.R_append (Kd.int .i64) (w0 := w) w.heap.size rfl (.tmp 132) (.tmp 134) 24 3 (.int .i64 0) 8 rfl Try.underlying24 info3 rfl (by decide) (by omega) u17 x17_4 (wrap64 (x23_35 + (wrap64 (t286 - x20_4)))) [.int .i64 (wrap64 (x23_35 + (wrap64 (t286 - x20_4))))] (fun _ => True) (fun _ => False) rfl rfl ?aP (fun _ hk => hk.elim) ?aF ?aO ?aB ?aS ?aL ?_; (case aP => exact rfl); (case aB => exact (bs HB GE280)); (case aF => exact (fun _ _ => trivial)); (case aO => exact (rq HO_17)); (case aS => exact (below_size (bs HB GE280))); (case aL => have := LMc55.out; omega); intro v289 w59 ho hb hg hat; rw [← Ny288.out] at ho; have n0_ := Aside0.mk (blk_grown (g := gb280) (o := .cells #[.int .i64 ((rd_T31 l0 x21_4).f0), .int .i64 ((rd_T31 l0 x21_4).f1), .int .i64 ((rd_T31 l0 x21_4).f2), .int .i64 ((rd_T31 l0 x21_4).f3), .int .i64 ((rd_T31 l0 x21_4).f4), .bool ((rd_T31 l0 x21_4).f5)] 31 (0, 0)) (kq BK280) hg (Kd.R_ne HO_17.out BK280.out (by decide))); have n1_ := Aside0.mk (hb); have n2_ := Aside0.mk (ho); clear BK280; clear HB; clear HO_17; have BK280 := n0_; have HB := n1_; have HO290 := n2_; clear n0_ n1_ n2_; clear ho hb hg hat))
                        go_roundg kj38
                        case measure => have := HJ4.out; have := HJ15.out; have := HJ20.out; have := HK4.out; have := HJ27.out; have := HJ32.out; have := HJ35.out; have := HJ38.out; omega
                        case rel => exact ⟨(y288), (x18_27), (wrap64 (x19_4 + ((rd_T31 l0 x21_4).f3))), (t287), (wrap64 (x21_4 + 1)), (by first | rfl | (simp; done) | (simp [*]; done)), (by first | rfl | (simp; done) | (simp [*]; done)), (by first | rfl | (simp; done) | (simp [*]; done)), (by first | rfl | (simp; done) | (simp [*]; done)), H', ⟨by have := HJ4.out; have := HJ15.out; have := HJ20.out; have := HK4.out; have := HJ27.out; have := HJ32.out; have := HJ35.out; have := HJ38.out; omega⟩, ⟨by (with_reducible repeat (first | apply Kd.R_alloc | apply Kd.R_drewN | apply Kd.R_drew)); exact HO290.out⟩, ⟨bs HB GE280⟩⟩
                       ·rw [if_neg c55] at H
                        exact absurd H (by simp)
                     ·replace c44 := Bool.eq_false_iff.mpr c44
                      subst c44
                      have H1 : (if x17_4.length < 17592186044416 then (serifref20_Set.l0 kj38 l0 a2 (wrap64 (a3 - t273)) x15_15 x16_20 (x17_4 ++ [x23_35]) x18_27 x19_4 x20_4 (wrap64 (x21_4 + 1))) else (none)) = some (r1, r2, r3) := by rw [if_neg (show ¬ (false = true) by decide)] at H; exact H
                      clear H
                      have H := H1
                      clear H1
                      by_cases c60 : x17_4.length < 17592186044416
                      ·rw [if_pos c60] at H
                       have LMc60 := Aside0.mk c60
                       clear c60
                       obtain ⟨y291, hy291⟩ : ∃ y_ : List Int, y_ = (x17_4 ++ [x23_35]) := ⟨_, rfl⟩
                       replace H : (serifref20_Set.l0 kj38 l0 a2 (wrap64 (a3 - t273)) x15_15 x16_20 y291 x18_27 x19_4 x20_4 (wrap64 (x21_4 + 1))) = some (r1, r2, r3) := by first | (rw [hy291]; with_reducible exact H) | (have H2_ := (Option.bind_some _ _).symm.trans H; rw [hy291]; with_reducible exact H2_) | (have H2_ := (Option.bind_some _ _).symm.trans H; with_reducible exact H2_) | with_reducible exact H | (rw [hy291]; exact H) | exact H
                       have Ny291 := Aside0.mk hy291
                       clear hy291
                       have H' := Aside0.mk H
                       clear H
                       go_wp2_with (first | ((with_reducible refine gate_builtin (b := .append) (xs := #[.tmp 132, .tmp 134]) rfl ?_); (try (refine gate_guard (by rfl) ?_; dsimp only)); at_builtin; refine Kd.R_append (Kd.int .i64) (w0 := w) w.heap.size rfl (.tmp 132) (.tmp 134) 24 3 (.int .i64 0) 8 rfl Try.underlying24 info3 rfl (by decide) (by omega) u17 x17_4 x23_35 [.int .i64 x23_35] (fun _ => True) (fun _ => False) rfl rfl ?aP (fun _ hk => hk.elim) ?aF ?aO ?aB ?aS ?aL ?_; (case aP => exact rfl); (case aB => exact (bs HB GE280)); (case aF => exact (fun _ _ => trivial)); (case aO => exact (rq HO_17)); (case aS => exact (below_size (bs HB GE280))); (case aL => have := LMc60.out; omega); intro v292 w61 ho hb hg hat; rw [← Ny291.out] at ho; have n0_ := Aside0.mk (blk_grown (g := gb280) (o := .cells #[.int .i64 ((rd_T31 l0 x21_4).f0), .int .i64 ((rd_T31 l0 x21_4).f1), .int .i64 ((rd_T31 l0 x21_4).f2), .int .i64 ((rd_T31 l0 x21_4).f3), .int .i64 ((rd_T31 l0 x21_4).f4), .bool ((rd_T31 l0 x21_4).f5)] 31 (0, 0)) (kq BK280) hg (Kd.R_ne HO_17.out BK280.out (by decide))); have n1_ := Aside0.mk (hb); have n2_ := Aside0.mk (ho); clear BK280; clear HB; clear HO_17; have BK280 := n0_; have HB := n1_; have HO293 := n2_; clear n0_ n1_ n2_; clear ho hb hg hat))
                       go_roundg kj38
                       case measure => have := HJ4.out; have := HJ15.out; have := HJ20.out; have := HK4.out; have := HJ27.out; have := HJ32.out; have := HJ35.out; have := HJ38.out; omega
                       case rel => exact ⟨(y291), (x18_27), (x19_4), (x20_4), (wrap64 (x21_4 + 1)), (by first | rfl | (simp; done) | (simp [*]; done)), (by first | rfl | (simp; done) | (simp [*]; done)), (by first | rfl | (simp; done) | (simp [*]; done)), (by first | rfl | (simp; done) | (simp [*]; done)), H', ⟨by have := HJ4.out; have := HJ15.out; have := HJ20.out; have := HK4.out; have := HJ27.out; have := HJ32.out; have := HJ35.out; have := HJ38.out; omega⟩, ⟨by (with_reducible repeat (first | apply Kd.R_alloc | apply Kd.R_drewN | apply Kd.R_drew)); exact HO293.out⟩, ⟨bs HB GE280⟩⟩
                      ·rw [if_neg c60] at H
                       exact absurd H (by simp)
            ·rw [if_neg c27] at H
             exact absurd H (by simp)
           ·rw [if_neg c26] at H
            exact absurd H (by simp)
          ·rw [if_neg c25] at H
           have c25b0 : decide (x21_4 < a2) = false := decide_eq_false c25
           clear c25
           by_cases c62 : a2 < (l0.length : Int)
           ·rw [if_pos c62] at H
            have c62b0 : decide (a2 < (l0.length : Int)) = true := decide_eq_true c62
            clear c62
            by_cases c63 : 0 ≤ a2
            ·rw [if_pos c63] at H
             have c63b0 : decide (0 ≤ a2) = true := decide_eq_true c63
             clear c63
             by_cases c64 : ((rd_T31 l0 a2).f0) = 3
             ·rw [if_pos c64] at H
              have c64b0 : (((rd_T31 l0 a2).f0) == 3) = true := beq_iff_eq.mpr c64
              have c64b1 : (((rd_T31 l0 a2).f0) != 3) = false := bne_eq_false_iff_eq.mpr c64
              clear c64
              by_cases c65 : x17_4.length < 17592186044416
              ·rw [if_pos c65] at H
               have LMc65 := Aside0.mk c65
               clear c65
               obtain ⟨y296, hy296⟩ : ∃ y_ : List Int, y_ = (x17_4 ++ [(rd_T31 l0 a2).f1]) := ⟨_, rfl⟩
               replace H : (if (wrap64 (a3 - t273)) = 0 then (some (y296, true, 0)) else (some (y296, x15_15, 0))) = some (r1, r2, r3) := by first | (rw [hy296]; with_reducible exact H) | (have H2_ := (Option.bind_some _ _).symm.trans H; rw [hy296]; with_reducible exact H2_) | (have H2_ := (Option.bind_some _ _).symm.trans H; with_reducible exact H2_) | with_reducible exact H | (rw [hy296]; exact H) | exact H
               have Ny296 := Aside0.mk hy296
               clear hy296
               by_cases c66 : (wrap64 (a3 - t273)) = 0
               ·rw [if_pos c66] at H
                have c66b0 : ((wrap64 (a3 - t273)) == 0) = true := beq_iff_eq.mpr c66
                have c66b1 : ((wrap64 (a3 - t273)) != 0) = false := bne_eq_false_iff_eq.mpr c66
                clear c66
                simp only [Option.some.injEq, Prod.mk.injEq] at H
                obtain ⟨rfl, rfl, rfl⟩ := H
                have p294 : 0 ≤ (a2 : Int) := odt
                have q294 : a2 < (l0.length : Int) := odt
                obtain ⟨ad294, e294, hx294_0, hx294_1, hx294_2, hx294_3, hx294_4, hx294_5⟩ := at_T31 HR0.out a2 p294 q294
                cases e294
                replace hx294_0 := (HB.out.cell (World.block_lt_of_cell? w _ hx294_0)).trans hx294_0
                replace hx294_1 := (HB.out.cell (World.block_lt_of_cell? w _ hx294_1)).trans hx294_1
                replace hx294_2 := (HB.out.cell (World.block_lt_of_cell? w _ hx294_2)).trans hx294_2
                replace hx294_3 := (HB.out.cell (World.block_lt_of_cell? w _ hx294_3)).trans hx294_3
                replace hx294_4 := (HB.out.cell (World.block_lt_of_cell? w _ hx294_4)).trans hx294_4
                replace hx294_5 := (HB.out.cell (World.block_lt_of_cell? w _ hx294_5)).trans hx294_5
                replace p294 := eq_true p294
                replace q294 := eq_true q294
                have p295 : 0 ≤ (a2 : Int) := odt
                have q295 : a2 < (l0.length : Int) := odt
                obtain ⟨ad295, e295, hx295_0, hx295_1, hx295_2, hx295_3, hx295_4, hx295_5⟩ := at_T31 HR0.out a2 p295 q295
                obtain rfl : ad294 = ad295 := (by injection e295)
                replace hx295_0 := (HB.out.cell (World.block_lt_of_cell? w _ hx295_0)).trans hx295_0
                replace hx295_1 := (HB.out.cell (World.block_lt_of_cell? w _ hx295_1)).trans hx295_1
                replace hx295_2 := (HB.out.cell (World.block_lt_of_cell? w _ hx295_2)).trans hx295_2
                replace hx295_3 := (HB.out.cell (World.block_lt_of_cell? w _ hx295_3)).trans hx295_3
                replace hx295_4 := (HB.out.cell (World.block_lt_of_cell? w _ hx295_4)).trans hx295_4
                replace hx295_5 := (HB.out.cell (World.block_lt_of_cell? w _ hx295_5)).trans hx295_5
                replace p295 := eq_true p295
                replace q295 := eq_true q295
                go_wp2_with (first | ((with_reducible refine gate_builtin (b := .append) (xs := #[.tmp 151, .tmp 153]) rfl ?_); (try (refine gate_guard (by rfl) ?_; dsimp only)); at_builtin; refine Kd.R_append (Kd.int .i64) (w0 := w) w.heap.size rfl (.tmp 151) (.tmp 153) 24 3 (.int .i64 0) 8 rfl Try.underlying24 info3 rfl (by decide) (by omega) u17 x17_4 ((rd_T31 l0 a2).f1) [.int .i64 ((rd_T31 l0 a2).f1)] (fun _ => True) (fun _ => False) rfl rfl ?aP (fun _ hk => hk.elim) ?aF ?aO ?aB ?aS ?aL ?_; (case aP => exact rfl); (case aB => exact (bq HB)); (case aF => exact (fun _ _ => trivial)); (case aO => exact (rq HO_17)); (case aS => exact (below_size (bq HB))); (case aL => have := LMc65.out; omega); intro v297 w67 ho hb hg hat; rw [← Ny296.out] at ho; have n0_ := Aside0.mk (hb); have n1_ := Aside0.mk (ho); clear HB; clear HO_17; have HB := n0_; have HO298 := n1_; clear n0_ n1_; clear ho hb hg hat))
                go_ret3
                exact ⟨_, by first | rfl | (simp [errW_none, errW_some] <;> rfl) | (simp [*, errW_none, errW_some] <;> rfl), by (with_reducible repeat (first | apply Kd.R_alloc | apply Kd.R_drewN | apply Kd.R_drew)); exact HO298.out, bq HB⟩
               ·rw [if_neg c66] at H
                have c66b0 : ((wrap64 (a3 - t273)) == 0) = false := beq_eq_false_iff_ne.mpr c66
                have c66b1 : ((wrap64 (a3 - t273)) != 0) = true := bne_iff_ne.mpr c66
                simp only [Option.some.injEq, Prod.mk.injEq] at H
                obtain ⟨rfl, rfl, rfl⟩ := H
                have p294 : 0 ≤ (a2 : Int) := odt
                have q294 : a2 < (l0.length : Int) := odt
                obtain ⟨ad294, e294, hx294_0, hx294_1, hx294_2, hx294_3, hx294_4, hx294_5⟩ := at_T31 HR0.out a2 p294 q294
                cases e294
                replace hx294_0 := (HB.out.cell (World.block_lt_of_cell? w _ hx294_0)).trans hx294_0
                replace hx294_1 := (HB.out.cell (World.block_lt_of_cell? w _ hx294_1)).trans hx294_1
                replace hx294_2 := (HB.out.cell (World.block_lt_of_cell? w _ hx294_2)).trans hx294_2
                replace hx294_3 := (HB.out.cell (World.block_lt_of_cell? w _ hx294_3)).trans hx294_3
                replace hx294_4 := (HB.out.cell (World.block_lt_of_cell? w _ hx294_4)).trans hx294_4
                replace hx294_5 := (HB.out.cell (World.block_lt_of_cell? w _ hx294_5)).trans hx294_5
                replace p294 := eq_true p294
                replace q294 := eq_true q294
                have p295 : 0 ≤ (a2 : Int) := odt
                have q295 : a2 < (l0.length : Int) := odt
                obtain ⟨ad295, e295, hx295_0, hx295_1, hx295_2, hx295_3, hx295_4, hx295_5⟩ := at_T31 HR0.out a2 p295 q295
                obtain rfl : ad294 = ad295 := (by injection e295)
                replace hx295_0 := (HB.out.cell (World.block_lt_of_cell? w _ hx295_0)).trans hx295_0
                replace hx295_1 := (HB.out.cell (World.block_lt_of_cell? w _ hx295_1)).trans hx295_1
                replace hx295_2 := (HB.out.cell (World.block_lt_of_cell? w _ hx295_2)).trans hx295_2
                replace hx295_3 := (HB.out.cell (World.block_lt_of_cell? w _ hx295_3)).trans hx295_3
                replace hx295_4 := (HB.out.cell (World.block_lt_of_cell? w _ hx295_4)).trans hx295_4
                replace hx295_5 := (HB.out.cell (World.block_lt_of_cell? w _ hx295_5)).trans hx295_5
                replace p295 := eq_true p295
                replace q295 := eq_true q295
                go_wp2_with (first | ((with_reducible refine gate_builtin (b := .append) (xs := #[.tmp 151, .tmp 153]) rfl ?_); (try (refine gate_guard (by rfl) ?_; dsimp only)); at_builtin; refine Kd.R_append (Kd.int .i64) (w0 := w) w.heap.size rfl (.tmp 151) (.tmp 153) 24 3 (.int .i64 0) 8 rfl Try.underlying24 info3 rfl (by decide) (by omega) u17 x17_4 ((rd_T31 l0 a2).f1) [.int .i64 ((rd_T31 l0 a2).f1)] (fun _ => True) (fun _ => False) rfl rfl ?aP (fun _ hk => hk.elim) ?aF ?aO ?aB ?aS ?aL ?_; (case aP => exact rfl); (case aB => exact (bq HB)); (case aF => exact (fun _ _ => trivial)); (case aO => exact (rq HO_17)); (case aS => exact (below_size (bq HB))); (case aL => have := LMc65.out; omega); intro v297 w68 ho hb hg hat; rw [← Ny296.out] at ho; have n0_ := Aside0.mk (hb); have n1_ := Aside0.mk (ho); clear HB; clear HO_17; have HB := n0_; have HO298 := n1_; clear n0_ n1_; clear ho hb hg hat))
                go_ret3
                exact ⟨_, by first | rfl | (simp [errW_none, errW_some] <;> rfl) | (simp [*, errW_none, errW_some] <;> rfl), by (with_reducible repeat (first | apply Kd.R_alloc | apply Kd.R_drewN | apply Kd.R_drew)); exact HO298.out, bq HB⟩
              ·rw [if_neg c65] at H
               exact absurd H (by simp)
             ·rw [if_neg c64] at H
              have c64b0 : (((rd_T31 l0 a2).f0) == 3) = false := beq_eq_false_iff_ne.mpr c64
              have c64b1 : (((rd_T31 l0 a2).f0) != 3) = true := bne_iff_ne.mpr c64
              by_cases c69 : x17_4.length < 17592186044416
              ·rw [if_pos c69] at H
               have LMc69 := Aside0.mk c69
               clear c69
               obtain ⟨y299, hy299⟩ : ∃ y_ : List Int, y_ = (x17_4 ++ [0]) := ⟨_, rfl⟩
               replace H : (if (wrap64 (a3 - t273)) = 0 then (some (y299, true, 0)) else (some (y299, x15_15, 0))) = some (r1, r2, r3) := by first | (rw [hy299]; with_reducible exact H) | (have H2_ := (Option.bind_some _ _).symm.trans H; rw [hy299]; with_reducible exact H2_) | (have H2_ := (Option.bind_some _ _).symm.trans H; with_reducible exact H2_) | with_reducible exact H | (rw [hy299]; exact H) | exact H
               have Ny299 := Aside0.mk hy299
               clear hy299
               by_cases c70 : (wrap64 (a3 - t273)) = 0
               ·rw [if_pos c70] at H
                have c70b0 : ((wrap64 (a3 - t273)) == 0) = true := beq_iff_eq.mpr c70
                have c70b1 : ((wrap64 (a3 - t273)) != 0) = false := bne_eq_false_iff_eq.mpr c70
                clear c70
                simp only [Option.some.injEq, Prod.mk.injEq] at H
                obtain ⟨rfl, rfl, rfl⟩ := H
                have p294 : 0 ≤ (a2 : Int) := odt
                have q294 : a2 < (l0.length : Int) := odt
                obtain ⟨ad294, e294, hx294_0, hx294_1, hx294_2, hx294_3, hx294_4, hx294_5⟩ := at_T31 HR0.out a2 p294 q294
                cases e294
                replace hx294_0 := (HB.out.cell (World.block_lt_of_cell? w _ hx294_0)).trans hx294_0
                replace hx294_1 := (HB.out.cell (World.block_lt_of_cell? w _ hx294_1)).trans hx294_1
                replace hx294_2 := (HB.out.cell (World.block_lt_of_cell? w _ hx294_2)).trans hx294_2
                replace hx294_3 := (HB.out.cell (World.block_lt_of_cell? w _ hx294_3)).trans hx294_3
                replace hx294_4 := (HB.out.cell (World.block_lt_of_cell? w _ hx294_4)).trans hx294_4
                replace hx294_5 := (HB.out.cell (World.block_lt_of_cell? w _ hx294_5)).trans hx294_5
                replace p294 := eq_true p294
                replace q294 := eq_true q294
                go_wp2_with (first | ((with_reducible refine gate_builtin (b := .append) (xs := #[.tmp 151, .tmp 153]) rfl ?_); (try (refine gate_guard (by rfl) ?_; dsimp only)); at_builtin; refine Kd.R_append (Kd.int .i64) (w0 := w) w.heap.size rfl (.tmp 151) (.tmp 153) 24 3 (.int .i64 0) 8 rfl Try.underlying24 info3 rfl (by decide) (by omega) u17 x17_4 0 [.int .i64 0] (fun _ => True) (fun _ => False) rfl rfl ?aP (fun _ hk => hk.elim) ?aF ?aO ?aB ?aS ?aL ?_; (case aP => exact rfl); (case aB => exact (bq HB)); (case aF => exact (fun _ _ => trivial)); (case aO => exact (rq HO_17)); (case aS => exact (below_size (bq HB))); (case aL => have := LMc69.out; omega); intro v300 w71 ho hb hg hat; rw [← Ny299.out] at ho; have n0_ := Aside0.mk (hb); have n1_ := Aside0.mk (ho); clear HB; clear HO_17; have HB := n0_; have HO301 := n1_; clear n0_ n1_; clear ho hb hg hat))
                go_ret3
                exact ⟨_, by first | rfl | (simp [errW_none, errW_some] <;> rfl) | (simp [*, errW_none, errW_some] <;> rfl), by (with_reducible repeat (first | apply Kd.R_alloc | apply Kd.R_drewN | apply Kd.R_drew)); exact HO301.out, bq HB⟩
               ·rw [if_neg c70] at H
                have c70b0 : ((wrap64 (a3 - t273)) == 0) = false := beq_eq_false_iff_ne.mpr c70
                have c70b1 : ((wrap64 (a3 - t273)) != 0) = true := bne_iff_ne.mpr c70
                simp only [Option.some.injEq, Prod.mk.injEq] at H
                obtain ⟨rfl, rfl, rfl⟩ := H
                have p294 : 0 ≤ (a2 : Int) := odt
                have q294 : a2 < (l0.length : Int) := odt
                obtain ⟨ad294, e294, hx294_0, hx294_1, hx294_2, hx294_3, hx294_4, hx294_5⟩ := at_T31 HR0.out a2 p294 q294
                cases e294
                replace hx294_0 := (HB.out.cell (World.block_lt_of_cell? w _ hx294_0)).trans hx294_0
                replace hx294_1 := (HB.out.cell (World.block_lt_of_cell? w _ hx294_1)).trans hx294_1
                replace hx294_2 := (HB.out.cell (World.block_lt_of_cell? w _ hx294_2)).trans hx294_2
                replace hx294_3 := (HB.out.cell (World.block_lt_of_cell? w _ hx294_3)).trans hx294_3
                replace hx294_4 := (HB.out.cell (World.block_lt_of_cell? w _ hx294_4)).trans hx294_4
                replace hx294_5 := (HB.out.cell (World.block_lt_of_cell? w _ hx294_5)).trans hx294_5
                replace p294 := eq_true p294
                replace q294 := eq_true q294
                go_wp2_with (first | ((with_reducible refine gate_builtin (b := .append) (xs := #[.tmp 151, .tmp 153]) rfl ?_); (try (refine gate_guard (by rfl) ?_; dsimp only)); at_builtin; refine Kd.R_append (Kd.int .i64) (w0 := w) w.heap.size rfl (.tmp 151) (.tmp 153) 24 3 (.int .i64 0) 8 rfl Try.underlying24 info3 rfl (by decide) (by omega) u17 x17_4 0 [.int .i64 0] (fun _ => True) (fun _ => False) rfl rfl ?aP (fun _ hk => hk.elim) ?aF ?aO ?aB ?aS ?aL ?_; (case aP => exact rfl); (case aB => exact (bq HB)); (case aF => exact (fun _ _ => trivial)); (case aO => exact (rq HO_17)); (case aS => exact (below_size (bq HB))); (case aL => have := LMc69.out; omega); intro v300 w72 ho hb hg hat; rw [← Ny299.out] at ho; have n0_ := Aside0.mk (hb); have n1_ := Aside0.mk (ho); clear HB; clear HO_17; have HB := n0_; have HO301 := n1_; clear n0_ n1_; clear ho hb hg hat))
                go_ret3
                exact ⟨_, by first | rfl | (simp [errW_none, errW_some] <;> rfl) | (simp [*, errW_none, errW_some] <;> rfl), by (with_reducible repeat (first | apply Kd.R_alloc | apply Kd.R_drewN | apply Kd.R_drew)); exact HO301.out, bq HB⟩
              ·rw [if_neg c69] at H
               exact absurd H (by simp)
            ·rw [if_neg c63] at H
             exact absurd H (by simp)
           ·rw [if_neg c62] at H
            have c62b0 : decide (a2 < (l0.length : Int)) = false := decide_eq_false c62
            clear c62
            by_cases c73 : (wrap64 (a3 - t273)) = 0
            ·rw [if_pos c73] at H
             have c73b0 : ((wrap64 (a3 - t273)) == 0) = true := beq_iff_eq.mpr c73
             have c73b1 : ((wrap64 (a3 - t273)) != 0) = false := bne_eq_false_iff_eq.mpr c73
             clear c73
             simp only [Option.some.injEq, Prod.mk.injEq] at H
             obtain ⟨rfl, rfl, rfl⟩ := H
             go_wp2
             go_ret3
             exact ⟨_, by first | rfl | (simp [errW_none, errW_some] <;> rfl) | (simp [*, errW_none, errW_some] <;> rfl), by (with_reducible repeat (first | apply Kd.R_alloc | apply Kd.R_drewN | apply Kd.R_drew)); exact HO_17.out, bq HB⟩
            ·rw [if_neg c73] at H
             have c73b0 : ((wrap64 (a3 - t273)) == 0) = false := beq_eq_false_iff_ne.mpr c73
             have c73b1 : ((wrap64 (a3 - t273)) != 0) = true := bne_iff_ne.mpr c73
             simp only [Option.some.injEq, Prod.mk.injEq] at H
             obtain ⟨rfl, rfl, rfl⟩ := H
             go_wp2
             go_ret3
             exact ⟨_, by first | rfl | (simp [errW_none, errW_some] <;> rfl) | (simp [*, errW_none, errW_some] <;> rfl), by (with_reducible repeat (first | apply Kd.R_alloc | apply Kd.R_drewN | apply Kd.R_drew)); exact HO_17.out, bq HB⟩

end Go.Proofs.Ytfbanppdiglciaa.Y
