-- written by a program of this session (wip/xprint.py) over the kit's print
import Derived.Test.YtfbanppdiglciaaYx0
import Derived.Test.YtfbanppdiglciaaYx30
import Derived.Test.YtfbanppdiglciaaYx35
import Derived.Test.YtfbanppdiglciaaYx36
namespace Go.Proofs.Ytfbanppdiglciaa.Y
open Go.RowKit Go.Proofs.YtfbanppdiglciaaW.PrintWords Go.Proofs.YtfbanppdiglciaaW.PrintLast Go.Proofs.YtfbanppdiglciaaW.PrintMore
attribute [local go_sem] max2_int min2_int max_two min_two max_three min_three max_four min_four   -- for this text's walks alone
set_option linter.unusedVariables false
set_option linter.unusedSimpArgs false

/-! ### optimal_paragraph_best: function 30 -/
mutual
def optimal_paragraph_best.l0 : Nat → List Int → Int → List (S59) → Int → List (S31) → List (S81) → List Int → Int → Option ((List (S59)) × Int)
 | 0, _, _, _, _, _, _, _, _ => none
 | k + 1, x1, x2, x7, x8, x1000, x1001, x1002, x1003 => if x8 ≥ 0 then (if x8 > 0 then (if 0 ≤ (wrap64 (x8 - 1)) then (if (wrap64 (x8 - 1)) < (x1.length : Int) then (optimal_paragraph_best.j1 k x1 x2 x7 x8 (rd x1 (wrap64 (x8 - 1))) x1000 x1001 x1002 x1003) else (none)) else (none)) else (optimal_paragraph_best.j1 k x1 x2 x7 x8 (-1) x1000 x1001 x1002 x1003)) else (some (x7, x1003))
def optimal_paragraph_best.j1 : Nat → List Int → Int → List (S59) → Int → Int → List (S31) → List (S81) → List Int → Int → Option ((List (S59)) × Int)
 | 0, _, _, _, _, _, _, _, _, _ => none
 | k + 1, x1, x2, x7, x8, x9, x1000, x1001, x1002, x1003 => optimal_paragraph_best.l1 k x1 x2 x7 x8 x9 x8 x1000 x1001 x1002 x1003
def optimal_paragraph_best.l1 : Nat → List Int → Int → List (S59) → Int → Int → Int → List (S31) → List (S81) → List Int → Int → Option ((List (S59)) × Int)
 | 0, _, _, _, _, _, _, _, _, _, _ => none
 | k + 1, x1, x2, x7, x8, x9, x10, x1000, x1001, x1002, x1003 => if x10 < (x1.length : Int) then (if 0 ≤ x10 then ((optimal_paragraph_fit.f k x1000 x1001 x1002 x1003 x9 (rd x1 x10)).bind fun bt435 => (if bt435.2.2.1 = true then (if bt435.1 ≤ x2 then (if 0 ≤ (wrap64 (x10 + 1)) then (if (wrap64 (x10 + 1)) < (x7.length : Int) then (optimal_paragraph_best.j3 k x1 x2 x7 x8 x9 x10 (rd x1 x10) ((rd_T59 x7 (wrap64 (x10 + 1))).f2) x1000 x1001 x1002 bt435.2.2.2 bt435.1 bt435.2.1) else (none)) else (none)) else (optimal_paragraph_best.j3 k x1 x2 x7 x8 x9 x10 (rd x1 x10) false x1000 x1001 x1002 bt435.2.2.2 bt435.1 bt435.2.1)) else (optimal_paragraph_best.j3 k x1 x2 x7 x8 x9 x10 (rd x1 x10) false x1000 x1001 x1002 bt435.2.2.2 bt435.1 bt435.2.1))) else (none)) else (optimal_paragraph_best.l0 k x1 x2 x7 (wrap64 (x8 - 1)) x1000 x1001 x1002 x1003)
def optimal_paragraph_best.j3 : Nat → List Int → Int → List (S59) → Int → Int → Int → Int → Bool → List (S31) → List (S81) → List Int → Int → Int → Int → Option ((List (S59)) × Int)
 | 0, _, _, _, _, _, _, _, _, _, _, _, _, _, _ => none
 | k + 1, x1, x2, x7, x8, x9, x10, x11, x70, x1000, x1001, x1002, x1003, x440000, x440001 => if x70 = true then ((optimal_paragraph_demerits.f x1000 x1001 x1002 x1003 x9 x11 x440001).bind fun bt441 => (if 0 ≤ (wrap64 (x10 + 1)) then (if (wrap64 (x10 + 1)) < (x7.length : Int) then (if 0 ≤ x8 then (if x8 < (x7.length : Int) then (if ((rd_T59 x7 x8).f2 = true) then (optimal_paragraph_best.j4 k x1 x2 x7 x8 x9 x10 x11 (wrap64 (bt441.1 + ((rd_T59 x7 (wrap64 (x10 + 1))).f1))) (decide ((wrap64 (bt441.1 + ((rd_T59 x7 (wrap64 (x10 + 1))).f1))) < ((rd_T59 x7 x8).f1))) x1000 x1001 x1002 bt441.2) else (optimal_paragraph_best.j4 k x1 x2 x7 x8 x9 x10 x11 (wrap64 (bt441.1 + ((rd_T59 x7 (wrap64 (x10 + 1))).f1))) true x1000 x1001 x1002 bt441.2)) else (none)) else (none)) else (none)) else (none))) else ((optimal_paragraph_forced.f x1000 x1001 x1002 x1003 x11).bind fun bt451 => (if bt451.1 = true then (optimal_paragraph_best.l0 k x1 x2 x7 (wrap64 (x8 - 1)) x1000 x1001 x1002 bt451.2) else (optimal_paragraph_best.l1 k x1 x2 x7 x8 x9 (wrap64 (x10 + 1)) x1000 x1001 x1002 bt451.2)))
def optimal_paragraph_best.j4 : Nat → List Int → Int → List (S59) → Int → Int → Int → Int → Int → Bool → List (S31) → List (S81) → List Int → Int → Option ((List (S59)) × Int)
 | 0, _, _, _, _, _, _, _, _, _, _, _, _, _ => none
 | k + 1, x1, x2, x7, x8, x9, x10, x11, x14, x98, x1000, x1001, x1002, x1003 => if x98 = true then (if 0 ≤ x8 then (if x8 < (x7.length : Int) then ((some (x7.set (x8 : Int).toNat (⟨x10, x14, true⟩ : S59) : List (S59))).bind fun y446 => ((optimal_paragraph_forced.f x1000 x1001 x1002 x1003 x11).bind fun bt447 => (if bt447.1 = true then (optimal_paragraph_best.l0 k x1 x2 y446 (wrap64 (x8 - 1)) x1000 x1001 x1002 bt447.2) else (optimal_paragraph_best.l1 k x1 x2 y446 x8 x9 (wrap64 (x10 + 1)) x1000 x1001 x1002 bt447.2)))) else (none)) else (none)) else ((optimal_paragraph_forced.f x1000 x1001 x1002 x1003 x11).bind fun bt449 => (if bt449.1 = true then (optimal_paragraph_best.l0 k x1 x2 x7 (wrap64 (x8 - 1)) x1000 x1001 x1002 bt449.2) else (optimal_paragraph_best.l1 k x1 x2 x7 x8 x9 (wrap64 (x10 + 1)) x1000 x1001 x1002 bt449.2)))
end
def optimal_paragraph_best.f (k : Nat) (s0_0 : List (S31)) (s0_1 : List (S81)) (s0_2 : List Int) (s0_3 : Int) (l1 : List Int) (a2 : Int) : Option ((List (S59)) × Int) := if 0 ≤ (wrap64 ((l1.length : Int) + 1)) then (if (wrap64 ((l1.length : Int) + 1) : Int).toNat ≤ 11728124029610 then ((some (List.replicate (wrap64 ((l1.length : Int) + 1) : Int).toNat z59 : List (S59))).bind fun y429 => (if 0 ≤ (l1.length : Int) then (if (l1.length : Int) < (y429.length : Int) then (optimal_paragraph_best.l0 k l1 a2 (y429.set ((l1.length : Int) : Int).toNat (⟨(rd_T59 y429 (l1.length : Int)).f0, (rd_T59 y429 (l1.length : Int)).f1, true⟩ : S59)) (wrap64 ((l1.length : Int) - 1)) s0_0 s0_1 s0_2 s0_3) else (none)) else (none))) else (none)) else (none)
theorem optimal_paragraph_best.mono_l : ∀ k, (∀ y0 y1 y2 y3 y4 y5 y6 y7, LeO (optimal_paragraph_best.l0 k y0 y1 y2 y3 y4 y5 y6 y7) (optimal_paragraph_best.l0 (k + 1) y0 y1 y2 y3 y4 y5 y6 y7)) ∧ (∀ y0 y1 y2 y3 y4 y5 y6 y7 y8, LeO (optimal_paragraph_best.j1 k y0 y1 y2 y3 y4 y5 y6 y7 y8) (optimal_paragraph_best.j1 (k + 1) y0 y1 y2 y3 y4 y5 y6 y7 y8)) ∧ (∀ y0 y1 y2 y3 y4 y5 y6 y7 y8 y9, LeO (optimal_paragraph_best.l1 k y0 y1 y2 y3 y4 y5 y6 y7 y8 y9) (optimal_paragraph_best.l1 (k + 1) y0 y1 y2 y3 y4 y5 y6 y7 y8 y9)) ∧ (∀ y0 y1 y2 y3 y4 y5 y6 y7 y8 y9 y10 y11 y12 y13, LeO (optimal_paragraph_best.j3 k y0 y1 y2 y3 y4 y5 y6 y7 y8 y9 y10 y11 y12 y13) (optimal_paragraph_best.j3 (k + 1) y0 y1 y2 y3 y4 y5 y6 y7 y8 y9 y10 y11 y12 y13)) ∧ (∀ y0 y1 y2 y3 y4 y5 y6 y7 y8 y9 y10 y11 y12, LeO (optimal_paragraph_best.j4 k y0 y1 y2 y3 y4 y5 y6 y7 y8 y9 y10 y11 y12) (optimal_paragraph_best.j4 (k + 1) y0 y1 y2 y3 y4 y5 y6 y7 y8 y9 y10 y11 y12))
 | 0 => ⟨fun _ _ _ _ _ _ _ _ r h => by simp [optimal_paragraph_best.l0] at h, fun _ _ _ _ _ _ _ _ _ r h => by simp [optimal_paragraph_best.j1] at h, fun _ _ _ _ _ _ _ _ _ _ r h => by simp [optimal_paragraph_best.l1] at h, fun _ _ _ _ _ _ _ _ _ _ _ _ _ _ r h => by simp [optimal_paragraph_best.j3] at h, fun _ _ _ _ _ _ _ _ _ _ _ _ _ r h => by simp [optimal_paragraph_best.j4] at h⟩
 | k + 1 => by
  obtain ⟨ih0, ih1, ih2, ih3, ih4⟩ := optimal_paragraph_best.mono_l k
  refine ⟨?_, ?_, ?_, ?_, ?_⟩
  ·intro y0 y1 y2 y3 y4 y5 y6 y7
   unfold optimal_paragraph_best.l0
   repeat' first
   | (with_reducible exact ih0 _ _ _ _ _ _ _ _)
   | (with_reducible exact ih1 _ _ _ _ _ _ _ _ _)
   | (with_reducible exact ih2 _ _ _ _ _ _ _ _ _ _)
   | (with_reducible exact ih3 _ _ _ _ _ _ _ _ _ _ _ _ _ _)
   | (with_reducible exact ih4 _ _ _ _ _ _ _ _ _ _ _ _ _)
   | (with_reducible exact optimal_paragraph_fit.mono _ _ _ _ _ _ _)
   | (with_reducible exact LeO.refl _)
   | (with_reducible exact LeO.none _)
   | (with_reducible refine LeO.ite ?_ ?_)
   | (with_reducible refine LeO.bind ?_ (fun _ => ?_))
   | exact ih0 _ _ _ _ _ _ _ _
   | exact ih1 _ _ _ _ _ _ _ _ _
   | exact ih2 _ _ _ _ _ _ _ _ _ _
   | exact ih3 _ _ _ _ _ _ _ _ _ _ _ _ _ _
   | exact ih4 _ _ _ _ _ _ _ _ _ _ _ _ _
   | exact optimal_paragraph_fit.mono _ _ _ _ _ _ _
   | exact LeO.none _
   | refine LeO.ite ?_ ?_
   | refine LeO.bind ?_ (fun _ => ?_)
  ·intro y0 y1 y2 y3 y4 y5 y6 y7 y8
   unfold optimal_paragraph_best.j1
   repeat' first
   | (with_reducible exact ih0 _ _ _ _ _ _ _ _)
   | (with_reducible exact ih1 _ _ _ _ _ _ _ _ _)
   | (with_reducible exact ih2 _ _ _ _ _ _ _ _ _ _)
   | (with_reducible exact ih3 _ _ _ _ _ _ _ _ _ _ _ _ _ _)
   | (with_reducible exact ih4 _ _ _ _ _ _ _ _ _ _ _ _ _)
   | (with_reducible exact optimal_paragraph_fit.mono _ _ _ _ _ _ _)
   | (with_reducible exact LeO.refl _)
   | (with_reducible exact LeO.none _)
   | (with_reducible refine LeO.ite ?_ ?_)
   | (with_reducible refine LeO.bind ?_ (fun _ => ?_))
   | exact ih0 _ _ _ _ _ _ _ _
   | exact ih1 _ _ _ _ _ _ _ _ _
   | exact ih2 _ _ _ _ _ _ _ _ _ _
   | exact ih3 _ _ _ _ _ _ _ _ _ _ _ _ _ _
   | exact ih4 _ _ _ _ _ _ _ _ _ _ _ _ _
   | exact optimal_paragraph_fit.mono _ _ _ _ _ _ _
   | exact LeO.none _
   | refine LeO.ite ?_ ?_
   | refine LeO.bind ?_ (fun _ => ?_)
  ·intro y0 y1 y2 y3 y4 y5 y6 y7 y8 y9
   unfold optimal_paragraph_best.l1
   repeat' first
   | (with_reducible exact ih0 _ _ _ _ _ _ _ _)
   | (with_reducible exact ih1 _ _ _ _ _ _ _ _ _)
   | (with_reducible exact ih2 _ _ _ _ _ _ _ _ _ _)
   | (with_reducible exact ih3 _ _ _ _ _ _ _ _ _ _ _ _ _ _)
   | (with_reducible exact ih4 _ _ _ _ _ _ _ _ _ _ _ _ _)
   | (with_reducible exact optimal_paragraph_fit.mono _ _ _ _ _ _ _)
   | (with_reducible exact LeO.refl _)
   | (with_reducible exact LeO.none _)
   | (with_reducible refine LeO.ite ?_ ?_)
   | (with_reducible refine LeO.bind ?_ (fun _ => ?_))
   | exact ih0 _ _ _ _ _ _ _ _
   | exact ih1 _ _ _ _ _ _ _ _ _
   | exact ih2 _ _ _ _ _ _ _ _ _ _
   | exact ih3 _ _ _ _ _ _ _ _ _ _ _ _ _ _
   | exact ih4 _ _ _ _ _ _ _ _ _ _ _ _ _
   | exact optimal_paragraph_fit.mono _ _ _ _ _ _ _
   | exact LeO.none _
   | refine LeO.ite ?_ ?_
   | refine LeO.bind ?_ (fun _ => ?_)
  ·intro y0 y1 y2 y3 y4 y5 y6 y7 y8 y9 y10 y11 y12 y13
   unfold optimal_paragraph_best.j3
   repeat' first
   | (with_reducible exact ih0 _ _ _ _ _ _ _ _)
   | (with_reducible exact ih1 _ _ _ _ _ _ _ _ _)
   | (with_reducible exact ih2 _ _ _ _ _ _ _ _ _ _)
   | (with_reducible exact ih3 _ _ _ _ _ _ _ _ _ _ _ _ _ _)
   | (with_reducible exact ih4 _ _ _ _ _ _ _ _ _ _ _ _ _)
   | (with_reducible exact optimal_paragraph_fit.mono _ _ _ _ _ _ _)
   | (with_reducible exact LeO.refl _)
   | (with_reducible exact LeO.none _)
   | (with_reducible refine LeO.ite ?_ ?_)
   | (with_reducible refine LeO.bind ?_ (fun _ => ?_))
   | exact ih0 _ _ _ _ _ _ _ _
   | exact ih1 _ _ _ _ _ _ _ _ _
   | exact ih2 _ _ _ _ _ _ _ _ _ _
   | exact ih3 _ _ _ _ _ _ _ _ _ _ _ _ _ _
   | exact ih4 _ _ _ _ _ _ _ _ _ _ _ _ _
   | exact optimal_paragraph_fit.mono _ _ _ _ _ _ _
   | exact LeO.none _
   | refine LeO.ite ?_ ?_
   | refine LeO.bind ?_ (fun _ => ?_)
  ·intro y0 y1 y2 y3 y4 y5 y6 y7 y8 y9 y10 y11 y12
   unfold optimal_paragraph_best.j4
   repeat' first
   | (with_reducible exact ih0 _ _ _ _ _ _ _ _)
   | (with_reducible exact ih1 _ _ _ _ _ _ _ _ _)
   | (with_reducible exact ih2 _ _ _ _ _ _ _ _ _ _)
   | (with_reducible exact ih3 _ _ _ _ _ _ _ _ _ _ _ _ _ _)
   | (with_reducible exact ih4 _ _ _ _ _ _ _ _ _ _ _ _ _)
   | (with_reducible exact optimal_paragraph_fit.mono _ _ _ _ _ _ _)
   | (with_reducible exact LeO.refl _)
   | (with_reducible exact LeO.none _)
   | (with_reducible refine LeO.ite ?_ ?_)
   | (with_reducible refine LeO.bind ?_ (fun _ => ?_))
   | exact ih0 _ _ _ _ _ _ _ _
   | exact ih1 _ _ _ _ _ _ _ _ _
   | exact ih2 _ _ _ _ _ _ _ _ _ _
   | exact ih3 _ _ _ _ _ _ _ _ _ _ _ _ _ _
   | exact ih4 _ _ _ _ _ _ _ _ _ _ _ _ _
   | exact optimal_paragraph_fit.mono _ _ _ _ _ _ _
   | exact LeO.none _
   | refine LeO.ite ?_ ?_
   | refine LeO.bind ?_ (fun _ => ?_)
theorem optimal_paragraph_best.mono : ∀ a0 a1 a2 a3 a4 a5 k, LeO (optimal_paragraph_best.f k a0 a1 a2 a3 a4 a5) (optimal_paragraph_best.f (k + 1) a0 a1 a2 a3 a4 a5) := by
 intro a0 a1 a2 a3 a4 a5 k
 obtain ⟨ih0, ih1, ih2, ih3, ih4⟩ := optimal_paragraph_best.mono_l k
 unfold optimal_paragraph_best.f
 repeat' first
   | (with_reducible exact ih0 _ _ _ _ _ _ _ _)
   | (with_reducible exact ih1 _ _ _ _ _ _ _ _ _)
   | (with_reducible exact ih2 _ _ _ _ _ _ _ _ _ _)
   | (with_reducible exact ih3 _ _ _ _ _ _ _ _ _ _ _ _ _ _)
   | (with_reducible exact ih4 _ _ _ _ _ _ _ _ _ _ _ _ _)
   | (with_reducible exact optimal_paragraph_fit.mono _ _ _ _ _ _ _)
   | (with_reducible exact LeO.refl _)
   | (with_reducible exact LeO.none _)
   | (with_reducible refine LeO.ite ?_ ?_)
   | (with_reducible refine LeO.bind ?_ (fun _ => ?_))
   | exact ih0 _ _ _ _ _ _ _ _
   | exact ih1 _ _ _ _ _ _ _ _ _
   | exact ih2 _ _ _ _ _ _ _ _ _ _
   | exact ih3 _ _ _ _ _ _ _ _ _ _ _ _ _ _
   | exact ih4 _ _ _ _ _ _ _ _ _ _ _ _ _
   | exact optimal_paragraph_fit.mono _ _ _ _ _ _ _
   | exact LeO.none _
   | refine LeO.ite ?_ ?_
   | refine LeO.bind ?_ (fun _ => ?_)
def optimal_paragraph_best.T15 : Bool × List (List Nat × List Nat) := (true, [([], []), ([], []), ([], []), ([], []), ([3], [3]), ([0, 1, 2, 4], [0, 1, 2, 4]), ([], []), ([], []), ([7], [7]), ([6, 8], [6, 8]), ([9], [9]), ([10], [10]), ([5, 11], [5, 11]), ([12, 5, 0, 1, 2, 3, 4, 5, 6, 7, 8, 9, 10, 11, 12], [12])])
def optimal_paragraph_best.B15 : List Nat := [0, 0, 0, 0, 8, 31, 0, 0, 128, 448, 960, 1984, 4095, 8191]
theorem optimal_paragraph_best.tab15 : rtab .any (opsOf Try.f30 15) = optimal_paragraph_best.T15 := by kernel_rfl
theorem optimal_paragraph_best.bits15 : waitsOk optimal_paragraph_best.T15.2 optimal_paragraph_best.B15 = true := by kernel_rfl
set_option maxHeartbeats 8000000 in
set_option maxRecDepth 100000 in
theorem optimal_paragraph_best.calls (k : Nat) (g : Nat) (s0_0 : List (S31)) (s0_1 : List (S81)) (s0_2 : List Int) (s0_3 : Int) (A1 : Option Addr) (c1 : Nat) (l1 : List Int) (a2 : Int) (r1 : List (S59)) (r2 : Int) (w0 w : World) (hI : IsS79 w0 w g s0_0 s0_1 s0_2 s0_3) (hB : Below w0.heap.size w0 w) (hr1 : Kd.C (Kd.int .i64) w A1 l1.length l1) (hc1 : l1.length ≤ c1) (hf1 : ∀ ad, A1 = some ad → 0 < l1.length → ad.block ≠ g) (h : optimal_paragraph_best.f k s0_0 s0_1 s0_2 s0_3 l1 a2 = some (r1, r2)) :
  Calls Try.prog 30 #[.pointer (some ⟨g, 0, none⟩), .slice A1 l1.length c1, .int .i64 a2] w fun e w' => ∃ v0_ : Value, e = .returned (v0_) ∧ Kd.R k59 59 w' w.heap.size (fun _ => True) v0_ r1 ∧ IsS79 w0 w' g s0_0 s0_1 s0_2 r2 ∧ Below w0.heap.size w0 w' ∧ KeepBut w w' g none := by
 have hu73 := Try.underlying73
 have hu59 := Try.underlying59
 have HR1 := Aside0.mk hr1
 have HC1 := Aside0.mk hc1
 clear hr1 hc1
 have HI0 := Aside0.mk hI
 have HK := Aside0.mk (KeepBut.refl w g none)
 have HL := Aside0.mk hB.size
 clear hI
 have HW0 := Aside0.mk hB.size
 have HB := Aside0.mk hB
 clear hB
 have H : (if 0 ≤ (wrap64 ((l1.length : Int) + 1)) then (if (wrap64 ((l1.length : Int) + 1) : Int).toNat ≤ 11728124029610 then ((some (List.replicate (wrap64 ((l1.length : Int) + 1) : Int).toNat z59 : List (S59))).bind fun y429 => (if 0 ≤ (l1.length : Int) then (if (l1.length : Int) < (y429.length : Int) then (optimal_paragraph_best.l0 k l1 a2 (y429.set ((l1.length : Int) : Int).toNat (⟨(rd_T59 y429 (l1.length : Int)).f0, (rd_T59 y429 (l1.length : Int)).f1, true⟩ : S59)) (wrap64 ((l1.length : Int) - 1)) s0_0 s0_1 s0_2 s0_3) else (none)) else (none))) else (none)) else (none)) = some (r1, r2) := h
 clear h
 obtain ⟨ji4, hji4⟩ : ∃ j_ : Int, (wrap64 ((l1.length : Int) + 1)) = j_ := ⟨_, rfl⟩
 replace H : (if 0 ≤ (ji4) then (if (ji4 : Int).toNat ≤ 11728124029610 then ((some (List.replicate (ji4 : Int).toNat z59 : List (S59))).bind fun y429 => (if 0 ≤ (l1.length : Int) then (if (l1.length : Int) < (y429.length : Int) then (optimal_paragraph_best.l0 k l1 a2 (y429.set ((l1.length : Int) : Int).toNat (⟨(rd_T59 y429 (l1.length : Int)).f0, (rd_T59 y429 (l1.length : Int)).f1, true⟩ : S59)) (wrap64 ((l1.length : Int) - 1)) s0_0 s0_1 s0_2 s0_3) else (none)) else (none))) else (none)) else (none)) = some (r1, r2) := by first | (rw [hji4] at H; exact H) | (simp only [hji4] at H ⊢; exact H)
 have hji4w : (IntKind.i64.wrap ((l1.length : Int) + 1)) = ji4 := (i64_w _).trans hji4
 by_cases c5 : 0 ≤ (ji4)
 ·rw [if_pos c5] at H
  have c5b0 := eq_true c5
  have c5b1 : decide (0 ≤ (ji4)) = true := decide_eq_true c5
  clear c5
  by_cases c6 : (ji4 : Int).toNat ≤ 11728124029610
  ·rw [if_pos c6] at H
   have c6b0 := eq_true c6
   have c6b1 : decide ((ji4 : Int).toNat ≤ 11728124029610) = true := decide_eq_true c6
   clear c6
   obtain ⟨y429, hy429⟩ : ∃ y_ : List (S59), y_ = (List.replicate (ji4 : Int).toNat z59) := ⟨_, rfl⟩
   replace H : (if 0 ≤ (l1.length : Int) then (if (l1.length : Int) < (y429.length : Int) then (optimal_paragraph_best.l0 k l1 a2 (y429.set ((l1.length : Int) : Int).toNat (⟨(rd_T59 y429 (l1.length : Int)).f0, (rd_T59 y429 (l1.length : Int)).f1, true⟩ : S59)) (wrap64 ((l1.length : Int) - 1)) s0_0 s0_1 s0_2 s0_3) else (none)) else (none)) = some (r1, r2) := by first | (rw [hy429]; with_reducible exact H) | (have H2_ := (Option.bind_some _ _).symm.trans H; rw [hy429]; with_reducible exact H2_) | (have H2_ := (Option.bind_some _ _).symm.trans H; with_reducible exact H2_) | with_reducible exact H | (rw [hy429]; exact H) | exact H
   have Ny429 := Aside0.mk hy429
   clear hy429
   by_cases c7 : 0 ≤ (l1.length : Int)
   ·rw [if_pos c7] at H
    have c7b0 : decide (0 ≤ (l1.length : Int)) = true := decide_eq_true c7
    have c7b1 : decide (0 ≤ l1.length) = true := decide_eq_true (by omega)
    clear c7
    by_cases c8 : (l1.length : Int) < (y429.length : Int)
    ·rw [if_pos c8] at H
     have c8b0 : decide ((l1.length : Int) < (y429.length : Int)) = true := decide_eq_true c8
     have c8b1 : decide (l1.length < y429.length) = true := decide_eq_true (Int.ofNat_lt.mp c8)
     clear c8
     obtain ⟨y432, hy432⟩ : ∃ y_ : List (S59), y_ = (y429.set ((l1.length : Int) : Int).toNat (⟨(rd_T59 y429 (l1.length : Int)).f0, (rd_T59 y429 (l1.length : Int)).f1, true⟩ : S59)) := ⟨_, rfl⟩
     replace H : (optimal_paragraph_best.l0 k l1 a2 y432 (wrap64 ((l1.length : Int) - 1)) s0_0 s0_1 s0_2 s0_3) = some (r1, r2) := by first | (rw [hy432]; with_reducible exact H) | (have H2_ := (Option.bind_some _ _).symm.trans H; rw [hy432]; with_reducible exact H2_) | (have H2_ := (Option.bind_some _ _).symm.trans H; with_reducible exact H2_) | with_reducible exact H | (rw [hy432]; exact H) | exact H
     have Ny432 := Aside0.mk hy432
     clear hy432
     have H' := Aside0.mk H
     clear H
     go_enter Try.func30, Try.ntmps30
     go_wp2_with (first | ((with_reducible refine gate_dst (N := 18) rfl ?_); refine Kd.R_make k59 _ 59 rfl (N := 18) rfl 56 _ _ rfl ji4 rfl rfl Try.underlying56 (.agg #[(.int .i64 0), (.int .i64 0), (.bool false)]) 24 info59 rfl (by decide) (by omega) z59 (ok := fun _ => True) (okp := fun _ => True) (k59_mkM _ _ _ z59 ) (fun _ hk => hk) trivial (odt) (Nat.le_trans (Nat.mul_le_mul_right _ (odt : ji4.toNat ≤ 11728124029610)) (by omega)) (Below.refl _ _) (Nat.le_refl _) ?_; intro v430 w10 ho11 hb hg_ hnew_; clear hg_ hnew_; (first | rw [← Ny429.out] at ho11 | (simp only [Int.reduceToNat] at ho11; rw [← Ny429.out] at ho11)); have n0_ := Aside0.mk (Kd.R_lower ho11 (keep_size (w := w) (g := g) (row := none) (by repeat (first | (with_reducible first | exact HK.out | apply KeepBut.set_ | apply keep_drewN | apply keep_drew | apply keep_alloc) | exact HK.out)))); have n1_ := Aside0.mk (IsS79.below (by repeat (first | (with_reducible first | exact HI0.out | apply IsS79.alloc | apply IsS79.drewN | apply IsS79.drew | apply IsS79.set_3) | exact HI0.out)) hb); have n2_ := Aside0.mk (KeepBut.trans (by repeat (first | (with_reducible first | exact HK.out | apply KeepBut.set_ | apply keep_drewN | apply keep_drew | apply keep_alloc) | exact HK.out)) (KeepBut.of_below hb g none) (.inl rfl)); have n3_ := Aside0.mk (below_step (bs HB ⟨IsS79.ge HI0.out⟩) hb); clear HI0; clear HK; clear HB; have HO431 := n0_; have HI0 := n1_; have HK := n2_; have HB := n3_; clear n0_ n1_ n2_ n3_; clear hb ho11; have p9 : 0 ≤ ((l1.length : Int) : Int) := odt; have q9 : ((l1.length : Int) : Int) < ((y429.length : Int) : Int) := odt; obtain ⟨go9, co9, eo9, gb9, gl9, cl9, HG9⟩ := Kd.R_form HO431.out (by omega); (first | cases eo9 | (injection eo9 with ea_ en_ ec_; (first | subst ea_ | (injection ea_ with ea_; subst ea_)); subst ec_; clear en_)); have GB9 := Aside0.mk gb9; have GG9 := Aside0.mk HG9; clear gb9 gl9 HG9; obtain ⟨ce9, hcl9, hM9, hcc9, hfr9⟩ := Kd.R_elem HO431.out z59 ((l1.length : Int) : Int) p9 q9; obtain rfl := k59_openM hM9; have hx9_0 : w10.cell? ⟨go9, l1.length * 3, none⟩ = some (.int .i64 ((rd_T59 y429 (l1.length : Int)).f0)) := hcc9 0 _ rfl; have hx9_1 : w10.cell? ⟨go9, l1.length * 3 + 1, none⟩ = some (.int .i64 ((rd_T59 y429 (l1.length : Int)).f1)) := hcc9 1 _ rfl; have hx9_2 : w10.cell? ⟨go9, l1.length * 3 + 2, none⟩ = some (.bool ((rd_T59 y429 (l1.length : Int)).f2)) := hcc9 2 _ rfl; have hf9_0 : w10.frozen? ⟨go9, l1.length * 3, none⟩ = false := hfr9 0; have hf9_1 : w10.frozen? ⟨go9, l1.length * 3 + 1, none⟩ = false := hfr9 1; have hf9_2 : w10.frozen? ⟨go9, l1.length * 3 + 2, none⟩ = false := hfr9 2; clear hcl9 hcc9 hfr9 hM9; replace p9 := eq_true p9; replace q9 := eq_true q9; have HX12 := Aside0.mk (show Kd.R k59 59 w10 w.heap.size (fun _ => True) (.slice (some ⟨go9, 0, none⟩) y429.length co9) y429 from (by (with_reducible repeat (first | apply Kd.R_alloc | apply Kd.R_drewN | apply Kd.R_drew)); exact HO431.out)); obtain ⟨ce12, hcl12, hM12, hcc12, hfr12⟩ := Kd.R_elem HX12.out z59 ((l1.length : Int) : Int) (odt) (by have h_ : ((l1.length : Int) : Int) < ((y429.length : Int) : Int) := odt; first | exact h_ | (have e_ := (Kd.R_reads' HO431.out).1; omega) | simpa using h_); obtain rfl := k59_openM hM12; have HP12 := Kd.R_seg HX12.out ((l1.length : Int) : Int) (odt) (by have h_ : ((l1.length : Int) : Int) < ((y429.length : Int) : Int) := odt; first | exact h_ | (have e_ := (Kd.R_reads' HO431.out).1; omega) | simpa using h_) (seg := [.bool true]) (j := 2) hcl12 hcc12 (show 3 ≤ 3 from by decide) (x' := (⟨(rd_T59 y429 (l1.length : Int)).f0, (rd_T59 y429 (l1.length : Int)).f1, true⟩ : S59)) (k59_mkM _ _ _ (⟨(rd_T59 y429 (l1.length : Int)).f0, (rd_T59 y429 (l1.length : Int)).f1, true⟩ : S59) ) (fun _ hk => hk); have hx12_2 := hcc12 2 _ rfl; (try simp only [show (k59).sz = 3 from rfl, Nat.mul_one, Nat.add_zero, Int.toNat_natCast] at hx12_2); have hf12_2 := hfr12 2; (try simp only [show (k59).sz = 3 from rfl, Nat.mul_one, Nat.add_zero, Int.toNat_natCast] at hf12_2); clear hcl12 hcc12 hfr12 hM12) | ((with_reducible refine gate_store (t := 4) (p := 23) rfl ?_); refine store_event (t := 4) (p := 23) (v := ?vo_w13) (w1 := (w10.setCell ⟨go9, l1.length * 3 + 2, none⟩ (.bool true))) ?hg ?ho ?hn ?hr ?_; (case ho => rfl); (case hg => rfl); (case hn => rfl); (case hr => first | (go_simp; done) | (go_simp; rfl)); intro w13 hw; have hg : w10.grownBy w13 (some go9) := (by rw [hw]; exact HP12.2); have hp_ : Kd.R k59 59 w13 w.heap.size (fun _ => True) (.slice (some ⟨go9, 0, none⟩) y429.length co9) y432 := (by rw [hw, Ny432.out]; exact HP12.1); clear HP12; have n0_ := Aside0.mk (IsS79.grown (by repeat (first | (with_reducible first | exact HI0.out | apply IsS79.alloc | apply IsS79.drewN | apply IsS79.drew | apply IsS79.set_3) | exact HI0.out)) hg (IsS79.own_ne HI0.out HO431.out (by decide))); have n1_ := Aside0.mk (hp_); have n2_ := Aside0.mk ((by rw [hw]; exact below_set (HB.out) (Nat.le_trans HL.out GB9.out) : Below w0.heap.size w0 w13)); have n3_ := Aside0.mk (KeepBut.trans (by repeat (first | (with_reducible first | exact HK.out | apply KeepBut.set_ | apply keep_drewN | apply keep_drew | apply keep_alloc) | exact HK.out)) (KeepBut.of_grown hg g) (Kd.R_base2 HO431.out)); clear HI0; clear HO431; clear HB; clear HK; have HI0 := n0_; have HO431 := n1_; have HB := n2_; have HK := n3_; clear n0_ n1_ n2_ n3_; clear hg hw hp_))
     go_loopg [8] k (fun kq v8 w' => ∃ (x7_1 : List (S59)) (x8_1 : Int) (x1003_1 : Int), v8 = .int .i64 x8_1 ∧ Aside0 (optimal_paragraph_best.l0 kq l1 a2 x7_1 x8_1 s0_0 s0_1 s0_2 x1003_1 = some (r1, r2)) ∧ Aside0 (kq ≤ k) ∧ Aside0 (Kd.R k59 59 w' w.heap.size (fun _ => True) (.slice (some ⟨go9, 0, none⟩) y429.length co9) x7_1) ∧ Aside0 (IsS79 w0 w' g s0_0 s0_1 s0_2 x1003_1) ∧ Aside0 (KeepBut w w' g none) ∧ Aside0 (Below w0.heap.size w0 w'))
     case atStart => exact ⟨(y432), (wrap64 ((l1.length : Int) - 1)), (s0_3), (by first | rfl | (simp; done) | (simp [*]; done)), H', ⟨Nat.le_refl _⟩, ⟨by (with_reducible repeat (first | apply Kd.R_alloc | apply Kd.R_drewN | apply Kd.R_drew)); exact HO431.out⟩, ⟨by repeat (first | (with_reducible first | exact HI0.out | apply IsS79.alloc | apply IsS79.drewN | apply IsS79.drew | apply IsS79.set_3) | exact HI0.out)⟩, ⟨by repeat (first | (with_reducible first | exact HK.out | apply KeepBut.set_ | apply keep_drewN | apply keep_drew | apply keep_alloc) | exact HK.out)⟩, ⟨bs HB ⟨IsS79.ge HI0.out⟩⟩⟩
     case round =>
      clear H'
      try clear c1
      try clear hx1
      try clear p2
      try clear c3
      try clear c5
      try clear c5b0
      try clear c5b1
      try clear c6
      try clear c6b0
      try clear c6b1
      try clear p6
      try clear c7
      try clear c7b0
      try clear c7b1
      try clear c8
      try clear c8b0
      try clear c8b1
      try clear c9
      try clear p9
      try clear q9
      try clear hx9
      try clear hf9
      try clear c12
      try clear hx12
      try clear hf12
      try clear hx12_2
      try clear hx9_0
      try clear hx9_1
      try clear hx9_2
      try clear p9
      try clear q9
      obtain ⟨x7_1, x8_1, x1003_1, rfl, HA, HK1, HO_7, HI0, HK, HB⟩ := hrel
      have hl7_1 := (Kd.R_reads' HO_7.out).1
      rw [hl7_1] at HO_7
      (try simp only [hl7_1])
      cases gk with
      | zero => exact absurd HA.out (by simp [optimal_paragraph_best.l0])
      | succ k1 =>
       have H := HA.out
       clear HA
       simp only [optimal_paragraph_best.l0] at H
       by_cases c14 : x8_1 ≥ 0
       ·rw [if_pos c14] at H
        have c14b0 : decide (0 ≤ x8_1) = true := decide_eq_true c14
        clear c14
        have HC15 := Aside0.mk H
        clear H
        go_upto_if 32 with (fail)
        go_cut [9] (fun v9 wc => ∃ (kq : Nat) (x9_14 : Int), v9 = .int .i64 x9_14 ∧ Aside0 (optimal_paragraph_best.j1 kq l1 a2 x7_1 x8_1 x9_14 s0_0 s0_1 s0_2 x1003_1 = some (r1, r2)) ∧ Aside0 (kq ≤ k1) ∧ Aside0 (Kd.R k59 59 wc w.heap.size (fun _ => True) (.slice (some ⟨go9, 0, none⟩) x7_1.length co9) x7_1) ∧ Aside0 (IsS79 w0 wc g s0_0 s0_1 s0_2 x1003_1) ∧ Aside0 (KeepBut w wc g none) ∧ Aside0 (Below w0.heap.size w0 wc))
        case first =>
         have H := HC15.out
         clear HC15
         by_cases c16 : x8_1 > 0
         ·rw [if_pos c16] at H
          have c16b0 : decide (0 < x8_1) = true := decide_eq_true c16
          clear c16
          (first | rw [c16b0] | (simp only [i64_w, i32_w]; rw [c16b0]) | skip)
          obtain ⟨ji17, hji17⟩ : ∃ j_ : Int, (wrap64 (x8_1 - 1)) = j_ := ⟨_, rfl⟩
          replace H : (if 0 ≤ (ji17) then (if (ji17) < (l1.length : Int) then (optimal_paragraph_best.j1 k1 l1 a2 x7_1 x8_1 (rd l1 (ji17)) s0_0 s0_1 s0_2 x1003_1) else (none)) else (none)) = some (r1, r2) := by first | (rw [hji17] at H; exact H) | (simp only [hji17] at H ⊢; exact H)
          have hji17w : (IntKind.i64.wrap (x8_1 - 1)) = ji17 := (i64_w _).trans hji17
          by_cases c18 : 0 ≤ (ji17)
          ·rw [if_pos c18] at H
           have c18b0 : decide (0 ≤ (ji17)) = true := decide_eq_true c18
           clear c18
           by_cases c19 : (ji17) < (l1.length : Int)
           ·rw [if_pos c19] at H
            have c19b0 : decide ((ji17) < (l1.length : Int)) = true := decide_eq_true c19
            clear c19
            have H' := Aside0.mk H
            clear H
            have p433 : 0 ≤ ((ji17) : Int) := odt
            have q433 : (ji17) < (l1.length : Int) := odt
            obtain ⟨ad433, e433, hx433_0⟩ := Kd.at_int HR1.out (ji17) p433 q433
            cases e433
            replace hx433_0 := keep_cell HK.out hx433_0 (by first | (rw [add_block]; exact hf1 _ rfl (by omega)) | exact hf1 _ rfl (by omega) | exact hf1 ad433 rfl (by omega))
            replace p433 := eq_true p433
            replace q433 := eq_true q433
            go_wp2
            go_meet
            case rel => exact ⟨_, (rd l1 (ji17)), (by first | rfl | (simp; done) | (simp only [← hji17] <;> (first | rfl | simp)) | (simp [*]; done)), H', ⟨by have := HK1.out; first | omega | exact Nat.le_refl _⟩, ⟨by (try simp only [hl7_1]); (with_reducible repeat (first | apply Kd.R_alloc | apply Kd.R_drewN | apply Kd.R_drew)); exact HO_7.out⟩, ⟨by repeat (first | (with_reducible first | exact HI0.out | apply IsS79.alloc | apply IsS79.drewN | apply IsS79.drew | apply IsS79.set_3) | exact HI0.out)⟩, ⟨by repeat (first | (with_reducible first | exact HK.out | apply KeepBut.set_ | apply keep_drewN | apply keep_drew | apply keep_alloc) | exact HK.out)⟩, ⟨bs HB ⟨IsS79.ge HI0.out⟩⟩⟩
           ·rw [if_neg c19] at H
            exact absurd H (by simp)
          ·rw [if_neg c18] at H
           exact absurd H (by simp)
         ·rw [if_neg c16] at H
          have c16b0 : decide (0 < x8_1) = false := decide_eq_false c16
          clear c16
          (first | rw [c16b0] | (simp only [i64_w, i32_w]; rw [c16b0]) | skip)
          have H' := Aside0.mk H
          clear H
          go_wp2
          go_meet
          case rel => exact ⟨_, ((-1)), (by first | rfl | (simp; done) | (simp [*]; done)), H', ⟨by have := HK1.out; first | omega | exact Nat.le_refl _⟩, ⟨by (try simp only [hl7_1]); (with_reducible repeat (first | apply Kd.R_alloc | apply Kd.R_drewN | apply Kd.R_drew)); exact HO_7.out⟩, ⟨by repeat (first | (with_reducible first | exact HI0.out | apply IsS79.alloc | apply IsS79.drewN | apply IsS79.drew | apply IsS79.set_3) | exact HI0.out)⟩, ⟨by repeat (first | (with_reducible first | exact HK.out | apply KeepBut.set_ | apply keep_drewN | apply keep_drew | apply keep_alloc) | exact HK.out)⟩, ⟨bs HB ⟨IsS79.ge HI0.out⟩⟩⟩
        case rest =>
         clear HC15
         try clear c1
         try clear hx1
         try clear p2
         try clear c3
         try clear p4
         try clear q4
         try clear hx4
         try clear c5
         try clear c5b0
         try clear c5b1
         try clear c6
         try clear c6b0
         try clear c6b1
         try clear p6
         try clear c7
         try clear c7b0
         try clear c7b1
         try clear c8
         try clear c8b0
         try clear c8b1
         try clear c9
         try clear p9
         try clear q9
         try clear hx9
         try clear hf9
         try clear c12
         try clear hx12
         try clear hf12
         try clear c14
         try clear c14b0
         try clear c16
         try clear c16b0
         try clear c18
         try clear c18b0
         try clear c19
         try clear c19b0
         try clear hx12_2
         try clear hx433_0
         try clear hx9_0
         try clear hx9_1
         try clear hx9_2
         try clear p2
         try clear p433
         try clear p6
         try clear p9
         try clear q433
         try clear q9
         obtain ⟨kq, x9_14, rfl, HA, HJ14, HO_7, HI0, HK, HB⟩ := hcut
         cases kq with
         | zero => exact absurd HA.out (by simp [optimal_paragraph_best.j1])
         | succ kj14 =>
          have H := HA.out
          clear HA
          simp only [optimal_paragraph_best.j1] at H
          have H' := Aside0.mk H
          clear H
          go_wp2
          go_loopg [10] kj14 (fun kq v10 w' => ∃ (x7_3 : List (S59)) (x10_3 : Int) (x1003_3 : Int), v10 = .int .i64 x10_3 ∧ Aside0 (optimal_paragraph_best.l1 kq l1 a2 x7_3 x8_1 x9_14 x10_3 s0_0 s0_1 s0_2 x1003_3 = some (r1, r2)) ∧ Aside0 (kq ≤ kj14) ∧ Aside0 (Kd.R k59 59 w' w.heap.size (fun _ => True) (.slice (some ⟨go9, 0, none⟩) x7_1.length co9) x7_3) ∧ Aside0 (IsS79 w0 w' g s0_0 s0_1 s0_2 x1003_3) ∧ Aside0 (KeepBut w w' g none) ∧ Aside0 (Below w0.heap.size w0 w'))
          case atStart => exact ⟨(x7_1), (x8_1), (x1003_1), (by first | rfl | (simp; done) | (simp [*]; done)), H', ⟨Nat.le_refl _⟩, ⟨by (try simp only [hl7_1]); (with_reducible repeat (first | apply Kd.R_alloc | apply Kd.R_drewN | apply Kd.R_drew)); exact HO_7.out⟩, ⟨by repeat (first | (with_reducible first | exact HI0.out | apply IsS79.alloc | apply IsS79.drewN | apply IsS79.drew | apply IsS79.set_3) | exact HI0.out)⟩, ⟨by repeat (first | (with_reducible first | exact HK.out | apply KeepBut.set_ | apply keep_drewN | apply keep_drew | apply keep_alloc) | exact HK.out)⟩, ⟨bs HB ⟨IsS79.ge HI0.out⟩⟩⟩
          case round =>
           clear H'
           try clear c1
           try clear hx1
           try clear p2
           try clear c3
           try clear p4
           try clear q4
           try clear hx4
           try clear c5
           try clear c5b0
           try clear c5b1
           try clear c6
           try clear c6b0
           try clear c6b1
           try clear p6
           try clear c7
           try clear c7b0
           try clear c7b1
           try clear c8
           try clear c8b0
           try clear c8b1
           try clear c9
           try clear p9
           try clear q9
           try clear hx9
           try clear hf9
           try clear c12
           try clear hx12
           try clear hf12
           try clear c14
           try clear c14b0
           try clear c16
           try clear c16b0
           try clear c18
           try clear c18b0
           try clear c19
           try clear c19b0
           try clear hx12_2
           try clear hx433_0
           try clear hx9_0
           try clear hx9_1
           try clear hx9_2
           try clear p2
           try clear p4
           try clear p433
           try clear p6
           try clear p9
           try clear q4
           try clear q433
           try clear q9
           obtain ⟨x7_3, x10_3, x1003_3, rfl, HA, HK3, HO_7, HI0, HK, HB⟩ := hrel
           have hl7_3 := (Kd.R_reads' HO_7.out).1
           rw [hl7_3] at HO_7
           (try simp only [hl7_3])
           cases gk with
           | zero => exact absurd HA.out (by simp [optimal_paragraph_best.l1])
           | succ k3 =>
            have H := HA.out
            clear HA
            simp only [optimal_paragraph_best.l1] at H
            by_cases c20 : x10_3 < (l1.length : Int)
            ·rw [if_pos c20] at H
             have c20b0 : decide (x10_3 < (l1.length : Int)) = true := decide_eq_true c20
             clear c20
             by_cases c21 : 0 ≤ x10_3
             ·rw [if_pos c21] at H
              have c21b0 : decide (0 ≤ x10_3) = true := decide_eq_true c21
              clear c21
              replace H := Option.bind_eq_some_iff.mp H
              obtain ⟨⟨t435, t436, t437, t438⟩, A220, H⟩ := H
              replace H : (if t437 = true then (if t435 ≤ a2 then (if 0 ≤ (wrap64 (x10_3 + 1)) then (if (wrap64 (x10_3 + 1)) < (x7_3.length : Int) then (optimal_paragraph_best.j3 k3 l1 a2 x7_3 x8_1 x9_14 x10_3 (rd l1 x10_3) ((rd_T59 x7_3 (wrap64 (x10_3 + 1))).f2) s0_0 s0_1 s0_2 t438 t435 t436) else (none)) else (none)) else (optimal_paragraph_best.j3 k3 l1 a2 x7_3 x8_1 x9_14 x10_3 (rd l1 x10_3) false s0_0 s0_1 s0_2 t438 t435 t436)) else (optimal_paragraph_best.j3 k3 l1 a2 x7_3 x8_1 x9_14 x10_3 (rd l1 x10_3) false s0_0 s0_1 s0_2 t438 t435 t436)) = some (r1, r2) := H
              have A22 := Aside0.mk A220
              clear A220
              have HC23 := Aside0.mk H
              clear H
              have p434 : 0 ≤ (x10_3 : Int) := odt
              have q434 : x10_3 < (l1.length : Int) := odt
              obtain ⟨ad434, e434, hx434_0⟩ := Kd.at_int HR1.out x10_3 p434 q434
              cases e434
              replace hx434_0 := keep_cell HK.out hx434_0 (by first | (rw [add_block]; exact hf1 _ rfl (by omega)) | exact hf1 _ rfl (by omega) | exact hf1 ad434 rfl (by omega))
              replace p434 := eq_true p434
              replace q434 := eq_true q434
              go_upto_region 14 with (first | ((with_reducible refine gate_callee (f := 40) rfl ?_); refine goesL_ (some 53) rfl rfl Try.func40 (by kernel_rfl) rfl #[.pointer (some ⟨g, 0, none⟩), .int .i64 x9_14, .int .i64 (rd l1 x10_3)] rfl (by (try simp only [List.map_toArray, List.map_cons, List.map_nil]); first | done | rfl | (simp only [List.length_drop, List.length_take]; rfl)) ?_; (with_reducible refine (optimal_paragraph_fit.calls k3 g s0_0 s0_1 s0_2 x1003_3 x9_14 (rd l1 x10_3) t435 t436 t437 t438 w0 _ ?side1 ?side2 A22.out).mono ?_); (case side1 => repeat (first | (with_reducible first | exact HI0.out | apply IsS79.alloc | apply IsS79.drewN | apply IsS79.drew | apply IsS79.set_3) | exact HI0.out)); (case side2 => repeat (first | (with_reducible first | exact HB.out | apply below_alloc | apply pw_below_drewN | apply below_drew1 | refine below_set ?_ (IsS79.ge HI0.out)) | exact HB.out)); rintro e w24 ⟨rfl, hi, hb, hk⟩; refine ⟨_, rfl, ?_⟩; have n0_ := Aside0.mk (Kd.R_mono (Kd.R_keep (IsS79.apart (show IsS79 w0 _ g s0_0 s0_1 s0_2 x1003_3 from by repeat (first | (with_reducible first | exact HI0.out | apply IsS79.alloc | apply IsS79.drewN | apply IsS79.drew | apply IsS79.set_3) | exact HI0.out)) (rq HO_7) (by decide)) hk (fun _ h => h.2)) (fun _ h => h.1)); have n1_ := Aside0.mk (KeepBut.trans (by repeat (first | (with_reducible first | exact HK.out | apply KeepBut.set_ | apply keep_drewN | apply keep_drew | apply keep_alloc) | exact HK.out)) hk (.inl rfl)); have n2_ := Aside0.mk (hb); have n3_ := Aside0.mk (hi); clear HO_7; clear HK; clear HB; clear HI0; have HO_7 := n0_; have HK := n1_; have HB := n2_; have HI0 := n3_; clear n0_ n1_ n2_ n3_; (try clear hb); (try clear hb2); (try clear hk); (try clear hi)) | ((with_reducible refine gate_dst (N := 12) rfl ?_); refine box_event ?hg (N := 12) ?hd (cs := #[.int .i64 0, .int .i64 0]) (t := 73) ?hr ?_; (case hd => rfl); (case hg => rfl); (case hr => first | (go_simp; done) | (go_simp; rfl)); intro gb439 hg w25 hbox hb; have n0_ := Aside0.mk (Kd.R_below (rq HO_7) hb); have n1_ := Aside0.mk (IsS79.below (by repeat (first | (with_reducible first | exact HI0.out | apply IsS79.alloc | apply IsS79.drewN | apply IsS79.drew | apply IsS79.set_3) | exact HI0.out)) hb); have n2_ := Aside0.mk (KeepBut.trans (by repeat (first | (with_reducible first | exact HK.out | apply KeepBut.set_ | apply keep_drewN | apply keep_drew | apply keep_alloc) | exact HK.out)) (KeepBut.of_below hb g none) (.inl rfl)); have n3_ := Aside0.mk (below_step (bs HB ⟨IsS79.ge HI0.out⟩) hb); have n4_ := Aside0.mk (hbox); have n5_ := Aside0.mk ((by rw [hg]; exact (keep_size (w := w) (g := g) (row := none) (by repeat (first | (with_reducible first | exact HK.out | apply KeepBut.set_ | apply keep_drewN | apply keep_drew | apply keep_alloc) | exact HK.out))) : w.heap.size ≤ gb439)); have n6_ := Aside0.mk ((Nat.le_trans HW0.out (by rw [hg]; exact (keep_size (w := w) (g := g) (row := none) (by repeat (first | (with_reducible first | exact HK.out | apply KeepBut.set_ | apply keep_drewN | apply keep_drew | apply keep_alloc) | exact HK.out))) : w.heap.size ≤ gb439) : w0.heap.size ≤ gb439)); have n7_ := Aside0.mk ((by rw [hg]; exact Nat.ne_of_lt (IsS79.lt (show IsS79 w0 _ g s0_0 s0_1 s0_2 t438 from by repeat (first | (with_reducible first | exact HI0.out | apply IsS79.alloc | apply IsS79.drewN | apply IsS79.drew | apply IsS79.set_3) | exact HI0.out))) : g ≠ gb439)); have n8_ := Aside0.mk ((by rw [hg]; exact Nat.ne_of_gt (IsS79.lt (show IsS79 w0 _ g s0_0 s0_1 s0_2 t438 from by repeat (first | (with_reducible first | exact HI0.out | apply IsS79.alloc | apply IsS79.drewN | apply IsS79.drew | apply IsS79.set_3) | exact HI0.out))) : gb439 ≠ g)); clear HO_7; clear HI0; clear HK; clear HB; have HO_7 := n0_; have HI0 := n1_; have HK := n2_; have HB := n3_; have BK439 := n4_; have GW439 := n5_; have GE439 := n6_; have NB0_439 := n7_; have NB439_0 := n8_; clear n0_ n1_ n2_ n3_ n4_ n5_ n6_ n7_ n8_; clear hb hbox hg; have hnb26 := NB439_0.out; have hnc26 := NB0_439.out; have hcz27_0 : w25.cell? ⟨gb439, 0, none⟩ = some (.int .i64 0) := (blk_cell BK439.out 0).trans rfl; have hcz27_1 : w25.cell? ⟨gb439, 1, none⟩ = some (.int .i64 0) := (blk_cell BK439.out 1).trans rfl; have hfz27_0 := blk_frozen BK439.out 0; have hfz27_1 := blk_frozen BK439.out 1))
              (try simp only [Act.put, List.setIfInBounds_toArray, List.set_cons_zero, List.set_cons_succ])
              go_cut [70] (fun v70 wc => ∃ (kq : Nat) (x70_22 : Bool), v70 = .bool x70_22 ∧ Aside0 (optimal_paragraph_best.j3 kq l1 a2 x7_3 x8_1 x9_14 x10_3 (rd l1 x10_3) x70_22 s0_0 s0_1 s0_2 t438 t435 t436 = some (r1, r2)) ∧ Aside0 (kq ≤ k3) ∧ Aside0 (Kd.R k59 59 wc w.heap.size (fun _ => True) (.slice (some ⟨go9, 0, none⟩) x7_3.length co9) x7_3) ∧ Aside0 (wc.heap[gb439]? = some (.cells #[.int .i64 t435, .int .i64 t436] 73 (0, 0))) ∧ Aside0 (IsS79 w0 wc g s0_0 s0_1 s0_2 t438) ∧ Aside0 (KeepBut w wc g none) ∧ Aside0 (Below w0.heap.size w0 wc))
              case first =>
               have H := HC23.out
               clear HC23
               by_cases c28 : t437 = true
               ·subst c28
                have H1 : (if t435 ≤ a2 then (if 0 ≤ (wrap64 (x10_3 + 1)) then (if (wrap64 (x10_3 + 1)) < (x7_3.length : Int) then (optimal_paragraph_best.j3 k3 l1 a2 x7_3 x8_1 x9_14 x10_3 (rd l1 x10_3) ((rd_T59 x7_3 (wrap64 (x10_3 + 1))).f2) s0_0 s0_1 s0_2 t438 t435 t436) else (none)) else (none)) else (optimal_paragraph_best.j3 k3 l1 a2 x7_3 x8_1 x9_14 x10_3 (rd l1 x10_3) false s0_0 s0_1 s0_2 t438 t435 t436)) = some (r1, r2) := by rw [if_pos rfl] at H; exact H
                clear H
                have H := H1
                clear H1
                by_cases c29 : t435 ≤ a2
                ·rw [if_pos c29] at H
                 have c29b0 : decide (t435 ≤ a2) = true := decide_eq_true c29
                 clear c29
                 (first | rw [c29b0] | (simp only [i64_w, i32_w]; rw [c29b0]) | skip)
                 obtain ⟨ji30, hji30⟩ : ∃ j_ : Int, (wrap64 (x10_3 + 1)) = j_ := ⟨_, rfl⟩
                 replace H : (if 0 ≤ (ji30) then (if (ji30) < (x7_3.length : Int) then (optimal_paragraph_best.j3 k3 l1 a2 x7_3 x8_1 x9_14 x10_3 (rd l1 x10_3) ((rd_T59 x7_3 (ji30)).f2) s0_0 s0_1 s0_2 t438 t435 t436) else (none)) else (none)) = some (r1, r2) := by first | (rw [hji30] at H; exact H) | (simp only [hji30] at H ⊢; exact H)
                 have hji30w : (IntKind.i64.wrap (x10_3 + 1)) = ji30 := (i64_w _).trans hji30
                 by_cases c31 : 0 ≤ (ji30)
                 ·rw [if_pos c31] at H
                  have c31b0 : decide (0 ≤ (ji30)) = true := decide_eq_true c31
                  clear c31
                  by_cases c32 : (ji30) < (x7_3.length : Int)
                  ·rw [if_pos c32] at H
                   have c32b0 : decide ((ji30) < (x7_3.length : Int)) = true := decide_eq_true c32
                   clear c32
                   have H' := Aside0.mk H
                   clear H
                   have hnb33 := NB439_0.out
                   have hnc33 := NB0_439.out
                   have hcz34_0 : w25.cell? ⟨gb439, 0, none⟩ = some (.int .i64 0) := (blk_cell BK439.out 0).trans rfl
                   have hcz34_1 : w25.cell? ⟨gb439, 1, none⟩ = some (.int .i64 0) := (blk_cell BK439.out 1).trans rfl
                   have hfz34_0 := blk_frozen BK439.out 0
                   have hfz34_1 := blk_frozen BK439.out 1
                   have p440 : 0 ≤ ((ji30) : Int) := odt
                   have q440 : (ji30) < (x7_3.length : Int) := odt
                   obtain ⟨ad440, e440, hx440_0, hx440_1, hx440_2⟩ := at_T59 (Kd.R_reads' HO_7.out).2.2 (ji30) p440 q440
                   obtain rfl : (⟨go9, 0, none⟩ : Addr) = ad440 := (by injection e440)
                   (first | simp only [add_plain] at hx440_0 | simp only [add_at] at hx440_0 | simp only [Addr.add, Nat.zero_add] at hx440_0 | skip)
                   (first | simp only [add_plain] at hx440_1 | simp only [add_at] at hx440_1 | simp only [Addr.add, Nat.zero_add] at hx440_1 | skip)
                   (first | simp only [add_plain] at hx440_2 | simp only [add_at] at hx440_2 | simp only [Addr.add, Nat.zero_add] at hx440_2 | skip)
                   have hn440_0 : (⟨go9, 0, none⟩ : Addr).block ≠ gb439 := Kd.own_blk (Kd.R_ne HO_7.out BK439.out (by decide))
                   have hn440_1 : (⟨go9, 0, none⟩ : Addr).block ≠ gb439 := Kd.own_blk (Kd.R_ne HO_7.out BK439.out (by decide))
                   replace hx440_0 := (cell_far (p := ⟨gb439, 0, none⟩) (by first | (rw [add_block]; exact hn440_0) | (show (Addr.add _ _).block ≠ _; rw [add_block]; exact hn440_0) | exact hn440_0) (.int .i64 t435)).trans hx440_0
                   replace hx440_1 := (cell_far (p := ⟨gb439, 0, none⟩) (by first | (rw [add_block]; exact hn440_0) | (show (Addr.add _ _).block ≠ _; rw [add_block]; exact hn440_0) | exact hn440_0) (.int .i64 t435)).trans hx440_1
                   replace hx440_2 := (cell_far (p := ⟨gb439, 0, none⟩) (by first | (rw [add_block]; exact hn440_0) | (show (Addr.add _ _).block ≠ _; rw [add_block]; exact hn440_0) | exact hn440_0) (.int .i64 t435)).trans hx440_2
                   replace hx440_0 := (cell_far (p := ⟨gb439, 1, none⟩) (by first | (rw [add_block]; exact hn440_1) | (show (Addr.add _ _).block ≠ _; rw [add_block]; exact hn440_1) | exact hn440_1) (.int .i64 t436)).trans hx440_0
                   replace hx440_1 := (cell_far (p := ⟨gb439, 1, none⟩) (by first | (rw [add_block]; exact hn440_1) | (show (Addr.add _ _).block ≠ _; rw [add_block]; exact hn440_1) | exact hn440_1) (.int .i64 t436)).trans hx440_1
                   replace hx440_2 := (cell_far (p := ⟨gb439, 1, none⟩) (by first | (rw [add_block]; exact hn440_1) | (show (Addr.add _ _).block ≠ _; rw [add_block]; exact hn440_1) | exact hn440_1) (.int .i64 t436)).trans hx440_2
                   clear hn440_0
                   clear hn440_1
                   replace p440 := eq_true p440
                   replace q440 := eq_true q440
                   go_wp2
                   go_meet
                   case rel => exact ⟨_, ((rd_T59 x7_3 (ji30)).f2), (by first | rfl | (simp; done) | (simp only [← hji30] <;> (first | rfl | simp)) | (simp [*]; done)), H', ⟨by have := HK1.out; have := HJ14.out; have := HK3.out; first | omega | exact Nat.le_refl _⟩, ⟨by (try simp only [hl7_1]); (try simp only [hl7_3]); (with_reducible repeat (first | apply Kd.R_alloc | apply Kd.R_drewN | apply Kd.R_drew)); exact Kd.R_mono (Kd.R_far (p := ⟨gb439, 1, none⟩) (Kd.R_far (p := ⟨gb439, 0, none⟩) (Kd.R_types HO_7.out BK439.out (by decide)) (fun _ hk => hk.2) (.int .i64 t435)) (fun _ hk => hk.2) (.int .i64 t436)) (fun _ hk => trivial)⟩, ⟨by (try simp only [hl7_1]); (try simp only [hl7_3]); (with_reducible repeat (first | refine blk_drewN ?_ _ | refine blk_drew ?_ | refine blk_alloc ?_ _)); refine blk_put (cs := #[.int .i64 t435, .int .i64 0]) ?_ 1 _ rfl; (with_reducible repeat (first | refine blk_drewN ?_ _ | refine blk_drew ?_ | refine blk_alloc ?_ _)); refine blk_put (cs := #[.int .i64 0, .int .i64 0]) ?_ 0 _ rfl; (with_reducible repeat (first | refine blk_drewN ?_ _ | refine blk_drew ?_ | refine blk_alloc ?_ _)); exact BK439.out⟩, ⟨by repeat (first | (with_reducible first | exact HI0.out | apply IsS79.alloc | apply IsS79.drewN | apply IsS79.drew | apply IsS79.set_3 | refine IsS79.far ?_ NB0_439.out _) | exact HI0.out)⟩, ⟨by repeat (first | (with_reducible first | exact HK.out | apply KeepBut.set_ | apply keep_drewN | apply keep_drew | apply keep_alloc | refine keep_far ?_ GW439.out _) | exact HK.out)⟩, ⟨by repeat (first | (with_reducible first | exact HB.out | apply below_alloc | apply pw_below_drewN | apply below_drew1 | refine below_set ?_ (IsS79.ge HI0.out) | refine below_set ?_ GE439.out) | exact HB.out)⟩⟩
                  ·rw [if_neg c32] at H
                   exact absurd H (by simp)
                 ·rw [if_neg c31] at H
                  exact absurd H (by simp)
                ·rw [if_neg c29] at H
                 have c29b0 : decide (t435 ≤ a2) = false := decide_eq_false c29
                 clear c29
                 (first | rw [c29b0] | (simp only [i64_w, i32_w]; rw [c29b0]) | skip)
                 have H' := Aside0.mk H
                 clear H
                 have hnb35 := NB439_0.out
                 have hnc35 := NB0_439.out
                 have hcz36_0 : w25.cell? ⟨gb439, 0, none⟩ = some (.int .i64 0) := (blk_cell BK439.out 0).trans rfl
                 have hcz36_1 : w25.cell? ⟨gb439, 1, none⟩ = some (.int .i64 0) := (blk_cell BK439.out 1).trans rfl
                 have hfz36_0 := blk_frozen BK439.out 0
                 have hfz36_1 := blk_frozen BK439.out 1
                 go_wp2
                 go_meet
                 case rel => exact ⟨_, (false), (by first | rfl | (simp; done) | (simp [*]; done)), H', ⟨by have := HK1.out; have := HJ14.out; have := HK3.out; first | omega | exact Nat.le_refl _⟩, ⟨by (try simp only [hl7_1]); (try simp only [hl7_3]); (with_reducible repeat (first | apply Kd.R_alloc | apply Kd.R_drewN | apply Kd.R_drew)); exact Kd.R_mono (Kd.R_far (p := ⟨gb439, 1, none⟩) (Kd.R_far (p := ⟨gb439, 0, none⟩) (Kd.R_types HO_7.out BK439.out (by decide)) (fun _ hk => hk.2) (.int .i64 t435)) (fun _ hk => hk.2) (.int .i64 t436)) (fun _ hk => trivial)⟩, ⟨by (try simp only [hl7_1]); (try simp only [hl7_3]); (with_reducible repeat (first | refine blk_drewN ?_ _ | refine blk_drew ?_ | refine blk_alloc ?_ _)); refine blk_put (cs := #[.int .i64 t435, .int .i64 0]) ?_ 1 _ rfl; (with_reducible repeat (first | refine blk_drewN ?_ _ | refine blk_drew ?_ | refine blk_alloc ?_ _)); refine blk_put (cs := #[.int .i64 0, .int .i64 0]) ?_ 0 _ rfl; (with_reducible repeat (first | refine blk_drewN ?_ _ | refine blk_drew ?_ | refine blk_alloc ?_ _)); exact BK439.out⟩, ⟨by repeat (first | (with_reducible first | exact HI0.out | apply IsS79.alloc | apply IsS79.drewN | apply IsS79.drew | apply IsS79.set_3 | refine IsS79.far ?_ NB0_439.out _) | exact HI0.out)⟩, ⟨by repeat (first | (with_reducible first | exact HK.out | apply KeepBut.set_ | apply keep_drewN | apply keep_drew | apply keep_alloc | refine keep_far ?_ GW439.out _) | exact HK.out)⟩, ⟨by repeat (first | (with_reducible first | exact HB.out | apply below_alloc | apply pw_below_drewN | apply below_drew1 | refine below_set ?_ (IsS79.ge HI0.out) | refine below_set ?_ GE439.out) | exact HB.out)⟩⟩
               ·replace c28 := Bool.eq_false_iff.mpr c28
                subst c28
                have H1 : (optimal_paragraph_best.j3 k3 l1 a2 x7_3 x8_1 x9_14 x10_3 (rd l1 x10_3) false s0_0 s0_1 s0_2 t438 t435 t436) = some (r1, r2) := by rw [if_neg (show ¬ (false = true) by decide)] at H; exact H
                clear H
                have H := H1
                clear H1
                have H' := Aside0.mk H
                clear H
                go_wp2
                go_meet
                case rel => exact ⟨_, (false), (by first | rfl | (simp; done) | (simp [*]; done)), H', ⟨by have := HK1.out; have := HJ14.out; have := HK3.out; first | omega | exact Nat.le_refl _⟩, ⟨by (try simp only [hl7_1]); (try simp only [hl7_3]); (with_reducible repeat (first | apply Kd.R_alloc | apply Kd.R_drewN | apply Kd.R_drew)); exact Kd.R_mono (Kd.R_far (p := ⟨gb439, 1, none⟩) (Kd.R_far (p := ⟨gb439, 0, none⟩) (Kd.R_types HO_7.out BK439.out (by decide)) (fun _ hk => hk.2) (.int .i64 t435)) (fun _ hk => hk.2) (.int .i64 t436)) (fun _ hk => trivial)⟩, ⟨by (try simp only [hl7_1]); (try simp only [hl7_3]); (with_reducible repeat (first | refine blk_drewN ?_ _ | refine blk_drew ?_ | refine blk_alloc ?_ _)); refine blk_put (cs := #[.int .i64 t435, .int .i64 0]) ?_ 1 _ rfl; (with_reducible repeat (first | refine blk_drewN ?_ _ | refine blk_drew ?_ | refine blk_alloc ?_ _)); refine blk_put (cs := #[.int .i64 0, .int .i64 0]) ?_ 0 _ rfl; (with_reducible repeat (first | refine blk_drewN ?_ _ | refine blk_drew ?_ | refine blk_alloc ?_ _)); exact BK439.out⟩, ⟨by repeat (first | (with_reducible first | exact HI0.out | apply IsS79.alloc | apply IsS79.drewN | apply IsS79.drew | apply IsS79.set_3 | refine IsS79.far ?_ NB0_439.out _) | exact HI0.out)⟩, ⟨by repeat (first | (with_reducible first | exact HK.out | apply KeepBut.set_ | apply keep_drewN | apply keep_drew | apply keep_alloc | refine keep_far ?_ GW439.out _) | exact HK.out)⟩, ⟨by repeat (first | (with_reducible first | exact HB.out | apply below_alloc | apply pw_below_drewN | apply below_drew1 | refine below_set ?_ (IsS79.ge HI0.out) | refine below_set ?_ GE439.out) | exact HB.out)⟩⟩
              case rest =>
               clear HC23
               try clear c1
               try clear hx1
               try clear c2
               try clear p2
               try clear c3
               try clear c4
               try clear p4
               try clear q4
               try clear hx4
               try clear c5
               try clear c5b0
               try clear c5b1
               try clear c6
               try clear c6b0
               try clear c6b1
               try clear p6
               try clear c7
               try clear c7b0
               try clear c7b1
               try clear c8
               try clear c8b0
               try clear c8b1
               try clear c9
               try clear p9
               try clear q9
               try clear hx9
               try clear hf9
               try clear c12
               try clear hx12
               try clear hf12
               try clear c14
               try clear c14b0
               try clear c16
               try clear c16b0
               try clear c18
               try clear c18b0
               try clear c19
               try clear c19b0
               try clear c20
               try clear c20b0
               try clear c21
               try clear c21b0
               try clear c26
               try clear c28
               try clear c29
               try clear c29b0
               try clear c30
               try clear c31
               try clear c31b0
               try clear c32
               try clear c32b0
               try clear c33
               try clear c35
               try clear hcz27_0
               try clear hcz27_1
               try clear hcz34_0
               try clear hcz34_1
               try clear hcz36_0
               try clear hcz36_1
               try clear hfz27_0
               try clear hfz27_1
               try clear hfz34_0
               try clear hfz34_1
               try clear hfz36_0
               try clear hfz36_1
               try clear hx12_2
               try clear hx433_0
               try clear hx434_0
               try clear hx440_0
               try clear hx440_1
               try clear hx440_2
               try clear hx9_0
               try clear hx9_1
               try clear hx9_2
               try clear p2
               try clear p4
               try clear p433
               try clear p434
               try clear p440
               try clear p6
               try clear p9
               try clear q4
               try clear q433
               try clear q434
               try clear q440
               try clear q9
               obtain ⟨kq, x70_22, rfl, HA, HJ22, HO_7, BK439, HI0, HK, HB⟩ := hcut
               cases kq with
               | zero => exact absurd HA.out (by simp [optimal_paragraph_best.j3])
               | succ kj22 =>
                have H := HA.out
                clear HA
                simp only [optimal_paragraph_best.j3] at H
                by_cases c37 : x70_22 = true
                ·subst c37
                 have H1 : ((optimal_paragraph_demerits.f s0_0 s0_1 s0_2 t438 x9_14 (rd l1 x10_3) t436).bind fun bt441 => (if 0 ≤ (wrap64 (x10_3 + 1)) then (if (wrap64 (x10_3 + 1)) < (x7_3.length : Int) then (if 0 ≤ x8_1 then (if x8_1 < (x7_3.length : Int) then (if ((rd_T59 x7_3 x8_1).f2 = true) then (optimal_paragraph_best.j4 kj22 l1 a2 x7_3 x8_1 x9_14 x10_3 (rd l1 x10_3) (wrap64 (bt441.1 + ((rd_T59 x7_3 (wrap64 (x10_3 + 1))).f1))) (decide ((wrap64 (bt441.1 + ((rd_T59 x7_3 (wrap64 (x10_3 + 1))).f1))) < ((rd_T59 x7_3 x8_1).f1))) s0_0 s0_1 s0_2 bt441.2) else (optimal_paragraph_best.j4 kj22 l1 a2 x7_3 x8_1 x9_14 x10_3 (rd l1 x10_3) (wrap64 (bt441.1 + ((rd_T59 x7_3 (wrap64 (x10_3 + 1))).f1))) true s0_0 s0_1 s0_2 bt441.2)) else (none)) else (none)) else (none)) else (none))) = some (r1, r2) := by rw [if_pos rfl] at H; exact H
                 clear H
                 have H := H1
                 clear H1
                 replace H := Option.bind_eq_some_iff.mp H
                 obtain ⟨⟨t441, t442⟩, A380, H⟩ := H
                 replace H : (if 0 ≤ (wrap64 (x10_3 + 1)) then (if (wrap64 (x10_3 + 1)) < (x7_3.length : Int) then (if 0 ≤ x8_1 then (if x8_1 < (x7_3.length : Int) then (if ((rd_T59 x7_3 x8_1).f2 = true) then (optimal_paragraph_best.j4 kj22 l1 a2 x7_3 x8_1 x9_14 x10_3 (rd l1 x10_3) (wrap64 (t441 + ((rd_T59 x7_3 (wrap64 (x10_3 + 1))).f1))) (decide ((wrap64 (t441 + ((rd_T59 x7_3 (wrap64 (x10_3 + 1))).f1))) < ((rd_T59 x7_3 x8_1).f1))) s0_0 s0_1 s0_2 t442) else (optimal_paragraph_best.j4 kj22 l1 a2 x7_3 x8_1 x9_14 x10_3 (rd l1 x10_3) (wrap64 (t441 + ((rd_T59 x7_3 (wrap64 (x10_3 + 1))).f1))) true s0_0 s0_1 s0_2 t442)) else (none)) else (none)) else (none)) else (none)) = some (r1, r2) := H
                 have A38 := Aside0.mk A380
                 clear A380
                 obtain ⟨ji39, hji39⟩ : ∃ j_ : Int, (wrap64 (x10_3 + 1)) = j_ := ⟨_, rfl⟩
                 replace H : (if 0 ≤ (ji39) then (if (ji39) < (x7_3.length : Int) then (if 0 ≤ x8_1 then (if x8_1 < (x7_3.length : Int) then (if ((rd_T59 x7_3 x8_1).f2 = true) then (optimal_paragraph_best.j4 kj22 l1 a2 x7_3 x8_1 x9_14 x10_3 (rd l1 x10_3) (wrap64 (t441 + ((rd_T59 x7_3 (ji39)).f1))) (decide ((wrap64 (t441 + ((rd_T59 x7_3 (ji39)).f1))) < ((rd_T59 x7_3 x8_1).f1))) s0_0 s0_1 s0_2 t442) else (optimal_paragraph_best.j4 kj22 l1 a2 x7_3 x8_1 x9_14 x10_3 (rd l1 x10_3) (wrap64 (t441 + ((rd_T59 x7_3 (ji39)).f1))) true s0_0 s0_1 s0_2 t442)) else (none)) else (none)) else (none)) else (none)) = some (r1, r2) := by first | (rw [hji39] at H; exact H) | (simp only [hji39] at H ⊢; exact H)
                 (try rw [hji39] at A38)
                 have hji39w : (IntKind.i64.wrap (x10_3 + 1)) = ji39 := (i64_w _).trans hji39
                 by_cases c40 : 0 ≤ (ji39)
                 ·rw [if_pos c40] at H
                  have c40b0 : decide (0 ≤ (ji39)) = true := decide_eq_true c40
                  clear c40
                  by_cases c41 : (ji39) < (x7_3.length : Int)
                  ·rw [if_pos c41] at H
                   have c41b0 : decide ((ji39) < (x7_3.length : Int)) = true := decide_eq_true c41
                   clear c41
                   have HC42 := Aside0.mk H
                   clear H
                   try go_wp2
                   have n0_ := Aside0.mk (Kd.R_drew HO_7.out)
                   have n1_ := Aside0.mk (blk_drew BK439.out)
                   have n2_ := Aside0.mk (IsS79.drew HI0.out)
                   have n3_ := Aside0.mk (keep_drew HK.out)
                   have n4_ := Aside0.mk (below_drew1 HB.out)
                   clear HO_7
                   clear BK439
                   clear HI0
                   clear HK
                   clear HB
                   have HO_7 := n0_
                   have BK439 := n1_
                   have HI0 := n2_
                   have HK := n3_
                   have HB := n4_
                   clear n0_ n1_ n2_ n3_ n4_
                   have p443 : 0 ≤ ((ji39) : Int) := odt
                   have q443 : (ji39) < (x7_3.length : Int) := odt
                   obtain ⟨ad443, e443, hx443_0, hx443_1, hx443_2⟩ := at_T59 (Kd.R_reads' HO_7.out).2.2 (ji39) p443 q443
                   obtain rfl : (⟨go9, 0, none⟩ : Addr) = ad443 := (by injection e443)
                   (first | simp only [add_plain] at hx443_0 | simp only [add_at] at hx443_0 | simp only [Addr.add, Nat.zero_add] at hx443_0 | skip)
                   (first | simp only [add_plain] at hx443_1 | simp only [add_at] at hx443_1 | simp only [Addr.add, Nat.zero_add] at hx443_1 | skip)
                   (first | simp only [add_plain] at hx443_2 | simp only [add_at] at hx443_2 | simp only [Addr.add, Nat.zero_add] at hx443_2 | skip)
                   replace p443 := eq_true p443
                   replace q443 := eq_true q443
                   refine start_ (n := 14) (S := fun w' => w'.cell? ⟨gb439, 0, none⟩ = some (.int .i64 t435) ∧ w'.cell? ⟨gb439, 1, none⟩ = some (.int .i64 t436) ∧ w'.cell? ⟨go9, ((ji39)).toNat * 3, none⟩ = some (.int .i64 ((rd_T59 x7_3 (ji39)).f0)) ∧ w'.cell? ⟨go9, ((ji39)).toNat * 3 + 1, none⟩ = some (.int .i64 ((rd_T59 x7_3 (ji39)).f1)) ∧ w'.cell? ⟨go9, ((ji39)).toNat * 3 + 2, none⟩ = some (.bool ((rd_T59 x7_3 (ji39)).f2))) (ds := []) #[false, false, false, false, false, false, false, false, false, false, false, false, false, false] (by kernel_rfl) rfl rfl ⟨(blk_cell BK439.out 0).trans rfl, (blk_cell BK439.out 1).trans rfl, hx443_0, hx443_1, hx443_2⟩ (fun hHeld => ?_); refine with_tabW optimal_paragraph_best.tab15 optimal_paragraph_best.bits15 (fun HT_ HW_ => ?_)
                   generalize wc.drew = w43 at HO_7 BK439 HI0 HK HB hx443_0 hx443_1 hx443_2 hHeld ⊢
                   refine pure_ (i := 0) (N := some 71) (v := ?_) (a' := ?_) #[true, false, false, false, false, false, false, false, false, false, false, false, false, false] rfl rfl (any_of HT_.out (by kernel_rfl)) (fun _ _ _ h => h) (Or.inl ⟨by rfl, ?_⟩) ?_ ?_
                   rotate_left
                   ·intro w'
                    go_simp
                    with_reducible rfl
                   rotate_left
                   ·simp only [Act.put, List.setIfInBounds_toArray, List.set_cons_zero, List.set_cons_succ, i64_w, i32_w]
                    rfl
                   refine pure_ (i := 1) (N := some 72) (v := ?_) (a' := ?_) #[true, true, false, false, false, false, false, false, false, false, false, false, false, false] rfl rfl (any_of HT_.out (by kernel_rfl)) (fun _ _ _ h => h) (Or.inl ⟨by rfl, ?_⟩) ?_ ?_
                   rotate_left
                   ·intro w'
                    go_simp
                    with_reducible rfl
                   rotate_left
                   ·simp only [Act.put, List.setIfInBounds_toArray, List.set_cons_zero, List.set_cons_succ, i64_w, i32_w]
                    rfl
                   refine pure_ (i := 2) (N := some 73) (v := ?_) (a' := ?_) #[true, true, true, false, false, false, false, false, false, false, false, false, false, false] rfl rfl (any_of HT_.out (by kernel_rfl)) (fun _ _ _ h => h) (Or.inl ⟨by rfl, ?_⟩) ?_ ?_
                   rotate_left
                   ·intro w'
                    go_simp
                    with_reducible rfl
                   rotate_left
                   ·simp only [Act.put, List.setIfInBounds_toArray, List.set_cons_zero, List.set_cons_succ, i64_w, i32_w]
                    rfl
                   refine pure_ (i := 3) (N := some 74) (v := ?_) (a' := ?_) #[true, true, true, true, false, false, false, false, false, false, false, false, false, false] rfl rfl (any_of HT_.out (by kernel_rfl)) (fun _ _ _ h => h) (Or.inl ⟨by rfl, ?_⟩) ?_ ?_
                   rotate_left
                   ·intro w'
                    go_simp
                    with_reducible rfl
                   rotate_left
                   ·simp only [Act.put, List.setIfInBounds_toArray, List.set_cons_zero, List.set_cons_succ, i64_w, i32_w]
                    rfl
                   refine pure_ (i := 6) (N := some 77) (v := ?_) (a' := ?_) #[true, true, true, true, false, false, true, false, false, false, false, false, false, false] rfl rfl (any_of HT_.out (by kernel_rfl)) (fun _ _ _ h => h) (Or.inl ⟨by rfl, ?_⟩) ?_ ?_
                   rotate_left
                   ·intro w'
                    go_simp
                    with_reducible rfl
                   rotate_left
                   ·simp only [Act.put, List.setIfInBounds_toArray, List.set_cons_zero, List.set_cons_succ, i64_w, i32_w]
                    rfl
                   refine pure_ (i := 7) (N := some 78) (v := ?_) (a' := ?_) #[true, true, true, true, false, false, true, true, false, false, false, false, false, false] rfl rfl (any_of HT_.out (by kernel_rfl)) (fun _ _ _ h => h) (Or.inl ⟨by rfl, ?_⟩) ?_ ?_
                   rotate_left
                   ·intro w'
                    go_simp
                    with_reducible rfl
                   rotate_left
                   ·simp only [Act.put, List.setIfInBounds_toArray, List.set_cons_zero, List.set_cons_succ, i64_w, i32_w]
                    rfl
                   refine pure_ (i := 8) (N := some 79) (v := ?_) (a' := ?_) #[true, true, true, true, false, false, true, true, true, false, false, false, false, false] rfl rfl (any_of HT_.out (by kernel_rfl)) (fun _ _ _ h => h) (Or.inl ⟨by rfl, ?_⟩) ?_ ?_
                   rotate_left
                   ·intro w'
                    go_simp
                    with_reducible rfl
                   rotate_left
                   ·simp only [Act.put, List.setIfInBounds_toArray, List.set_cons_zero, List.set_cons_succ, i64_w, i32_w]
                    rfl
                   refine pure_ (i := 9) (N := some 80) (v := ?_) (a' := ?_) #[true, true, true, true, false, false, true, true, true, true, false, false, false, false] rfl rfl (any_of HT_.out (by kernel_rfl)) (fun _ _ _ h => h) (Or.inl ⟨by rfl, ?_⟩) ?_ ?_
                   rotate_left
                   ·intro w'
                    go_simp
                    with_reducible rfl
                   rotate_left
                   ·simp only [Act.put, List.setIfInBounds_toArray, List.set_cons_zero, List.set_cons_succ, i64_w, i32_w]
                    rfl
                   refine pure_ (i := 10) (N := some 81) (v := ?_) (a' := ?_) #[true, true, true, true, false, false, true, true, true, true, true, false, false, false] rfl rfl (any_of HT_.out (by kernel_rfl)) (fun _ _ _ h => h) (Or.inl ⟨by rfl, ?_⟩) ?_ ?_
                   rotate_left
                   ·intro w'
                    go_simp
                    with_reducible rfl
                   rotate_left
                   ·simp only [Act.put, List.setIfInBounds_toArray, List.set_cons_zero, List.set_cons_succ, i64_w, i32_w]
                    rfl
                   refine take_ (i := 4) (N := some 75) (v := ?_) (a' := ?_) #[true, true, true, true, true, false, true, true, true, true, true, false, false, false] rfl rfl (take_ofW HT_.out HW_.out (by kernel_rfl)) (fun _ _ _ h => h) (Or.inl ⟨by rfl, ?_⟩) hHeld ?_ ?_
                   rotate_left
                   ·rintro w' ⟨s0, s1, s2, s3, s4⟩
                    go_simp
                    with_reducible rfl
                   rotate_left
                   ·simp only [Act.put, List.setIfInBounds_toArray, List.set_cons_zero, List.set_cons_succ, i64_w, i32_w]
                    rfl
                   refine take_ (i := 11) (N := some 82) (v := ?_) (a' := ?_) #[true, true, true, true, true, false, true, true, true, true, true, true, false, false] rfl rfl (take_ofW HT_.out HW_.out (by kernel_rfl)) (fun _ _ _ h => h) (Or.inl ⟨by rfl, ?_⟩) hHeld ?_ ?_
                   rotate_left
                   ·rintro w' ⟨s0, s1, s2, s3, s4⟩
                    go_simp
                    with_reducible rfl
                   rotate_left
                   ·simp only [Act.put, List.setIfInBounds_toArray, List.set_cons_zero, List.set_cons_succ, i64_w, i32_w]
                    rfl
                   refine one_ (i := 5) (N := some 76) #[true, true, true, true, true, true, true, true, true, true, true, true, false, false] rfl rfl (one_of HT_.out (by kernel_rfl)) (by decide) (fun K hK => ?_)
                   refine goes_ Try.func42 (by kernel_rfl) rfl #[.pointer (some ⟨g, 0, none⟩), .int .i64 x9_14, .int .i64 (rd l1 x10_3), .int .i64 t436] (by rfl) rfl rfl (by (try simp only [List.map_toArray, List.map_cons, List.map_nil]); first | done | rfl | (simp only [List.length_drop, List.length_take]; rfl)) ?_
                   with_reducible refine (optimal_paragraph_demerits.calls g s0_0 s0_1 s0_2 t438 x9_14 (rd l1 x10_3) t436 t441 t442 w0 _ ?side1 ?side2 A38.out).mono ?_
                   (case side1 => repeat (first | (with_reducible first | exact HI0.out | apply IsS79.alloc | apply IsS79.drewN | apply IsS79.drew | apply IsS79.set_3 | refine IsS79.far ?_ NB0_439.out _) | exact HI0.out))
                   (case side2 => repeat (first | (with_reducible first | exact HB.out | apply below_alloc | apply pw_below_drewN | apply below_drew1 | refine below_set ?_ (IsS79.ge HI0.out) | refine below_set ?_ GE439.out) | exact HB.out))
                   rintro e w44 ⟨rfl, hi, hb, hk⟩
                   have HS2_ := keep_cell hk (hHeld.2.2.1) (by first | (rw [add_block]; exact Kd.own_blk (IsS79.own_ne HI0.out HO_7.out (by decide))) | (show (Addr.add _ _).block ≠ _; rw [add_block]; exact Kd.own_blk (IsS79.own_ne HI0.out HO_7.out (by decide))) | exact Kd.own_blk (IsS79.own_ne HI0.out HO_7.out (by decide)) | exact (show go9 ≠ g from Kd.own_blk (ad := ⟨go9, 0, none⟩) (IsS79.own_ne HI0.out HO_7.out (by decide))))
                   have HS3_ := keep_cell hk (hHeld.2.2.2.1) (by first | (rw [add_block]; exact Kd.own_blk (IsS79.own_ne HI0.out HO_7.out (by decide))) | (show (Addr.add _ _).block ≠ _; rw [add_block]; exact Kd.own_blk (IsS79.own_ne HI0.out HO_7.out (by decide))) | exact Kd.own_blk (IsS79.own_ne HI0.out HO_7.out (by decide)) | exact (show go9 ≠ g from Kd.own_blk (ad := ⟨go9, 0, none⟩) (IsS79.own_ne HI0.out HO_7.out (by decide))))
                   have HS4_ := keep_cell hk (hHeld.2.2.2.2) (by first | (rw [add_block]; exact Kd.own_blk (IsS79.own_ne HI0.out HO_7.out (by decide))) | (show (Addr.add _ _).block ≠ _; rw [add_block]; exact Kd.own_blk (IsS79.own_ne HI0.out HO_7.out (by decide))) | exact Kd.own_blk (IsS79.own_ne HI0.out HO_7.out (by decide)) | exact (show go9 ≠ g from Kd.own_blk (ad := ⟨go9, 0, none⟩) (IsS79.own_ne HI0.out HO_7.out (by decide))))
                   refine ⟨_, rfl, ?_⟩
                   have n0_ := Aside0.mk (Kd.R_mono (Kd.R_keep (IsS79.apart (show IsS79 w0 _ g s0_0 s0_1 s0_2 t438 from by repeat (first | (with_reducible first | exact HI0.out | apply IsS79.alloc | apply IsS79.drewN | apply IsS79.drew | apply IsS79.set_3 | refine IsS79.far ?_ NB0_439.out _) | exact HI0.out)) (rq HO_7) (by decide)) hk (fun _ h => h.2)) (fun _ h => h.1))
                   have n1_ := Aside0.mk (KeepBut.blk hk (g' := gb439) (o := .cells #[.int .i64 t435, .int .i64 t436] 73 (0, 0)) (kq BK439) NB439_0.out (by simp))
                   have n2_ := Aside0.mk (KeepBut.trans (by repeat (first | (with_reducible first | exact HK.out | apply KeepBut.set_ | apply keep_drewN | apply keep_drew | apply keep_alloc | refine keep_far ?_ GW439.out _) | exact HK.out)) hk (.inl rfl))
                   have n3_ := Aside0.mk (hb)
                   have n4_ := Aside0.mk (hi)
                   clear HO_7
                   clear BK439
                   clear HK
                   clear HB
                   clear HI0
                   have HO_7 := n0_
                   have BK439 := n1_
                   have HK := n2_
                   have HB := n3_
                   have HI0 := n4_
                   clear n0_ n1_ n2_ n3_ n4_
                   (try clear hb)
                   (try clear hb2)
                   (try clear hk)
                   (try clear hi)
                   refine hK.out _ _ ⟨(blk_cell BK439.out 0).trans rfl, (blk_cell BK439.out 1).trans rfl, HS2_, HS3_, HS4_⟩ (fun hHeld => ?_)
                   clear hK K
                   refine norm_ (a' := ?_) ?_ ?_
                   rotate_left
                   ·show Act.put _ (some 76) _ = _
                    simp only [Act.put, List.setIfInBounds_toArray, List.set_cons_zero, List.set_cons_succ, i64_w, i32_w]
                    rfl
                   refine pure_ (i := 12) (N := some 83) (v := ?_) (a' := ?_) #[true, true, true, true, true, true, true, true, true, true, true, true, true, false] rfl rfl (any_of HT_.out (by kernel_rfl)) (fun _ _ _ h => h) (Or.inl ⟨by rfl, ?_⟩) ?_ ?_
                   rotate_left
                   ·intro w'
                    go_simp
                    with_reducible rfl
                   rotate_left
                   ·simp only [Act.put, List.setIfInBounds_toArray, List.set_cons_zero, List.set_cons_succ, i64_w, i32_w]
                    rfl
                   refine pure_ (i := 13) (N := some 14) (v := ?_) (a' := ?_) #[true, true, true, true, true, true, true, true, true, true, true, true, true, true] rfl rfl (any_of HT_.out (by kernel_rfl)) (fun _ _ _ h => h) (Or.inl ⟨by rfl, ?_⟩) ?_ ?_
                   rotate_left
                   ·intro w'
                    go_simp
                    with_reducible rfl
                   rotate_left
                   ·simp only [Act.put, List.setIfInBounds_toArray, List.set_cons_zero, List.set_cons_succ, i64_w, i32_w]
                    rfl
                   refine done_ (done_of HT_.out (by kernel_rfl)) ?_
                   go_upto_region 16 with (fail)
                   go_cut [98] (fun v98 wc => ∃ (kq : Nat) (x98_41 : Bool), v98 = .bool x98_41 ∧ Aside0 (optimal_paragraph_best.j4 kq l1 a2 x7_3 x8_1 x9_14 x10_3 (rd l1 x10_3) (wrap64 (t441 + ((rd_T59 x7_3 (ji39)).f1))) x98_41 s0_0 s0_1 s0_2 t442 = some (r1, r2)) ∧ Aside0 (kq ≤ kj22) ∧ Aside0 (Kd.R k59 59 wc w.heap.size (fun _ => True) (.slice (some ⟨go9, 0, none⟩) x7_3.length co9) x7_3) ∧ Aside0 (wc.heap[gb439]? = some (.cells #[.int .i64 t435, .int .i64 t436] 73 (0, 0))) ∧ Aside0 (IsS79 w0 wc g s0_0 s0_1 s0_2 t442) ∧ Aside0 (KeepBut w wc g none) ∧ Aside0 (Below w0.heap.size w0 wc))
                   case first =>
                    have H := HC42.out
                    clear HC42
                    by_cases c45 : 0 ≤ x8_1
                    ·rw [if_pos c45] at H
                     have c45b0 : decide (0 ≤ x8_1) = true := decide_eq_true c45
                     clear c45
                     (first | rw [c45b0] | (simp only [i64_w, i32_w]; rw [c45b0]) | skip)
                     by_cases c46 : x8_1 < (x7_3.length : Int)
                     ·rw [if_pos c46] at H
                      have c46b0 : decide (x8_1 < (x7_3.length : Int)) = true := decide_eq_true c46
                      clear c46
                      obtain ⟨bq47, hbq47⟩ : ∃ b_ : Bool, b_ = ((rd_T59 x7_3 x8_1).f2) := ⟨_, rfl⟩
                      replace H : (if (bq47 = true) then (optimal_paragraph_best.j4 kj22 l1 a2 x7_3 x8_1 x9_14 x10_3 (rd l1 x10_3) (wrap64 (t441 + ((rd_T59 x7_3 (ji39)).f1))) (decide ((wrap64 (t441 + ((rd_T59 x7_3 (ji39)).f1))) < ((rd_T59 x7_3 x8_1).f1))) s0_0 s0_1 s0_2 t442) else (optimal_paragraph_best.j4 kj22 l1 a2 x7_3 x8_1 x9_14 x10_3 (rd l1 x10_3) (wrap64 (t441 + ((rd_T59 x7_3 (ji39)).f1))) true s0_0 s0_1 s0_2 t442)) = some (r1, r2) := by rw [← hbq47] at H; exact H
                      have Nbq47 := Aside0.mk hbq47
                      clear hbq47
                      by_cases c48 : (bq47 = true)
                      ·subst c48
                       have H1 : (optimal_paragraph_best.j4 kj22 l1 a2 x7_3 x8_1 x9_14 x10_3 (rd l1 x10_3) (wrap64 (t441 + ((rd_T59 x7_3 (ji39)).f1))) (decide ((wrap64 (t441 + ((rd_T59 x7_3 (ji39)).f1))) < ((rd_T59 x7_3 x8_1).f1))) s0_0 s0_1 s0_2 t442) = some (r1, r2) := by rw [if_pos rfl] at H; exact H
                       clear H
                       have H := H1
                       clear H1
                       have H' := Aside0.mk H
                       clear H
                       have p444 : 0 ≤ (x8_1 : Int) := odt
                       have q444 : x8_1 < (x7_3.length : Int) := odt
                       obtain ⟨ad444, e444, hx444_0, hx444_1, hx444_2⟩ := at_T59 (Kd.R_reads' HO_7.out).2.2 x8_1 p444 q444
                       (try rw [← Nbq47.out] at hx444_2)
                       obtain rfl : (⟨go9, 0, none⟩ : Addr) = ad444 := (by injection e444)
                       (first | simp only [add_plain] at hx444_0 | simp only [add_at] at hx444_0 | simp only [Addr.add, Nat.zero_add] at hx444_0 | skip)
                       (first | simp only [add_plain] at hx444_1 | simp only [add_at] at hx444_1 | simp only [Addr.add, Nat.zero_add] at hx444_1 | skip)
                       (first | simp only [add_plain] at hx444_2 | simp only [add_at] at hx444_2 | simp only [Addr.add, Nat.zero_add] at hx444_2 | skip)
                       replace p444 := eq_true p444
                       replace q444 := eq_true q444
                       have p445 : 0 ≤ (x8_1 : Int) := odt
                       have q445 : x8_1 < (x7_3.length : Int) := odt
                       obtain ⟨ad445, e445, hx445_0, hx445_1, hx445_2⟩ := at_T59 (Kd.R_reads' HO_7.out).2.2 x8_1 p445 q445
                       (try rw [← Nbq47.out] at hx445_2)
                       obtain rfl : (⟨go9, 0, none⟩ : Addr) = ad445 := (by injection e445)
                       (first | simp only [add_plain] at hx445_0 | simp only [add_at] at hx445_0 | simp only [Addr.add, Nat.zero_add] at hx445_0 | skip)
                       (first | simp only [add_plain] at hx445_1 | simp only [add_at] at hx445_1 | simp only [Addr.add, Nat.zero_add] at hx445_1 | skip)
                       (first | simp only [add_plain] at hx445_2 | simp only [add_at] at hx445_2 | simp only [Addr.add, Nat.zero_add] at hx445_2 | skip)
                       replace p445 := eq_true p445
                       replace q445 := eq_true q445
                       go_wp2
                       go_meet
                       case rel => exact ⟨_, (decide ((wrap64 (t441 + ((rd_T59 x7_3 (ji39)).f1))) < ((rd_T59 x7_3 x8_1).f1))), (by first | rfl | (simp; done) | (simp only [← hji39] <;> (first | rfl | simp)) | (simp [*]; done)), H', ⟨by have := HK1.out; have := HJ14.out; have := HK3.out; have := HJ22.out; first | omega | exact Nat.le_refl _⟩, ⟨by (try simp only [hl7_1]); (try simp only [hl7_3]); (with_reducible repeat (first | apply Kd.R_alloc | apply Kd.R_drewN | apply Kd.R_drew)); exact HO_7.out⟩, ⟨by (try simp only [hl7_1]); (try simp only [hl7_3]); (with_reducible repeat (first | refine blk_drewN ?_ _ | refine blk_drew ?_ | refine blk_alloc ?_ _)); exact BK439.out⟩, ⟨by repeat (first | (with_reducible first | exact HI0.out | apply IsS79.alloc | apply IsS79.drewN | apply IsS79.drew | apply IsS79.set_3 | refine IsS79.far ?_ NB0_439.out _) | exact HI0.out)⟩, ⟨by repeat (first | (with_reducible first | exact HK.out | apply KeepBut.set_ | apply keep_drewN | apply keep_drew | apply keep_alloc | refine keep_far ?_ GW439.out _) | exact HK.out)⟩, ⟨by repeat (first | (with_reducible first | exact HB.out | apply below_alloc | apply pw_below_drewN | apply below_drew1 | refine below_set ?_ (IsS79.ge HI0.out) | refine below_set ?_ GE439.out) | exact HB.out)⟩⟩
                      ·replace c48 := Bool.eq_false_iff.mpr c48
                       subst c48
                       have H1 : (optimal_paragraph_best.j4 kj22 l1 a2 x7_3 x8_1 x9_14 x10_3 (rd l1 x10_3) (wrap64 (t441 + ((rd_T59 x7_3 (ji39)).f1))) true s0_0 s0_1 s0_2 t442) = some (r1, r2) := by rw [if_neg (show ¬ (false = true) by decide)] at H; exact H
                       clear H
                       have H := H1
                       clear H1
                       have H' := Aside0.mk H
                       clear H
                       have p444 : 0 ≤ (x8_1 : Int) := odt
                       have q444 : x8_1 < (x7_3.length : Int) := odt
                       obtain ⟨ad444, e444, hx444_0, hx444_1, hx444_2⟩ := at_T59 (Kd.R_reads' HO_7.out).2.2 x8_1 p444 q444
                       (try rw [← Nbq47.out] at hx444_2)
                       obtain rfl : (⟨go9, 0, none⟩ : Addr) = ad444 := (by injection e444)
                       (first | simp only [add_plain] at hx444_0 | simp only [add_at] at hx444_0 | simp only [Addr.add, Nat.zero_add] at hx444_0 | skip)
                       (first | simp only [add_plain] at hx444_1 | simp only [add_at] at hx444_1 | simp only [Addr.add, Nat.zero_add] at hx444_1 | skip)
                       (first | simp only [add_plain] at hx444_2 | simp only [add_at] at hx444_2 | simp only [Addr.add, Nat.zero_add] at hx444_2 | skip)
                       replace p444 := eq_true p444
                       replace q444 := eq_true q444
                       go_wp2
                       go_meet
                       case rel => exact ⟨_, (true), (by first | rfl | (simp; done) | (simp [*]; done)), H', ⟨by have := HK1.out; have := HJ14.out; have := HK3.out; have := HJ22.out; first | omega | exact Nat.le_refl _⟩, ⟨by (try simp only [hl7_1]); (try simp only [hl7_3]); (with_reducible repeat (first | apply Kd.R_alloc | apply Kd.R_drewN | apply Kd.R_drew)); exact HO_7.out⟩, ⟨by (try simp only [hl7_1]); (try simp only [hl7_3]); (with_reducible repeat (first | refine blk_drewN ?_ _ | refine blk_drew ?_ | refine blk_alloc ?_ _)); exact BK439.out⟩, ⟨by repeat (first | (with_reducible first | exact HI0.out | apply IsS79.alloc | apply IsS79.drewN | apply IsS79.drew | apply IsS79.set_3 | refine IsS79.far ?_ NB0_439.out _) | exact HI0.out)⟩, ⟨by repeat (first | (with_reducible first | exact HK.out | apply KeepBut.set_ | apply keep_drewN | apply keep_drew | apply keep_alloc | refine keep_far ?_ GW439.out _) | exact HK.out)⟩, ⟨by repeat (first | (with_reducible first | exact HB.out | apply below_alloc | apply pw_below_drewN | apply below_drew1 | refine below_set ?_ (IsS79.ge HI0.out) | refine below_set ?_ GE439.out) | exact HB.out)⟩⟩
                     ·rw [if_neg c46] at H
                      exact absurd H (by simp)
                    ·rw [if_neg c45] at H
                     exact absurd H (by simp)
                   case rest =>
                    clear HC42
                    try clear c1
                    try clear hx1
                    try clear c2
                    try clear p2
                    try clear c3
                    try clear c4
                    try clear p4
                    try clear q4
                    try clear hx4
                    try clear c5
                    try clear c5b0
                    try clear c5b1
                    try clear c6
                    try clear c6b0
                    try clear c6b1
                    try clear p6
                    try clear c7
                    try clear c7b0
                    try clear c7b1
                    try clear c8
                    try clear c8b0
                    try clear c8b1
                    try clear c9
                    try clear p9
                    try clear q9
                    try clear hx9
                    try clear hf9
                    try clear c12
                    try clear hx12
                    try clear hf12
                    try clear c14
                    try clear c14b0
                    try clear c16
                    try clear c16b0
                    try clear c18
                    try clear c18b0
                    try clear c19
                    try clear c19b0
                    try clear c20
                    try clear c20b0
                    try clear c21
                    try clear c21b0
                    try clear c26
                    try clear c28
                    try clear c29
                    try clear c29b0
                    try clear c30
                    try clear c31
                    try clear c31b0
                    try clear c32
                    try clear c32b0
                    try clear c33
                    try clear c35
                    try clear c37
                    try clear c40
                    try clear c40b0
                    try clear c41
                    try clear c41b0
                    try clear c42
                    try clear p43
                    try clear q43
                    try clear hx43
                    try clear p44
                    try clear q44
                    try clear hx44
                    try clear c45
                    try clear c45b0
                    try clear c46
                    try clear c46b0
                    try clear q47
                    try clear c48
                    try clear hcz27_0
                    try clear hcz27_1
                    try clear hcz34_0
                    try clear hcz34_1
                    try clear hcz36_0
                    try clear hcz36_1
                    try clear hfz27_0
                    try clear hfz27_1
                    try clear hfz34_0
                    try clear hfz34_1
                    try clear hfz36_0
                    try clear hfz36_1
                    try clear hx12_2
                    try clear hx433_0
                    try clear hx434_0
                    try clear hx440_0
                    try clear hx440_1
                    try clear hx440_2
                    try clear hx443_0
                    try clear hx443_1
                    try clear hx443_2
                    try clear hx444_0
                    try clear hx444_1
                    try clear hx444_2
                    try clear hx445_0
                    try clear hx445_1
                    try clear hx445_2
                    try clear hx9_0
                    try clear hx9_1
                    try clear hx9_2
                    try clear p2
                    try clear p4
                    try clear p433
                    try clear p434
                    try clear p440
                    try clear p443
                    try clear p444
                    try clear p445
                    try clear p6
                    try clear p9
                    try clear q4
                    try clear q433
                    try clear q434
                    try clear q440
                    try clear q443
                    try clear q444
                    try clear q445
                    try clear q9
                    obtain ⟨kq, x98_41, rfl, HA, HJ41, HO_7, BK439, HI0, HK, HB⟩ := hcut
                    cases kq with
                    | zero => exact absurd HA.out (by simp [optimal_paragraph_best.j4])
                    | succ kj41 =>
                     have H := HA.out
                     clear HA
                     simp only [optimal_paragraph_best.j4] at H
                     by_cases c49 : x98_41 = true
                     ·subst c49
                      have H1 : (if 0 ≤ x8_1 then (if x8_1 < (x7_3.length : Int) then ((some (x7_3.set (x8_1 : Int).toNat (⟨x10_3, (wrap64 (t441 + ((rd_T59 x7_3 (ji39)).f1))), true⟩ : S59) : List (S59))).bind fun y446 => ((optimal_paragraph_forced.f s0_0 s0_1 s0_2 t442 (rd l1 x10_3)).bind fun bt447 => (if bt447.1 = true then (optimal_paragraph_best.l0 kj41 l1 a2 y446 (wrap64 (x8_1 - 1)) s0_0 s0_1 s0_2 bt447.2) else (optimal_paragraph_best.l1 kj41 l1 a2 y446 x8_1 x9_14 (wrap64 (x10_3 + 1)) s0_0 s0_1 s0_2 bt447.2)))) else (none)) else (none)) = some (r1, r2) := by rw [if_pos rfl] at H; exact H
                      clear H
                      have H := H1
                      clear H1
                      by_cases c50 : 0 ≤ x8_1
                      ·rw [if_pos c50] at H
                       have c50b0 : decide (0 ≤ x8_1) = true := decide_eq_true c50
                       clear c50
                       by_cases c51 : x8_1 < (x7_3.length : Int)
                       ·rw [if_pos c51] at H
                        have c51b0 : decide (x8_1 < (x7_3.length : Int)) = true := decide_eq_true c51
                        clear c51
                        obtain ⟨y446, hy446⟩ : ∃ y_ : List (S59), y_ = (x7_3.set (x8_1 : Int).toNat (⟨x10_3, (wrap64 (t441 + ((rd_T59 x7_3 (ji39)).f1))), true⟩ : S59)) := ⟨_, rfl⟩
                        replace H : ((optimal_paragraph_forced.f s0_0 s0_1 s0_2 t442 (rd l1 x10_3)).bind fun bt447 => (if bt447.1 = true then (optimal_paragraph_best.l0 kj41 l1 a2 y446 (wrap64 (x8_1 - 1)) s0_0 s0_1 s0_2 bt447.2) else (optimal_paragraph_best.l1 kj41 l1 a2 y446 x8_1 x9_14 (wrap64 (x10_3 + 1)) s0_0 s0_1 s0_2 bt447.2))) = some (r1, r2) := by first | (rw [hy446]; with_reducible exact H) | (have H2_ := (Option.bind_some _ _).symm.trans H; rw [hy446]; with_reducible exact H2_) | (have H2_ := (Option.bind_some _ _).symm.trans H; with_reducible exact H2_) | with_reducible exact H | (rw [hy446]; exact H) | exact H
                        have Ny446 := Aside0.mk hy446
                        clear hy446
                        replace H := Option.bind_eq_some_iff.mp H
                        obtain ⟨⟨t447, t448⟩, A530, H⟩ := H
                        replace H : (if t447 = true then (optimal_paragraph_best.l0 kj41 l1 a2 y446 (wrap64 (x8_1 - 1)) s0_0 s0_1 s0_2 t448) else (optimal_paragraph_best.l1 kj41 l1 a2 y446 x8_1 x9_14 (wrap64 (x10_3 + 1)) s0_0 s0_1 s0_2 t448)) = some (r1, r2) := H
                        have A53 := Aside0.mk A530
                        clear A530
                        by_cases c54 : t447 = true
                        ·subst c54
                         have H1 : (optimal_paragraph_best.l0 kj41 l1 a2 y446 (wrap64 (x8_1 - 1)) s0_0 s0_1 s0_2 t448) = some (r1, r2) := by rw [if_pos rfl] at H; exact H
                         clear H
                         have H := H1
                         clear H1
                         have H' := Aside0.mk H
                         clear H
                         have p52 : 0 ≤ (x8_1 : Int) := odt
                         have q52 : (x8_1 : Int) < ((x7_3.length : Int) : Int) := odt
                         obtain ⟨ce52, hcl52, hM52, hcc52, hfr52⟩ := Kd.R_elem HO_7.out z59 (x8_1 : Int) p52 q52
                         obtain rfl := k59_openM hM52
                         have hx52_0 : wc.cell? ⟨go9, (x8_1 : Int).toNat * 3, none⟩ = some (.int .i64 ((rd_T59 x7_3 x8_1).f0)) := hcc52 0 _ rfl
                         have hx52_1 : wc.cell? ⟨go9, (x8_1 : Int).toNat * 3 + 1, none⟩ = some (.int .i64 ((rd_T59 x7_3 x8_1).f1)) := hcc52 1 _ rfl
                         have hx52_2 : wc.cell? ⟨go9, (x8_1 : Int).toNat * 3 + 2, none⟩ = some (.bool ((rd_T59 x7_3 x8_1).f2)) := hcc52 2 _ rfl
                         have hf52_0 : wc.frozen? ⟨go9, (x8_1 : Int).toNat * 3, none⟩ = false := hfr52 0
                         have hf52_1 : wc.frozen? ⟨go9, (x8_1 : Int).toNat * 3 + 1, none⟩ = false := hfr52 1
                         have hf52_2 : wc.frozen? ⟨go9, (x8_1 : Int).toNat * 3 + 2, none⟩ = false := hfr52 2
                         clear hcl52 hcc52 hfr52 hM52
                         replace p52 := eq_true p52
                         replace q52 := eq_true q52
                         have HX55 := Aside0.mk (show Kd.R k59 59 wc w.heap.size (fun _ => True) (.slice (some ⟨go9, 0, none⟩) x7_3.length co9) x7_3 from (rq HO_7))
                         obtain ⟨ce55, hcl55, hM55, hcc55, hfr55⟩ := Kd.R_elem HX55.out z59 (x8_1 : Int) (odt) (by have h_ : (x8_1 : Int) < ((x7_3.length : Int) : Int) := odt; first | exact h_ | (have e_ := (Kd.R_reads' HO_7.out).1; omega) | simpa using h_)
                         obtain rfl := k59_openM hM55
                         have HP55 := Kd.R_seg HX55.out (x8_1 : Int) (odt) (by have h_ : (x8_1 : Int) < ((x7_3.length : Int) : Int) := odt; first | exact h_ | (have e_ := (Kd.R_reads' HO_7.out).1; omega) | simpa using h_) (seg := [.int .i64 x10_3, .int .i64 (wrap64 (t441 + ((rd_T59 x7_3 (ji39)).f1))), .bool true]) (j := 0) hcl55 hcc55 (show 3 ≤ 3 from by decide) (x' := (⟨x10_3, (wrap64 (t441 + ((rd_T59 x7_3 (ji39)).f1))), true⟩ : S59)) (k59_mkM _ _ _ (⟨x10_3, (wrap64 (t441 + ((rd_T59 x7_3 (ji39)).f1))), true⟩ : S59) ) (fun _ hk => hk)
                         have hx55_0 := hcc55 0 _ rfl
                         (try simp only [show (k59).sz = 3 from rfl, Nat.mul_one, Nat.add_zero, Int.toNat_natCast] at hx55_0)
                         have hf55_0 := hfr55 0
                         (try simp only [show (k59).sz = 3 from rfl, Nat.mul_one, Nat.add_zero, Int.toNat_natCast] at hf55_0)
                         have hx55_1 := hcc55 1 _ rfl
                         (try simp only [show (k59).sz = 3 from rfl, Nat.mul_one, Nat.add_zero, Int.toNat_natCast] at hx55_1)
                         have hf55_1 := hfr55 1
                         (try simp only [show (k59).sz = 3 from rfl, Nat.mul_one, Nat.add_zero, Int.toNat_natCast] at hf55_1)
                         have hx55_2 := hcc55 2 _ rfl
                         (try simp only [show (k59).sz = 3 from rfl, Nat.mul_one, Nat.add_zero, Int.toNat_natCast] at hx55_2)
                         have hf55_2 := hfr55 2
                         (try simp only [show (k59).sz = 3 from rfl, Nat.mul_one, Nat.add_zero, Int.toNat_natCast] at hf55_2)
                         clear hcl55 hcc55 hfr55 hM55
                         go_wp2_with (first | ((with_reducible refine gate_store (t := 59) (p := 104) rfl ?_); refine store_event (t := 59) (p := 104) (v := ?vo_w56) (w1 := (((wc.setCell ⟨go9, (x8_1 : Int).toNat * 3, none⟩ (.int .i64 x10_3)).setCell ⟨go9, (x8_1 : Int).toNat * 3 + 1, none⟩ (.int .i64 (wrap64 (t441 + ((rd_T59 x7_3 (ji39)).f1))))).setCell ⟨go9, (x8_1 : Int).toNat * 3 + 2, none⟩ (.bool true))) ?hg ?ho ?hn ?hr ?_; (case ho => rfl); (case hg => rfl); (case hn => rfl); (case hr => first | (go_simp; done) | (go_simp; rfl)); intro w56 hw; have hg : wc.grownBy w56 (some go9) := (by rw [hw]; exact HP55.2); have hp_ : Kd.R k59 59 w56 w.heap.size (fun _ => True) (.slice (some ⟨go9, 0, none⟩) x7_3.length co9) y446 := (by rw [hw, Ny446.out]; exact HP55.1); clear HP55; have n0_ := Aside0.mk (hp_); have n1_ := Aside0.mk (blk_grown (g := gb439) (o := .cells #[.int .i64 t435, .int .i64 t436] 73 (0, 0)) (kq BK439) hg (Kd.R_ne HO_7.out BK439.out (by decide))); have n2_ := Aside0.mk (IsS79.grown (by repeat (first | (with_reducible first | exact HI0.out | apply IsS79.alloc | apply IsS79.drewN | apply IsS79.drew | apply IsS79.set_3 | refine IsS79.far ?_ NB0_439.out _) | exact HI0.out)) hg (IsS79.own_ne HI0.out HO_7.out (by decide))); have n3_ := Aside0.mk ((by rw [hw]; exact below_set (below_set (below_set (HB.out) (Nat.le_trans HL.out GB9.out)) (Nat.le_trans HL.out GB9.out)) (Nat.le_trans HL.out GB9.out) : Below w0.heap.size w0 w56)); have n4_ := Aside0.mk (KeepBut.trans (by repeat (first | (with_reducible first | exact HK.out | apply KeepBut.set_ | apply keep_drewN | apply keep_drew | apply keep_alloc | refine keep_far ?_ GW439.out _) | exact HK.out)) (KeepBut.of_grown hg g) (Kd.R_base2 HO_7.out)); clear HO_7; clear BK439; clear HI0; clear HB; clear HK; have HO_7 := n0_; have BK439 := n1_; have HI0 := n2_; have HB := n3_; have HK := n4_; clear n0_ n1_ n2_ n3_ n4_; clear hg hw hp_) | ((with_reducible refine gate_callee (f := 43) rfl ?_); refine goesL_ (some 107) rfl rfl Try.func43 (by kernel_rfl) rfl #[.pointer (some ⟨g, 0, none⟩), .int .i64 (rd l1 x10_3)] rfl (by (try simp only [List.map_toArray, List.map_cons, List.map_nil]); first | done | rfl | (simp only [List.length_drop, List.length_take]; rfl)) ?_; (with_reducible refine (optimal_paragraph_forced.calls g s0_0 s0_1 s0_2 t442 (rd l1 x10_3) true t448 w0 _ ?side1 ?side2 A53.out).mono ?_); (case side1 => repeat (first | (with_reducible first | exact HI0.out | apply IsS79.alloc | apply IsS79.drewN | apply IsS79.drew | apply IsS79.set_3 | refine IsS79.far ?_ NB0_439.out _) | exact HI0.out)); (case side2 => repeat (first | (with_reducible first | exact HB.out | apply below_alloc | apply pw_below_drewN | apply below_drew1 | refine below_set ?_ (IsS79.ge HI0.out) | refine below_set ?_ GE439.out) | exact HB.out)); rintro e w57 ⟨rfl, hi, hb, hk⟩; refine ⟨_, rfl, ?_⟩; have n0_ := Aside0.mk (Kd.R_mono (Kd.R_keep (IsS79.apart (show IsS79 w0 _ g s0_0 s0_1 s0_2 t442 from by repeat (first | (with_reducible first | exact HI0.out | apply IsS79.alloc | apply IsS79.drewN | apply IsS79.drew | apply IsS79.set_3 | refine IsS79.far ?_ NB0_439.out _) | exact HI0.out)) (rq HO_7) (by decide)) hk (fun _ h => h.2)) (fun _ h => h.1)); have n1_ := Aside0.mk (KeepBut.blk hk (g' := gb439) (o := .cells #[.int .i64 t435, .int .i64 t436] 73 (0, 0)) (kq BK439) NB439_0.out (by simp)); have n2_ := Aside0.mk (KeepBut.trans (by repeat (first | (with_reducible first | exact HK.out | apply KeepBut.set_ | apply keep_drewN | apply keep_drew | apply keep_alloc | refine keep_far ?_ GW439.out _) | exact HK.out)) hk (.inl rfl)); have n3_ := Aside0.mk (hb); have n4_ := Aside0.mk (hi); clear HO_7; clear BK439; clear HK; clear HB; clear HI0; have HO_7 := n0_; have BK439 := n1_; have HK := n2_; have HB := n3_; have HI0 := n4_; clear n0_ n1_ n2_ n3_ n4_; (try clear hb); (try clear hb2); (try clear hk); (try clear hi)))
                         (try simp only [← hl7_1, ← hl7_3])
                         go_roundg kj41
                         case measure => have := HK1.out; have := HJ14.out; have := HK3.out; have := HJ22.out; have := HJ41.out; omega
                         case rel => exact ⟨(y446), (wrap64 (x8_1 - 1)), (t448), (by first | rfl | (simp; done) | (simp [*]; done)), H', ⟨by have := HK1.out; have := HJ14.out; have := HK3.out; have := HJ22.out; have := HJ41.out; omega⟩, ⟨by (try simp only [hl7_1]); (try simp only [hl7_3]); (with_reducible repeat (first | apply Kd.R_alloc | apply Kd.R_drewN | apply Kd.R_drew)); exact HO_7.out⟩, ⟨by repeat (first | (with_reducible first | exact HI0.out | apply IsS79.alloc | apply IsS79.drewN | apply IsS79.drew | apply IsS79.set_3 | refine IsS79.far ?_ NB0_439.out _) | exact HI0.out)⟩, ⟨by repeat (first | (with_reducible first | exact HK.out | apply KeepBut.set_ | apply keep_drewN | apply keep_drew | apply keep_alloc | refine keep_far ?_ GW439.out _) | exact HK.out)⟩, ⟨by repeat (first | (with_reducible first | exact HB.out | apply below_alloc | apply pw_below_drewN | apply below_drew1 | refine below_set ?_ (IsS79.ge HI0.out) | refine below_set ?_ GE439.out) | exact HB.out)⟩⟩
                        ·replace c54 := Bool.eq_false_iff.mpr c54
                         subst c54
                         have H1 : (optimal_paragraph_best.l1 kj41 l1 a2 y446 x8_1 x9_14 (wrap64 (x10_3 + 1)) s0_0 s0_1 s0_2 t448) = some (r1, r2) := by rw [if_neg (show ¬ (false = true) by decide)] at H; exact H
                         clear H
                         have H := H1
                         clear H1
                         have H' := Aside0.mk H
                         clear H
                         have p52 : 0 ≤ (x8_1 : Int) := odt
                         have q52 : (x8_1 : Int) < ((x7_3.length : Int) : Int) := odt
                         obtain ⟨ce52, hcl52, hM52, hcc52, hfr52⟩ := Kd.R_elem HO_7.out z59 (x8_1 : Int) p52 q52
                         obtain rfl := k59_openM hM52
                         have hx52_0 : wc.cell? ⟨go9, (x8_1 : Int).toNat * 3, none⟩ = some (.int .i64 ((rd_T59 x7_3 x8_1).f0)) := hcc52 0 _ rfl
                         have hx52_1 : wc.cell? ⟨go9, (x8_1 : Int).toNat * 3 + 1, none⟩ = some (.int .i64 ((rd_T59 x7_3 x8_1).f1)) := hcc52 1 _ rfl
                         have hx52_2 : wc.cell? ⟨go9, (x8_1 : Int).toNat * 3 + 2, none⟩ = some (.bool ((rd_T59 x7_3 x8_1).f2)) := hcc52 2 _ rfl
                         have hf52_0 : wc.frozen? ⟨go9, (x8_1 : Int).toNat * 3, none⟩ = false := hfr52 0
                         have hf52_1 : wc.frozen? ⟨go9, (x8_1 : Int).toNat * 3 + 1, none⟩ = false := hfr52 1
                         have hf52_2 : wc.frozen? ⟨go9, (x8_1 : Int).toNat * 3 + 2, none⟩ = false := hfr52 2
                         clear hcl52 hcc52 hfr52 hM52
                         replace p52 := eq_true p52
                         replace q52 := eq_true q52
                         have HX58 := Aside0.mk (show Kd.R k59 59 wc w.heap.size (fun _ => True) (.slice (some ⟨go9, 0, none⟩) x7_3.length co9) x7_3 from (rq HO_7))
                         obtain ⟨ce58, hcl58, hM58, hcc58, hfr58⟩ := Kd.R_elem HX58.out z59 (x8_1 : Int) (odt) (by have h_ : (x8_1 : Int) < ((x7_3.length : Int) : Int) := odt; first | exact h_ | (have e_ := (Kd.R_reads' HO_7.out).1; omega) | simpa using h_)
                         obtain rfl := k59_openM hM58
                         have HP58 := Kd.R_seg HX58.out (x8_1 : Int) (odt) (by have h_ : (x8_1 : Int) < ((x7_3.length : Int) : Int) := odt; first | exact h_ | (have e_ := (Kd.R_reads' HO_7.out).1; omega) | simpa using h_) (seg := [.int .i64 x10_3, .int .i64 (wrap64 (t441 + ((rd_T59 x7_3 (ji39)).f1))), .bool true]) (j := 0) hcl58 hcc58 (show 3 ≤ 3 from by decide) (x' := (⟨x10_3, (wrap64 (t441 + ((rd_T59 x7_3 (ji39)).f1))), true⟩ : S59)) (k59_mkM _ _ _ (⟨x10_3, (wrap64 (t441 + ((rd_T59 x7_3 (ji39)).f1))), true⟩ : S59) ) (fun _ hk => hk)
                         have hx58_0 := hcc58 0 _ rfl
                         (try simp only [show (k59).sz = 3 from rfl, Nat.mul_one, Nat.add_zero, Int.toNat_natCast] at hx58_0)
                         have hf58_0 := hfr58 0
                         (try simp only [show (k59).sz = 3 from rfl, Nat.mul_one, Nat.add_zero, Int.toNat_natCast] at hf58_0)
                         have hx58_1 := hcc58 1 _ rfl
                         (try simp only [show (k59).sz = 3 from rfl, Nat.mul_one, Nat.add_zero, Int.toNat_natCast] at hx58_1)
                         have hf58_1 := hfr58 1
                         (try simp only [show (k59).sz = 3 from rfl, Nat.mul_one, Nat.add_zero, Int.toNat_natCast] at hf58_1)
                         have hx58_2 := hcc58 2 _ rfl
                         (try simp only [show (k59).sz = 3 from rfl, Nat.mul_one, Nat.add_zero, Int.toNat_natCast] at hx58_2)
                         have hf58_2 := hfr58 2
                         (try simp only [show (k59).sz = 3 from rfl, Nat.mul_one, Nat.add_zero, Int.toNat_natCast] at hf58_2)
                         clear hcl58 hcc58 hfr58 hM58
                         go_wp2_with (first | ((with_reducible refine gate_store (t := 59) (p := 104) rfl ?_); refine store_event (t := 59) (p := 104) (v := ?vo_w59) (w1 := (((wc.setCell ⟨go9, (x8_1 : Int).toNat * 3, none⟩ (.int .i64 x10_3)).setCell ⟨go9, (x8_1 : Int).toNat * 3 + 1, none⟩ (.int .i64 (wrap64 (t441 + ((rd_T59 x7_3 (ji39)).f1))))).setCell ⟨go9, (x8_1 : Int).toNat * 3 + 2, none⟩ (.bool true))) ?hg ?ho ?hn ?hr ?_; (case ho => rfl); (case hg => rfl); (case hn => rfl); (case hr => first | (go_simp; done) | (go_simp; rfl)); intro w59 hw; have hg : wc.grownBy w59 (some go9) := (by rw [hw]; exact HP58.2); have hp_ : Kd.R k59 59 w59 w.heap.size (fun _ => True) (.slice (some ⟨go9, 0, none⟩) x7_3.length co9) y446 := (by rw [hw, Ny446.out]; exact HP58.1); clear HP58; have n0_ := Aside0.mk (hp_); have n1_ := Aside0.mk (blk_grown (g := gb439) (o := .cells #[.int .i64 t435, .int .i64 t436] 73 (0, 0)) (kq BK439) hg (Kd.R_ne HO_7.out BK439.out (by decide))); have n2_ := Aside0.mk (IsS79.grown (by repeat (first | (with_reducible first | exact HI0.out | apply IsS79.alloc | apply IsS79.drewN | apply IsS79.drew | apply IsS79.set_3 | refine IsS79.far ?_ NB0_439.out _) | exact HI0.out)) hg (IsS79.own_ne HI0.out HO_7.out (by decide))); have n3_ := Aside0.mk ((by rw [hw]; exact below_set (below_set (below_set (HB.out) (Nat.le_trans HL.out GB9.out)) (Nat.le_trans HL.out GB9.out)) (Nat.le_trans HL.out GB9.out) : Below w0.heap.size w0 w59)); have n4_ := Aside0.mk (KeepBut.trans (by repeat (first | (with_reducible first | exact HK.out | apply KeepBut.set_ | apply keep_drewN | apply keep_drew | apply keep_alloc | refine keep_far ?_ GW439.out _) | exact HK.out)) (KeepBut.of_grown hg g) (Kd.R_base2 HO_7.out)); clear HO_7; clear BK439; clear HI0; clear HB; clear HK; have HO_7 := n0_; have BK439 := n1_; have HI0 := n2_; have HB := n3_; have HK := n4_; clear n0_ n1_ n2_ n3_ n4_; clear hg hw hp_) | ((with_reducible refine gate_callee (f := 43) rfl ?_); refine goesL_ (some 107) rfl rfl Try.func43 (by kernel_rfl) rfl #[.pointer (some ⟨g, 0, none⟩), .int .i64 (rd l1 x10_3)] rfl (by (try simp only [List.map_toArray, List.map_cons, List.map_nil]); first | done | rfl | (simp only [List.length_drop, List.length_take]; rfl)) ?_; (with_reducible refine (optimal_paragraph_forced.calls g s0_0 s0_1 s0_2 t442 (rd l1 x10_3) false t448 w0 _ ?side1 ?side2 A53.out).mono ?_); (case side1 => repeat (first | (with_reducible first | exact HI0.out | apply IsS79.alloc | apply IsS79.drewN | apply IsS79.drew | apply IsS79.set_3 | refine IsS79.far ?_ NB0_439.out _) | exact HI0.out)); (case side2 => repeat (first | (with_reducible first | exact HB.out | apply below_alloc | apply pw_below_drewN | apply below_drew1 | refine below_set ?_ (IsS79.ge HI0.out) | refine below_set ?_ GE439.out) | exact HB.out)); rintro e w60 ⟨rfl, hi, hb, hk⟩; refine ⟨_, rfl, ?_⟩; have n0_ := Aside0.mk (Kd.R_mono (Kd.R_keep (IsS79.apart (show IsS79 w0 _ g s0_0 s0_1 s0_2 t442 from by repeat (first | (with_reducible first | exact HI0.out | apply IsS79.alloc | apply IsS79.drewN | apply IsS79.drew | apply IsS79.set_3 | refine IsS79.far ?_ NB0_439.out _) | exact HI0.out)) (rq HO_7) (by decide)) hk (fun _ h => h.2)) (fun _ h => h.1)); have n1_ := Aside0.mk (KeepBut.blk hk (g' := gb439) (o := .cells #[.int .i64 t435, .int .i64 t436] 73 (0, 0)) (kq BK439) NB439_0.out (by simp)); have n2_ := Aside0.mk (KeepBut.trans (by repeat (first | (with_reducible first | exact HK.out | apply KeepBut.set_ | apply keep_drewN | apply keep_drew | apply keep_alloc | refine keep_far ?_ GW439.out _) | exact HK.out)) hk (.inl rfl)); have n3_ := Aside0.mk (hb); have n4_ := Aside0.mk (hi); clear HO_7; clear BK439; clear HK; clear HB; clear HI0; have HO_7 := n0_; have BK439 := n1_; have HK := n2_; have HB := n3_; have HI0 := n4_; clear n0_ n1_ n2_ n3_ n4_; (try clear hb); (try clear hb2); (try clear hk); (try clear hi)))
                         (try simp only [← hl7_3])
                         go_roundg kj41
                         case measure => have := HK1.out; have := HJ14.out; have := HK3.out; have := HJ22.out; have := HJ41.out; omega
                         case rel => exact ⟨(y446), (wrap64 (x10_3 + 1)), (t448), (by first | rfl | (simp; done) | (simp [*]; done)), H', ⟨by have := HK1.out; have := HJ14.out; have := HK3.out; have := HJ22.out; have := HJ41.out; omega⟩, ⟨by (try simp only [hl7_1]); (try simp only [hl7_3]); (with_reducible repeat (first | apply Kd.R_alloc | apply Kd.R_drewN | apply Kd.R_drew)); exact HO_7.out⟩, ⟨by repeat (first | (with_reducible first | exact HI0.out | apply IsS79.alloc | apply IsS79.drewN | apply IsS79.drew | apply IsS79.set_3 | refine IsS79.far ?_ NB0_439.out _) | exact HI0.out)⟩, ⟨by repeat (first | (with_reducible first | exact HK.out | apply KeepBut.set_ | apply keep_drewN | apply keep_drew | apply keep_alloc | refine keep_far ?_ GW439.out _) | exact HK.out)⟩, ⟨by repeat (first | (with_reducible first | exact HB.out | apply below_alloc | apply pw_below_drewN | apply below_drew1 | refine below_set ?_ (IsS79.ge HI0.out) | refine below_set ?_ GE439.out) | exact HB.out)⟩⟩
                       ·rw [if_neg c51] at H
                        exact absurd H (by simp)
                      ·rw [if_neg c50] at H
                       exact absurd H (by simp)
                     ·replace c49 := Bool.eq_false_iff.mpr c49
                      subst c49
                      have H1 : ((optimal_paragraph_forced.f s0_0 s0_1 s0_2 t442 (rd l1 x10_3)).bind fun bt449 => (if bt449.1 = true then (optimal_paragraph_best.l0 kj41 l1 a2 x7_3 (wrap64 (x8_1 - 1)) s0_0 s0_1 s0_2 bt449.2) else (optimal_paragraph_best.l1 kj41 l1 a2 x7_3 x8_1 x9_14 (wrap64 (x10_3 + 1)) s0_0 s0_1 s0_2 bt449.2))) = some (r1, r2) := by rw [if_neg (show ¬ (false = true) by decide)] at H; exact H
                      clear H
                      have H := H1
                      clear H1
                      replace H := Option.bind_eq_some_iff.mp H
                      obtain ⟨⟨t449, t450⟩, A610, H⟩ := H
                      replace H : (if t449 = true then (optimal_paragraph_best.l0 kj41 l1 a2 x7_3 (wrap64 (x8_1 - 1)) s0_0 s0_1 s0_2 t450) else (optimal_paragraph_best.l1 kj41 l1 a2 x7_3 x8_1 x9_14 (wrap64 (x10_3 + 1)) s0_0 s0_1 s0_2 t450)) = some (r1, r2) := H
                      have A61 := Aside0.mk A610
                      clear A610
                      by_cases c62 : t449 = true
                      ·subst c62
                       have H1 : (optimal_paragraph_best.l0 kj41 l1 a2 x7_3 (wrap64 (x8_1 - 1)) s0_0 s0_1 s0_2 t450) = some (r1, r2) := by rw [if_pos rfl] at H; exact H
                       clear H
                       have H := H1
                       clear H1
                       have H' := Aside0.mk H
                       clear H
                       go_wp2_with (first | ((with_reducible refine gate_callee (f := 43) rfl ?_); refine goesL_ (some 107) rfl rfl Try.func43 (by kernel_rfl) rfl #[.pointer (some ⟨g, 0, none⟩), .int .i64 (rd l1 x10_3)] rfl (by (try simp only [List.map_toArray, List.map_cons, List.map_nil]); first | done | rfl | (simp only [List.length_drop, List.length_take]; rfl)) ?_; (with_reducible refine (optimal_paragraph_forced.calls g s0_0 s0_1 s0_2 t442 (rd l1 x10_3) true t450 w0 _ ?side1 ?side2 A61.out).mono ?_); (case side1 => repeat (first | (with_reducible first | exact HI0.out | apply IsS79.alloc | apply IsS79.drewN | apply IsS79.drew | apply IsS79.set_3 | refine IsS79.far ?_ NB0_439.out _) | exact HI0.out)); (case side2 => repeat (first | (with_reducible first | exact HB.out | apply below_alloc | apply pw_below_drewN | apply below_drew1 | refine below_set ?_ (IsS79.ge HI0.out) | refine below_set ?_ GE439.out) | exact HB.out)); rintro e w63 ⟨rfl, hi, hb, hk⟩; refine ⟨_, rfl, ?_⟩; have n0_ := Aside0.mk (Kd.R_mono (Kd.R_keep (IsS79.apart (show IsS79 w0 _ g s0_0 s0_1 s0_2 t442 from by repeat (first | (with_reducible first | exact HI0.out | apply IsS79.alloc | apply IsS79.drewN | apply IsS79.drew | apply IsS79.set_3 | refine IsS79.far ?_ NB0_439.out _) | exact HI0.out)) (rq HO_7) (by decide)) hk (fun _ h => h.2)) (fun _ h => h.1)); have n1_ := Aside0.mk (KeepBut.blk hk (g' := gb439) (o := .cells #[.int .i64 t435, .int .i64 t436] 73 (0, 0)) (kq BK439) NB439_0.out (by simp)); have n2_ := Aside0.mk (KeepBut.trans (by repeat (first | (with_reducible first | exact HK.out | apply KeepBut.set_ | apply keep_drewN | apply keep_drew | apply keep_alloc | refine keep_far ?_ GW439.out _) | exact HK.out)) hk (.inl rfl)); have n3_ := Aside0.mk (hb); have n4_ := Aside0.mk (hi); clear HO_7; clear BK439; clear HK; clear HB; clear HI0; have HO_7 := n0_; have BK439 := n1_; have HK := n2_; have HB := n3_; have HI0 := n4_; clear n0_ n1_ n2_ n3_ n4_; (try clear hb); (try clear hb2); (try clear hk); (try clear hi)))
                       (try simp only [← hl7_1, ← hl7_3])
                       go_roundg kj41
                       case measure => have := HK1.out; have := HJ14.out; have := HK3.out; have := HJ22.out; have := HJ41.out; omega
                       case rel => exact ⟨(x7_3), (wrap64 (x8_1 - 1)), (t450), (by first | rfl | (simp; done) | (simp [*]; done)), H', ⟨by have := HK1.out; have := HJ14.out; have := HK3.out; have := HJ22.out; have := HJ41.out; omega⟩, ⟨by (try simp only [hl7_1]); (try simp only [hl7_3]); (with_reducible repeat (first | apply Kd.R_alloc | apply Kd.R_drewN | apply Kd.R_drew)); exact HO_7.out⟩, ⟨by repeat (first | (with_reducible first | exact HI0.out | apply IsS79.alloc | apply IsS79.drewN | apply IsS79.drew | apply IsS79.set_3 | refine IsS79.far ?_ NB0_439.out _) | exact HI0.out)⟩, ⟨by repeat (first | (with_reducible first | exact HK.out | apply KeepBut.set_ | apply keep_drewN | apply keep_drew | apply keep_alloc | refine keep_far ?_ GW439.out _) | exact HK.out)⟩, ⟨by repeat (first | (with_reducible first | exact HB.out | apply below_alloc | apply pw_below_drewN | apply below_drew1 | refine below_set ?_ (IsS79.ge HI0.out) | refine below_set ?_ GE439.out) | exact HB.out)⟩⟩
                      ·replace c62 := Bool.eq_false_iff.mpr c62
                       subst c62
                       have H1 : (optimal_paragraph_best.l1 kj41 l1 a2 x7_3 x8_1 x9_14 (wrap64 (x10_3 + 1)) s0_0 s0_1 s0_2 t450) = some (r1, r2) := by rw [if_neg (show ¬ (false = true) by decide)] at H; exact H
                       clear H
                       have H := H1
                       clear H1
                       have H' := Aside0.mk H
                       clear H
                       go_wp2_with (first | ((with_reducible refine gate_callee (f := 43) rfl ?_); refine goesL_ (some 107) rfl rfl Try.func43 (by kernel_rfl) rfl #[.pointer (some ⟨g, 0, none⟩), .int .i64 (rd l1 x10_3)] rfl (by (try simp only [List.map_toArray, List.map_cons, List.map_nil]); first | done | rfl | (simp only [List.length_drop, List.length_take]; rfl)) ?_; (with_reducible refine (optimal_paragraph_forced.calls g s0_0 s0_1 s0_2 t442 (rd l1 x10_3) false t450 w0 _ ?side1 ?side2 A61.out).mono ?_); (case side1 => repeat (first | (with_reducible first | exact HI0.out | apply IsS79.alloc | apply IsS79.drewN | apply IsS79.drew | apply IsS79.set_3 | refine IsS79.far ?_ NB0_439.out _) | exact HI0.out)); (case side2 => repeat (first | (with_reducible first | exact HB.out | apply below_alloc | apply pw_below_drewN | apply below_drew1 | refine below_set ?_ (IsS79.ge HI0.out) | refine below_set ?_ GE439.out) | exact HB.out)); rintro e w64 ⟨rfl, hi, hb, hk⟩; refine ⟨_, rfl, ?_⟩; have n0_ := Aside0.mk (Kd.R_mono (Kd.R_keep (IsS79.apart (show IsS79 w0 _ g s0_0 s0_1 s0_2 t442 from by repeat (first | (with_reducible first | exact HI0.out | apply IsS79.alloc | apply IsS79.drewN | apply IsS79.drew | apply IsS79.set_3 | refine IsS79.far ?_ NB0_439.out _) | exact HI0.out)) (rq HO_7) (by decide)) hk (fun _ h => h.2)) (fun _ h => h.1)); have n1_ := Aside0.mk (KeepBut.blk hk (g' := gb439) (o := .cells #[.int .i64 t435, .int .i64 t436] 73 (0, 0)) (kq BK439) NB439_0.out (by simp)); have n2_ := Aside0.mk (KeepBut.trans (by repeat (first | (with_reducible first | exact HK.out | apply KeepBut.set_ | apply keep_drewN | apply keep_drew | apply keep_alloc | refine keep_far ?_ GW439.out _) | exact HK.out)) hk (.inl rfl)); have n3_ := Aside0.mk (hb); have n4_ := Aside0.mk (hi); clear HO_7; clear BK439; clear HK; clear HB; clear HI0; have HO_7 := n0_; have BK439 := n1_; have HK := n2_; have HB := n3_; have HI0 := n4_; clear n0_ n1_ n2_ n3_ n4_; (try clear hb); (try clear hb2); (try clear hk); (try clear hi)))
                       (try simp only [← hl7_3])
                       go_roundg kj41
                       case measure => have := HK1.out; have := HJ14.out; have := HK3.out; have := HJ22.out; have := HJ41.out; omega
                       case rel => exact ⟨(x7_3), (wrap64 (x10_3 + 1)), (t450), (by first | rfl | (simp; done) | (simp [*]; done)), H', ⟨by have := HK1.out; have := HJ14.out; have := HK3.out; have := HJ22.out; have := HJ41.out; omega⟩, ⟨by (try simp only [hl7_1]); (try simp only [hl7_3]); (with_reducible repeat (first | apply Kd.R_alloc | apply Kd.R_drewN | apply Kd.R_drew)); exact HO_7.out⟩, ⟨by repeat (first | (with_reducible first | exact HI0.out | apply IsS79.alloc | apply IsS79.drewN | apply IsS79.drew | apply IsS79.set_3 | refine IsS79.far ?_ NB0_439.out _) | exact HI0.out)⟩, ⟨by repeat (first | (with_reducible first | exact HK.out | apply KeepBut.set_ | apply keep_drewN | apply keep_drew | apply keep_alloc | refine keep_far ?_ GW439.out _) | exact HK.out)⟩, ⟨by repeat (first | (with_reducible first | exact HB.out | apply below_alloc | apply pw_below_drewN | apply below_drew1 | refine below_set ?_ (IsS79.ge HI0.out) | refine below_set ?_ GE439.out) | exact HB.out)⟩⟩
                  ·rw [if_neg c41] at H
                   exact absurd H (by simp)
                 ·rw [if_neg c40] at H
                  exact absurd H (by simp)
                ·replace c37 := Bool.eq_false_iff.mpr c37
                 subst c37
                 have H1 : ((optimal_paragraph_forced.f s0_0 s0_1 s0_2 t438 (rd l1 x10_3)).bind fun bt451 => (if bt451.1 = true then (optimal_paragraph_best.l0 kj22 l1 a2 x7_3 (wrap64 (x8_1 - 1)) s0_0 s0_1 s0_2 bt451.2) else (optimal_paragraph_best.l1 kj22 l1 a2 x7_3 x8_1 x9_14 (wrap64 (x10_3 + 1)) s0_0 s0_1 s0_2 bt451.2))) = some (r1, r2) := by rw [if_neg (show ¬ (false = true) by decide)] at H; exact H
                 clear H
                 have H := H1
                 clear H1
                 replace H := Option.bind_eq_some_iff.mp H
                 obtain ⟨⟨t451, t452⟩, A650, H⟩ := H
                 replace H : (if t451 = true then (optimal_paragraph_best.l0 kj22 l1 a2 x7_3 (wrap64 (x8_1 - 1)) s0_0 s0_1 s0_2 t452) else (optimal_paragraph_best.l1 kj22 l1 a2 x7_3 x8_1 x9_14 (wrap64 (x10_3 + 1)) s0_0 s0_1 s0_2 t452)) = some (r1, r2) := H
                 have A65 := Aside0.mk A650
                 clear A650
                 by_cases c66 : t451 = true
                 ·subst c66
                  have H1 : (optimal_paragraph_best.l0 kj22 l1 a2 x7_3 (wrap64 (x8_1 - 1)) s0_0 s0_1 s0_2 t452) = some (r1, r2) := by rw [if_pos rfl] at H; exact H
                  clear H
                  have H := H1
                  clear H1
                  have H' := Aside0.mk H
                  clear H
                  go_wp2_with (first | ((with_reducible refine gate_callee (f := 43) rfl ?_); refine goesL_ (some 107) rfl rfl Try.func43 (by kernel_rfl) rfl #[.pointer (some ⟨g, 0, none⟩), .int .i64 (rd l1 x10_3)] rfl (by (try simp only [List.map_toArray, List.map_cons, List.map_nil]); first | done | rfl | (simp only [List.length_drop, List.length_take]; rfl)) ?_; (with_reducible refine (optimal_paragraph_forced.calls g s0_0 s0_1 s0_2 t438 (rd l1 x10_3) true t452 w0 _ ?side1 ?side2 A65.out).mono ?_); (case side1 => repeat (first | (with_reducible first | exact HI0.out | apply IsS79.alloc | apply IsS79.drewN | apply IsS79.drew | apply IsS79.set_3 | refine IsS79.far ?_ NB0_439.out _) | exact HI0.out)); (case side2 => repeat (first | (with_reducible first | exact HB.out | apply below_alloc | apply pw_below_drewN | apply below_drew1 | refine below_set ?_ (IsS79.ge HI0.out) | refine below_set ?_ GE439.out) | exact HB.out)); rintro e w67 ⟨rfl, hi, hb, hk⟩; refine ⟨_, rfl, ?_⟩; have n0_ := Aside0.mk (Kd.R_mono (Kd.R_keep (IsS79.apart (show IsS79 w0 _ g s0_0 s0_1 s0_2 t438 from by repeat (first | (with_reducible first | exact HI0.out | apply IsS79.alloc | apply IsS79.drewN | apply IsS79.drew | apply IsS79.set_3 | refine IsS79.far ?_ NB0_439.out _) | exact HI0.out)) (rq HO_7) (by decide)) hk (fun _ h => h.2)) (fun _ h => h.1)); have n1_ := Aside0.mk (KeepBut.blk hk (g' := gb439) (o := .cells #[.int .i64 t435, .int .i64 t436] 73 (0, 0)) (kq BK439) NB439_0.out (by simp)); have n2_ := Aside0.mk (KeepBut.trans (by repeat (first | (with_reducible first | exact HK.out | apply KeepBut.set_ | apply keep_drewN | apply keep_drew | apply keep_alloc | refine keep_far ?_ GW439.out _) | exact HK.out)) hk (.inl rfl)); have n3_ := Aside0.mk (hb); have n4_ := Aside0.mk (hi); clear HO_7; clear BK439; clear HK; clear HB; clear HI0; have HO_7 := n0_; have BK439 := n1_; have HK := n2_; have HB := n3_; have HI0 := n4_; clear n0_ n1_ n2_ n3_ n4_; (try clear hb); (try clear hb2); (try clear hk); (try clear hi)))
                  (try simp only [← hl7_1, ← hl7_3])
                  go_roundg kj22
                  case measure => have := HK1.out; have := HJ14.out; have := HK3.out; have := HJ22.out; omega
                  case rel => exact ⟨(x7_3), (wrap64 (x8_1 - 1)), (t452), (by first | rfl | (simp; done) | (simp [*]; done)), H', ⟨by have := HK1.out; have := HJ14.out; have := HK3.out; have := HJ22.out; omega⟩, ⟨by (try simp only [hl7_1]); (try simp only [hl7_3]); (with_reducible repeat (first | apply Kd.R_alloc | apply Kd.R_drewN | apply Kd.R_drew)); exact HO_7.out⟩, ⟨by repeat (first | (with_reducible first | exact HI0.out | apply IsS79.alloc | apply IsS79.drewN | apply IsS79.drew | apply IsS79.set_3 | refine IsS79.far ?_ NB0_439.out _) | exact HI0.out)⟩, ⟨by repeat (first | (with_reducible first | exact HK.out | apply KeepBut.set_ | apply keep_drewN | apply keep_drew | apply keep_alloc | refine keep_far ?_ GW439.out _) | exact HK.out)⟩, ⟨by repeat (first | (with_reducible first | exact HB.out | apply below_alloc | apply pw_below_drewN | apply below_drew1 | refine below_set ?_ (IsS79.ge HI0.out) | refine below_set ?_ GE439.out) | exact HB.out)⟩⟩
                 ·replace c66 := Bool.eq_false_iff.mpr c66
                  subst c66
                  have H1 : (optimal_paragraph_best.l1 kj22 l1 a2 x7_3 x8_1 x9_14 (wrap64 (x10_3 + 1)) s0_0 s0_1 s0_2 t452) = some (r1, r2) := by rw [if_neg (show ¬ (false = true) by decide)] at H; exact H
                  clear H
                  have H := H1
                  clear H1
                  have H' := Aside0.mk H
                  clear H
                  go_wp2_with (first | ((with_reducible refine gate_callee (f := 43) rfl ?_); refine goesL_ (some 107) rfl rfl Try.func43 (by kernel_rfl) rfl #[.pointer (some ⟨g, 0, none⟩), .int .i64 (rd l1 x10_3)] rfl (by (try simp only [List.map_toArray, List.map_cons, List.map_nil]); first | done | rfl | (simp only [List.length_drop, List.length_take]; rfl)) ?_; (with_reducible refine (optimal_paragraph_forced.calls g s0_0 s0_1 s0_2 t438 (rd l1 x10_3) false t452 w0 _ ?side1 ?side2 A65.out).mono ?_); (case side1 => repeat (first | (with_reducible first | exact HI0.out | apply IsS79.alloc | apply IsS79.drewN | apply IsS79.drew | apply IsS79.set_3 | refine IsS79.far ?_ NB0_439.out _) | exact HI0.out)); (case side2 => repeat (first | (with_reducible first | exact HB.out | apply below_alloc | apply pw_below_drewN | apply below_drew1 | refine below_set ?_ (IsS79.ge HI0.out) | refine below_set ?_ GE439.out) | exact HB.out)); rintro e w68 ⟨rfl, hi, hb, hk⟩; refine ⟨_, rfl, ?_⟩; have n0_ := Aside0.mk (Kd.R_mono (Kd.R_keep (IsS79.apart (show IsS79 w0 _ g s0_0 s0_1 s0_2 t438 from by repeat (first | (with_reducible first | exact HI0.out | apply IsS79.alloc | apply IsS79.drewN | apply IsS79.drew | apply IsS79.set_3 | refine IsS79.far ?_ NB0_439.out _) | exact HI0.out)) (rq HO_7) (by decide)) hk (fun _ h => h.2)) (fun _ h => h.1)); have n1_ := Aside0.mk (KeepBut.blk hk (g' := gb439) (o := .cells #[.int .i64 t435, .int .i64 t436] 73 (0, 0)) (kq BK439) NB439_0.out (by simp)); have n2_ := Aside0.mk (KeepBut.trans (by repeat (first | (with_reducible first | exact HK.out | apply KeepBut.set_ | apply keep_drewN | apply keep_drew | apply keep_alloc | refine keep_far ?_ GW439.out _) | exact HK.out)) hk (.inl rfl)); have n3_ := Aside0.mk (hb); have n4_ := Aside0.mk (hi); clear HO_7; clear BK439; clear HK; clear HB; clear HI0; have HO_7 := n0_; have BK439 := n1_; have HK := n2_; have HB := n3_; have HI0 := n4_; clear n0_ n1_ n2_ n3_ n4_; (try clear hb); (try clear hb2); (try clear hk); (try clear hi)))
                  (try simp only [← hl7_3])
                  go_roundg kj22
                  case measure => have := HK1.out; have := HJ14.out; have := HK3.out; have := HJ22.out; omega
                  case rel => exact ⟨(x7_3), (wrap64 (x10_3 + 1)), (t452), (by first | rfl | (simp; done) | (simp [*]; done)), H', ⟨by have := HK1.out; have := HJ14.out; have := HK3.out; have := HJ22.out; omega⟩, ⟨by (try simp only [hl7_1]); (try simp only [hl7_3]); (with_reducible repeat (first | apply Kd.R_alloc | apply Kd.R_drewN | apply Kd.R_drew)); exact HO_7.out⟩, ⟨by repeat (first | (with_reducible first | exact HI0.out | apply IsS79.alloc | apply IsS79.drewN | apply IsS79.drew | apply IsS79.set_3 | refine IsS79.far ?_ NB0_439.out _) | exact HI0.out)⟩, ⟨by repeat (first | (with_reducible first | exact HK.out | apply KeepBut.set_ | apply keep_drewN | apply keep_drew | apply keep_alloc | refine keep_far ?_ GW439.out _) | exact HK.out)⟩, ⟨by repeat (first | (with_reducible first | exact HB.out | apply below_alloc | apply pw_below_drewN | apply below_drew1 | refine below_set ?_ (IsS79.ge HI0.out) | refine below_set ?_ GE439.out) | exact HB.out)⟩⟩
             ·rw [if_neg c21] at H
              exact absurd H (by simp)
            ·rw [if_neg c20] at H
             have c20b0 : decide (x10_3 < (l1.length : Int)) = false := decide_eq_false c20
             clear c20
             have H' := Aside0.mk H
             clear H
             go_wp2
             (try simp only [← hl7_1, ← hl7_3])
             go_roundg k3
             case measure => have := HK1.out; have := HJ14.out; have := HK3.out; omega
             case rel => exact ⟨(x7_3), (wrap64 (x8_1 - 1)), (x1003_3), (by first | rfl | (simp; done) | (simp [*]; done)), H', ⟨by have := HK1.out; have := HJ14.out; have := HK3.out; omega⟩, ⟨by (try simp only [hl7_1]); (try simp only [hl7_3]); (with_reducible repeat (first | apply Kd.R_alloc | apply Kd.R_drewN | apply Kd.R_drew)); exact HO_7.out⟩, ⟨by repeat (first | (with_reducible first | exact HI0.out | apply IsS79.alloc | apply IsS79.drewN | apply IsS79.drew | apply IsS79.set_3) | exact HI0.out)⟩, ⟨by repeat (first | (with_reducible first | exact HK.out | apply KeepBut.set_ | apply keep_drewN | apply keep_drew | apply keep_alloc) | exact HK.out)⟩, ⟨bs HB ⟨IsS79.ge HI0.out⟩⟩⟩
       ·rw [if_neg c14] at H
        have c14b0 : decide (0 ≤ x8_1) = false := decide_eq_false c14
        clear c14
        simp only [Option.some.injEq, Prod.mk.injEq] at H
        obtain ⟨rfl, rfl⟩ := H
        go_wp2
        go_ret
        exact ⟨_, by first | rfl | (simp [errW_none, errW_some] <;> rfl) | (simp only [← hji4]; first | rfl | (simp [errW_none, errW_some] <;> rfl)) | (simp [*, errW_none, errW_some] <;> rfl), by (with_reducible repeat (first | apply Kd.R_alloc | apply Kd.R_drewN | apply Kd.R_drew)); exact HO_7.out, by repeat (first | (with_reducible first | exact HI0.out | apply IsS79.alloc | apply IsS79.drewN | apply IsS79.drew | apply IsS79.set_3) | exact HI0.out), bs HB ⟨IsS79.ge HI0.out⟩, by repeat (first | (with_reducible first | exact HK.out | apply KeepBut.set_ | apply keep_drewN | apply keep_drew | apply keep_alloc) | exact HK.out)⟩
    ·rw [if_neg c8] at H
     exact absurd H (by simp)
   ·rw [if_neg c7] at H
    exact absurd H (by simp)
  ·rw [if_neg c6] at H
   exact absurd H (by simp)
 ·rw [if_neg c5] at H
  exact absurd H (by simp)

end Go.Proofs.Ytfbanppdiglciaa.Y
