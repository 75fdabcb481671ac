import Derived.Test.YtfbanppdiglciaaXx0
import Derived.Test.YtfbanppdiglciaaXx7
import Derived.Test.YtfbanppdiglciaaXx9
import Derived.Test.YtfbanppdiglciaaXx10
namespace Go.Proofs.Ytfbanppdiglciaa.X
open Go.RowKit Go.Proofs.YtfbanppdiglciaaW.PrintWords Go.Proofs.YtfbanppdiglciaaW.PrintLast Go.Proofs.YtfbanppdiglciaaW.PrintMore
attribute [local go_sem] jw jv jJ jI jf je jA jC
set_option linter.unusedVariables false
set_option linter.unusedSimpArgs false
mutual
def qd.l0 : Nat → List Int → Int → List (S59) → Int → List (S31) → List (S81) → List Int → Int → Option ((List (S59)) × Int)
 | 0, _, _, _, _, _, _, _, _ => none
 | k + 1, x1, x2, x7, x8, x1000, x1001, x1002, x1003 => if x8 ≥ 0 then (if x8 > 0 then (if 0 ≤ (wrap64 (x8 - 1)) then (if (wrap64 (x8 - 1)) < (x1.length : Int) then (qd.j1 k x1 x2 x7 x8 (rd x1 (wrap64 (x8 - 1))) x1000 x1001 x1002 x1003) else (none)) else (none)) else (qd.j1 k x1 x2 x7 x8 (-1) x1000 x1001 x1002 x1003)) else (some (x7, x1003))
def qd.j1 : Nat → List Int → Int → List (S59) → Int → Int → List (S31) → List (S81) → List Int → Int → Option ((List (S59)) × Int)
 | 0, _, _, _, _, _, _, _, _, _ => none
 | k + 1, x1, x2, x7, x8, x9, x1000, x1001, x1002, x1003 => qd.l1 k x1 x2 x7 x8 x9 x8 x1000 x1001 x1002 x1003
def qd.l1 : Nat → List Int → Int → List (S59) → Int → Int → Int → List (S31) → List (S81) → List Int → Int → Option ((List (S59)) × Int)
 | 0, _, _, _, _, _, _, _, _, _, _ => none
 | k + 1, x1, x2, x7, x8, x9, x10, x1000, x1001, x1002, x1003 => if x10 < (x1.length : Int) then (if 0 ≤ x10 then ((qK.f k x1000 x1001 x1002 x1003 x9 (rd x1 x10)).bind fun bt152 => (if bt152.2.2.1 = true then (if bt152.1 ≤ x2 then (if 0 ≤ (wrap64 (x10 + 1)) then (if (wrap64 (x10 + 1)) < (x7.length : Int) then (qd.j3 k x1 x2 x7 x8 x9 x10 (rd x1 x10) ((qX x7 (wrap64 (x10 + 1))).f2) x1000 x1001 x1002 bt152.2.2.2 bt152.1 bt152.2.1) else (none)) else (none)) else (qd.j3 k x1 x2 x7 x8 x9 x10 (rd x1 x10) false x1000 x1001 x1002 bt152.2.2.2 bt152.1 bt152.2.1)) else (qd.j3 k x1 x2 x7 x8 x9 x10 (rd x1 x10) false x1000 x1001 x1002 bt152.2.2.2 bt152.1 bt152.2.1))) else (none)) else (qd.l0 k x1 x2 x7 (wrap64 (x8 - 1)) x1000 x1001 x1002 x1003)
def qd.j3 : Nat → List Int → Int → List (S59) → Int → Int → Int → Int → Bool → List (S31) → List (S81) → List Int → Int → Int → Int → Option ((List (S59)) × Int)
 | 0, _, _, _, _, _, _, _, _, _, _, _, _, _, _ => none
 | k + 1, x1, x2, x7, x8, x9, x10, x11, x70, x1000, x1001, x1002, x1003, x157000, x157001 => if x70 = true then ((jl.f x1000 x1001 x1002 x1003 x9 x11 x157001).bind fun bt158 => (if 0 ≤ (wrap64 (x10 + 1)) then (if (wrap64 (x10 + 1)) < (x7.length : Int) then (if 0 ≤ x8 then (if x8 < (x7.length : Int) then (if ((qX x7 x8).f2 = true) then (qd.j4 k x1 x2 x7 x8 x9 x10 x11 (wrap64 (bt158.1 + ((qX x7 (wrap64 (x10 + 1))).f1))) (decide ((wrap64 (bt158.1 + ((qX x7 (wrap64 (x10 + 1))).f1))) < ((qX x7 x8).f1))) x1000 x1001 x1002 bt158.2) else (qd.j4 k x1 x2 x7 x8 x9 x10 x11 (wrap64 (bt158.1 + ((qX x7 (wrap64 (x10 + 1))).f1))) true x1000 x1001 x1002 bt158.2)) else (none)) else (none)) else (none)) else (none))) else ((zg.f x1000 x1001 x1002 x1003 x11).bind fun bt168 => (if bt168.1 = true then (qd.l0 k x1 x2 x7 (wrap64 (x8 - 1)) x1000 x1001 x1002 bt168.2) else (qd.l1 k x1 x2 x7 x8 x9 (wrap64 (x10 + 1)) x1000 x1001 x1002 bt168.2)))
def qd.j4 : Nat → List Int → Int → List (S59) → Int → Int → Int → Int → Int → Bool → List (S31) → List (S81) → List Int → Int → Option ((List (S59)) × Int)
 | 0, _, _, _, _, _, _, _, _, _, _, _, _, _ => none
 | k + 1, x1, x2, x7, x8, x9, x10, x11, x14, x98, x1000, x1001, x1002, x1003 => if x98 = true then (if 0 ≤ x8 then (if x8 < (x7.length : Int) then ((some (x7.set (x8 : Int).toNat (⟨x10, x14, true⟩ : S59) : List (S59))).bind fun y163 => ((zg.f x1000 x1001 x1002 x1003 x11).bind fun bt164 => (if bt164.1 = true then (qd.l0 k x1 x2 y163 (wrap64 (x8 - 1)) x1000 x1001 x1002 bt164.2) else (qd.l1 k x1 x2 y163 x8 x9 (wrap64 (x10 + 1)) x1000 x1001 x1002 bt164.2)))) else (none)) else (none)) else ((zg.f x1000 x1001 x1002 x1003 x11).bind fun bt166 => (if bt166.1 = true then (qd.l0 k x1 x2 x7 (wrap64 (x8 - 1)) x1000 x1001 x1002 bt166.2) else (qd.l1 k x1 x2 x7 x8 x9 (wrap64 (x10 + 1)) x1000 x1001 x1002 bt166.2)))
end
def qd.f (k : Nat) (s0_0 : List (S31)) (s0_1 : List (S81)) (s0_2 : List Int) (s0_3 : Int) (l1 : List Int) (a2 : Int) : Option ((List (S59)) × Int) := if 0 ≤ (wrap64 ((l1.length : Int) + 1)) then (if (wrap64 ((l1.length : Int) + 1) : Int).toNat ≤ 11728124029610 then ((some (List.replicate (wrap64 ((l1.length : Int) + 1) : Int).toNat z59 : List (S59))).bind fun y146 => (if 0 ≤ (l1.length : Int) then (if (l1.length : Int) < (y146.length : Int) then (qd.l0 k l1 a2 (y146.set ((l1.length : Int) : Int).toNat (⟨(qX y146 (l1.length : Int)).f0, (qX y146 (l1.length : Int)).f1, true⟩ : S59)) (wrap64 ((l1.length : Int) - 1)) s0_0 s0_1 s0_2 s0_3) else (none)) else (none))) else (none)) else (none)
theorem qd.zT : ∀ k, (∀ y0 y1 y2 y3 y4 y5 y6 y7, LeO (qd.l0 k y0 y1 y2 y3 y4 y5 y6 y7) (qd.l0 (k + 1) y0 y1 y2 y3 y4 y5 y6 y7)) ∧ (∀ y0 y1 y2 y3 y4 y5 y6 y7 y8, LeO (qd.j1 k y0 y1 y2 y3 y4 y5 y6 y7 y8) (qd.j1 (k + 1) y0 y1 y2 y3 y4 y5 y6 y7 y8)) ∧ (∀ y0 y1 y2 y3 y4 y5 y6 y7 y8 y9, LeO (qd.l1 k y0 y1 y2 y3 y4 y5 y6 y7 y8 y9) (qd.l1 (k + 1) y0 y1 y2 y3 y4 y5 y6 y7 y8 y9)) ∧ (∀ y0 y1 y2 y3 y4 y5 y6 y7 y8 y9 y10 y11 y12 y13, LeO (qd.j3 k y0 y1 y2 y3 y4 y5 y6 y7 y8 y9 y10 y11 y12 y13) (qd.j3 (k + 1) y0 y1 y2 y3 y4 y5 y6 y7 y8 y9 y10 y11 y12 y13)) ∧ (∀ y0 y1 y2 y3 y4 y5 y6 y7 y8 y9 y10 y11 y12, LeO (qd.j4 k y0 y1 y2 y3 y4 y5 y6 y7 y8 y9 y10 y11 y12) (qd.j4 (k + 1) y0 y1 y2 y3 y4 y5 y6 y7 y8 y9 y10 y11 y12))
 | 0 => ⟨fun _ _ _ _ _ _ _ _ r h => by simp [qd.l0] at h, fun _ _ _ _ _ _ _ _ _ r h => by simp [qd.j1] at h, fun _ _ _ _ _ _ _ _ _ _ r h => by simp [qd.l1] at h, fun _ _ _ _ _ _ _ _ _ _ _ _ _ _ r h => by simp [qd.j3] at h, fun _ _ _ _ _ _ _ _ _ _ _ _ _ r h => by simp [qd.j4] at h⟩
 | k + 1 => by
  obtain ⟨ih0, ih1, ih2, ih3, ih4⟩ := qd.zT k
  refine ⟨?_, ?_, ?_, ?_, ?_⟩
  ·intro y0 y1 y2 y3 y4 y5 y6 y7
   unfold qd.l0
   repeat' first
   | (with_reducible exact ih0 _ _ _ _ _ _ _ _)
   | (with_reducible exact ih1 _ _ _ _ _ _ _ _ _)
   | (with_reducible exact ih2 _ _ _ _ _ _ _ _ _ _)
   | (with_reducible exact ih3 _ _ _ _ _ _ _ _ _ _ _ _ _ _)
   | (with_reducible exact ih4 _ _ _ _ _ _ _ _ _ _ _ _ _)
   | (with_reducible exact qK.mono _ _ _ _ _ _ _)
   | (with_reducible exact LeO.refl _)
   | (with_reducible exact LeO.none _)
   | (with_reducible refine LeO.ite ?_ ?_)
   | (with_reducible refine LeO.bind ?_ (fun _ => ?_))
   | exact ih0 _ _ _ _ _ _ _ _
   | exact ih1 _ _ _ _ _ _ _ _ _
   | exact ih2 _ _ _ _ _ _ _ _ _ _
   | exact ih3 _ _ _ _ _ _ _ _ _ _ _ _ _ _
   | exact ih4 _ _ _ _ _ _ _ _ _ _ _ _ _
   | exact qK.mono _ _ _ _ _ _ _
   | exact LeO.none _
   | refine LeO.ite ?_ ?_
   | refine LeO.bind ?_ (fun _ => ?_)
  ·intro y0 y1 y2 y3 y4 y5 y6 y7 y8
   unfold qd.j1
   repeat' first
   | (with_reducible exact ih0 _ _ _ _ _ _ _ _)
   | (with_reducible exact ih1 _ _ _ _ _ _ _ _ _)
   | (with_reducible exact ih2 _ _ _ _ _ _ _ _ _ _)
   | (with_reducible exact ih3 _ _ _ _ _ _ _ _ _ _ _ _ _ _)
   | (with_reducible exact ih4 _ _ _ _ _ _ _ _ _ _ _ _ _)
   | (with_reducible exact qK.mono _ _ _ _ _ _ _)
   | (with_reducible exact LeO.refl _)
   | (with_reducible exact LeO.none _)
   | (with_reducible refine LeO.ite ?_ ?_)
   | (with_reducible refine LeO.bind ?_ (fun _ => ?_))
   | exact ih0 _ _ _ _ _ _ _ _
   | exact ih1 _ _ _ _ _ _ _ _ _
   | exact ih2 _ _ _ _ _ _ _ _ _ _
   | exact ih3 _ _ _ _ _ _ _ _ _ _ _ _ _ _
   | exact ih4 _ _ _ _ _ _ _ _ _ _ _ _ _
   | exact qK.mono _ _ _ _ _ _ _
   | exact LeO.none _
   | refine LeO.ite ?_ ?_
   | refine LeO.bind ?_ (fun _ => ?_)
  ·intro y0 y1 y2 y3 y4 y5 y6 y7 y8 y9
   unfold qd.l1
   repeat' first
   | (with_reducible exact ih0 _ _ _ _ _ _ _ _)
   | (with_reducible exact ih1 _ _ _ _ _ _ _ _ _)
   | (with_reducible exact ih2 _ _ _ _ _ _ _ _ _ _)
   | (with_reducible exact ih3 _ _ _ _ _ _ _ _ _ _ _ _ _ _)
   | (with_reducible exact ih4 _ _ _ _ _ _ _ _ _ _ _ _ _)
   | (with_reducible exact qK.mono _ _ _ _ _ _ _)
   | (with_reducible exact LeO.refl _)
   | (with_reducible exact LeO.none _)
   | (with_reducible refine LeO.ite ?_ ?_)
   | (with_reducible refine LeO.bind ?_ (fun _ => ?_))
   | exact ih0 _ _ _ _ _ _ _ _
   | exact ih1 _ _ _ _ _ _ _ _ _
   | exact ih2 _ _ _ _ _ _ _ _ _ _
   | exact ih3 _ _ _ _ _ _ _ _ _ _ _ _ _ _
   | exact ih4 _ _ _ _ _ _ _ _ _ _ _ _ _
   | exact qK.mono _ _ _ _ _ _ _
   | exact LeO.none _
   | refine LeO.ite ?_ ?_
   | refine LeO.bind ?_ (fun _ => ?_)
  ·intro y0 y1 y2 y3 y4 y5 y6 y7 y8 y9 y10 y11 y12 y13
   unfold qd.j3
   repeat' first
   | (with_reducible exact ih0 _ _ _ _ _ _ _ _)
   | (with_reducible exact ih1 _ _ _ _ _ _ _ _ _)
   | (with_reducible exact ih2 _ _ _ _ _ _ _ _ _ _)
   | (with_reducible exact ih3 _ _ _ _ _ _ _ _ _ _ _ _ _ _)
   | (with_reducible exact ih4 _ _ _ _ _ _ _ _ _ _ _ _ _)
   | (with_reducible exact qK.mono _ _ _ _ _ _ _)
   | (with_reducible exact LeO.refl _)
   | (with_reducible exact LeO.none _)
   | (with_reducible refine LeO.ite ?_ ?_)
   | (with_reducible refine LeO.bind ?_ (fun _ => ?_))
   | exact ih0 _ _ _ _ _ _ _ _
   | exact ih1 _ _ _ _ _ _ _ _ _
   | exact ih2 _ _ _ _ _ _ _ _ _ _
   | exact ih3 _ _ _ _ _ _ _ _ _ _ _ _ _ _
   | exact ih4 _ _ _ _ _ _ _ _ _ _ _ _ _
   | exact qK.mono _ _ _ _ _ _ _
   | exact LeO.none _
   | refine LeO.ite ?_ ?_
   | refine LeO.bind ?_ (fun _ => ?_)
  ·intro y0 y1 y2 y3 y4 y5 y6 y7 y8 y9 y10 y11 y12
   unfold qd.j4
   repeat' first
   | (with_reducible exact ih0 _ _ _ _ _ _ _ _)
   | (with_reducible exact ih1 _ _ _ _ _ _ _ _ _)
   | (with_reducible exact ih2 _ _ _ _ _ _ _ _ _ _)
   | (with_reducible exact ih3 _ _ _ _ _ _ _ _ _ _ _ _ _ _)
   | (with_reducible exact ih4 _ _ _ _ _ _ _ _ _ _ _ _ _)
   | (with_reducible exact qK.mono _ _ _ _ _ _ _)
   | (with_reducible exact LeO.refl _)
   | (with_reducible exact LeO.none _)
   | (with_reducible refine LeO.ite ?_ ?_)
   | (with_reducible refine LeO.bind ?_ (fun _ => ?_))
   | exact ih0 _ _ _ _ _ _ _ _
   | exact ih1 _ _ _ _ _ _ _ _ _
   | exact ih2 _ _ _ _ _ _ _ _ _ _
   | exact ih3 _ _ _ _ _ _ _ _ _ _ _ _ _ _
   | exact ih4 _ _ _ _ _ _ _ _ _ _ _ _ _
   | exact qK.mono _ _ _ _ _ _ _
   | exact LeO.none _
   | refine LeO.ite ?_ ?_
   | refine LeO.bind ?_ (fun _ => ?_)
theorem qd.mono : ∀ a0 a1 a2 a3 a4 a5 k, LeO (qd.f k a0 a1 a2 a3 a4 a5) (qd.f (k + 1) a0 a1 a2 a3 a4 a5) := by
 intro a0 a1 a2 a3 a4 a5 k
 obtain ⟨ih0, ih1, ih2, ih3, ih4⟩ := qd.zT k
 unfold qd.f
 repeat' first
   | (with_reducible exact ih0 _ _ _ _ _ _ _ _)
   | (with_reducible exact ih1 _ _ _ _ _ _ _ _ _)
   | (with_reducible exact ih2 _ _ _ _ _ _ _ _ _ _)
   | (with_reducible exact ih3 _ _ _ _ _ _ _ _ _ _ _ _ _ _)
   | (with_reducible exact ih4 _ _ _ _ _ _ _ _ _ _ _ _ _)
   | (with_reducible exact qK.mono _ _ _ _ _ _ _)
   | (with_reducible exact LeO.refl _)
   | (with_reducible exact LeO.none _)
   | (with_reducible refine LeO.ite ?_ ?_)
   | (with_reducible refine LeO.bind ?_ (fun _ => ?_))
   | exact ih0 _ _ _ _ _ _ _ _
   | exact ih1 _ _ _ _ _ _ _ _ _
   | exact ih2 _ _ _ _ _ _ _ _ _ _
   | exact ih3 _ _ _ _ _ _ _ _ _ _ _ _ _ _
   | exact ih4 _ _ _ _ _ _ _ _ _ _ _ _ _
   | exact qK.mono _ _ _ _ _ _ _
   | exact LeO.none _
   | refine LeO.ite ?_ ?_
   | refine LeO.bind ?_ (fun _ => ?_)
def qd.T15 : Bool × List (List Nat × List Nat) := (true, [([], []), ([], []), ([], []), ([], []), ([3], [3]), ([0, 1, 2, 4], [0, 1, 2, 4]), ([], []), ([], []), ([7], [7]), ([6, 8], [6, 8]), ([9], [9]), ([10], [10]), ([5, 11], [5, 11]), ([12, 5, 0, 1, 2, 3, 4, 5, 6, 7, 8, 9, 10, 11, 12], [12])])
def qd.B15 : List Nat := [0, 0, 0, 0, 8, 31, 0, 0, 128, 448, 960, 1984, 4095, 8191]
theorem qd.tab15 : rtab .any (opsOf Try.f30 15) = qd.T15 := by kernel_rfl
theorem qd.bits15 : QY qd.T15.2 qd.B15 = true := by kernel_rfl
set_option maxHeartbeats 8000000 in
set_option maxRecDepth 100000 in
theorem qd.calls (k : Nat) (g : Nat) (s0_0 : List (S31)) (s0_1 : List (S81)) (s0_2 : List Int) (s0_3 : Int) (A1 : Option Addr) (c1 : Nat) (l1 : List Int) (a2 : Int) (r1 : List (S59)) (r2 : Int) (w0 w : World) (hI : qb w0 w g s0_0 s0_1 s0_2 s0_3) (hB : Below w0.heap.size w0 w) (hr1 : Kd.C (Kd.int .i64) w A1 l1.length l1) (hc1 : l1.length ≤ c1) (hf1 : ∀ ad, A1 = some ad → 0 < l1.length → ad.block ≠ g) (h : qd.f k s0_0 s0_1 s0_2 s0_3 l1 a2 = some (r1, r2)) :
  Calls Try.prog 30 #[.pointer (some ⟨g, 0, none⟩), .slice A1 l1.length c1, .int .i64 a2] w fun e w' => ∃ v0_ : Value, e = .returned (v0_) ∧ Kd.R k59 59 w' w.heap.size (fun _ => True) v0_ r1 ∧ qb w0 w' g s0_0 s0_1 s0_2 r2 ∧ Below w0.heap.size w0 w' ∧ qh w w' g none := by
 have hu73 := Try.underlying73
 have hu59 := Try.underlying59
 have HR1 := qa.mk hr1
 have HC1 := qa.mk hc1
 clear hr1 hc1
 have HI0 := qa.mk hI
 have HK := qa.mk (qh.refl w g none)
 have HL := qa.mk hB.size
 clear hI
 have HW0 := qa.mk hB.size
 have HB := qa.mk hB
 clear hB
 have H : (if 0 ≤ (wrap64 ((l1.length : Int) + 1)) then (if (wrap64 ((l1.length : Int) + 1) : Int).toNat ≤ 11728124029610 then ((some (List.replicate (wrap64 ((l1.length : Int) + 1) : Int).toNat z59 : List (S59))).bind fun y146 => (if 0 ≤ (l1.length : Int) then (if (l1.length : Int) < (y146.length : Int) then (qd.l0 k l1 a2 (y146.set ((l1.length : Int) : Int).toNat (⟨(qX y146 (l1.length : Int)).f0, (qX y146 (l1.length : Int)).f1, true⟩ : S59)) (wrap64 ((l1.length : Int) - 1)) s0_0 s0_1 s0_2 s0_3) else (none)) else (none))) else (none)) else (none)) = some (r1, r2) := h
 clear h
 obtain ⟨ji4, hji4⟩ : ∃ j_ : Int, (wrap64 ((l1.length : Int) + 1)) = j_ := ⟨_, rfl⟩
 replace H : (if 0 ≤ (ji4) then (if (ji4 : Int).toNat ≤ 11728124029610 then ((some (List.replicate (ji4 : Int).toNat z59 : List (S59))).bind fun y146 => (if 0 ≤ (l1.length : Int) then (if (l1.length : Int) < (y146.length : Int) then (qd.l0 k l1 a2 (y146.set ((l1.length : Int) : Int).toNat (⟨(qX y146 (l1.length : Int)).f0, (qX y146 (l1.length : Int)).f1, true⟩ : S59)) (wrap64 ((l1.length : Int) - 1)) s0_0 s0_1 s0_2 s0_3) else (none)) else (none))) else (none)) else (none)) = some (r1, r2) := by first | (rw [hji4] at H; exact H) | (simp only [hji4] at H ⊢; exact H)
 have hji4w : (IntKind.i64.wrap ((l1.length : Int) + 1)) = ji4 := (zJ _).trans hji4
 by_cases c5 : 0 ≤ (ji4)
 case neg =>
  rw [if_neg c5] at H
  exact absurd H (by simp)
 rw [if_pos c5] at H
 have c5b0 := eq_true c5
 have c5b1 : decide (0 ≤ (ji4)) = true := decide_eq_true c5
 clear c5
 by_cases c6 : (ji4 : Int).toNat ≤ 11728124029610
 case neg =>
  rw [if_neg c6] at H
  exact absurd H (by simp)
 rw [if_pos c6] at H
 have c6b0 := eq_true c6
 have c6b1 : decide ((ji4 : Int).toNat ≤ 11728124029610) = true := decide_eq_true c6
 clear c6
 obtain ⟨y146, hy146⟩ : ∃ y_ : List (S59), y_ = (List.replicate (ji4 : Int).toNat z59) := ⟨_, rfl⟩
 replace H : (if 0 ≤ (l1.length : Int) then (if (l1.length : Int) < (y146.length : Int) then (qd.l0 k l1 a2 (y146.set ((l1.length : Int) : Int).toNat (⟨(qX y146 (l1.length : Int)).f0, (qX y146 (l1.length : Int)).f1, true⟩ : S59)) (wrap64 ((l1.length : Int) - 1)) s0_0 s0_1 s0_2 s0_3) else (none)) else (none)) = some (r1, r2) := by first | (rw [hy146]; with_reducible exact H) | (have H2_ := (Option.bind_some _ _).symm.trans H; rw [hy146]; with_reducible exact H2_) | (have H2_ := (Option.bind_some _ _).symm.trans H; with_reducible exact H2_) | with_reducible exact H | (rw [hy146]; exact H) | exact H
 have Ny146 := qa.mk hy146
 clear hy146
 by_cases c7 : 0 ≤ (l1.length : Int)
 case neg =>
  rw [if_neg c7] at H
  exact absurd H (by simp)
 rw [if_pos c7] at H
 have c7b0 : decide (0 ≤ (l1.length : Int)) = true := decide_eq_true c7
 have c7b1 : decide (0 ≤ l1.length) = true := decide_eq_true (by omega)
 clear c7
 by_cases c8 : (l1.length : Int) < (y146.length : Int)
 case neg =>
  rw [if_neg c8] at H
  exact absurd H (by simp)
 rw [if_pos c8] at H
 have c8b0 : decide ((l1.length : Int) < (y146.length : Int)) = true := decide_eq_true c8
 have c8b1 : decide (l1.length < y146.length) = true := decide_eq_true (Int.ofNat_lt.mp c8)
 clear c8
 obtain ⟨y149, hy149⟩ : ∃ y_ : List (S59), y_ = (y146.set ((l1.length : Int) : Int).toNat (⟨(qX y146 (l1.length : Int)).f0, (qX y146 (l1.length : Int)).f1, true⟩ : S59)) := ⟨_, rfl⟩
 replace H : (qd.l0 k l1 a2 y149 (wrap64 ((l1.length : Int) - 1)) s0_0 s0_1 s0_2 s0_3) = some (r1, r2) := by first | (rw [hy149]; with_reducible exact H) | (have H2_ := (Option.bind_some _ _).symm.trans H; rw [hy149]; with_reducible exact H2_) | (have H2_ := (Option.bind_some _ _).symm.trans H; with_reducible exact H2_) | with_reducible exact H | (rw [hy149]; exact H) | exact H
 have Ny149 := qa.mk hy149
 clear hy149
 have H' := qa.mk H
 clear H
 go_enter Try.func30, Try.ntmps30
 go_wp2_with (first | ((with_reducible refine zw (N := 18) rfl ?_); refine Kd.R_make k59 _ 59 rfl (N := 18) rfl 56 _ _ rfl ji4 rfl rfl Try.underlying56 (.agg #[(.int .i64 0), (.int .i64 0), (.bool false)]) 24 info59 rfl (by decide) (by omega) z59 (ok := fun _ => True) (okp := fun _ => True) (Jn _ _ _ z59 ) (fun _ hk => hk) trivial (odt) (Nat.le_trans (Nat.mul_le_mul_right _ (odt : ji4.toNat ≤ 11728124029610)) (by omega)) (Below.refl _ _) (Nat.le_refl _) ?_; intro v147 w10 ho11 hb hg_ hnew_; clear hg_ hnew_; (first | rw [← Ny146.out] at ho11 | (simp only [Int.reduceToNat] at ho11; rw [← Ny146.out] at ho11)); have n0_ := qa.mk (Kd.jm ho11 (zK (w := w) (g := g) (row := none) (kb HK))); have n1_ := qa.mk (qb.below (by repeat (first | (with_reducible first | exact HI0.out | apply qb.alloc | apply qb.drewN | apply qb.drew | apply qb.qO) | exact HI0.out)) hb); have n2_ := qa.mk (qh.trans (kb HK) (qh.of_below hb g none) (.inl rfl)); have n3_ := qa.mk (qP (bs HB ⟨qb.ge HI0.out⟩) hb); clear HI0; clear HK; clear HB; have HO148 := n0_; have HI0 := n1_; have HK := n2_; have HB := n3_; clear n0_ n1_ n2_ n3_; clear hb ho11; have p9 : 0 ≤ ((l1.length : Int) : Int) := odt; have q9 : ((l1.length : Int) : Int) < ((y146.length : Int) : Int) := odt; obtain ⟨go9, co9, eo9, gb9, gl9, cl9, HG9⟩ := Kd.ZR HO148.out (by omega); (first | cases eo9 | (injection eo9 with ea_ en_ ec_; (first | subst ea_ | (injection ea_ with ea_; subst ea_)); subst ec_; clear en_)); have GB9 := qa.mk gb9; have GG9 := qa.mk HG9; clear gb9 gl9 HG9; obtain ⟨ce9, hcl9, hM9, hcc9, hfr9⟩ := Kd.Zi HO148.out z59 ((l1.length : Int) : Int) p9 q9; obtain rfl := QX hM9; have hx9_0 : w10.cell? ⟨go9, l1.length * 3, none⟩ = some (.int .i64 ((qX y146 (l1.length : Int)).f0)) := hcc9 0 _ rfl; have hx9_1 : w10.cell? ⟨go9, l1.length * 3 + 1, none⟩ = some (.int .i64 ((qX y146 (l1.length : Int)).f1)) := hcc9 1 _ rfl; have hx9_2 : w10.cell? ⟨go9, l1.length * 3 + 2, none⟩ = some (.bool ((qX y146 (l1.length : Int)).f2)) := hcc9 2 _ rfl; have hf9_0 : w10.frozen? ⟨go9, l1.length * 3, none⟩ = false := hfr9 0; have hf9_1 : w10.frozen? ⟨go9, l1.length * 3 + 1, none⟩ = false := hfr9 1; have hf9_2 : w10.frozen? ⟨go9, l1.length * 3 + 2, none⟩ = false := hfr9 2; clear hcl9 hcc9 hfr9 hM9; replace p9 := eq_true p9; replace q9 := eq_true q9; have HX12 := qa.mk (show Kd.R k59 59 w10 w.heap.size (fun _ => True) (.slice (some ⟨go9, 0, none⟩) y146.length co9) y146 from (rq HO148)); obtain ⟨ce12, hcl12, hM12, hcc12, hfr12⟩ := Kd.Zi HX12.out z59 ((l1.length : Int) : Int) (odt) (by have h_ : ((l1.length : Int) : Int) < ((y146.length : Int) : Int) := odt; first | exact h_ | (have e_ := (Kd.zm HO148.out).1; omega) | simpa using h_); obtain rfl := QX hM12; have HP12 := Kd.R_seg HX12.out ((l1.length : Int) : Int) (odt) (by have h_ : ((l1.length : Int) : Int) < ((y146.length : Int) : Int) := odt; first | exact h_ | (have e_ := (Kd.zm HO148.out).1; omega) | simpa using h_) (seg := [.bool true]) (j := 2) hcl12 hcc12 (show 3 ≤ 3 from by decide) (x' := (⟨(qX y146 (l1.length : Int)).f0, (qX y146 (l1.length : Int)).f1, true⟩ : S59)) (Jn _ _ _ (⟨(qX y146 (l1.length : Int)).f0, (qX y146 (l1.length : Int)).f1, true⟩ : S59) ) (fun _ hk => hk); have hx12_2 := hcc12 2 _ rfl; (try simp only [show (k59).sz = 3 from rfl, Nat.mul_one, Nat.add_zero, Int.toNat_natCast] at hx12_2); have hf12_2 := hfr12 2; (try simp only [show (k59).sz = 3 from rfl, Nat.mul_one, Nat.add_zero, Int.toNat_natCast] at hf12_2); clear hcl12 hcc12 hfr12 hM12) | ((with_reducible refine jY (t := 4) (p := 23) rfl ?_); refine jT (t := 4) (p := 23) (v := ?vo_w13) (w1 := (w10.setCell ⟨go9, l1.length * 3 + 2, none⟩ (.bool true))) ?hg ?ho ?hn ?hr ?_; (case ho => rfl); (case hg => rfl); (case hn => rfl); (case hr => first | (go_simp; done) | (go_simp; rfl)); intro w13 hw; have hg : w10.grownBy w13 (some go9) := (by rw [hw]; exact HP12.2); have hp_ : Kd.R k59 59 w13 w.heap.size (fun _ => True) (.slice (some ⟨go9, 0, none⟩) y146.length co9) y149 := (by rw [hw, Ny149.out]; exact HP12.1); clear HP12; have n0_ := qa.mk (qb.grown (by repeat (first | (with_reducible first | exact HI0.out | apply qb.alloc | apply qb.drewN | apply qb.drew | apply qb.qO) | exact HI0.out)) hg (qb.own_ne HI0.out HO148.out (by decide))); have n1_ := qa.mk (hp_); have n2_ := qa.mk ((by rw [hw]; exact qm (HB.out) (Nat.le_trans HL.out GB9.out) : Below w0.heap.size w0 w13)); have n3_ := qa.mk (qh.trans (kb HK) (qh.Qi hg g) (Kd.Qw HO148.out)); clear HI0; clear HO148; clear HB; clear HK; have HI0 := n0_; have HO148 := n1_; have HB := n2_; have HK := n3_; clear n0_ n1_ n2_ n3_; clear hg hw hp_))
 go_loopg [8] k (fun kq v8 w' => ∃ (x7_1 : List (S59)) (x8_1 : Int) (x1003_1 : Int), v8 = .int .i64 x8_1 ∧ qa (qd.l0 kq l1 a2 x7_1 x8_1 s0_0 s0_1 s0_2 x1003_1 = some (r1, r2)) ∧ qa (kq ≤ k) ∧ qa (Kd.R k59 59 w' w.heap.size (fun _ => True) (.slice (some ⟨go9, 0, none⟩) y146.length co9) x7_1) ∧ qa (qb w0 w' g s0_0 s0_1 s0_2 x1003_1) ∧ qa (qh w w' g none) ∧ qa (Below w0.heap.size w0 w'))
 case atStart => exact ⟨(y149), (wrap64 ((l1.length : Int) - 1)), (s0_3), (by first | rfl | (simp; done) | (simp [*]; done)), H', ⟨Nat.le_refl _⟩, ⟨rq HO148⟩, ⟨by repeat (first | (with_reducible first | exact HI0.out | apply qb.alloc | apply qb.drewN | apply qb.drew | apply qb.qO) | exact HI0.out)⟩, ⟨kb HK⟩, ⟨bs HB ⟨qb.ge HI0.out⟩⟩⟩
 case round =>
  clear H'
  try clear c1
  try clear hx1
  try clear p2
  try clear c3
  try clear c5
  try clear c5b0
  try clear c5b1
  try clear c6
  try clear c6b0
  try clear c6b1
  try clear p6
  try clear c7
  try clear c7b0
  try clear c7b1
  try clear c8
  try clear c8b0
  try clear c8b1
  try clear c9
  try clear p9
  try clear q9
  try clear hx9
  try clear hf9
  try clear c12
  try clear hx12
  try clear hf12
  try clear hx12_2
  try clear hx9_0
  try clear hx9_1
  try clear hx9_2
  try clear p9
  try clear q9
  obtain ⟨x7_1, x8_1, x1003_1, rfl, HA, HK1, HO_7, HI0, HK, HB⟩ := hrel
  have hl7_1 := (Kd.zm HO_7.out).1
  rw [hl7_1] at HO_7
  (try simp only [hl7_1])
  cases gk with
  | zero => exact absurd HA.out (by simp [qd.l0])
  | succ k1 =>
   have H := HA.out
   clear HA
   simp only [qd.l0] at H
   by_cases c14 : x8_1 ≥ 0
   case neg =>
    rw [if_neg c14] at H
    have c14b0 : decide (0 ≤ x8_1) = false := decide_eq_false c14
    clear c14
    simp only [Option.some.injEq, Prod.mk.injEq] at H
    obtain ⟨rfl, rfl⟩ := H
    go_wp2
    go_ret
    exact ⟨_, by first | rfl | (simp [qN, qM] <;> rfl) | (simp only [← hji4]; first | rfl | (simp [qN, qM] <;> rfl)) | (simp [*, qN, qM] <;> rfl), rq HO_7, by repeat (first | (with_reducible first | exact HI0.out | apply qb.alloc | apply qb.drewN | apply qb.drew | apply qb.qO) | exact HI0.out), bs HB ⟨qb.ge HI0.out⟩, kb HK⟩
   rw [if_pos c14] at H
   have c14b0 : decide (0 ≤ x8_1) = true := decide_eq_true c14
   clear c14
   have HC15 := qa.mk H
   clear H
   go_upto_if 32 with (fail)
   go_cut [9] (fun v9 wc => ∃ (kq : Nat) (x9_14 : Int), v9 = .int .i64 x9_14 ∧ qa (qd.j1 kq l1 a2 x7_1 x8_1 x9_14 s0_0 s0_1 s0_2 x1003_1 = some (r1, r2)) ∧ qa (kq ≤ k1) ∧ qa (Kd.R k59 59 wc w.heap.size (fun _ => True) (.slice (some ⟨go9, 0, none⟩) x7_1.length co9) x7_1) ∧ qa (qb w0 wc g s0_0 s0_1 s0_2 x1003_1) ∧ qa (qh w wc g none) ∧ qa (Below w0.heap.size w0 wc))
   case first =>
    have H := HC15.out
    clear HC15
    by_cases c16 : x8_1 > 0
    case neg =>
     rw [if_neg c16] at H
     have c16b0 : decide (0 < x8_1) = false := decide_eq_false c16
     clear c16
     (first | rw [c16b0] | (simp only [zJ, zN]; rw [c16b0]) | skip)
     have H' := qa.mk H
     clear H
     go_wp2
     go_meet
     case rel => exact ⟨_, ((-1)), (by first | rfl | (simp; done) | (simp [*]; done)), H', ⟨by have := HK1.out; first | omega | exact Nat.le_refl _⟩, ⟨by (try simp only [hl7_1]); exact rq HO_7⟩, ⟨by repeat (first | (with_reducible first | exact HI0.out | apply qb.alloc | apply qb.drewN | apply qb.drew | apply qb.qO) | exact HI0.out)⟩, ⟨kb HK⟩, ⟨bs HB ⟨qb.ge HI0.out⟩⟩⟩
    rw [if_pos c16] at H
    have c16b0 : decide (0 < x8_1) = true := decide_eq_true c16
    clear c16
    (first | rw [c16b0] | (simp only [zJ, zN]; rw [c16b0]) | skip)
    obtain ⟨ji17, hji17⟩ : ∃ j_ : Int, (wrap64 (x8_1 - 1)) = j_ := ⟨_, rfl⟩
    replace H : (if 0 ≤ (ji17) then (if (ji17) < (l1.length : Int) then (qd.j1 k1 l1 a2 x7_1 x8_1 (rd l1 (ji17)) s0_0 s0_1 s0_2 x1003_1) else (none)) else (none)) = some (r1, r2) := by first | (rw [hji17] at H; exact H) | (simp only [hji17] at H ⊢; exact H)
    have hji17w : (IntKind.i64.wrap (x8_1 - 1)) = ji17 := (zJ _).trans hji17
    by_cases c18 : 0 ≤ (ji17)
    case neg =>
     rw [if_neg c18] at H
     exact absurd H (by simp)
    rw [if_pos c18] at H
    have c18b0 : decide (0 ≤ (ji17)) = true := decide_eq_true c18
    clear c18
    by_cases c19 : (ji17) < (l1.length : Int)
    case neg =>
     rw [if_neg c19] at H
     exact absurd H (by simp)
    rw [if_pos c19] at H
    have c19b0 : decide ((ji17) < (l1.length : Int)) = true := decide_eq_true c19
    clear c19
    have H' := qa.mk H
    clear H
    have p150 : 0 ≤ ((ji17) : Int) := odt
    have q150 : (ji17) < (l1.length : Int) := odt
    obtain ⟨ad150, e150, hx150_0⟩ := Kd.zY HR1.out (ji17) p150 q150
    cases e150
    replace hx150_0 := zW HK.out hx150_0 (by first | (rw [add_block]; exact hf1 _ rfl (by omega)) | exact hf1 _ rfl (by omega) | exact hf1 ad150 rfl (by omega))
    replace p150 := eq_true p150
    replace q150 := eq_true q150
    go_wp2
    go_meet
    case rel => exact ⟨_, (rd l1 (ji17)), (by first | rfl | (simp; done) | (simp only [← hji17] <;> (first | rfl | simp)) | (simp [*]; done)), H', ⟨by have := HK1.out; first | omega | exact Nat.le_refl _⟩, ⟨by (try simp only [hl7_1]); exact rq HO_7⟩, ⟨by repeat (first | (with_reducible first | exact HI0.out | apply qb.alloc | apply qb.drewN | apply qb.drew | apply qb.qO) | exact HI0.out)⟩, ⟨kb HK⟩, ⟨bs HB ⟨qb.ge HI0.out⟩⟩⟩
   case rest =>
    clear HC15
    try clear c1
    try clear p1
    try clear q1
    try clear hx1
    try clear p2
    try clear c3
    try clear c5
    try clear c5b0
    try clear c5b1
    try clear c6
    try clear c6b0
    try clear c6b1
    try clear p6
    try clear c7
    try clear c7b0
    try clear c7b1
    try clear c8
    try clear c8b0
    try clear c8b1
    try clear c9
    try clear p9
    try clear q9
    try clear hx9
    try clear hf9
    try clear c12
    try clear hx12
    try clear hf12
    try clear c14
    try clear c14b0
    try clear p15
    try clear q15
    try clear hx15
    try clear c16
    try clear c16b0
    try clear c18
    try clear c18b0
    try clear c19
    try clear c19b0
    try clear hx12_2
    try clear hx150_0
    try clear hx9_0
    try clear hx9_1
    try clear hx9_2
    try clear p150
    try clear p2
    try clear p6
    try clear p9
    try clear q150
    try clear q9
    obtain ⟨kq, x9_14, rfl, HA, HJ14, HO_7, HI0, HK, HB⟩ := hcut
    cases kq with
    | zero => exact absurd HA.out (by simp [qd.j1])
    | succ kj14 =>
     have H := HA.out
     clear HA
     simp only [qd.j1] at H
     have H' := qa.mk H
     clear H
     go_wp2
     go_loopg [10] kj14 (fun kq v10 w' => ∃ (x7_3 : List (S59)) (x10_3 : Int) (x1003_3 : Int), v10 = .int .i64 x10_3 ∧ qa (qd.l1 kq l1 a2 x7_3 x8_1 x9_14 x10_3 s0_0 s0_1 s0_2 x1003_3 = some (r1, r2)) ∧ qa (kq ≤ kj14) ∧ qa (Kd.R k59 59 w' w.heap.size (fun _ => True) (.slice (some ⟨go9, 0, none⟩) x7_1.length co9) x7_3) ∧ qa (qb w0 w' g s0_0 s0_1 s0_2 x1003_3) ∧ qa (qh w w' g none) ∧ qa (Below w0.heap.size w0 w'))
     case atStart => exact ⟨(x7_1), (x8_1), (x1003_1), (by first | rfl | (simp; done) | (simp [*]; done)), H', ⟨Nat.le_refl _⟩, ⟨by (try simp only [hl7_1]); exact rq HO_7⟩, ⟨by repeat (first | (with_reducible first | exact HI0.out | apply qb.alloc | apply qb.drewN | apply qb.drew | apply qb.qO) | exact HI0.out)⟩, ⟨kb HK⟩, ⟨bs HB ⟨qb.ge HI0.out⟩⟩⟩
     case round =>
      clear H'
      try clear c1
      try clear p1
      try clear q1
      try clear hx1
      try clear p2
      try clear c3
      try clear c5
      try clear c5b0
      try clear c5b1
      try clear c6
      try clear c6b0
      try clear c6b1
      try clear p6
      try clear c7
      try clear c7b0
      try clear c7b1
      try clear c8
      try clear c8b0
      try clear c8b1
      try clear c9
      try clear p9
      try clear q9
      try clear hx9
      try clear hf9
      try clear c12
      try clear hx12
      try clear hf12
      try clear c14
      try clear c14b0
      try clear p15
      try clear q15
      try clear hx15
      try clear c16
      try clear c16b0
      try clear c18
      try clear c18b0
      try clear c19
      try clear c19b0
      try clear hx12_2
      try clear hx150_0
      try clear hx9_0
      try clear hx9_1
      try clear hx9_2
      try clear p1
      try clear p15
      try clear p150
      try clear p2
      try clear p6
      try clear p9
      try clear q1
      try clear q15
      try clear q150
      try clear q9
      obtain ⟨x7_3, x10_3, x1003_3, rfl, HA, HK3, HO_7, HI0, HK, HB⟩ := hrel
      have hl7_3 := (Kd.zm HO_7.out).1
      rw [hl7_3] at HO_7
      (try simp only [hl7_3])
      cases gk with
      | zero => exact absurd HA.out (by simp [qd.l1])
      | succ k3 =>
       have H := HA.out
       clear HA
       simp only [qd.l1] at H
       by_cases c20 : x10_3 < (l1.length : Int)
       case neg =>
        rw [if_neg c20] at H
        have c20b0 : decide (x10_3 < (l1.length : Int)) = false := decide_eq_false c20
        clear c20
        have H' := qa.mk H
        clear H
        go_wp2
        (try simp only [← hl7_1, ← hl7_3])
        go_roundg k3
        case measure => have := HK1.out; have := HJ14.out; have := HK3.out; omega
        case rel => exact ⟨(x7_3), (wrap64 (x8_1 - 1)), (x1003_3), (by first | rfl | (simp; done) | (simp [*]; done)), H', ⟨by have := HK1.out; have := HJ14.out; have := HK3.out; omega⟩, ⟨by (try simp only [hl7_1]); (try simp only [hl7_3]); exact rq HO_7⟩, ⟨by repeat (first | (with_reducible first | exact HI0.out | apply qb.alloc | apply qb.drewN | apply qb.drew | apply qb.qO) | exact HI0.out)⟩, ⟨kb HK⟩, ⟨bs HB ⟨qb.ge HI0.out⟩⟩⟩
       rw [if_pos c20] at H
       have c20b0 : decide (x10_3 < (l1.length : Int)) = true := decide_eq_true c20
       clear c20
       by_cases c21 : 0 ≤ x10_3
       case neg =>
        rw [if_neg c21] at H
        exact absurd H (by simp)
       rw [if_pos c21] at H
       have c21b0 : decide (0 ≤ x10_3) = true := decide_eq_true c21
       clear c21
       replace H := Option.bind_eq_some_iff.mp H
       obtain ⟨⟨t152, t153, t154, t155⟩, A220, H⟩ := H
       replace H : (if t154 = true then (if t152 ≤ a2 then (if 0 ≤ (wrap64 (x10_3 + 1)) then (if (wrap64 (x10_3 + 1)) < (x7_3.length : Int) then (qd.j3 k3 l1 a2 x7_3 x8_1 x9_14 x10_3 (rd l1 x10_3) ((qX x7_3 (wrap64 (x10_3 + 1))).f2) s0_0 s0_1 s0_2 t155 t152 t153) else (none)) else (none)) else (qd.j3 k3 l1 a2 x7_3 x8_1 x9_14 x10_3 (rd l1 x10_3) false s0_0 s0_1 s0_2 t155 t152 t153)) else (qd.j3 k3 l1 a2 x7_3 x8_1 x9_14 x10_3 (rd l1 x10_3) false s0_0 s0_1 s0_2 t155 t152 t153)) = some (r1, r2) := H
       have A22 := qa.mk A220
       clear A220
       have HC23 := qa.mk H
       clear H
       have p151 : 0 ≤ (x10_3 : Int) := odt
       have q151 : x10_3 < (l1.length : Int) := odt
       obtain ⟨ad151, e151, hx151_0⟩ := Kd.zY HR1.out x10_3 p151 q151
       cases e151
       replace hx151_0 := zW HK.out hx151_0 (by first | (rw [add_block]; exact hf1 _ rfl (by omega)) | exact hf1 _ rfl (by omega) | exact hf1 ad151 rfl (by omega))
       replace p151 := eq_true p151
       replace q151 := eq_true q151
       go_upto_region 14 with (first | ((with_reducible refine zl (f := 40) rfl ?_); refine zM (some 53) rfl rfl Try.func40 (by kernel_rfl) rfl #[.pointer (some ⟨g, 0, none⟩), .int .i64 x9_14, .int .i64 (rd l1 x10_3)] rfl (by (try simp only [List.map_toArray, List.map_cons, List.map_nil]); first | done | rfl | (simp only [List.length_drop, List.length_take]; rfl)) ?_; (with_reducible refine (qK.calls k3 g s0_0 s0_1 s0_2 x1003_3 x9_14 (rd l1 x10_3) t152 t153 t154 t155 w0 _ ?side1 ?side2 A22.out).mono ?_); (case side1 => repeat (first | (with_reducible first | exact HI0.out | apply qb.alloc | apply qb.drewN | apply qb.drew | apply qb.qO) | exact HI0.out)); (case side2 => repeat (first | (with_reducible first | exact HB.out | apply qA | apply qx | apply qC | refine qm ?_ (qb.ge HI0.out)) | exact HB.out)); rintro e w24 ⟨rfl, hi, hb, hk⟩; refine ⟨_, rfl, ?_⟩; have n0_ := qa.mk (Kd.zi (Kd.jy (qb.apart (show qb w0 _ g s0_0 s0_1 s0_2 x1003_3 from by repeat (first | (with_reducible first | exact HI0.out | apply qb.alloc | apply qb.drewN | apply qb.drew | apply qb.qO) | exact HI0.out)) (rq HO_7) (by decide)) hk (fun _ h => h.2)) (fun _ h => h.1)); have n1_ := qa.mk (qh.trans (kb HK) hk (.inl rfl)); have n2_ := qa.mk (hb); have n3_ := qa.mk (hi); clear HO_7; clear HK; clear HB; clear HI0; have HO_7 := n0_; have HK := n1_; have HB := n2_; have HI0 := n3_; clear n0_ n1_ n2_ n3_; (try clear hb); (try clear hb2); (try clear hk); (try clear hi)) | ((with_reducible refine zw (N := 12) rfl ?_); refine zB ?hg (N := 12) ?hd (cs := #[.int .i64 0, .int .i64 0]) (t := 73) ?hr ?_; (case hd => rfl); (case hg => rfl); (case hr => first | (go_simp; done) | (go_simp; rfl)); intro gb156 hg w25 hbox hb; have n0_ := qa.mk (Kd.zz (rq HO_7) hb); have n1_ := qa.mk (qb.below (by repeat (first | (with_reducible first | exact HI0.out | apply qb.alloc | apply qb.drewN | apply qb.drew | apply qb.qO) | exact HI0.out)) hb); have n2_ := qa.mk (qh.trans (kb HK) (qh.of_below hb g none) (.inl rfl)); have n3_ := qa.mk (qP (bs HB ⟨qb.ge HI0.out⟩) hb); have n4_ := qa.mk (hbox); have n5_ := qa.mk ((by rw [hg]; exact (zK (w := w) (g := g) (row := none) (kb HK)) : w.heap.size ≤ gb156)); have n6_ := qa.mk ((Nat.le_trans HW0.out (by rw [hg]; exact (zK (w := w) (g := g) (row := none) (kb HK)) : w.heap.size ≤ gb156) : w0.heap.size ≤ gb156)); have n7_ := qa.mk ((by rw [hg]; exact Nat.ne_of_lt (qb.lt (show qb w0 _ g s0_0 s0_1 s0_2 t155 from by repeat (first | (with_reducible first | exact HI0.out | apply qb.alloc | apply qb.drewN | apply qb.drew | apply qb.qO) | exact HI0.out))) : g ≠ gb156)); have n8_ := qa.mk ((by rw [hg]; exact Nat.ne_of_gt (qb.lt (show qb w0 _ g s0_0 s0_1 s0_2 t155 from by repeat (first | (with_reducible first | exact HI0.out | apply qb.alloc | apply qb.drewN | apply qb.drew | apply qb.qO) | exact HI0.out))) : gb156 ≠ g)); clear HO_7; clear HI0; clear HK; clear HB; have HO_7 := n0_; have HI0 := n1_; have HK := n2_; have HB := n3_; have BK156 := n4_; have GW156 := n5_; have GE156 := n6_; have NB0_156 := n7_; have NB156_0 := n8_; clear n0_ n1_ n2_ n3_ n4_ n5_ n6_ n7_ n8_; clear hb hbox hg; have hnb26 := NB156_0.out; have hnc26 := NB0_156.out; have hcz27_0 : w25.cell? ⟨gb156, 0, none⟩ = some (.int .i64 0) := (ql BK156.out 0).trans rfl; have hcz27_1 : w25.cell? ⟨gb156, 1, none⟩ = some (.int .i64 0) := (ql BK156.out 1).trans rfl; have hfz27_0 := qg BK156.out 0; have hfz27_1 := qg BK156.out 1))
       (try simp only [Act.put, List.setIfInBounds_toArray, List.set_cons_zero, List.set_cons_succ])
       go_cut [70] (fun v70 wc => ∃ (kq : Nat) (x70_22 : Bool), v70 = .bool x70_22 ∧ qa (qd.j3 kq l1 a2 x7_3 x8_1 x9_14 x10_3 (rd l1 x10_3) x70_22 s0_0 s0_1 s0_2 t155 t152 t153 = some (r1, r2)) ∧ qa (kq ≤ k3) ∧ qa (Kd.R k59 59 wc w.heap.size (fun _ => True) (.slice (some ⟨go9, 0, none⟩) x7_3.length co9) x7_3) ∧ qa (wc.heap[gb156]? = some (.cells #[.int .i64 t152, .int .i64 t153] 73 (0, 0))) ∧ qa (qb w0 wc g s0_0 s0_1 s0_2 t155) ∧ qa (qh w wc g none) ∧ qa (Below w0.heap.size w0 wc))
       case first =>
        have H := HC23.out
        clear HC23
        by_cases c28 : t154 = true
        case neg =>
         replace c28 := Bool.eq_false_iff.mpr c28
         subst c28
         have H1 : (qd.j3 k3 l1 a2 x7_3 x8_1 x9_14 x10_3 (rd l1 x10_3) false s0_0 s0_1 s0_2 t155 t152 t153) = some (r1, r2) := by rw [if_neg (show ¬ (false = true) by decide)] at H; exact H
         clear H
         have H := H1
         clear H1
         have H' := qa.mk H
         clear H
         go_wp2
         go_meet
         case rel => exact ⟨_, (false), (by first | rfl | (simp; done) | (simp [*]; done)), H', ⟨by have := HK1.out; have := HJ14.out; have := HK3.out; first | omega | exact Nat.le_refl _⟩, ⟨by (try simp only [hl7_1]); (try simp only [hl7_3]); (with_reducible repeat (first | apply Kd.qD | apply Kd.qE | apply Kd.qG)); exact Kd.zi (Kd.ze (p := ⟨gb156, 1, none⟩) (Kd.ze (p := ⟨gb156, 0, none⟩) (Kd.zO HO_7.out BK156.out (by decide)) (fun _ hk => hk.2) (.int .i64 t152)) (fun _ hk => hk.2) (.int .i64 t153)) (fun _ hk => trivial)⟩, ⟨by (try simp only [hl7_1]); (try simp only [hl7_3]); (with_reducible repeat (first | refine qj ?_ _ | refine qo ?_ | refine qi ?_ _)); refine qR (cs := #[.int .i64 t152, .int .i64 0]) ?_ 1 _ rfl; (with_reducible repeat (first | refine qj ?_ _ | refine qo ?_ | refine qi ?_ _)); refine qR (cs := #[.int .i64 0, .int .i64 0]) ?_ 0 _ rfl; exact kq BK156⟩, ⟨by repeat (first | (with_reducible first | exact HI0.out | apply qb.alloc | apply qb.drewN | apply qb.drew | apply qb.qO | refine qb.far ?_ NB0_156.out _) | exact HI0.out)⟩, ⟨by repeat (first | (with_reducible first | exact HK.out | apply qh.zk | apply qz | apply qB | apply qy | refine zq ?_ GW156.out _) | exact HK.out)⟩, ⟨by repeat (first | (with_reducible first | exact HB.out | apply qA | apply qx | apply qC | refine qm ?_ (qb.ge HI0.out) | refine qm ?_ GE156.out) | exact HB.out)⟩⟩
        subst c28
        have H1 : (if t152 ≤ a2 then (if 0 ≤ (wrap64 (x10_3 + 1)) then (if (wrap64 (x10_3 + 1)) < (x7_3.length : Int) then (qd.j3 k3 l1 a2 x7_3 x8_1 x9_14 x10_3 (rd l1 x10_3) ((qX x7_3 (wrap64 (x10_3 + 1))).f2) s0_0 s0_1 s0_2 t155 t152 t153) else (none)) else (none)) else (qd.j3 k3 l1 a2 x7_3 x8_1 x9_14 x10_3 (rd l1 x10_3) false s0_0 s0_1 s0_2 t155 t152 t153)) = some (r1, r2) := by rw [if_pos rfl] at H; exact H
        clear H
        have H := H1
        clear H1
        by_cases c29 : t152 ≤ a2
        case neg =>
         rw [if_neg c29] at H
         have c29b0 : decide (t152 ≤ a2) = false := decide_eq_false c29
         clear c29
         (first | rw [c29b0] | (simp only [zJ, zN]; rw [c29b0]) | skip)
         have H' := qa.mk H
         clear H
         have hnb35 := NB156_0.out
         have hnc35 := NB0_156.out
         have hcz36_0 : w25.cell? ⟨gb156, 0, none⟩ = some (.int .i64 0) := (ql BK156.out 0).trans rfl
         have hcz36_1 : w25.cell? ⟨gb156, 1, none⟩ = some (.int .i64 0) := (ql BK156.out 1).trans rfl
         have hfz36_0 := qg BK156.out 0
         have hfz36_1 := qg BK156.out 1
         go_wp2
         go_meet
         case rel => exact ⟨_, (false), (by first | rfl | (simp; done) | (simp [*]; done)), H', ⟨by have := HK1.out; have := HJ14.out; have := HK3.out; first | omega | exact Nat.le_refl _⟩, ⟨by (try simp only [hl7_1]); (try simp only [hl7_3]); (with_reducible repeat (first | apply Kd.qD | apply Kd.qE | apply Kd.qG)); exact Kd.zi (Kd.ze (p := ⟨gb156, 1, none⟩) (Kd.ze (p := ⟨gb156, 0, none⟩) (Kd.zO HO_7.out BK156.out (by decide)) (fun _ hk => hk.2) (.int .i64 t152)) (fun _ hk => hk.2) (.int .i64 t153)) (fun _ hk => trivial)⟩, ⟨by (try simp only [hl7_1]); (try simp only [hl7_3]); (with_reducible repeat (first | refine qj ?_ _ | refine qo ?_ | refine qi ?_ _)); refine qR (cs := #[.int .i64 t152, .int .i64 0]) ?_ 1 _ rfl; (with_reducible repeat (first | refine qj ?_ _ | refine qo ?_ | refine qi ?_ _)); refine qR (cs := #[.int .i64 0, .int .i64 0]) ?_ 0 _ rfl; exact kq BK156⟩, ⟨by repeat (first | (with_reducible first | exact HI0.out | apply qb.alloc | apply qb.drewN | apply qb.drew | apply qb.qO | refine qb.far ?_ NB0_156.out _) | exact HI0.out)⟩, ⟨by repeat (first | (with_reducible first | exact HK.out | apply qh.zk | apply qz | apply qB | apply qy | refine zq ?_ GW156.out _) | exact HK.out)⟩, ⟨by repeat (first | (with_reducible first | exact HB.out | apply qA | apply qx | apply qC | refine qm ?_ (qb.ge HI0.out) | refine qm ?_ GE156.out) | exact HB.out)⟩⟩
        rw [if_pos c29] at H
        have c29b0 : decide (t152 ≤ a2) = true := decide_eq_true c29
        clear c29
        (first | rw [c29b0] | (simp only [zJ, zN]; rw [c29b0]) | skip)
        obtain ⟨ji30, hji30⟩ : ∃ j_ : Int, (wrap64 (x10_3 + 1)) = j_ := ⟨_, rfl⟩
        replace H : (if 0 ≤ (ji30) then (if (ji30) < (x7_3.length : Int) then (qd.j3 k3 l1 a2 x7_3 x8_1 x9_14 x10_3 (rd l1 x10_3) ((qX x7_3 (ji30)).f2) s0_0 s0_1 s0_2 t155 t152 t153) else (none)) else (none)) = some (r1, r2) := by first | (rw [hji30] at H; exact H) | (simp only [hji30] at H ⊢; exact H)
        have hji30w : (IntKind.i64.wrap (x10_3 + 1)) = ji30 := (zJ _).trans hji30
        by_cases c31 : 0 ≤ (ji30)
        case neg =>
         rw [if_neg c31] at H
         exact absurd H (by simp)
        rw [if_pos c31] at H
        have c31b0 : decide (0 ≤ (ji30)) = true := decide_eq_true c31
        clear c31
        by_cases c32 : (ji30) < (x7_3.length : Int)
        case neg =>
         rw [if_neg c32] at H
         exact absurd H (by simp)
        rw [if_pos c32] at H
        have c32b0 : decide ((ji30) < (x7_3.length : Int)) = true := decide_eq_true c32
        clear c32
        have H' := qa.mk H
        clear H
        have hnb33 := NB156_0.out
        have hnc33 := NB0_156.out
        have hcz34_0 : w25.cell? ⟨gb156, 0, none⟩ = some (.int .i64 0) := (ql BK156.out 0).trans rfl
        have hcz34_1 : w25.cell? ⟨gb156, 1, none⟩ = some (.int .i64 0) := (ql BK156.out 1).trans rfl
        have hfz34_0 := qg BK156.out 0
        have hfz34_1 := qg BK156.out 1
        have p157 : 0 ≤ ((ji30) : Int) := odt
        have q157 : (ji30) < (x7_3.length : Int) := odt
        obtain ⟨ad157, e157, hx157_0, hx157_1, hx157_2⟩ := QV (Kd.zm HO_7.out).2.2 (ji30) p157 q157
        obtain rfl : (⟨go9, 0, none⟩ : Addr) = ad157 := (by injection e157)
        (first | simp only [add_plain] at hx157_0 | simp only [jW] at hx157_0 | simp only [Addr.add, Nat.zero_add] at hx157_0 | skip)
        (first | simp only [add_plain] at hx157_1 | simp only [jW] at hx157_1 | simp only [Addr.add, Nat.zero_add] at hx157_1 | skip)
        (first | simp only [add_plain] at hx157_2 | simp only [jW] at hx157_2 | simp only [Addr.add, Nat.zero_add] at hx157_2 | skip)
        have hn157_0 : (⟨go9, 0, none⟩ : Addr).block ≠ gb156 := Kd.zV (Kd.jP HO_7.out BK156.out (by decide))
        have hn157_1 : (⟨go9, 0, none⟩ : Addr).block ≠ gb156 := Kd.zV (Kd.jP HO_7.out BK156.out (by decide))
        replace hx157_0 := (cell_far (p := ⟨gb156, 0, none⟩) (by first | (rw [add_block]; exact hn157_0) | (show (Addr.add _ _).block ≠ _; rw [add_block]; exact hn157_0) | exact hn157_0) (.int .i64 t152)).trans hx157_0
        replace hx157_1 := (cell_far (p := ⟨gb156, 0, none⟩) (by first | (rw [add_block]; exact hn157_0) | (show (Addr.add _ _).block ≠ _; rw [add_block]; exact hn157_0) | exact hn157_0) (.int .i64 t152)).trans hx157_1
        replace hx157_2 := (cell_far (p := ⟨gb156, 0, none⟩) (by first | (rw [add_block]; exact hn157_0) | (show (Addr.add _ _).block ≠ _; rw [add_block]; exact hn157_0) | exact hn157_0) (.int .i64 t152)).trans hx157_2
        replace hx157_0 := (cell_far (p := ⟨gb156, 1, none⟩) (by first | (rw [add_block]; exact hn157_1) | (show (Addr.add _ _).block ≠ _; rw [add_block]; exact hn157_1) | exact hn157_1) (.int .i64 t153)).trans hx157_0
        replace hx157_1 := (cell_far (p := ⟨gb156, 1, none⟩) (by first | (rw [add_block]; exact hn157_1) | (show (Addr.add _ _).block ≠ _; rw [add_block]; exact hn157_1) | exact hn157_1) (.int .i64 t153)).trans hx157_1
        replace hx157_2 := (cell_far (p := ⟨gb156, 1, none⟩) (by first | (rw [add_block]; exact hn157_1) | (show (Addr.add _ _).block ≠ _; rw [add_block]; exact hn157_1) | exact hn157_1) (.int .i64 t153)).trans hx157_2
        clear hn157_0
        clear hn157_1
        replace p157 := eq_true p157
        replace q157 := eq_true q157
        go_wp2
        go_meet
        case rel => exact ⟨_, ((qX x7_3 (ji30)).f2), (by first | rfl | (simp; done) | (simp only [← hji30] <;> (first | rfl | simp)) | (simp [*]; done)), H', ⟨by have := HK1.out; have := HJ14.out; have := HK3.out; first | omega | exact Nat.le_refl _⟩, ⟨by (try simp only [hl7_1]); (try simp only [hl7_3]); (with_reducible repeat (first | apply Kd.qD | apply Kd.qE | apply Kd.qG)); exact Kd.zi (Kd.ze (p := ⟨gb156, 1, none⟩) (Kd.ze (p := ⟨gb156, 0, none⟩) (Kd.zO HO_7.out BK156.out (by decide)) (fun _ hk => hk.2) (.int .i64 t152)) (fun _ hk => hk.2) (.int .i64 t153)) (fun _ hk => trivial)⟩, ⟨by (try simp only [hl7_1]); (try simp only [hl7_3]); (with_reducible repeat (first | refine qj ?_ _ | refine qo ?_ | refine qi ?_ _)); refine qR (cs := #[.int .i64 t152, .int .i64 0]) ?_ 1 _ rfl; (with_reducible repeat (first | refine qj ?_ _ | refine qo ?_ | refine qi ?_ _)); refine qR (cs := #[.int .i64 0, .int .i64 0]) ?_ 0 _ rfl; exact kq BK156⟩, ⟨by repeat (first | (with_reducible first | exact HI0.out | apply qb.alloc | apply qb.drewN | apply qb.drew | apply qb.qO | refine qb.far ?_ NB0_156.out _) | exact HI0.out)⟩, ⟨by repeat (first | (with_reducible first | exact HK.out | apply qh.zk | apply qz | apply qB | apply qy | refine zq ?_ GW156.out _) | exact HK.out)⟩, ⟨by repeat (first | (with_reducible first | exact HB.out | apply qA | apply qx | apply qC | refine qm ?_ (qb.ge HI0.out) | refine qm ?_ GE156.out) | exact HB.out)⟩⟩
       case rest =>
        clear HC23
        try clear c1
        try clear p1
        try clear q1
        try clear hx1
        try clear c2
        try clear p2
        try clear c3
        try clear c4
        try clear c5
        try clear c5b0
        try clear c5b1
        try clear c6
        try clear c6b0
        try clear c6b1
        try clear p6
        try clear c7
        try clear c7b0
        try clear c7b1
        try clear c8
        try clear c8b0
        try clear c8b1
        try clear c9
        try clear p9
        try clear q9
        try clear hx9
        try clear hf9
        try clear c12
        try clear hx12
        try clear hf12
        try clear c14
        try clear c14b0
        try clear p15
        try clear q15
        try clear hx15
        try clear c16
        try clear c16b0
        try clear c18
        try clear c18b0
        try clear c19
        try clear c19b0
        try clear c20
        try clear c20b0
        try clear c21
        try clear c21b0
        try clear c26
        try clear c28
        try clear c29
        try clear c29b0
        try clear c30
        try clear c31
        try clear c31b0
        try clear c32
        try clear c32b0
        try clear c33
        try clear c35
        try clear hcz27_0
        try clear hcz27_1
        try clear hcz34_0
        try clear hcz34_1
        try clear hcz36_0
        try clear hcz36_1
        try clear hfz27_0
        try clear hfz27_1
        try clear hfz34_0
        try clear hfz34_1
        try clear hfz36_0
        try clear hfz36_1
        try clear hx12_2
        try clear hx150_0
        try clear hx151_0
        try clear hx157_0
        try clear hx157_1
        try clear hx157_2
        try clear hx9_0
        try clear hx9_1
        try clear hx9_2
        try clear p1
        try clear p15
        try clear p150
        try clear p151
        try clear p157
        try clear p2
        try clear p6
        try clear p9
        try clear q1
        try clear q15
        try clear q150
        try clear q151
        try clear q157
        try clear q9
        obtain ⟨kq, x70_22, rfl, HA, HJ22, HO_7, BK156, HI0, HK, HB⟩ := hcut
        cases kq with
        | zero => exact absurd HA.out (by simp [qd.j3])
        | succ kj22 =>
         have H := HA.out
         clear HA
         simp only [qd.j3] at H
         by_cases c37 : x70_22 = true
         case neg =>
          replace c37 := Bool.eq_false_iff.mpr c37
          subst c37
          have H1 : ((zg.f s0_0 s0_1 s0_2 t155 (rd l1 x10_3)).bind fun bt168 => (if bt168.1 = true then (qd.l0 kj22 l1 a2 x7_3 (wrap64 (x8_1 - 1)) s0_0 s0_1 s0_2 bt168.2) else (qd.l1 kj22 l1 a2 x7_3 x8_1 x9_14 (wrap64 (x10_3 + 1)) s0_0 s0_1 s0_2 bt168.2))) = some (r1, r2) := by rw [if_neg (show ¬ (false = true) by decide)] at H; exact H
          clear H
          have H := H1
          clear H1
          replace H := Option.bind_eq_some_iff.mp H
          obtain ⟨⟨t168, t169⟩, A650, H⟩ := H
          replace H : (if t168 = true then (qd.l0 kj22 l1 a2 x7_3 (wrap64 (x8_1 - 1)) s0_0 s0_1 s0_2 t169) else (qd.l1 kj22 l1 a2 x7_3 x8_1 x9_14 (wrap64 (x10_3 + 1)) s0_0 s0_1 s0_2 t169)) = some (r1, r2) := H
          have A65 := qa.mk A650
          clear A650
          by_cases c66 : t168 = true
          ·subst c66
           have H1 : (qd.l0 kj22 l1 a2 x7_3 (wrap64 (x8_1 - 1)) s0_0 s0_1 s0_2 t169) = some (r1, r2) := by rw [if_pos rfl] at H; exact H
           clear H
           have H := H1
           clear H1
           have H' := qa.mk H
           clear H
           go_wp2_with (first | ((with_reducible refine zl (f := 43) rfl ?_); refine zM (some 107) rfl rfl Try.func43 (by kernel_rfl) rfl #[.pointer (some ⟨g, 0, none⟩), .int .i64 (rd l1 x10_3)] rfl (by (try simp only [List.map_toArray, List.map_cons, List.map_nil]); first | done | rfl | (simp only [List.length_drop, List.length_take]; rfl)) ?_; (with_reducible refine (zg.calls g s0_0 s0_1 s0_2 t155 (rd l1 x10_3) true t169 w0 _ ?side1 ?side2 A65.out).mono ?_); (case side1 => repeat (first | (with_reducible first | exact HI0.out | apply qb.alloc | apply qb.drewN | apply qb.drew | apply qb.qO | refine qb.far ?_ NB0_156.out _) | exact HI0.out)); (case side2 => repeat (first | (with_reducible first | exact HB.out | apply qA | apply qx | apply qC | refine qm ?_ (qb.ge HI0.out) | refine qm ?_ GE156.out) | exact HB.out)); rintro e w67 ⟨rfl, hi, hb, hk⟩; refine ⟨_, rfl, ?_⟩; have n0_ := qa.mk (Kd.zi (Kd.jy (qb.apart (show qb w0 _ g s0_0 s0_1 s0_2 t155 from by repeat (first | (with_reducible first | exact HI0.out | apply qb.alloc | apply qb.drewN | apply qb.drew | apply qb.qO | refine qb.far ?_ NB0_156.out _) | exact HI0.out)) (rq HO_7) (by decide)) hk (fun _ h => h.2)) (fun _ h => h.1)); have n1_ := qa.mk (qh.blk hk (g' := gb156) (o := .cells #[.int .i64 t152, .int .i64 t153] 73 (0, 0)) (kq BK156) NB156_0.out (by simp)); have n2_ := qa.mk (qh.trans (by repeat (first | (with_reducible first | exact HK.out | apply qh.zk | apply qz | apply qB | apply qy | refine zq ?_ GW156.out _) | exact HK.out)) hk (.inl rfl)); have n3_ := qa.mk (hb); have n4_ := qa.mk (hi); clear HO_7; clear BK156; clear HK; clear HB; clear HI0; have HO_7 := n0_; have BK156 := n1_; have HK := n2_; have HB := n3_; have HI0 := n4_; clear n0_ n1_ n2_ n3_ n4_; (try clear hb); (try clear hb2); (try clear hk); (try clear hi)))
           (try simp only [← hl7_1, ← hl7_3])
           go_roundg kj22
           case measure => have := HK1.out; have := HJ14.out; have := HK3.out; have := HJ22.out; omega
           case rel => exact ⟨(x7_3), (wrap64 (x8_1 - 1)), (t169), (by first | rfl | (simp; done) | (simp [*]; done)), H', ⟨by have := HK1.out; have := HJ14.out; have := HK3.out; have := HJ22.out; omega⟩, ⟨by (try simp only [hl7_1]); (try simp only [hl7_3]); exact rq HO_7⟩, ⟨by repeat (first | (with_reducible first | exact HI0.out | apply qb.alloc | apply qb.drewN | apply qb.drew | apply qb.qO | refine qb.far ?_ NB0_156.out _) | exact HI0.out)⟩, ⟨by repeat (first | (with_reducible first | exact HK.out | apply qh.zk | apply qz | apply qB | apply qy | refine zq ?_ GW156.out _) | exact HK.out)⟩, ⟨by repeat (first | (with_reducible first | exact HB.out | apply qA | apply qx | apply qC | refine qm ?_ (qb.ge HI0.out) | refine qm ?_ GE156.out) | exact HB.out)⟩⟩
          replace c66 := Bool.eq_false_iff.mpr c66
          subst c66
          have H1 : (qd.l1 kj22 l1 a2 x7_3 x8_1 x9_14 (wrap64 (x10_3 + 1)) s0_0 s0_1 s0_2 t169) = some (r1, r2) := by rw [if_neg (show ¬ (false = true) by decide)] at H; exact H
          clear H
          have H := H1
          clear H1
          have H' := qa.mk H
          clear H
          go_wp2_with (first | ((with_reducible refine zl (f := 43) rfl ?_); refine zM (some 107) rfl rfl Try.func43 (by kernel_rfl) rfl #[.pointer (some ⟨g, 0, none⟩), .int .i64 (rd l1 x10_3)] rfl (by (try simp only [List.map_toArray, List.map_cons, List.map_nil]); first | done | rfl | (simp only [List.length_drop, List.length_take]; rfl)) ?_; (with_reducible refine (zg.calls g s0_0 s0_1 s0_2 t155 (rd l1 x10_3) false t169 w0 _ ?side1 ?side2 A65.out).mono ?_); (case side1 => repeat (first | (with_reducible first | exact HI0.out | apply qb.alloc | apply qb.drewN | apply qb.drew | apply qb.qO | refine qb.far ?_ NB0_156.out _) | exact HI0.out)); (case side2 => repeat (first | (with_reducible first | exact HB.out | apply qA | apply qx | apply qC | refine qm ?_ (qb.ge HI0.out) | refine qm ?_ GE156.out) | exact HB.out)); rintro e w68 ⟨rfl, hi, hb, hk⟩; refine ⟨_, rfl, ?_⟩; have n0_ := qa.mk (Kd.zi (Kd.jy (qb.apart (show qb w0 _ g s0_0 s0_1 s0_2 t155 from by repeat (first | (with_reducible first | exact HI0.out | apply qb.alloc | apply qb.drewN | apply qb.drew | apply qb.qO | refine qb.far ?_ NB0_156.out _) | exact HI0.out)) (rq HO_7) (by decide)) hk (fun _ h => h.2)) (fun _ h => h.1)); have n1_ := qa.mk (qh.blk hk (g' := gb156) (o := .cells #[.int .i64 t152, .int .i64 t153] 73 (0, 0)) (kq BK156) NB156_0.out (by simp)); have n2_ := qa.mk (qh.trans (by repeat (first | (with_reducible first | exact HK.out | apply qh.zk | apply qz | apply qB | apply qy | refine zq ?_ GW156.out _) | exact HK.out)) hk (.inl rfl)); have n3_ := qa.mk (hb); have n4_ := qa.mk (hi); clear HO_7; clear BK156; clear HK; clear HB; clear HI0; have HO_7 := n0_; have BK156 := n1_; have HK := n2_; have HB := n3_; have HI0 := n4_; clear n0_ n1_ n2_ n3_ n4_; (try clear hb); (try clear hb2); (try clear hk); (try clear hi)))
          (try simp only [← hl7_3])
          go_roundg kj22
          case measure => have := HK1.out; have := HJ14.out; have := HK3.out; have := HJ22.out; omega
          case rel => exact ⟨(x7_3), (wrap64 (x10_3 + 1)), (t169), (by first | rfl | (simp; done) | (simp [*]; done)), H', ⟨by have := HK1.out; have := HJ14.out; have := HK3.out; have := HJ22.out; omega⟩, ⟨by (try simp only [hl7_1]); (try simp only [hl7_3]); exact rq HO_7⟩, ⟨by repeat (first | (with_reducible first | exact HI0.out | apply qb.alloc | apply qb.drewN | apply qb.drew | apply qb.qO | refine qb.far ?_ NB0_156.out _) | exact HI0.out)⟩, ⟨by repeat (first | (with_reducible first | exact HK.out | apply qh.zk | apply qz | apply qB | apply qy | refine zq ?_ GW156.out _) | exact HK.out)⟩, ⟨by repeat (first | (with_reducible first | exact HB.out | apply qA | apply qx | apply qC | refine qm ?_ (qb.ge HI0.out) | refine qm ?_ GE156.out) | exact HB.out)⟩⟩
         subst c37
         have H1 : ((jl.f s0_0 s0_1 s0_2 t155 x9_14 (rd l1 x10_3) t153).bind fun bt158 => (if 0 ≤ (wrap64 (x10_3 + 1)) then (if (wrap64 (x10_3 + 1)) < (x7_3.length : Int) then (if 0 ≤ x8_1 then (if x8_1 < (x7_3.length : Int) then (if ((qX x7_3 x8_1).f2 = true) then (qd.j4 kj22 l1 a2 x7_3 x8_1 x9_14 x10_3 (rd l1 x10_3) (wrap64 (bt158.1 + ((qX x7_3 (wrap64 (x10_3 + 1))).f1))) (decide ((wrap64 (bt158.1 + ((qX x7_3 (wrap64 (x10_3 + 1))).f1))) < ((qX x7_3 x8_1).f1))) s0_0 s0_1 s0_2 bt158.2) else (qd.j4 kj22 l1 a2 x7_3 x8_1 x9_14 x10_3 (rd l1 x10_3) (wrap64 (bt158.1 + ((qX x7_3 (wrap64 (x10_3 + 1))).f1))) true s0_0 s0_1 s0_2 bt158.2)) else (none)) else (none)) else (none)) else (none))) = some (r1, r2) := by rw [if_pos rfl] at H; exact H
         clear H
         have H := H1
         clear H1
         replace H := Option.bind_eq_some_iff.mp H
         obtain ⟨⟨t158, t159⟩, A380, H⟩ := H
         replace H : (if 0 ≤ (wrap64 (x10_3 + 1)) then (if (wrap64 (x10_3 + 1)) < (x7_3.length : Int) then (if 0 ≤ x8_1 then (if x8_1 < (x7_3.length : Int) then (if ((qX x7_3 x8_1).f2 = true) then (qd.j4 kj22 l1 a2 x7_3 x8_1 x9_14 x10_3 (rd l1 x10_3) (wrap64 (t158 + ((qX x7_3 (wrap64 (x10_3 + 1))).f1))) (decide ((wrap64 (t158 + ((qX x7_3 (wrap64 (x10_3 + 1))).f1))) < ((qX x7_3 x8_1).f1))) s0_0 s0_1 s0_2 t159) else (qd.j4 kj22 l1 a2 x7_3 x8_1 x9_14 x10_3 (rd l1 x10_3) (wrap64 (t158 + ((qX x7_3 (wrap64 (x10_3 + 1))).f1))) true s0_0 s0_1 s0_2 t159)) else (none)) else (none)) else (none)) else (none)) = some (r1, r2) := H
         have A38 := qa.mk A380
         clear A380
         obtain ⟨ji39, hji39⟩ : ∃ j_ : Int, (wrap64 (x10_3 + 1)) = j_ := ⟨_, rfl⟩
         replace H : (if 0 ≤ (ji39) then (if (ji39) < (x7_3.length : Int) then (if 0 ≤ x8_1 then (if x8_1 < (x7_3.length : Int) then (if ((qX x7_3 x8_1).f2 = true) then (qd.j4 kj22 l1 a2 x7_3 x8_1 x9_14 x10_3 (rd l1 x10_3) (wrap64 (t158 + ((qX x7_3 (ji39)).f1))) (decide ((wrap64 (t158 + ((qX x7_3 (ji39)).f1))) < ((qX x7_3 x8_1).f1))) s0_0 s0_1 s0_2 t159) else (qd.j4 kj22 l1 a2 x7_3 x8_1 x9_14 x10_3 (rd l1 x10_3) (wrap64 (t158 + ((qX x7_3 (ji39)).f1))) true s0_0 s0_1 s0_2 t159)) else (none)) else (none)) else (none)) else (none)) = some (r1, r2) := by first | (rw [hji39] at H; exact H) | (simp only [hji39] at H ⊢; exact H)
         (try rw [hji39] at A38)
         have hji39w : (IntKind.i64.wrap (x10_3 + 1)) = ji39 := (zJ _).trans hji39
         by_cases c40 : 0 ≤ (ji39)
         case neg =>
          rw [if_neg c40] at H
          exact absurd H (by simp)
         rw [if_pos c40] at H
         have c40b0 : decide (0 ≤ (ji39)) = true := decide_eq_true c40
         clear c40
         by_cases c41 : (ji39) < (x7_3.length : Int)
         case neg =>
          rw [if_neg c41] at H
          exact absurd H (by simp)
         rw [if_pos c41] at H
         have c41b0 : decide ((ji39) < (x7_3.length : Int)) = true := decide_eq_true c41
         clear c41
         have HC42 := qa.mk H
         clear H
         try go_wp2
         have n0_ := qa.mk (Kd.qG HO_7.out)
         have n1_ := qa.mk (qo BK156.out)
         have n2_ := qa.mk (qb.drew HI0.out)
         have n3_ := qa.mk (qB HK.out)
         have n4_ := qa.mk (qC HB.out)
         clear HO_7
         clear BK156
         clear HI0
         clear HK
         clear HB
         have HO_7 := n0_
         have BK156 := n1_
         have HI0 := n2_
         have HK := n3_
         have HB := n4_
         clear n0_ n1_ n2_ n3_ n4_
         have p160 : 0 ≤ ((ji39) : Int) := odt
         have q160 : (ji39) < (x7_3.length : Int) := odt
         obtain ⟨ad160, e160, hx160_0, hx160_1, hx160_2⟩ := QV (Kd.zm HO_7.out).2.2 (ji39) p160 q160
         obtain rfl : (⟨go9, 0, none⟩ : Addr) = ad160 := (by injection e160)
         (first | simp only [add_plain] at hx160_0 | simp only [jW] at hx160_0 | simp only [Addr.add, Nat.zero_add] at hx160_0 | skip)
         (first | simp only [add_plain] at hx160_1 | simp only [jW] at hx160_1 | simp only [Addr.add, Nat.zero_add] at hx160_1 | skip)
         (first | simp only [add_plain] at hx160_2 | simp only [jW] at hx160_2 | simp only [Addr.add, Nat.zero_add] at hx160_2 | skip)
         replace p160 := eq_true p160
         replace q160 := eq_true q160
         refine start_ (n := 14) (S := fun w' => w'.cell? ⟨gb156, 0, none⟩ = some (.int .i64 t152) ∧ w'.cell? ⟨gb156, 1, none⟩ = some (.int .i64 t153) ∧ w'.cell? ⟨go9, ((ji39)).toNat * 3, none⟩ = some (.int .i64 ((qX x7_3 (ji39)).f0)) ∧ w'.cell? ⟨go9, ((ji39)).toNat * 3 + 1, none⟩ = some (.int .i64 ((qX x7_3 (ji39)).f1)) ∧ w'.cell? ⟨go9, ((ji39)).toNat * 3 + 2, none⟩ = some (.bool ((qX x7_3 (ji39)).f2))) (ds := []) #[false, false, false, false, false, false, false, false, false, false, false, false, false, false] (by kernel_rfl) rfl rfl ⟨(ql BK156.out 0).trans rfl, (ql BK156.out 1).trans rfl, hx160_0, hx160_1, hx160_2⟩ (fun hHeld => ?_); refine ZA qd.tab15 qd.bits15 (fun HT_ HW_ => ?_)
         generalize wc.drew = w43 at HO_7 BK156 HI0 HK HB hx160_0 hx160_1 hx160_2 hHeld ⊢
         refine jD (i := 0) (N := some 71) (v := ?_) (a' := ?_) #[true, false, false, false, false, false, false, false, false, false, false, false, false, false] rfl rfl (jh HT_.out (by kernel_rfl)) (fun _ _ _ h => h) (Or.inl ⟨by rfl, ?_⟩) ?_ ?_
         rotate_left
         ·intro w'
          go_simp
          with_reducible rfl
         rotate_left
         ·simp only [Act.put, List.setIfInBounds_toArray, List.set_cons_zero, List.set_cons_succ, zJ, zN]
          rfl
         refine jD (i := 1) (N := some 72) (v := ?_) (a' := ?_) #[true, true, false, false, false, false, false, false, false, false, false, false, false, false] rfl rfl (jh HT_.out (by kernel_rfl)) (fun _ _ _ h => h) (Or.inl ⟨by rfl, ?_⟩) ?_ ?_
         rotate_left
         ·intro w'
          go_simp
          with_reducible rfl
         rotate_left
         ·simp only [Act.put, List.setIfInBounds_toArray, List.set_cons_zero, List.set_cons_succ, zJ, zN]
          rfl
         refine jD (i := 2) (N := some 73) (v := ?_) (a' := ?_) #[true, true, true, false, false, false, false, false, false, false, false, false, false, false] rfl rfl (jh HT_.out (by kernel_rfl)) (fun _ _ _ h => h) (Or.inl ⟨by rfl, ?_⟩) ?_ ?_
         rotate_left
         ·intro w'
          go_simp
          with_reducible rfl
         rotate_left
         ·simp only [Act.put, List.setIfInBounds_toArray, List.set_cons_zero, List.set_cons_succ, zJ, zN]
          rfl
         refine jD (i := 3) (N := some 74) (v := ?_) (a' := ?_) #[true, true, true, true, false, false, false, false, false, false, false, false, false, false] rfl rfl (jh HT_.out (by kernel_rfl)) (fun _ _ _ h => h) (Or.inl ⟨by rfl, ?_⟩) ?_ ?_
         rotate_left
         ·intro w'
          go_simp
          with_reducible rfl
         rotate_left
         ·simp only [Act.put, List.setIfInBounds_toArray, List.set_cons_zero, List.set_cons_succ, zJ, zN]
          rfl
         refine jD (i := 6) (N := some 77) (v := ?_) (a' := ?_) #[true, true, true, true, false, false, true, false, false, false, false, false, false, false] rfl rfl (jh HT_.out (by kernel_rfl)) (fun _ _ _ h => h) (Or.inl ⟨by rfl, ?_⟩) ?_ ?_
         rotate_left
         ·intro w'
          go_simp
          with_reducible rfl
         rotate_left
         ·simp only [Act.put, List.setIfInBounds_toArray, List.set_cons_zero, List.set_cons_succ, zJ, zN]
          rfl
         refine jD (i := 7) (N := some 78) (v := ?_) (a' := ?_) #[true, true, true, true, false, false, true, true, false, false, false, false, false, false] rfl rfl (jh HT_.out (by kernel_rfl)) (fun _ _ _ h => h) (Or.inl ⟨by rfl, ?_⟩) ?_ ?_
         rotate_left
         ·intro w'
          go_simp
          with_reducible rfl
         rotate_left
         ·simp only [Act.put, List.setIfInBounds_toArray, List.set_cons_zero, List.set_cons_succ, zJ, zN]
          rfl
         refine jD (i := 8) (N := some 79) (v := ?_) (a' := ?_) #[true, true, true, true, false, false, true, true, true, false, false, false, false, false] rfl rfl (jh HT_.out (by kernel_rfl)) (fun _ _ _ h => h) (Or.inl ⟨by rfl, ?_⟩) ?_ ?_
         rotate_left
         ·intro w'
          go_simp
          with_reducible rfl
         rotate_left
         ·simp only [Act.put, List.setIfInBounds_toArray, List.set_cons_zero, List.set_cons_succ, zJ, zN]
          rfl
         refine jD (i := 9) (N := some 80) (v := ?_) (a' := ?_) #[true, true, true, true, false, false, true, true, true, true, false, false, false, false] rfl rfl (jh HT_.out (by kernel_rfl)) (fun _ _ _ h => h) (Or.inl ⟨by rfl, ?_⟩) ?_ ?_
         rotate_left
         ·intro w'
          go_simp
          with_reducible rfl
         rotate_left
         ·simp only [Act.put, List.setIfInBounds_toArray, List.set_cons_zero, List.set_cons_succ, zJ, zN]
          rfl
         refine jD (i := 10) (N := some 81) (v := ?_) (a' := ?_) #[true, true, true, true, false, false, true, true, true, true, true, false, false, false] rfl rfl (jh HT_.out (by kernel_rfl)) (fun _ _ _ h => h) (Or.inl ⟨by rfl, ?_⟩) ?_ ?_
         rotate_left
         ·intro w'
          go_simp
          with_reducible rfl
         rotate_left
         ·simp only [Act.put, List.setIfInBounds_toArray, List.set_cons_zero, List.set_cons_succ, zJ, zN]
          rfl
         refine Zh (i := 4) (N := some 75) (v := ?_) (a' := ?_) #[true, true, true, true, true, false, true, true, true, true, true, false, false, false] rfl rfl (QO HT_.out HW_.out (by kernel_rfl)) (fun _ _ _ h => h) (Or.inl ⟨by rfl, ?_⟩) hHeld ?_ ?_
         rotate_left
         ·rintro w' ⟨s0, s1, s2, s3, s4⟩
          go_simp
          with_reducible rfl
         rotate_left
         ·simp only [Act.put, List.setIfInBounds_toArray, List.set_cons_zero, List.set_cons_succ, zJ, zN]
          rfl
         refine Zh (i := 11) (N := some 82) (v := ?_) (a' := ?_) #[true, true, true, true, true, false, true, true, true, true, true, true, false, false] rfl rfl (QO HT_.out HW_.out (by kernel_rfl)) (fun _ _ _ h => h) (Or.inl ⟨by rfl, ?_⟩) hHeld ?_ ?_
         rotate_left
         ·rintro w' ⟨s0, s1, s2, s3, s4⟩
          go_simp
          with_reducible rfl
         rotate_left
         ·simp only [Act.put, List.setIfInBounds_toArray, List.set_cons_zero, List.set_cons_succ, zJ, zN]
          rfl
         refine one_ (i := 5) (N := some 76) #[true, true, true, true, true, true, true, true, true, true, true, true, false, false] rfl rfl (ZJ HT_.out (by kernel_rfl)) (by decide) (fun K hK => ?_)
         refine goes_ Try.func42 (by kernel_rfl) rfl #[.pointer (some ⟨g, 0, none⟩), .int .i64 x9_14, .int .i64 (rd l1 x10_3), .int .i64 t153] (by rfl) rfl rfl (by (try simp only [List.map_toArray, List.map_cons, List.map_nil]); first | done | rfl | (simp only [List.length_drop, List.length_take]; rfl)) ?_
         with_reducible refine (jl.calls g s0_0 s0_1 s0_2 t155 x9_14 (rd l1 x10_3) t153 t158 t159 w0 _ ?side1 ?side2 A38.out).mono ?_
         (case side1 => repeat (first | (with_reducible first | exact HI0.out | apply qb.alloc | apply qb.drewN | apply qb.drew | apply qb.qO | refine qb.far ?_ NB0_156.out _) | exact HI0.out))
         (case side2 => repeat (first | (with_reducible first | exact HB.out | apply qA | apply qx | apply qC | refine qm ?_ (qb.ge HI0.out) | refine qm ?_ GE156.out) | exact HB.out))
         rintro e w44 ⟨rfl, hi, hb, hk⟩
         have HS2_ := zW hk (hHeld.2.2.1) (by first | (rw [add_block]; exact Kd.zV (qb.own_ne HI0.out HO_7.out (by decide))) | (show (Addr.add _ _).block ≠ _; rw [add_block]; exact Kd.zV (qb.own_ne HI0.out HO_7.out (by decide))) | exact Kd.zV (qb.own_ne HI0.out HO_7.out (by decide)) | exact (show go9 ≠ g from Kd.zV (ad := ⟨go9, 0, none⟩) (qb.own_ne HI0.out HO_7.out (by decide))))
         have HS3_ := zW hk (hHeld.2.2.2.1) (by first | (rw [add_block]; exact Kd.zV (qb.own_ne HI0.out HO_7.out (by decide))) | (show (Addr.add _ _).block ≠ _; rw [add_block]; exact Kd.zV (qb.own_ne HI0.out HO_7.out (by decide))) | exact Kd.zV (qb.own_ne HI0.out HO_7.out (by decide)) | exact (show go9 ≠ g from Kd.zV (ad := ⟨go9, 0, none⟩) (qb.own_ne HI0.out HO_7.out (by decide))))
         have HS4_ := zW hk (hHeld.2.2.2.2) (by first | (rw [add_block]; exact Kd.zV (qb.own_ne HI0.out HO_7.out (by decide))) | (show (Addr.add _ _).block ≠ _; rw [add_block]; exact Kd.zV (qb.own_ne HI0.out HO_7.out (by decide))) | exact Kd.zV (qb.own_ne HI0.out HO_7.out (by decide)) | exact (show go9 ≠ g from Kd.zV (ad := ⟨go9, 0, none⟩) (qb.own_ne HI0.out HO_7.out (by decide))))
         refine ⟨_, rfl, ?_⟩
         have n0_ := qa.mk (Kd.zi (Kd.jy (qb.apart (show qb w0 _ g s0_0 s0_1 s0_2 t155 from by repeat (first | (with_reducible first | exact HI0.out | apply qb.alloc | apply qb.drewN | apply qb.drew | apply qb.qO | refine qb.far ?_ NB0_156.out _) | exact HI0.out)) (rq HO_7) (by decide)) hk (fun _ h => h.2)) (fun _ h => h.1))
         have n1_ := qa.mk (qh.blk hk (g' := gb156) (o := .cells #[.int .i64 t152, .int .i64 t153] 73 (0, 0)) (kq BK156) NB156_0.out (by simp))
         have n2_ := qa.mk (qh.trans (by repeat (first | (with_reducible first | exact HK.out | apply qh.zk | apply qz | apply qB | apply qy | refine zq ?_ GW156.out _) | exact HK.out)) hk (.inl rfl))
         have n3_ := qa.mk (hb)
         have n4_ := qa.mk (hi)
         clear HO_7
         clear BK156
         clear HK
         clear HB
         clear HI0
         have HO_7 := n0_
         have BK156 := n1_
         have HK := n2_
         have HB := n3_
         have HI0 := n4_
         clear n0_ n1_ n2_ n3_ n4_
         (try clear hb)
         (try clear hb2)
         (try clear hk)
         (try clear hi)
         refine hK.out _ _ ⟨(ql BK156.out 0).trans rfl, (ql BK156.out 1).trans rfl, HS2_, HS3_, HS4_⟩ (fun hHeld => ?_)
         clear hK K
         refine norm_ (a' := ?_) ?_ ?_
         rotate_left
         ·show Act.put _ (some 76) _ = _
          simp only [Act.put, List.setIfInBounds_toArray, List.set_cons_zero, List.set_cons_succ, zJ, zN]
          rfl
         refine jD (i := 12) (N := some 83) (v := ?_) (a' := ?_) #[true, true, true, true, true, true, true, true, true, true, true, true, true, false] rfl rfl (jh HT_.out (by kernel_rfl)) (fun _ _ _ h => h) (Or.inl ⟨by rfl, ?_⟩) ?_ ?_
         rotate_left
         ·intro w'
          go_simp
          with_reducible rfl
         rotate_left
         ·simp only [Act.put, List.setIfInBounds_toArray, List.set_cons_zero, List.set_cons_succ, zJ, zN]
          rfl
         refine jD (i := 13) (N := some 14) (v := ?_) (a' := ?_) #[true, true, true, true, true, true, true, true, true, true, true, true, true, true] rfl rfl (jh HT_.out (by kernel_rfl)) (fun _ _ _ h => h) (Or.inl ⟨by rfl, ?_⟩) ?_ ?_
         rotate_left
         ·intro w'
          go_simp
          with_reducible rfl
         rotate_left
         ·simp only [Act.put, List.setIfInBounds_toArray, List.set_cons_zero, List.set_cons_succ, zJ, zN]
          rfl
         refine done_ (Jr HT_.out (by kernel_rfl)) ?_
         go_upto_region 16 with (fail)
         go_cut [98] (fun v98 wc => ∃ (kq : Nat) (x98_41 : Bool), v98 = .bool x98_41 ∧ qa (qd.j4 kq l1 a2 x7_3 x8_1 x9_14 x10_3 (rd l1 x10_3) (wrap64 (t158 + ((qX x7_3 (ji39)).f1))) x98_41 s0_0 s0_1 s0_2 t159 = some (r1, r2)) ∧ qa (kq ≤ kj22) ∧ qa (Kd.R k59 59 wc w.heap.size (fun _ => True) (.slice (some ⟨go9, 0, none⟩) x7_3.length co9) x7_3) ∧ qa (wc.heap[gb156]? = some (.cells #[.int .i64 t152, .int .i64 t153] 73 (0, 0))) ∧ qa (qb w0 wc g s0_0 s0_1 s0_2 t159) ∧ qa (qh w wc g none) ∧ qa (Below w0.heap.size w0 wc))
         case first =>
          have H := HC42.out
          clear HC42
          by_cases c45 : 0 ≤ x8_1
          case neg =>
           rw [if_neg c45] at H
           exact absurd H (by simp)
          rw [if_pos c45] at H
          have c45b0 : decide (0 ≤ x8_1) = true := decide_eq_true c45
          clear c45
          (first | rw [c45b0] | (simp only [zJ, zN]; rw [c45b0]) | skip)
          by_cases c46 : x8_1 < (x7_3.length : Int)
          case neg =>
           rw [if_neg c46] at H
           exact absurd H (by simp)
          rw [if_pos c46] at H
          have c46b0 : decide (x8_1 < (x7_3.length : Int)) = true := decide_eq_true c46
          clear c46
          obtain ⟨bq47, hbq47⟩ : ∃ b_ : Bool, b_ = ((qX x7_3 x8_1).f2) := ⟨_, rfl⟩
          replace H : (if (bq47 = true) then (qd.j4 kj22 l1 a2 x7_3 x8_1 x9_14 x10_3 (rd l1 x10_3) (wrap64 (t158 + ((qX x7_3 (ji39)).f1))) (decide ((wrap64 (t158 + ((qX x7_3 (ji39)).f1))) < ((qX x7_3 x8_1).f1))) s0_0 s0_1 s0_2 t159) else (qd.j4 kj22 l1 a2 x7_3 x8_1 x9_14 x10_3 (rd l1 x10_3) (wrap64 (t158 + ((qX x7_3 (ji39)).f1))) true s0_0 s0_1 s0_2 t159)) = some (r1, r2) := by rw [← hbq47] at H; exact H
          have Nbq47 := qa.mk hbq47
          clear hbq47
          by_cases c48 : (bq47 = true)
          case neg =>
           replace c48 := Bool.eq_false_iff.mpr c48
           subst c48
           have H1 : (qd.j4 kj22 l1 a2 x7_3 x8_1 x9_14 x10_3 (rd l1 x10_3) (wrap64 (t158 + ((qX x7_3 (ji39)).f1))) true s0_0 s0_1 s0_2 t159) = some (r1, r2) := by rw [if_neg (show ¬ (false = true) by decide)] at H; exact H
           clear H
           have H := H1
           clear H1
           have H' := qa.mk H
           clear H
           have p161 : 0 ≤ (x8_1 : Int) := odt
           have q161 : x8_1 < (x7_3.length : Int) := odt
           obtain ⟨ad161, e161, hx161_0, hx161_1, hx161_2⟩ := QV (Kd.zm HO_7.out).2.2 x8_1 p161 q161
           (try rw [← Nbq47.out] at hx161_2)
           obtain rfl : (⟨go9, 0, none⟩ : Addr) = ad161 := (by injection e161)
           (first | simp only [add_plain] at hx161_0 | simp only [jW] at hx161_0 | simp only [Addr.add, Nat.zero_add] at hx161_0 | skip)
           (first | simp only [add_plain] at hx161_1 | simp only [jW] at hx161_1 | simp only [Addr.add, Nat.zero_add] at hx161_1 | skip)
           (first | simp only [add_plain] at hx161_2 | simp only [jW] at hx161_2 | simp only [Addr.add, Nat.zero_add] at hx161_2 | skip)
           replace p161 := eq_true p161
           replace q161 := eq_true q161
           go_wp2
           go_meet
           case rel => exact ⟨_, (true), (by first | rfl | (simp; done) | (simp [*]; done)), H', ⟨by have := HK1.out; have := HJ14.out; have := HK3.out; have := HJ22.out; first | omega | exact Nat.le_refl _⟩, ⟨by (try simp only [hl7_1]); (try simp only [hl7_3]); exact rq HO_7⟩, ⟨by (try simp only [hl7_1]); (try simp only [hl7_3]); exact kq BK156⟩, ⟨by repeat (first | (with_reducible first | exact HI0.out | apply qb.alloc | apply qb.drewN | apply qb.drew | apply qb.qO | refine qb.far ?_ NB0_156.out _) | exact HI0.out)⟩, ⟨by repeat (first | (with_reducible first | exact HK.out | apply qh.zk | apply qz | apply qB | apply qy | refine zq ?_ GW156.out _) | exact HK.out)⟩, ⟨by repeat (first | (with_reducible first | exact HB.out | apply qA | apply qx | apply qC | refine qm ?_ (qb.ge HI0.out) | refine qm ?_ GE156.out) | exact HB.out)⟩⟩
          subst c48
          have H1 : (qd.j4 kj22 l1 a2 x7_3 x8_1 x9_14 x10_3 (rd l1 x10_3) (wrap64 (t158 + ((qX x7_3 (ji39)).f1))) (decide ((wrap64 (t158 + ((qX x7_3 (ji39)).f1))) < ((qX x7_3 x8_1).f1))) s0_0 s0_1 s0_2 t159) = some (r1, r2) := by rw [if_pos rfl] at H; exact H
          clear H
          have H := H1
          clear H1
          have H' := qa.mk H
          clear H
          have p161 : 0 ≤ (x8_1 : Int) := odt
          have q161 : x8_1 < (x7_3.length : Int) := odt
          obtain ⟨ad161, e161, hx161_0, hx161_1, hx161_2⟩ := QV (Kd.zm HO_7.out).2.2 x8_1 p161 q161
          (try rw [← Nbq47.out] at hx161_2)
          obtain rfl : (⟨go9, 0, none⟩ : Addr) = ad161 := (by injection e161)
          (first | simp only [add_plain] at hx161_0 | simp only [jW] at hx161_0 | simp only [Addr.add, Nat.zero_add] at hx161_0 | skip)
          (first | simp only [add_plain] at hx161_1 | simp only [jW] at hx161_1 | simp only [Addr.add, Nat.zero_add] at hx161_1 | skip)
          (first | simp only [add_plain] at hx161_2 | simp only [jW] at hx161_2 | simp only [Addr.add, Nat.zero_add] at hx161_2 | skip)
          replace p161 := eq_true p161
          replace q161 := eq_true q161
          have p162 : 0 ≤ (x8_1 : Int) := odt
          have q162 : x8_1 < (x7_3.length : Int) := odt
          obtain ⟨ad162, e162, hx162_0, hx162_1, hx162_2⟩ := QV (Kd.zm HO_7.out).2.2 x8_1 p162 q162
          (try rw [← Nbq47.out] at hx162_2)
          obtain rfl : (⟨go9, 0, none⟩ : Addr) = ad162 := (by injection e162)
          (first | simp only [add_plain] at hx162_0 | simp only [jW] at hx162_0 | simp only [Addr.add, Nat.zero_add] at hx162_0 | skip)
          (first | simp only [add_plain] at hx162_1 | simp only [jW] at hx162_1 | simp only [Addr.add, Nat.zero_add] at hx162_1 | skip)
          (first | simp only [add_plain] at hx162_2 | simp only [jW] at hx162_2 | simp only [Addr.add, Nat.zero_add] at hx162_2 | skip)
          replace p162 := eq_true p162
          replace q162 := eq_true q162
          go_wp2
          go_meet
          case rel => exact ⟨_, (decide ((wrap64 (t158 + ((qX x7_3 (ji39)).f1))) < ((qX x7_3 x8_1).f1))), (by first | rfl | (simp; done) | (simp only [← hji39] <;> (first | rfl | simp)) | (simp [*]; done)), H', ⟨by have := HK1.out; have := HJ14.out; have := HK3.out; have := HJ22.out; first | omega | exact Nat.le_refl _⟩, ⟨by (try simp only [hl7_1]); (try simp only [hl7_3]); exact rq HO_7⟩, ⟨by (try simp only [hl7_1]); (try simp only [hl7_3]); exact kq BK156⟩, ⟨by repeat (first | (with_reducible first | exact HI0.out | apply qb.alloc | apply qb.drewN | apply qb.drew | apply qb.qO | refine qb.far ?_ NB0_156.out _) | exact HI0.out)⟩, ⟨by repeat (first | (with_reducible first | exact HK.out | apply qh.zk | apply qz | apply qB | apply qy | refine zq ?_ GW156.out _) | exact HK.out)⟩, ⟨by repeat (first | (with_reducible first | exact HB.out | apply qA | apply qx | apply qC | refine qm ?_ (qb.ge HI0.out) | refine qm ?_ GE156.out) | exact HB.out)⟩⟩
         case rest =>
          clear HC42
          try clear c1
          try clear p1
          try clear q1
          try clear hx1
          try clear c2
          try clear p2
          try clear c3
          try clear c4
          try clear q4
          try clear c5
          try clear c5b0
          try clear c5b1
          try clear c6
          try clear c6b0
          try clear c6b1
          try clear p6
          try clear c7
          try clear c7b0
          try clear c7b1
          try clear c8
          try clear c8b0
          try clear c8b1
          try clear c9
          try clear p9
          try clear q9
          try clear hx9
          try clear hf9
          try clear c12
          try clear hx12
          try clear hf12
          try clear c14
          try clear c14b0
          try clear p15
          try clear q15
          try clear hx15
          try clear c16
          try clear c16b0
          try clear p16
          try clear q16
          try clear hx16
          try clear c18
          try clear c18b0
          try clear c19
          try clear c19b0
          try clear c20
          try clear c20b0
          try clear c21
          try clear c21b0
          try clear c26
          try clear c28
          try clear c29
          try clear c29b0
          try clear c30
          try clear c31
          try clear c31b0
          try clear c32
          try clear c32b0
          try clear c33
          try clear c35
          try clear c37
          try clear c40
          try clear c40b0
          try clear c41
          try clear c41b0
          try clear c42
          try clear c45
          try clear c45b0
          try clear c46
          try clear c46b0
          try clear q47
          try clear c48
          try clear hcz27_0
          try clear hcz27_1
          try clear hcz34_0
          try clear hcz34_1
          try clear hcz36_0
          try clear hcz36_1
          try clear hfz27_0
          try clear hfz27_1
          try clear hfz34_0
          try clear hfz34_1
          try clear hfz36_0
          try clear hfz36_1
          try clear hx12_2
          try clear hx150_0
          try clear hx151_0
          try clear hx157_0
          try clear hx157_1
          try clear hx157_2
          try clear hx160_0
          try clear hx160_1
          try clear hx160_2
          try clear hx161_0
          try clear hx161_1
          try clear hx161_2
          try clear hx162_0
          try clear hx162_1
          try clear hx162_2
          try clear hx9_0
          try clear hx9_1
          try clear hx9_2
          try clear p1
          try clear p15
          try clear p150
          try clear p151
          try clear p157
          try clear p160
          try clear p161
          try clear p162
          try clear p2
          try clear p6
          try clear p9
          try clear q1
          try clear q15
          try clear q150
          try clear q151
          try clear q157
          try clear q160
          try clear q161
          try clear q162
          try clear q9
          obtain ⟨kq, x98_41, rfl, HA, HJ41, HO_7, BK156, HI0, HK, HB⟩ := hcut
          cases kq with
          | zero => exact absurd HA.out (by simp [qd.j4])
          | succ kj41 =>
           have H := HA.out
           clear HA
           simp only [qd.j4] at H
           by_cases c49 : x98_41 = true
           case neg =>
            replace c49 := Bool.eq_false_iff.mpr c49
            subst c49
            have H1 : ((zg.f s0_0 s0_1 s0_2 t159 (rd l1 x10_3)).bind fun bt166 => (if bt166.1 = true then (qd.l0 kj41 l1 a2 x7_3 (wrap64 (x8_1 - 1)) s0_0 s0_1 s0_2 bt166.2) else (qd.l1 kj41 l1 a2 x7_3 x8_1 x9_14 (wrap64 (x10_3 + 1)) s0_0 s0_1 s0_2 bt166.2))) = some (r1, r2) := by rw [if_neg (show ¬ (false = true) by decide)] at H; exact H
            clear H
            have H := H1
            clear H1
            replace H := Option.bind_eq_some_iff.mp H
            obtain ⟨⟨t166, t167⟩, A610, H⟩ := H
            replace H : (if t166 = true then (qd.l0 kj41 l1 a2 x7_3 (wrap64 (x8_1 - 1)) s0_0 s0_1 s0_2 t167) else (qd.l1 kj41 l1 a2 x7_3 x8_1 x9_14 (wrap64 (x10_3 + 1)) s0_0 s0_1 s0_2 t167)) = some (r1, r2) := H
            have A61 := qa.mk A610
            clear A610
            by_cases c62 : t166 = true
            ·subst c62
             have H1 : (qd.l0 kj41 l1 a2 x7_3 (wrap64 (x8_1 - 1)) s0_0 s0_1 s0_2 t167) = some (r1, r2) := by rw [if_pos rfl] at H; exact H
             clear H
             have H := H1
             clear H1
             have H' := qa.mk H
             clear H
             go_wp2_with (first | ((with_reducible refine zl (f := 43) rfl ?_); refine zM (some 107) rfl rfl Try.func43 (by kernel_rfl) rfl #[.pointer (some ⟨g, 0, none⟩), .int .i64 (rd l1 x10_3)] rfl (by (try simp only [List.map_toArray, List.map_cons, List.map_nil]); first | done | rfl | (simp only [List.length_drop, List.length_take]; rfl)) ?_; (with_reducible refine (zg.calls g s0_0 s0_1 s0_2 t159 (rd l1 x10_3) true t167 w0 _ ?side1 ?side2 A61.out).mono ?_); (case side1 => repeat (first | (with_reducible first | exact HI0.out | apply qb.alloc | apply qb.drewN | apply qb.drew | apply qb.qO | refine qb.far ?_ NB0_156.out _) | exact HI0.out)); (case side2 => repeat (first | (with_reducible first | exact HB.out | apply qA | apply qx | apply qC | refine qm ?_ (qb.ge HI0.out) | refine qm ?_ GE156.out) | exact HB.out)); rintro e w63 ⟨rfl, hi, hb, hk⟩; refine ⟨_, rfl, ?_⟩; have n0_ := qa.mk (Kd.zi (Kd.jy (qb.apart (show qb w0 _ g s0_0 s0_1 s0_2 t159 from by repeat (first | (with_reducible first | exact HI0.out | apply qb.alloc | apply qb.drewN | apply qb.drew | apply qb.qO | refine qb.far ?_ NB0_156.out _) | exact HI0.out)) (rq HO_7) (by decide)) hk (fun _ h => h.2)) (fun _ h => h.1)); have n1_ := qa.mk (qh.blk hk (g' := gb156) (o := .cells #[.int .i64 t152, .int .i64 t153] 73 (0, 0)) (kq BK156) NB156_0.out (by simp)); have n2_ := qa.mk (qh.trans (by repeat (first | (with_reducible first | exact HK.out | apply qh.zk | apply qz | apply qB | apply qy | refine zq ?_ GW156.out _) | exact HK.out)) hk (.inl rfl)); have n3_ := qa.mk (hb); have n4_ := qa.mk (hi); clear HO_7; clear BK156; clear HK; clear HB; clear HI0; have HO_7 := n0_; have BK156 := n1_; have HK := n2_; have HB := n3_; have HI0 := n4_; clear n0_ n1_ n2_ n3_ n4_; (try clear hb); (try clear hb2); (try clear hk); (try clear hi)))
             (try simp only [← hl7_1, ← hl7_3])
             go_roundg kj41
             case measure => have := HK1.out; have := HJ14.out; have := HK3.out; have := HJ22.out; have := HJ41.out; omega
             case rel => exact ⟨(x7_3), (wrap64 (x8_1 - 1)), (t167), (by first | rfl | (simp; done) | (simp [*]; done)), H', ⟨by have := HK1.out; have := HJ14.out; have := HK3.out; have := HJ22.out; have := HJ41.out; omega⟩, ⟨by (try simp only [hl7_1]); (try simp only [hl7_3]); exact rq HO_7⟩, ⟨by repeat (first | (with_reducible first | exact HI0.out | apply qb.alloc | apply qb.drewN | apply qb.drew | apply qb.qO | refine qb.far ?_ NB0_156.out _) | exact HI0.out)⟩, ⟨by repeat (first | (with_reducible first | exact HK.out | apply qh.zk | apply qz | apply qB | apply qy | refine zq ?_ GW156.out _) | exact HK.out)⟩, ⟨by repeat (first | (with_reducible first | exact HB.out | apply qA | apply qx | apply qC | refine qm ?_ (qb.ge HI0.out) | refine qm ?_ GE156.out) | exact HB.out)⟩⟩
            replace c62 := Bool.eq_false_iff.mpr c62
            subst c62
            have H1 : (qd.l1 kj41 l1 a2 x7_3 x8_1 x9_14 (wrap64 (x10_3 + 1)) s0_0 s0_1 s0_2 t167) = some (r1, r2) := by rw [if_neg (show ¬ (false = true) by decide)] at H; exact H
            clear H
            have H := H1
            clear H1
            have H' := qa.mk H
            clear H
            go_wp2_with (first | ((with_reducible refine zl (f := 43) rfl ?_); refine zM (some 107) rfl rfl Try.func43 (by kernel_rfl) rfl #[.pointer (some ⟨g, 0, none⟩), .int .i64 (rd l1 x10_3)] rfl (by (try simp only [List.map_toArray, List.map_cons, List.map_nil]); first | done | rfl | (simp only [List.length_drop, List.length_take]; rfl)) ?_; (with_reducible refine (zg.calls g s0_0 s0_1 s0_2 t159 (rd l1 x10_3) false t167 w0 _ ?side1 ?side2 A61.out).mono ?_); (case side1 => repeat (first | (with_reducible first | exact HI0.out | apply qb.alloc | apply qb.drewN | apply qb.drew | apply qb.qO | refine qb.far ?_ NB0_156.out _) | exact HI0.out)); (case side2 => repeat (first | (with_reducible first | exact HB.out | apply qA | apply qx | apply qC | refine qm ?_ (qb.ge HI0.out) | refine qm ?_ GE156.out) | exact HB.out)); rintro e w64 ⟨rfl, hi, hb, hk⟩; refine ⟨_, rfl, ?_⟩; have n0_ := qa.mk (Kd.zi (Kd.jy (qb.apart (show qb w0 _ g s0_0 s0_1 s0_2 t159 from by repeat (first | (with_reducible first | exact HI0.out | apply qb.alloc | apply qb.drewN | apply qb.drew | apply qb.qO | refine qb.far ?_ NB0_156.out _) | exact HI0.out)) (rq HO_7) (by decide)) hk (fun _ h => h.2)) (fun _ h => h.1)); have n1_ := qa.mk (qh.blk hk (g' := gb156) (o := .cells #[.int .i64 t152, .int .i64 t153] 73 (0, 0)) (kq BK156) NB156_0.out (by simp)); have n2_ := qa.mk (qh.trans (by repeat (first | (with_reducible first | exact HK.out | apply qh.zk | apply qz | apply qB | apply qy | refine zq ?_ GW156.out _) | exact HK.out)) hk (.inl rfl)); have n3_ := qa.mk (hb); have n4_ := qa.mk (hi); clear HO_7; clear BK156; clear HK; clear HB; clear HI0; have HO_7 := n0_; have BK156 := n1_; have HK := n2_; have HB := n3_; have HI0 := n4_; clear n0_ n1_ n2_ n3_ n4_; (try clear hb); (try clear hb2); (try clear hk); (try clear hi)))
            (try simp only [← hl7_3])
            go_roundg kj41
            case measure => have := HK1.out; have := HJ14.out; have := HK3.out; have := HJ22.out; have := HJ41.out; omega
            case rel => exact ⟨(x7_3), (wrap64 (x10_3 + 1)), (t167), (by first | rfl | (simp; done) | (simp [*]; done)), H', ⟨by have := HK1.out; have := HJ14.out; have := HK3.out; have := HJ22.out; have := HJ41.out; omega⟩, ⟨by (try simp only [hl7_1]); (try simp only [hl7_3]); exact rq HO_7⟩, ⟨by repeat (first | (with_reducible first | exact HI0.out | apply qb.alloc | apply qb.drewN | apply qb.drew | apply qb.qO | refine qb.far ?_ NB0_156.out _) | exact HI0.out)⟩, ⟨by repeat (first | (with_reducible first | exact HK.out | apply qh.zk | apply qz | apply qB | apply qy | refine zq ?_ GW156.out _) | exact HK.out)⟩, ⟨by repeat (first | (with_reducible first | exact HB.out | apply qA | apply qx | apply qC | refine qm ?_ (qb.ge HI0.out) | refine qm ?_ GE156.out) | exact HB.out)⟩⟩
           subst c49
           have H1 : (if 0 ≤ x8_1 then (if x8_1 < (x7_3.length : Int) then ((some (x7_3.set (x8_1 : Int).toNat (⟨x10_3, (wrap64 (t158 + ((qX x7_3 (ji39)).f1))), true⟩ : S59) : List (S59))).bind fun y163 => ((zg.f s0_0 s0_1 s0_2 t159 (rd l1 x10_3)).bind fun bt164 => (if bt164.1 = true then (qd.l0 kj41 l1 a2 y163 (wrap64 (x8_1 - 1)) s0_0 s0_1 s0_2 bt164.2) else (qd.l1 kj41 l1 a2 y163 x8_1 x9_14 (wrap64 (x10_3 + 1)) s0_0 s0_1 s0_2 bt164.2)))) else (none)) else (none)) = some (r1, r2) := by rw [if_pos rfl] at H; exact H
           clear H
           have H := H1
           clear H1
           by_cases c50 : 0 ≤ x8_1
           case neg =>
            rw [if_neg c50] at H
            exact absurd H (by simp)
           rw [if_pos c50] at H
           have c50b0 : decide (0 ≤ x8_1) = true := decide_eq_true c50
           clear c50
           by_cases c51 : x8_1 < (x7_3.length : Int)
           case neg =>
            rw [if_neg c51] at H
            exact absurd H (by simp)
           rw [if_pos c51] at H
           have c51b0 : decide (x8_1 < (x7_3.length : Int)) = true := decide_eq_true c51
           clear c51
           obtain ⟨y163, hy163⟩ : ∃ y_ : List (S59), y_ = (x7_3.set (x8_1 : Int).toNat (⟨x10_3, (wrap64 (t158 + ((qX x7_3 (ji39)).f1))), true⟩ : S59)) := ⟨_, rfl⟩
           replace H : ((zg.f s0_0 s0_1 s0_2 t159 (rd l1 x10_3)).bind fun bt164 => (if bt164.1 = true then (qd.l0 kj41 l1 a2 y163 (wrap64 (x8_1 - 1)) s0_0 s0_1 s0_2 bt164.2) else (qd.l1 kj41 l1 a2 y163 x8_1 x9_14 (wrap64 (x10_3 + 1)) s0_0 s0_1 s0_2 bt164.2))) = some (r1, r2) := by first | (rw [hy163]; with_reducible exact H) | (have H2_ := (Option.bind_some _ _).symm.trans H; rw [hy163]; with_reducible exact H2_) | (have H2_ := (Option.bind_some _ _).symm.trans H; with_reducible exact H2_) | with_reducible exact H | (rw [hy163]; exact H) | exact H
           have Ny163 := qa.mk hy163
           clear hy163
           replace H := Option.bind_eq_some_iff.mp H
           obtain ⟨⟨t164, t165⟩, A530, H⟩ := H
           replace H : (if t164 = true then (qd.l0 kj41 l1 a2 y163 (wrap64 (x8_1 - 1)) s0_0 s0_1 s0_2 t165) else (qd.l1 kj41 l1 a2 y163 x8_1 x9_14 (wrap64 (x10_3 + 1)) s0_0 s0_1 s0_2 t165)) = some (r1, r2) := H
           have A53 := qa.mk A530
           clear A530
           by_cases c54 : t164 = true
           ·subst c54
            have H1 : (qd.l0 kj41 l1 a2 y163 (wrap64 (x8_1 - 1)) s0_0 s0_1 s0_2 t165) = some (r1, r2) := by rw [if_pos rfl] at H; exact H
            clear H
            have H := H1
            clear H1
            have H' := qa.mk H
            clear H
            have p52 : 0 ≤ (x8_1 : Int) := odt
            have q52 : (x8_1 : Int) < ((x7_3.length : Int) : Int) := odt
            obtain ⟨ce52, hcl52, hM52, hcc52, hfr52⟩ := Kd.Zi HO_7.out z59 (x8_1 : Int) p52 q52
            obtain rfl := QX hM52
            have hx52_0 : wc.cell? ⟨go9, (x8_1 : Int).toNat * 3, none⟩ = some (.int .i64 ((qX x7_3 x8_1).f0)) := hcc52 0 _ rfl
            have hx52_1 : wc.cell? ⟨go9, (x8_1 : Int).toNat * 3 + 1, none⟩ = some (.int .i64 ((qX x7_3 x8_1).f1)) := hcc52 1 _ rfl
            have hx52_2 : wc.cell? ⟨go9, (x8_1 : Int).toNat * 3 + 2, none⟩ = some (.bool ((qX x7_3 x8_1).f2)) := hcc52 2 _ rfl
            have hf52_0 : wc.frozen? ⟨go9, (x8_1 : Int).toNat * 3, none⟩ = false := hfr52 0
            have hf52_1 : wc.frozen? ⟨go9, (x8_1 : Int).toNat * 3 + 1, none⟩ = false := hfr52 1
            have hf52_2 : wc.frozen? ⟨go9, (x8_1 : Int).toNat * 3 + 2, none⟩ = false := hfr52 2
            clear hcl52 hcc52 hfr52 hM52
            replace p52 := eq_true p52
            replace q52 := eq_true q52
            have HX55 := qa.mk (show Kd.R k59 59 wc w.heap.size (fun _ => True) (.slice (some ⟨go9, 0, none⟩) x7_3.length co9) x7_3 from (rq HO_7))
            obtain ⟨ce55, hcl55, hM55, hcc55, hfr55⟩ := Kd.Zi HX55.out z59 (x8_1 : Int) (odt) (by have h_ : (x8_1 : Int) < ((x7_3.length : Int) : Int) := odt; first | exact h_ | (have e_ := (Kd.zm HO_7.out).1; omega) | simpa using h_)
            obtain rfl := QX hM55
            have HP55 := Kd.R_seg HX55.out (x8_1 : Int) (odt) (by have h_ : (x8_1 : Int) < ((x7_3.length : Int) : Int) := odt; first | exact h_ | (have e_ := (Kd.zm HO_7.out).1; omega) | simpa using h_) (seg := [.int .i64 x10_3, .int .i64 (wrap64 (t158 + ((qX x7_3 (ji39)).f1))), .bool true]) (j := 0) hcl55 hcc55 (show 3 ≤ 3 from by decide) (x' := (⟨x10_3, (wrap64 (t158 + ((qX x7_3 (ji39)).f1))), true⟩ : S59)) (Jn _ _ _ (⟨x10_3, (wrap64 (t158 + ((qX x7_3 (ji39)).f1))), true⟩ : S59) ) (fun _ hk => hk)
            have hx55_0 := hcc55 0 _ rfl
            (try simp only [show (k59).sz = 3 from rfl, Nat.mul_one, Nat.add_zero, Int.toNat_natCast] at hx55_0)
            have hf55_0 := hfr55 0
            (try simp only [show (k59).sz = 3 from rfl, Nat.mul_one, Nat.add_zero, Int.toNat_natCast] at hf55_0)
            have hx55_1 := hcc55 1 _ rfl
            (try simp only [show (k59).sz = 3 from rfl, Nat.mul_one, Nat.add_zero, Int.toNat_natCast] at hx55_1)
            have hf55_1 := hfr55 1
            (try simp only [show (k59).sz = 3 from rfl, Nat.mul_one, Nat.add_zero, Int.toNat_natCast] at hf55_1)
            have hx55_2 := hcc55 2 _ rfl
            (try simp only [show (k59).sz = 3 from rfl, Nat.mul_one, Nat.add_zero, Int.toNat_natCast] at hx55_2)
            have hf55_2 := hfr55 2
            (try simp only [show (k59).sz = 3 from rfl, Nat.mul_one, Nat.add_zero, Int.toNat_natCast] at hf55_2)
            clear hcl55 hcc55 hfr55 hM55
            go_wp2_with (first | ((with_reducible refine jY (t := 59) (p := 104) rfl ?_); refine jT (t := 59) (p := 104) (v := ?vo_w56) (w1 := (((wc.setCell ⟨go9, (x8_1 : Int).toNat * 3, none⟩ (.int .i64 x10_3)).setCell ⟨go9, (x8_1 : Int).toNat * 3 + 1, none⟩ (.int .i64 (wrap64 (t158 + ((qX x7_3 (ji39)).f1))))).setCell ⟨go9, (x8_1 : Int).toNat * 3 + 2, none⟩ (.bool true))) ?hg ?ho ?hn ?hr ?_; (case ho => rfl); (case hg => rfl); (case hn => rfl); (case hr => first | (go_simp; done) | (go_simp; rfl)); intro w56 hw; have hg : wc.grownBy w56 (some go9) := (by rw [hw]; exact HP55.2); have hp_ : Kd.R k59 59 w56 w.heap.size (fun _ => True) (.slice (some ⟨go9, 0, none⟩) x7_3.length co9) y163 := (by rw [hw, Ny163.out]; exact HP55.1); clear HP55; have n0_ := qa.mk (hp_); have n1_ := qa.mk (jd (g := gb156) (o := .cells #[.int .i64 t152, .int .i64 t153] 73 (0, 0)) (kq BK156) hg (Kd.jP HO_7.out BK156.out (by decide))); have n2_ := qa.mk (qb.grown (by repeat (first | (with_reducible first | exact HI0.out | apply qb.alloc | apply qb.drewN | apply qb.drew | apply qb.qO | refine qb.far ?_ NB0_156.out _) | exact HI0.out)) hg (qb.own_ne HI0.out HO_7.out (by decide))); have n3_ := qa.mk ((by rw [hw]; exact qm (qm (qm (HB.out) (Nat.le_trans HL.out GB9.out)) (Nat.le_trans HL.out GB9.out)) (Nat.le_trans HL.out GB9.out) : Below w0.heap.size w0 w56)); have n4_ := qa.mk (qh.trans (by repeat (first | (with_reducible first | exact HK.out | apply qh.zk | apply qz | apply qB | apply qy | refine zq ?_ GW156.out _) | exact HK.out)) (qh.Qi hg g) (Kd.Qw HO_7.out)); clear HO_7; clear BK156; clear HI0; clear HB; clear HK; have HO_7 := n0_; have BK156 := n1_; have HI0 := n2_; have HB := n3_; have HK := n4_; clear n0_ n1_ n2_ n3_ n4_; clear hg hw hp_) | ((with_reducible refine zl (f := 43) rfl ?_); refine zM (some 107) rfl rfl Try.func43 (by kernel_rfl) rfl #[.pointer (some ⟨g, 0, none⟩), .int .i64 (rd l1 x10_3)] rfl (by (try simp only [List.map_toArray, List.map_cons, List.map_nil]); first | done | rfl | (simp only [List.length_drop, List.length_take]; rfl)) ?_; (with_reducible refine (zg.calls g s0_0 s0_1 s0_2 t159 (rd l1 x10_3) true t165 w0 _ ?side1 ?side2 A53.out).mono ?_); (case side1 => repeat (first | (with_reducible first | exact HI0.out | apply qb.alloc | apply qb.drewN | apply qb.drew | apply qb.qO | refine qb.far ?_ NB0_156.out _) | exact HI0.out)); (case side2 => repeat (first | (with_reducible first | exact HB.out | apply qA | apply qx | apply qC | refine qm ?_ (qb.ge HI0.out) | refine qm ?_ GE156.out) | exact HB.out)); rintro e w57 ⟨rfl, hi, hb, hk⟩; refine ⟨_, rfl, ?_⟩; have n0_ := qa.mk (Kd.zi (Kd.jy (qb.apart (show qb w0 _ g s0_0 s0_1 s0_2 t159 from by repeat (first | (with_reducible first | exact HI0.out | apply qb.alloc | apply qb.drewN | apply qb.drew | apply qb.qO | refine qb.far ?_ NB0_156.out _) | exact HI0.out)) (rq HO_7) (by decide)) hk (fun _ h => h.2)) (fun _ h => h.1)); have n1_ := qa.mk (qh.blk hk (g' := gb156) (o := .cells #[.int .i64 t152, .int .i64 t153] 73 (0, 0)) (kq BK156) NB156_0.out (by simp)); have n2_ := qa.mk (qh.trans (by repeat (first | (with_reducible first | exact HK.out | apply qh.zk | apply qz | apply qB | apply qy | refine zq ?_ GW156.out _) | exact HK.out)) hk (.inl rfl)); have n3_ := qa.mk (hb); have n4_ := qa.mk (hi); clear HO_7; clear BK156; clear HK; clear HB; clear HI0; have HO_7 := n0_; have BK156 := n1_; have HK := n2_; have HB := n3_; have HI0 := n4_; clear n0_ n1_ n2_ n3_ n4_; (try clear hb); (try clear hb2); (try clear hk); (try clear hi)))
            (try simp only [← hl7_1, ← hl7_3])
            go_roundg kj41
            case measure => have := HK1.out; have := HJ14.out; have := HK3.out; have := HJ22.out; have := HJ41.out; omega
            case rel => exact ⟨(y163), (wrap64 (x8_1 - 1)), (t165), (by first | rfl | (simp; done) | (simp [*]; done)), H', ⟨by have := HK1.out; have := HJ14.out; have := HK3.out; have := HJ22.out; have := HJ41.out; omega⟩, ⟨by (try simp only [hl7_1]); (try simp only [hl7_3]); exact rq HO_7⟩, ⟨by repeat (first | (with_reducible first | exact HI0.out | apply qb.alloc | apply qb.drewN | apply qb.drew | apply qb.qO | refine qb.far ?_ NB0_156.out _) | exact HI0.out)⟩, ⟨by repeat (first | (with_reducible first | exact HK.out | apply qh.zk | apply qz | apply qB | apply qy | refine zq ?_ GW156.out _) | exact HK.out)⟩, ⟨by repeat (first | (with_reducible first | exact HB.out | apply qA | apply qx | apply qC | refine qm ?_ (qb.ge HI0.out) | refine qm ?_ GE156.out) | exact HB.out)⟩⟩
           replace c54 := Bool.eq_false_iff.mpr c54
           subst c54
           have H1 : (qd.l1 kj41 l1 a2 y163 x8_1 x9_14 (wrap64 (x10_3 + 1)) s0_0 s0_1 s0_2 t165) = some (r1, r2) := by rw [if_neg (show ¬ (false = true) by decide)] at H; exact H
           clear H
           have H := H1
           clear H1
           have H' := qa.mk H
           clear H
           have p52 : 0 ≤ (x8_1 : Int) := odt
           have q52 : (x8_1 : Int) < ((x7_3.length : Int) : Int) := odt
           obtain ⟨ce52, hcl52, hM52, hcc52, hfr52⟩ := Kd.Zi HO_7.out z59 (x8_1 : Int) p52 q52
           obtain rfl := QX hM52
           have hx52_0 : wc.cell? ⟨go9, (x8_1 : Int).toNat * 3, none⟩ = some (.int .i64 ((qX x7_3 x8_1).f0)) := hcc52 0 _ rfl
           have hx52_1 : wc.cell? ⟨go9, (x8_1 : Int).toNat * 3 + 1, none⟩ = some (.int .i64 ((qX x7_3 x8_1).f1)) := hcc52 1 _ rfl
           have hx52_2 : wc.cell? ⟨go9, (x8_1 : Int).toNat * 3 + 2, none⟩ = some (.bool ((qX x7_3 x8_1).f2)) := hcc52 2 _ rfl
           have hf52_0 : wc.frozen? ⟨go9, (x8_1 : Int).toNat * 3, none⟩ = false := hfr52 0
           have hf52_1 : wc.frozen? ⟨go9, (x8_1 : Int).toNat * 3 + 1, none⟩ = false := hfr52 1
           have hf52_2 : wc.frozen? ⟨go9, (x8_1 : Int).toNat * 3 + 2, none⟩ = false := hfr52 2
           clear hcl52 hcc52 hfr52 hM52
           replace p52 := eq_true p52
           replace q52 := eq_true q52
           have HX58 := qa.mk (show Kd.R k59 59 wc w.heap.size (fun _ => True) (.slice (some ⟨go9, 0, none⟩) x7_3.length co9) x7_3 from (rq HO_7))
           obtain ⟨ce58, hcl58, hM58, hcc58, hfr58⟩ := Kd.Zi HX58.out z59 (x8_1 : Int) (odt) (by have h_ : (x8_1 : Int) < ((x7_3.length : Int) : Int) := odt; first | exact h_ | (have e_ := (Kd.zm HO_7.out).1; omega) | simpa using h_)
           obtain rfl := QX hM58
           have HP58 := Kd.R_seg HX58.out (x8_1 : Int) (odt) (by have h_ : (x8_1 : Int) < ((x7_3.length : Int) : Int) := odt; first | exact h_ | (have e_ := (Kd.zm HO_7.out).1; omega) | simpa using h_) (seg := [.int .i64 x10_3, .int .i64 (wrap64 (t158 + ((qX x7_3 (ji39)).f1))), .bool true]) (j := 0) hcl58 hcc58 (show 3 ≤ 3 from by decide) (x' := (⟨x10_3, (wrap64 (t158 + ((qX x7_3 (ji39)).f1))), true⟩ : S59)) (Jn _ _ _ (⟨x10_3, (wrap64 (t158 + ((qX x7_3 (ji39)).f1))), true⟩ : S59) ) (fun _ hk => hk)
           have hx58_0 := hcc58 0 _ rfl
           (try simp only [show (k59).sz = 3 from rfl, Nat.mul_one, Nat.add_zero, Int.toNat_natCast] at hx58_0)
           have hf58_0 := hfr58 0
           (try simp only [show (k59).sz = 3 from rfl, Nat.mul_one, Nat.add_zero, Int.toNat_natCast] at hf58_0)
           have hx58_1 := hcc58 1 _ rfl
           (try simp only [show (k59).sz = 3 from rfl, Nat.mul_one, Nat.add_zero, Int.toNat_natCast] at hx58_1)
           have hf58_1 := hfr58 1
           (try simp only [show (k59).sz = 3 from rfl, Nat.mul_one, Nat.add_zero, Int.toNat_natCast] at hf58_1)
           have hx58_2 := hcc58 2 _ rfl
           (try simp only [show (k59).sz = 3 from rfl, Nat.mul_one, Nat.add_zero, Int.toNat_natCast] at hx58_2)
           have hf58_2 := hfr58 2
           (try simp only [show (k59).sz = 3 from rfl, Nat.mul_one, Nat.add_zero, Int.toNat_natCast] at hf58_2)
           clear hcl58 hcc58 hfr58 hM58
           go_wp2_with (first | ((with_reducible refine jY (t := 59) (p := 104) rfl ?_); refine jT (t := 59) (p := 104) (v := ?vo_w59) (w1 := (((wc.setCell ⟨go9, (x8_1 : Int).toNat * 3, none⟩ (.int .i64 x10_3)).setCell ⟨go9, (x8_1 : Int).toNat * 3 + 1, none⟩ (.int .i64 (wrap64 (t158 + ((qX x7_3 (ji39)).f1))))).setCell ⟨go9, (x8_1 : Int).toNat * 3 + 2, none⟩ (.bool true))) ?hg ?ho ?hn ?hr ?_; (case ho => rfl); (case hg => rfl); (case hn => rfl); (case hr => first | (go_simp; done) | (go_simp; rfl)); intro w59 hw; have hg : wc.grownBy w59 (some go9) := (by rw [hw]; exact HP58.2); have hp_ : Kd.R k59 59 w59 w.heap.size (fun _ => True) (.slice (some ⟨go9, 0, none⟩) x7_3.length co9) y163 := (by rw [hw, Ny163.out]; exact HP58.1); clear HP58; have n0_ := qa.mk (hp_); have n1_ := qa.mk (jd (g := gb156) (o := .cells #[.int .i64 t152, .int .i64 t153] 73 (0, 0)) (kq BK156) hg (Kd.jP HO_7.out BK156.out (by decide))); have n2_ := qa.mk (qb.grown (by repeat (first | (with_reducible first | exact HI0.out | apply qb.alloc | apply qb.drewN | apply qb.drew | apply qb.qO | refine qb.far ?_ NB0_156.out _) | exact HI0.out)) hg (qb.own_ne HI0.out HO_7.out (by decide))); have n3_ := qa.mk ((by rw [hw]; exact qm (qm (qm (HB.out) (Nat.le_trans HL.out GB9.out)) (Nat.le_trans HL.out GB9.out)) (Nat.le_trans HL.out GB9.out) : Below w0.heap.size w0 w59)); have n4_ := qa.mk (qh.trans (by repeat (first | (with_reducible first | exact HK.out | apply qh.zk | apply qz | apply qB | apply qy | refine zq ?_ GW156.out _) | exact HK.out)) (qh.Qi hg g) (Kd.Qw HO_7.out)); clear HO_7; clear BK156; clear HI0; clear HB; clear HK; have HO_7 := n0_; have BK156 := n1_; have HI0 := n2_; have HB := n3_; have HK := n4_; clear n0_ n1_ n2_ n3_ n4_; clear hg hw hp_) | ((with_reducible refine zl (f := 43) rfl ?_); refine zM (some 107) rfl rfl Try.func43 (by kernel_rfl) rfl #[.pointer (some ⟨g, 0, none⟩), .int .i64 (rd l1 x10_3)] rfl (by (try simp only [List.map_toArray, List.map_cons, List.map_nil]); first | done | rfl | (simp only [List.length_drop, List.length_take]; rfl)) ?_; (with_reducible refine (zg.calls g s0_0 s0_1 s0_2 t159 (rd l1 x10_3) false t165 w0 _ ?side1 ?side2 A53.out).mono ?_); (case side1 => repeat (first | (with_reducible first | exact HI0.out | apply qb.alloc | apply qb.drewN | apply qb.drew | apply qb.qO | refine qb.far ?_ NB0_156.out _) | exact HI0.out)); (case side2 => repeat (first | (with_reducible first | exact HB.out | apply qA | apply qx | apply qC | refine qm ?_ (qb.ge HI0.out) | refine qm ?_ GE156.out) | exact HB.out)); rintro e w60 ⟨rfl, hi, hb, hk⟩; refine ⟨_, rfl, ?_⟩; have n0_ := qa.mk (Kd.zi (Kd.jy (qb.apart (show qb w0 _ g s0_0 s0_1 s0_2 t159 from by repeat (first | (with_reducible first | exact HI0.out | apply qb.alloc | apply qb.drewN | apply qb.drew | apply qb.qO | refine qb.far ?_ NB0_156.out _) | exact HI0.out)) (rq HO_7) (by decide)) hk (fun _ h => h.2)) (fun _ h => h.1)); have n1_ := qa.mk (qh.blk hk (g' := gb156) (o := .cells #[.int .i64 t152, .int .i64 t153] 73 (0, 0)) (kq BK156) NB156_0.out (by simp)); have n2_ := qa.mk (qh.trans (by repeat (first | (with_reducible first | exact HK.out | apply qh.zk | apply qz | apply qB | apply qy | refine zq ?_ GW156.out _) | exact HK.out)) hk (.inl rfl)); have n3_ := qa.mk (hb); have n4_ := qa.mk (hi); clear HO_7; clear BK156; clear HK; clear HB; clear HI0; have HO_7 := n0_; have BK156 := n1_; have HK := n2_; have HB := n3_; have HI0 := n4_; clear n0_ n1_ n2_ n3_ n4_; (try clear hb); (try clear hb2); (try clear hk); (try clear hi)))
           (try simp only [← hl7_3])
           go_roundg kj41
           case measure => have := HK1.out; have := HJ14.out; have := HK3.out; have := HJ22.out; have := HJ41.out; omega
           case rel => exact ⟨(y163), (wrap64 (x10_3 + 1)), (t165), (by first | rfl | (simp; done) | (simp [*]; done)), H', ⟨by have := HK1.out; have := HJ14.out; have := HK3.out; have := HJ22.out; have := HJ41.out; omega⟩, ⟨by (try simp only [hl7_1]); (try simp only [hl7_3]); exact rq HO_7⟩, ⟨by repeat (first | (with_reducible first | exact HI0.out | apply qb.alloc | apply qb.drewN | apply qb.drew | apply qb.qO | refine qb.far ?_ NB0_156.out _) | exact HI0.out)⟩, ⟨by repeat (first | (with_reducible first | exact HK.out | apply qh.zk | apply qz | apply qB | apply qy | refine zq ?_ GW156.out _) | exact HK.out)⟩, ⟨by repeat (first | (with_reducible first | exact HB.out | apply qA | apply qx | apply qC | refine qm ?_ (qb.ge HI0.out) | refine qm ?_ GE156.out) | exact HB.out)⟩⟩
end Go.Proofs.Ytfbanppdiglciaa.X
