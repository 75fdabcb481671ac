-- written by a program of this session (wip/xprint.py) over the kit's print
import Derived.Test.YtfbanppdiglciaaYx0
import Derived.Test.YtfbanppdiglciaaYx5
import Derived.Test.YtfbanppdiglciaaYx30
import Derived.Test.YtfbanppdiglciaaYx39
namespace Go.Proofs.Ytfbanppdiglciaa.Y
open Go.RowKit Go.Proofs.YtfbanppdiglciaaW.PrintWords Go.Proofs.YtfbanppdiglciaaW.PrintLast Go.Proofs.YtfbanppdiglciaaW.PrintMore
attribute [local go_sem] max2_int min2_int max_two min_two max_three min_three max_four min_four   -- for this text's walks alone
set_option linter.unusedVariables false
set_option linter.unusedSimpArgs false

/-! ### optimal_Measure: function 26 -/
def optimal_Measure.j0 : Nat → List (S31) → Int → Int → Int → Bool → Option (Int × Int × Bool)
 | 0, _, _, _, _, _ => none
 | k + 1, x0, x1, x2, x3, x31 => if x31 = true then (some (0, 0, false)) else ((optimal_reckoned.f x0 x3).bind fun bt358 => ((optimal_paragraph_fit.f k bt358.1 bt358.2.1 bt358.2.2.1 bt358.2.2.2 x1 x2).bind fun bt363 => (some (bt363.1, bt363.2.1, bt363.2.2.1))))
def optimal_Measure.f (k : Nat) (l0 : List (S31)) (a1 : Int) (a2 : Int) (a3 : Int) : Option (Int × Int × Bool) := (optimal_Check.f k l0 a3 0).bind fun t357 => (if t357 = 0 then (if a1 < (-1) then (optimal_Measure.j0 k l0 a1 a2 a3 true) else (if a2 ≤ a1 then (optimal_Measure.j0 k l0 a1 a2 a3 true) else (optimal_Measure.j0 k l0 a1 a2 a3 (decide (a2 > (l0.length : Int)))))) else (optimal_Measure.j0 k l0 a1 a2 a3 true))
theorem optimal_Measure.mono_l : ∀ k, (∀ y0 y1 y2 y3 y4, LeO (optimal_Measure.j0 k y0 y1 y2 y3 y4) (optimal_Measure.j0 (k + 1) y0 y1 y2 y3 y4))
 | 0 => fun _ _ _ _ _ r h => by simp [optimal_Measure.j0] at h
 | k + 1 => by
  have ih0 := optimal_Measure.mono_l k
  ·intro y0 y1 y2 y3 y4
   unfold optimal_Measure.j0
   repeat' first
   | (with_reducible exact ih0 _ _ _ _ _)
   | (with_reducible exact optimal_Check.mono _ _ _ _)
   | (with_reducible exact optimal_paragraph_fit.mono _ _ _ _ _ _ _)
   | (with_reducible exact LeO.refl _)
   | (with_reducible exact LeO.none _)
   | (with_reducible refine LeO.ite ?_ ?_)
   | (with_reducible refine LeO.bind ?_ (fun _ => ?_))
   | exact ih0 _ _ _ _ _
   | exact optimal_Check.mono _ _ _ _
   | exact optimal_paragraph_fit.mono _ _ _ _ _ _ _
   | exact LeO.none _
   | refine LeO.ite ?_ ?_
   | refine LeO.bind ?_ (fun _ => ?_)
theorem optimal_Measure.mono : ∀ a0 a1 a2 a3 k, LeO (optimal_Measure.f k a0 a1 a2 a3) (optimal_Measure.f (k + 1) a0 a1 a2 a3) := by
 intro a0 a1 a2 a3 k
 have ih0 := optimal_Measure.mono_l k
 unfold optimal_Measure.f
 repeat' first
   | (with_reducible exact ih0 _ _ _ _ _)
   | (with_reducible exact optimal_Check.mono _ _ _ _)
   | (with_reducible exact optimal_paragraph_fit.mono _ _ _ _ _ _ _)
   | (with_reducible exact LeO.refl _)
   | (with_reducible exact LeO.none _)
   | (with_reducible refine LeO.ite ?_ ?_)
   | (with_reducible refine LeO.bind ?_ (fun _ => ?_))
   | exact ih0 _ _ _ _ _
   | exact optimal_Check.mono _ _ _ _
   | exact optimal_paragraph_fit.mono _ _ _ _ _ _ _
   | exact LeO.none _
   | refine LeO.ite ?_ ?_
   | refine LeO.bind ?_ (fun _ => ?_)
set_option maxHeartbeats 8000000 in
set_option maxRecDepth 100000 in
theorem optimal_Measure.calls (k : Nat) (A0 : Option Addr) (c0 : Nat) (l0 : List (S31)) (a1 : Int) (a2 : Int) (a3 : Int) (r1 : Int) (r2 : Int) (r3 : Bool) (w : World) (hr0 : Kd.C k31 w A0 l0.length l0) (hc0 : l0.length ≤ c0) (h : optimal_Measure.f k l0 a1 a2 a3 = some (r1, r2, r3)) :
  Calls Try.prog 26 #[.slice A0 l0.length c0, .int .i64 a1, .int .i64 a2, .int .i64 a3] w fun e w' => e = .returned (.tuple #[.int .i64 r1, .int .i64 r2, .bool r3]) ∧ Below w.heap.size w w' := by
 have hu73 := Try.underlying73
 have HR0 := Aside0.mk hr0
 have HC0 := Aside0.mk hc0
 clear hr0 hc0
 have HB := Aside0.mk (Below.refl w.heap.size w)
 have H : ((optimal_Check.f k l0 a3 0).bind fun t357 => (if t357 = 0 then (if a1 < (-1) then (optimal_Measure.j0 k l0 a1 a2 a3 true) else (if a2 ≤ a1 then (optimal_Measure.j0 k l0 a1 a2 a3 true) else (optimal_Measure.j0 k l0 a1 a2 a3 (decide (a2 > (l0.length : Int)))))) else (optimal_Measure.j0 k l0 a1 a2 a3 true))) = some (r1, r2, r3) := h
 clear h
 have HC5 := Aside0.mk H
 clear H
 go_enter Try.func26, Try.ntmps26
 go_upto_region 1 with (fail)
 repeat (go_quiet (fail); go_upto_region 1 with (fail))
 go_cut [31] (fun v31 wc => ∃ (kq : Nat) (x31_4 : Bool), v31 = .bool x31_4 ∧ Aside0 (optimal_Measure.j0 kq l0 a1 a2 a3 x31_4 = some (r1, r2, r3)) ∧ Aside0 (kq ≤ k) ∧ Aside0 (Below w.heap.size w wc))
 case first =>
  have H := HC5.out
  clear HC5
  replace H := Option.bind_eq_some_iff.mp H
  obtain ⟨t357, A60, H⟩ := H
  replace H : (if t357 = 0 then (if a1 < (-1) then (optimal_Measure.j0 k l0 a1 a2 a3 true) else (if a2 ≤ a1 then (optimal_Measure.j0 k l0 a1 a2 a3 true) else (optimal_Measure.j0 k l0 a1 a2 a3 (decide (a2 > (l0.length : Int)))))) else (optimal_Measure.j0 k l0 a1 a2 a3 true)) = some (r1, r2, r3) := H
  have A6 := Aside0.mk A60
  clear A60
  by_cases c7 : t357 = 0
  ·rw [if_pos c7] at H
   have c7b0 : (t357 == 0) = true := beq_iff_eq.mpr c7
   have c7b1 : (t357 != 0) = false := bne_eq_false_iff_eq.mpr c7
   clear c7
   (first | rw [c7b0] | (simp only [i64_w, i32_w]; rw [c7b0]) | skip)
   by_cases c8 : a1 < (-1)
   ·rw [if_pos c8] at H
    have c8b0 : decide (a1 < (-1)) = true := decide_eq_true c8
    clear c8
    have H' := Aside0.mk H
    clear H
    go_wp2_with (first | (go_at_call 27; (with_reducible refine (optimal_Check.calls k _ _ l0 a3 0 t357 _ ?side1 ?side2 A6.out).mono ?_); (case side1 => repeat (first | exact (Kd.C_below HR0.out HB.out) | (with_reducible refine Kd.C_alloc ?_ _) | (with_reducible refine Kd.C_drewN ?_ _) | (with_reducible refine Kd.C_drew ?_))); (case side2 => exact HC0.out); rintro e w9 ⟨rfl, hb⟩; have n0_ := Aside0.mk (below_step (bq HB) hb); clear HB; have HB := n0_; clear n0_; (try clear hb); (try clear hb2); (try clear hk); (try clear hi)))
    repeat (go_quiet (first | (go_at_call 27; (with_reducible refine (optimal_Check.calls k _ _ l0 a3 0 t357 _ ?side1 ?side2 A6.out).mono ?_); (case side1 => repeat (first | exact (Kd.C_below HR0.out HB.out) | (with_reducible refine Kd.C_alloc ?_ _) | (with_reducible refine Kd.C_drewN ?_ _) | (with_reducible refine Kd.C_drew ?_))); (case side2 => exact HC0.out); rintro e w9 ⟨rfl, hb⟩; have n0_ := Aside0.mk (below_step (bq HB) hb); clear HB; have HB := n0_; clear n0_; (try clear hb); (try clear hb2); (try clear hk); (try clear hi))); try go_wp2_with (first | (go_at_call 27; (with_reducible refine (optimal_Check.calls k _ _ l0 a3 0 t357 _ ?side1 ?side2 A6.out).mono ?_); (case side1 => repeat (first | exact (Kd.C_below HR0.out HB.out) | (with_reducible refine Kd.C_alloc ?_ _) | (with_reducible refine Kd.C_drewN ?_ _) | (with_reducible refine Kd.C_drew ?_))); (case side2 => exact HC0.out); rintro e w9 ⟨rfl, hb⟩; have n0_ := Aside0.mk (below_step (bq HB) hb); clear HB; have HB := n0_; clear n0_; (try clear hb); (try clear hb2); (try clear hk); (try clear hi))))
    go_meet
    case rel => exact ⟨_, (true), (by first | rfl | (simp; done) | (simp [*]; done)), H', ⟨by first | omega | exact Nat.le_refl _⟩, ⟨bq HB⟩⟩
   ·rw [if_neg c8] at H
    have c8b0 : decide (a1 < (-1)) = false := decide_eq_false c8
    clear c8
    by_cases c10 : a2 ≤ a1
    ·rw [if_pos c10] at H
     have c10b0 : decide (a2 ≤ a1) = true := decide_eq_true c10
     clear c10
     have H' := Aside0.mk H
     clear H
     go_wp2_with (first | (go_at_call 27; (with_reducible refine (optimal_Check.calls k _ _ l0 a3 0 t357 _ ?side1 ?side2 A6.out).mono ?_); (case side1 => repeat (first | exact (Kd.C_below HR0.out HB.out) | (with_reducible refine Kd.C_alloc ?_ _) | (with_reducible refine Kd.C_drewN ?_ _) | (with_reducible refine Kd.C_drew ?_))); (case side2 => exact HC0.out); rintro e w11 ⟨rfl, hb⟩; have n0_ := Aside0.mk (below_step (bq HB) hb); clear HB; have HB := n0_; clear n0_; (try clear hb); (try clear hb2); (try clear hk); (try clear hi)))
     repeat (go_quiet (first | (go_at_call 27; (with_reducible refine (optimal_Check.calls k _ _ l0 a3 0 t357 _ ?side1 ?side2 A6.out).mono ?_); (case side1 => repeat (first | exact (Kd.C_below HR0.out HB.out) | (with_reducible refine Kd.C_alloc ?_ _) | (with_reducible refine Kd.C_drewN ?_ _) | (with_reducible refine Kd.C_drew ?_))); (case side2 => exact HC0.out); rintro e w11 ⟨rfl, hb⟩; have n0_ := Aside0.mk (below_step (bq HB) hb); clear HB; have HB := n0_; clear n0_; (try clear hb); (try clear hb2); (try clear hk); (try clear hi))); try go_wp2_with (first | (go_at_call 27; (with_reducible refine (optimal_Check.calls k _ _ l0 a3 0 t357 _ ?side1 ?side2 A6.out).mono ?_); (case side1 => repeat (first | exact (Kd.C_below HR0.out HB.out) | (with_reducible refine Kd.C_alloc ?_ _) | (with_reducible refine Kd.C_drewN ?_ _) | (with_reducible refine Kd.C_drew ?_))); (case side2 => exact HC0.out); rintro e w11 ⟨rfl, hb⟩; have n0_ := Aside0.mk (below_step (bq HB) hb); clear HB; have HB := n0_; clear n0_; (try clear hb); (try clear hb2); (try clear hk); (try clear hi))))
     go_meet
     case rel => exact ⟨_, (true), (by first | rfl | (simp; done) | (simp [*]; done)), H', ⟨by first | omega | exact Nat.le_refl _⟩, ⟨bq HB⟩⟩
    ·rw [if_neg c10] at H
     have c10b0 : decide (a2 ≤ a1) = false := decide_eq_false c10
     clear c10
     have H' := Aside0.mk H
     clear H
     go_wp2_with (first | (go_at_call 27; (with_reducible refine (optimal_Check.calls k _ _ l0 a3 0 t357 _ ?side1 ?side2 A6.out).mono ?_); (case side1 => repeat (first | exact (Kd.C_below HR0.out HB.out) | (with_reducible refine Kd.C_alloc ?_ _) | (with_reducible refine Kd.C_drewN ?_ _) | (with_reducible refine Kd.C_drew ?_))); (case side2 => exact HC0.out); rintro e w12 ⟨rfl, hb⟩; have n0_ := Aside0.mk (below_step (bq HB) hb); clear HB; have HB := n0_; clear n0_; (try clear hb); (try clear hb2); (try clear hk); (try clear hi)))
     repeat (go_quiet (first | (go_at_call 27; (with_reducible refine (optimal_Check.calls k _ _ l0 a3 0 t357 _ ?side1 ?side2 A6.out).mono ?_); (case side1 => repeat (first | exact (Kd.C_below HR0.out HB.out) | (with_reducible refine Kd.C_alloc ?_ _) | (with_reducible refine Kd.C_drewN ?_ _) | (with_reducible refine Kd.C_drew ?_))); (case side2 => exact HC0.out); rintro e w12 ⟨rfl, hb⟩; have n0_ := Aside0.mk (below_step (bq HB) hb); clear HB; have HB := n0_; clear n0_; (try clear hb); (try clear hb2); (try clear hk); (try clear hi))); try go_wp2_with (first | (go_at_call 27; (with_reducible refine (optimal_Check.calls k _ _ l0 a3 0 t357 _ ?side1 ?side2 A6.out).mono ?_); (case side1 => repeat (first | exact (Kd.C_below HR0.out HB.out) | (with_reducible refine Kd.C_alloc ?_ _) | (with_reducible refine Kd.C_drewN ?_ _) | (with_reducible refine Kd.C_drew ?_))); (case side2 => exact HC0.out); rintro e w12 ⟨rfl, hb⟩; have n0_ := Aside0.mk (below_step (bq HB) hb); clear HB; have HB := n0_; clear n0_; (try clear hb); (try clear hb2); (try clear hk); (try clear hi))))
     go_meet
     case rel => exact ⟨_, (decide (a2 > (l0.length : Int))), (by first | rfl | (simp; done) | (simp [*]; done)), H', ⟨by first | omega | exact Nat.le_refl _⟩, ⟨bq HB⟩⟩
  ·rw [if_neg c7] at H
   have c7b0 : (t357 == 0) = false := beq_eq_false_iff_ne.mpr c7
   have c7b1 : (t357 != 0) = true := bne_iff_ne.mpr c7
   (first | rw [c7b0] | (simp only [i64_w, i32_w]; rw [c7b0]) | skip)
   have H' := Aside0.mk H
   clear H
   go_wp2_with (first | (go_at_call 27; (with_reducible refine (optimal_Check.calls k _ _ l0 a3 0 t357 _ ?side1 ?side2 A6.out).mono ?_); (case side1 => repeat (first | exact (Kd.C_below HR0.out HB.out) | (with_reducible refine Kd.C_alloc ?_ _) | (with_reducible refine Kd.C_drewN ?_ _) | (with_reducible refine Kd.C_drew ?_))); (case side2 => exact HC0.out); rintro e w13 ⟨rfl, hb⟩; have n0_ := Aside0.mk (below_step (bq HB) hb); clear HB; have HB := n0_; clear n0_; (try clear hb); (try clear hb2); (try clear hk); (try clear hi)))
   repeat (go_quiet (first | (go_at_call 27; (with_reducible refine (optimal_Check.calls k _ _ l0 a3 0 t357 _ ?side1 ?side2 A6.out).mono ?_); (case side1 => repeat (first | exact (Kd.C_below HR0.out HB.out) | (with_reducible refine Kd.C_alloc ?_ _) | (with_reducible refine Kd.C_drewN ?_ _) | (with_reducible refine Kd.C_drew ?_))); (case side2 => exact HC0.out); rintro e w13 ⟨rfl, hb⟩; have n0_ := Aside0.mk (below_step (bq HB) hb); clear HB; have HB := n0_; clear n0_; (try clear hb); (try clear hb2); (try clear hk); (try clear hi))); try go_wp2_with (first | (go_at_call 27; (with_reducible refine (optimal_Check.calls k _ _ l0 a3 0 t357 _ ?side1 ?side2 A6.out).mono ?_); (case side1 => repeat (first | exact (Kd.C_below HR0.out HB.out) | (with_reducible refine Kd.C_alloc ?_ _) | (with_reducible refine Kd.C_drewN ?_ _) | (with_reducible refine Kd.C_drew ?_))); (case side2 => exact HC0.out); rintro e w13 ⟨rfl, hb⟩; have n0_ := Aside0.mk (below_step (bq HB) hb); clear HB; have HB := n0_; clear n0_; (try clear hb); (try clear hb2); (try clear hk); (try clear hi))))
   go_meet
   case rel => exact ⟨_, (true), (by first | rfl | (simp; done) | (simp [*]; done)), H', ⟨by first | omega | exact Nat.le_refl _⟩, ⟨bq HB⟩⟩
 case rest =>
  clear HC5
  try clear c1
  try clear c2
  try clear p2
  try clear c7
  try clear c7b0
  try clear c7b1
  try clear c8
  try clear c8b0
  try clear c10
  try clear c10b0
  obtain ⟨kq, x31_4, rfl, HA, HJ4, HB⟩ := hcut
  cases kq with
  | zero => exact absurd HA.out (by simp [optimal_Measure.j0])
  | succ kj4 =>
   have H := HA.out
   clear HA
   simp only [optimal_Measure.j0] at H
   by_cases c14 : x31_4 = true
   ·subst c14
    have H1 : (some (0, 0, false)) = some (r1, r2, r3) := by rw [if_pos rfl] at H; exact H
    clear H
    have H := H1
    clear H1
    simp only [Option.some.injEq, Prod.mk.injEq] at H
    obtain ⟨rfl, rfl, rfl⟩ := H
    go_wp2
    repeat (go_quiet (fail); try go_wp2)
    go_ret3
    exact ⟨by first | rfl | (simp [errW_none, errW_some] <;> rfl) | (simp [*, errW_none, errW_some] <;> rfl), bq HB⟩
   ·replace c14 := Bool.eq_false_iff.mpr c14
    subst c14
    have H1 : ((optimal_reckoned.f l0 a3).bind fun bt358 => ((optimal_paragraph_fit.f kj4 bt358.1 bt358.2.1 bt358.2.2.1 bt358.2.2.2 a1 a2).bind fun bt363 => (some (bt363.1, bt363.2.1, bt363.2.2.1)))) = some (r1, r2, r3) := by rw [if_neg (show ¬ (false = true) by decide)] at H; exact H
    clear H
    have H := H1
    clear H1
    replace H := Option.bind_eq_some_iff.mp H
    obtain ⟨⟨t358, t359, t360, t361⟩, A150, H⟩ := H
    replace H : ((optimal_paragraph_fit.f kj4 t358 t359 t360 t361 a1 a2).bind fun bt363 => (some (bt363.1, bt363.2.1, bt363.2.2.1))) = some (r1, r2, r3) := H
    have A15 := Aside0.mk A150
    clear A150
    replace H := Option.bind_eq_some_iff.mp H
    obtain ⟨⟨t363, t364, t365, t366⟩, A160, H⟩ := H
    replace H : (some (t363, t364, t365)) = some (r1, r2, r3) := H
    have A16 := Aside0.mk A160
    clear A160
    simp only [Option.some.injEq, Prod.mk.injEq] at H
    obtain ⟨rfl, rfl, rfl⟩ := H
    go_wp2_with (first | (go_at_call 28; (with_reducible refine (optimal_reckoned.calls _ _ l0 a3 t358 t359 t360 t361 w _ ?side1 ?side2 ?side3 A15.out).mono ?_); (case side1 => repeat (first | (with_reducible first | exact HB.out | apply below_alloc | apply pw_below_drewN | apply below_drew1) | exact HB.out)); (case side2 => exact HR0.out); (case side3 => exact HC0.out); rintro e w17 ⟨g362, rfl, hi, hb, hb2⟩; have n0_ := Aside0.mk (hb); have n1_ := Aside0.mk (hi); clear HB; have HB := n0_; have HI362 := n1_; clear n0_ n1_; (try clear hb); (try clear hb2); (try clear hk); (try clear hi)) | (go_at_call 40; (with_reducible refine (optimal_paragraph_fit.callsT kj4 g362 t358 t359 t360 t361 a1 a2 t363 t364 t365 t366 w _ ?side1 ?side2 A16.out).mono ?_); (case side1 => repeat (first | (with_reducible first | exact HI362.out | apply IsT79.alloc | apply IsT79.drewN | apply IsT79.drew | apply IsT79.set_3) | exact HI362.out)); (case side2 => repeat (first | (with_reducible first | exact HB.out | apply below_alloc | apply pw_below_drewN | apply below_drew1 | refine below_set ?_ (IsT79.ge HI362.out)) | exact HB.out)); rintro e w18 ⟨rfl, hi, hb, hk⟩; have n0_ := Aside0.mk (hb); have n1_ := Aside0.mk (hi); clear HB; clear HI362; have HB := n0_; have HI362 := n1_; clear n0_ n1_; (try clear hb); (try clear hb2); (try clear hk); (try clear hi)) | ((with_reducible refine gate_dst (N := 11) rfl ?_); (try (refine gate_guard (by rfl) ?_; dsimp only)); refine box_event ?hg (N := 11) ?hd (cs := #[.int .i64 0, .int .i64 0]) (t := 73) ?hr ?_; (case hd => rfl); (case hg => rfl); (case hr => first | (go_simp; done) | (go_simp; rfl)); intro gb367 hg w19 hbox hb; have n0_ := Aside0.mk (IsT79.below (by repeat (first | (with_reducible first | exact HI362.out | apply IsT79.alloc | apply IsT79.drewN | apply IsT79.drew | apply IsT79.set_3) | exact HI362.out)) hb); have n1_ := Aside0.mk (below_step (bs HB ⟨IsT79.ge HI362.out⟩) hb); have n2_ := Aside0.mk (hbox); have n3_ := Aside0.mk ((by rw [hg]; exact (below_size (bs HB ⟨IsT79.ge HI362.out⟩)) : w.heap.size ≤ gb367)); have n4_ := Aside0.mk ((by rw [hg]; exact (below_size (bs HB ⟨IsT79.ge HI362.out⟩)) : w.heap.size ≤ gb367)); have n5_ := Aside0.mk ((by rw [hg]; exact Nat.ne_of_lt (IsT79.lt (show IsT79 w _ g362 t358 t359 t360 t366 from by repeat (first | (with_reducible first | exact HI362.out | apply IsT79.alloc | apply IsT79.drewN | apply IsT79.drew | apply IsT79.set_3) | exact HI362.out))) : g362 ≠ gb367)); have n6_ := Aside0.mk ((by rw [hg]; exact Nat.ne_of_gt (IsT79.lt (show IsT79 w _ g362 t358 t359 t360 t366 from by repeat (first | (with_reducible first | exact HI362.out | apply IsT79.alloc | apply IsT79.drewN | apply IsT79.drew | apply IsT79.set_3) | exact HI362.out))) : gb367 ≠ g362)); clear HI362; clear HB; have HI362 := n0_; have HB := n1_; have BK367 := n2_; have GW367 := n3_; have GE367 := n4_; have NB362_367 := n5_; have NB367_362 := n6_; clear n0_ n1_ n2_ n3_ n4_ n5_ n6_; clear hb hbox hg; have hnb20 := NB367_362.out; have hnc20 := NB362_367.out; have hcz21_0 : w19.cell? ⟨gb367, 0, none⟩ = some (.int .i64 0) := (blk_cell BK367.out 0).trans rfl; have hcz21_1 : w19.cell? ⟨gb367, 1, none⟩ = some (.int .i64 0) := (blk_cell BK367.out 1).trans rfl; have hfz21_0 := blk_frozen BK367.out 0; have hfz21_1 := blk_frozen BK367.out 1))
    repeat (go_quiet (first | (go_at_call 28; (with_reducible refine (optimal_reckoned.calls _ _ l0 a3 t358 t359 t360 t361 w _ ?side1 ?side2 ?side3 A15.out).mono ?_); (case side1 => repeat (first | (with_reducible first | exact HB.out | apply below_alloc | apply pw_below_drewN | apply below_drew1) | exact HB.out)); (case side2 => exact HR0.out); (case side3 => exact HC0.out); rintro e w17 ⟨g362, rfl, hi, hb, hb2⟩; have n0_ := Aside0.mk (hb); have n1_ := Aside0.mk (hi); clear HB; have HB := n0_; have HI362 := n1_; clear n0_ n1_; (try clear hb); (try clear hb2); (try clear hk); (try clear hi)) | (go_at_call 40; (with_reducible refine (optimal_paragraph_fit.callsT kj4 g362 t358 t359 t360 t361 a1 a2 t363 t364 t365 t366 w _ ?side1 ?side2 A16.out).mono ?_); (case side1 => repeat (first | (with_reducible first | exact HI362.out | apply IsT79.alloc | apply IsT79.drewN | apply IsT79.drew | apply IsT79.set_3) | exact HI362.out)); (case side2 => repeat (first | (with_reducible first | exact HB.out | apply below_alloc | apply pw_below_drewN | apply below_drew1 | refine below_set ?_ (IsT79.ge HI362.out)) | exact HB.out)); rintro e w18 ⟨rfl, hi, hb, hk⟩; have n0_ := Aside0.mk (hb); have n1_ := Aside0.mk (hi); clear HB; clear HI362; have HB := n0_; have HI362 := n1_; clear n0_ n1_; (try clear hb); (try clear hb2); (try clear hk); (try clear hi)) | ((with_reducible refine gate_dst (N := 11) rfl ?_); (try (refine gate_guard (by rfl) ?_; dsimp only)); refine box_event ?hg (N := 11) ?hd (cs := #[.int .i64 0, .int .i64 0]) (t := 73) ?hr ?_; (case hd => rfl); (case hg => rfl); (case hr => first | (go_simp; done) | (go_simp; rfl)); intro gb367 hg w19 hbox hb; have n0_ := Aside0.mk (IsT79.below (by repeat (first | (with_reducible first | exact HI362.out | apply IsT79.alloc | apply IsT79.drewN | apply IsT79.drew | apply IsT79.set_3) | exact HI362.out)) hb); have n1_ := Aside0.mk (below_step (bs HB ⟨IsT79.ge HI362.out⟩) hb); have n2_ := Aside0.mk (hbox); have n3_ := Aside0.mk ((by rw [hg]; exact (below_size (bs HB ⟨IsT79.ge HI362.out⟩)) : w.heap.size ≤ gb367)); have n4_ := Aside0.mk ((by rw [hg]; exact (below_size (bs HB ⟨IsT79.ge HI362.out⟩)) : w.heap.size ≤ gb367)); have n5_ := Aside0.mk ((by rw [hg]; exact Nat.ne_of_lt (IsT79.lt (show IsT79 w _ g362 t358 t359 t360 t366 from by repeat (first | (with_reducible first | exact HI362.out | apply IsT79.alloc | apply IsT79.drewN | apply IsT79.drew | apply IsT79.set_3) | exact HI362.out))) : g362 ≠ gb367)); have n6_ := Aside0.mk ((by rw [hg]; exact Nat.ne_of_gt (IsT79.lt (show IsT79 w _ g362 t358 t359 t360 t366 from by repeat (first | (with_reducible first | exact HI362.out | apply IsT79.alloc | apply IsT79.drewN | apply IsT79.drew | apply IsT79.set_3) | exact HI362.out))) : gb367 ≠ g362)); clear HI362; clear HB; have HI362 := n0_; have HB := n1_; have BK367 := n2_; have GW367 := n3_; have GE367 := n4_; have NB362_367 := n5_; have NB367_362 := n6_; clear n0_ n1_ n2_ n3_ n4_ n5_ n6_; clear hb hbox hg; have hnb20 := NB367_362.out; have hnc20 := NB362_367.out; have hcz21_0 : w19.cell? ⟨gb367, 0, none⟩ = some (.int .i64 0) := (blk_cell BK367.out 0).trans rfl; have hcz21_1 : w19.cell? ⟨gb367, 1, none⟩ = some (.int .i64 0) := (blk_cell BK367.out 1).trans rfl; have hfz21_0 := blk_frozen BK367.out 0; have hfz21_1 := blk_frozen BK367.out 1)); try go_wp2_with (first | (go_at_call 28; (with_reducible refine (optimal_reckoned.calls _ _ l0 a3 t358 t359 t360 t361 w _ ?side1 ?side2 ?side3 A15.out).mono ?_); (case side1 => repeat (first | (with_reducible first | exact HB.out | apply below_alloc | apply pw_below_drewN | apply below_drew1) | exact HB.out)); (case side2 => exact HR0.out); (case side3 => exact HC0.out); rintro e w17 ⟨g362, rfl, hi, hb, hb2⟩; have n0_ := Aside0.mk (hb); have n1_ := Aside0.mk (hi); clear HB; have HB := n0_; have HI362 := n1_; clear n0_ n1_; (try clear hb); (try clear hb2); (try clear hk); (try clear hi)) | (go_at_call 40; (with_reducible refine (optimal_paragraph_fit.callsT kj4 g362 t358 t359 t360 t361 a1 a2 t363 t364 t365 t366 w _ ?side1 ?side2 A16.out).mono ?_); (case side1 => repeat (first | (with_reducible first | exact HI362.out | apply IsT79.alloc | apply IsT79.drewN | apply IsT79.drew | apply IsT79.set_3) | exact HI362.out)); (case side2 => repeat (first | (with_reducible first | exact HB.out | apply below_alloc | apply pw_below_drewN | apply below_drew1 | refine below_set ?_ (IsT79.ge HI362.out)) | exact HB.out)); rintro e w18 ⟨rfl, hi, hb, hk⟩; have n0_ := Aside0.mk (hb); have n1_ := Aside0.mk (hi); clear HB; clear HI362; have HB := n0_; have HI362 := n1_; clear n0_ n1_; (try clear hb); (try clear hb2); (try clear hk); (try clear hi)) | ((with_reducible refine gate_dst (N := 11) rfl ?_); (try (refine gate_guard (by rfl) ?_; dsimp only)); refine box_event ?hg (N := 11) ?hd (cs := #[.int .i64 0, .int .i64 0]) (t := 73) ?hr ?_; (case hd => rfl); (case hg => rfl); (case hr => first | (go_simp; done) | (go_simp; rfl)); intro gb367 hg w19 hbox hb; have n0_ := Aside0.mk (IsT79.below (by repeat (first | (with_reducible first | exact HI362.out | apply IsT79.alloc | apply IsT79.drewN | apply IsT79.drew | apply IsT79.set_3) | exact HI362.out)) hb); have n1_ := Aside0.mk (below_step (bs HB ⟨IsT79.ge HI362.out⟩) hb); have n2_ := Aside0.mk (hbox); have n3_ := Aside0.mk ((by rw [hg]; exact (below_size (bs HB ⟨IsT79.ge HI362.out⟩)) : w.heap.size ≤ gb367)); have n4_ := Aside0.mk ((by rw [hg]; exact (below_size (bs HB ⟨IsT79.ge HI362.out⟩)) : w.heap.size ≤ gb367)); have n5_ := Aside0.mk ((by rw [hg]; exact Nat.ne_of_lt (IsT79.lt (show IsT79 w _ g362 t358 t359 t360 t366 from by repeat (first | (with_reducible first | exact HI362.out | apply IsT79.alloc | apply IsT79.drewN | apply IsT79.drew | apply IsT79.set_3) | exact HI362.out))) : g362 ≠ gb367)); have n6_ := Aside0.mk ((by rw [hg]; exact Nat.ne_of_gt (IsT79.lt (show IsT79 w _ g362 t358 t359 t360 t366 from by repeat (first | (with_reducible first | exact HI362.out | apply IsT79.alloc | apply IsT79.drewN | apply IsT79.drew | apply IsT79.set_3) | exact HI362.out))) : gb367 ≠ g362)); clear HI362; clear HB; have HI362 := n0_; have HB := n1_; have BK367 := n2_; have GW367 := n3_; have GE367 := n4_; have NB362_367 := n5_; have NB367_362 := n6_; clear n0_ n1_ n2_ n3_ n4_ n5_ n6_; clear hb hbox hg; have hnb20 := NB367_362.out; have hnc20 := NB362_367.out; have hcz21_0 : w19.cell? ⟨gb367, 0, none⟩ = some (.int .i64 0) := (blk_cell BK367.out 0).trans rfl; have hcz21_1 : w19.cell? ⟨gb367, 1, none⟩ = some (.int .i64 0) := (blk_cell BK367.out 1).trans rfl; have hfz21_0 := blk_frozen BK367.out 0; have hfz21_1 := blk_frozen BK367.out 1)))
    go_ret3
    exact ⟨by first | rfl | (simp [errW_none, errW_some] <;> rfl) | (simp [*, errW_none, errW_some] <;> rfl), by repeat (first | (with_reducible first | exact HB.out | apply below_alloc | apply pw_below_drewN | apply below_drew1 | refine below_set ?_ (IsT79.ge HI362.out) | refine below_set ?_ GE367.out) | exact HB.out)⟩

end Go.Proofs.Ytfbanppdiglciaa.Y
