-- written by a program of this session (wip/xprint.py) over the kit's print
import Derived.Test.YtfbanppdiglciaaXx0
import Derived.Test.YtfbanppdiglciaaXx13
import Derived.Test.YtfbanppdiglciaaXx15
import Derived.Test.YtfbanppdiglciaaXx19
import Derived.Test.YtfbanppdiglciaaXx20
import Derived.Test.YtfbanppdiglciaaXx24
import Derived.Test.YtfbanppdiglciaaXx25
namespace Go.Proofs.Ytfbanppdiglciaa.X
open Go.RowKit Go.Proofs.YtfbanppdiglciaaW.PrintWords Go.Proofs.YtfbanppdiglciaaW.PrintLast Go.Proofs.YtfbanppdiglciaaW.PrintMore
attribute [local go_sem] max2_int min2_int max_two min_two max_three min_three max_four min_four   -- for this text's walks alone
set_option linter.unusedVariables false
set_option linter.unusedSimpArgs false

/-! ### seriflaw19_OptimalLeast: function 5 -/
mutual
def seriflaw19_OptimalLeast.j0 : Nat → List (S31) → List Int → Int → Int → Bool → Option (Bool)
 | 0, _, _, _, _, _ => none
 | k + 1, x0, x2, x7, x8, x30 => if x30 = true then (some true) else ((some (([] : List (S31)) : List (S31))).bind fun y318 => (if y318.length + x0.length < 2932031007402 then ((optimal_Best.f k (y318 ++ x0) x7 x8).bind fun bt324 => (if bt324.2.2.2 = 0 then ((seriflaw19_demerits.f k x0 bt324.1 x7 x8).bind fun bt331 => (if (bt331.2 == bt324.2.2.1) = true then (seriflaw19_OptimalLeast.j1 k x0 x2 x7 x8 bt331.1 bt331.2 true bt324.1 bt324.2.1 bt324.2.2.1) else (if bt331.2 = true then (seriflaw19_OptimalLeast.j1 k x0 x2 x7 x8 bt331.1 bt331.2 (bt331.1 != bt324.2.1) bt324.1 bt324.2.1 bt324.2.2.1) else (seriflaw19_OptimalLeast.j1 k x0 x2 x7 x8 bt331.1 bt331.2 false bt324.1 bt324.2.1 bt324.2.2.1)))) else (none))) else (none)))
def seriflaw19_OptimalLeast.j1 : Nat → List (S31) → List Int → Int → Int → Int → Bool → Bool → List Int → Int → Bool → Option (Bool)
 | 0, _, _, _, _, _, _, _, _, _, _ => none
 | k + 1, x0, x2, x7, x8, x11, x12, x63, x331000, x331001, x331002 => if x63 = true then (none) else ((seriflaw19_demerits.f k x0 x2 x7 x8).bind fun bt333 => (if bt333.2 = true then (if x12 = true then (if x11 < bt333.1 then (some true) else (if x11 = bt333.1 then ((serifref19_Sooner.f k x2 x331000).bind fun t335 => (some (!t335))) else (none))) else (none)) else (some true)))
end
def seriflaw19_OptimalLeast.f (k : Nat) (l0 : List (S31)) (a1_0 : Int) (a1_1 : Int) (l2 : List Int) : Option (Bool) := (seriflaw19_optimalAlive.f k).bind fun t316 => (if t316 = true then ((serifref19_Check.f k l0 a1_0 a1_1).bind fun t317 => (if t317 = 0 then (seriflaw19_OptimalLeast.j0 k l0 l2 a1_0 a1_1 (decide ((l0.length : Int) > 200))) else (seriflaw19_OptimalLeast.j0 k l0 l2 a1_0 a1_1 true))) else (none))
theorem seriflaw19_OptimalLeast.mono_l : ∀ k, (∀ y0 y1 y2 y3 y4, LeO (seriflaw19_OptimalLeast.j0 k y0 y1 y2 y3 y4) (seriflaw19_OptimalLeast.j0 (k + 1) y0 y1 y2 y3 y4)) ∧ (∀ y0 y1 y2 y3 y4 y5 y6 y7 y8 y9, LeO (seriflaw19_OptimalLeast.j1 k y0 y1 y2 y3 y4 y5 y6 y7 y8 y9) (seriflaw19_OptimalLeast.j1 (k + 1) y0 y1 y2 y3 y4 y5 y6 y7 y8 y9))
 | 0 => ⟨fun _ _ _ _ _ r h => by simp [seriflaw19_OptimalLeast.j0] at h, fun _ _ _ _ _ _ _ _ _ _ r h => by simp [seriflaw19_OptimalLeast.j1] at h⟩
 | k + 1 => by
  obtain ⟨ih0, ih1⟩ := seriflaw19_OptimalLeast.mono_l k
  refine ⟨?_, ?_⟩
  ·intro y0 y1 y2 y3 y4
   unfold seriflaw19_OptimalLeast.j0
   repeat' first
   | (with_reducible exact ih0 _ _ _ _ _)
   | (with_reducible exact ih1 _ _ _ _ _ _ _ _ _ _)
   | (with_reducible exact optimal_Best.mono _ _ _ _)
   | (with_reducible exact seriflaw19_demerits.mono _ _ _ _ _)
   | (with_reducible exact seriflaw19_optimalAlive.mono _)
   | (with_reducible exact serifref19_Check.mono _ _ _ _)
   | (with_reducible exact serifref19_Sooner.mono _ _ _)
   | (with_reducible exact LeO.refl _)
   | (with_reducible exact LeO.none _)
   | (with_reducible refine LeO.ite ?_ ?_)
   | (with_reducible refine LeO.bind ?_ (fun _ => ?_))
   | exact ih0 _ _ _ _ _
   | exact ih1 _ _ _ _ _ _ _ _ _ _
   | exact optimal_Best.mono _ _ _ _
   | exact seriflaw19_demerits.mono _ _ _ _ _
   | exact seriflaw19_optimalAlive.mono _
   | exact serifref19_Check.mono _ _ _ _
   | exact serifref19_Sooner.mono _ _ _
   | exact LeO.none _
   | refine LeO.ite ?_ ?_
   | refine LeO.bind ?_ (fun _ => ?_)
  ·intro y0 y1 y2 y3 y4 y5 y6 y7 y8 y9
   unfold seriflaw19_OptimalLeast.j1
   repeat' first
   | (with_reducible exact ih0 _ _ _ _ _)
   | (with_reducible exact ih1 _ _ _ _ _ _ _ _ _ _)
   | (with_reducible exact optimal_Best.mono _ _ _ _)
   | (with_reducible exact seriflaw19_demerits.mono _ _ _ _ _)
   | (with_reducible exact seriflaw19_optimalAlive.mono _)
   | (with_reducible exact serifref19_Check.mono _ _ _ _)
   | (with_reducible exact serifref19_Sooner.mono _ _ _)
   | (with_reducible exact LeO.refl _)
   | (with_reducible exact LeO.none _)
   | (with_reducible refine LeO.ite ?_ ?_)
   | (with_reducible refine LeO.bind ?_ (fun _ => ?_))
   | exact ih0 _ _ _ _ _
   | exact ih1 _ _ _ _ _ _ _ _ _ _
   | exact optimal_Best.mono _ _ _ _
   | exact seriflaw19_demerits.mono _ _ _ _ _
   | exact seriflaw19_optimalAlive.mono _
   | exact serifref19_Check.mono _ _ _ _
   | exact serifref19_Sooner.mono _ _ _
   | exact LeO.none _
   | refine LeO.ite ?_ ?_
   | refine LeO.bind ?_ (fun _ => ?_)
theorem seriflaw19_OptimalLeast.mono : ∀ a0 a1 a2 a3 k, LeO (seriflaw19_OptimalLeast.f k a0 a1 a2 a3) (seriflaw19_OptimalLeast.f (k + 1) a0 a1 a2 a3) := by
 intro a0 a1 a2 a3 k
 obtain ⟨ih0, ih1⟩ := seriflaw19_OptimalLeast.mono_l k
 unfold seriflaw19_OptimalLeast.f
 repeat' first
   | (with_reducible exact ih0 _ _ _ _ _)
   | (with_reducible exact ih1 _ _ _ _ _ _ _ _ _ _)
   | (with_reducible exact optimal_Best.mono _ _ _ _)
   | (with_reducible exact seriflaw19_demerits.mono _ _ _ _ _)
   | (with_reducible exact seriflaw19_optimalAlive.mono _)
   | (with_reducible exact serifref19_Check.mono _ _ _ _)
   | (with_reducible exact serifref19_Sooner.mono _ _ _)
   | (with_reducible exact LeO.refl _)
   | (with_reducible exact LeO.none _)
   | (with_reducible refine LeO.ite ?_ ?_)
   | (with_reducible refine LeO.bind ?_ (fun _ => ?_))
   | exact ih0 _ _ _ _ _
   | exact ih1 _ _ _ _ _ _ _ _ _ _
   | exact optimal_Best.mono _ _ _ _
   | exact seriflaw19_demerits.mono _ _ _ _ _
   | exact seriflaw19_optimalAlive.mono _
   | exact serifref19_Check.mono _ _ _ _
   | exact serifref19_Sooner.mono _ _ _
   | exact LeO.none _
   | refine LeO.ite ?_ ?_
   | refine LeO.bind ?_ (fun _ => ?_)
set_option maxHeartbeats 8000000 in
set_option maxRecDepth 100000 in
theorem seriflaw19_OptimalLeast.calls (k : Nat) (A0 : Option Addr) (c0 : Nat) (l0 : List (S31)) (a1_0 : Int) (a1_1 : Int) (A2 : Option Addr) (c2 : Nat) (l2 : List Int) (r : Bool) (w : World) (hr0 : Kd.C k31 w A0 l0.length l0) (hc0 : l0.length ≤ c0) (hr2 : Kd.C (Kd.int .i64) w A2 l2.length l2) (hc2 : l2.length ≤ c2) (h : seriflaw19_OptimalLeast.f k l0 a1_0 a1_1 l2 = some r) :
  Calls Try.prog 5 #[.slice A0 l0.length c0, .agg #[.int .i64 a1_0, .int .i64 a1_1], .slice A2 l2.length c2] w fun e w' => e = .returned (.bool r) ∧ Below w.heap.size w w' := by
 have hu37 := Try.underlying37
 have hu26 := Try.underlying26
 have HR0 := Aside0.mk hr0
 have HC0 := Aside0.mk hc0
 clear hr0 hc0
 have HR2 := Aside0.mk hr2
 have HC2 := Aside0.mk hc2
 clear hr2 hc2
 have HB := Aside0.mk (Below.refl w.heap.size w)
 have H : ((seriflaw19_optimalAlive.f k).bind fun t316 => (if t316 = true then ((serifref19_Check.f k l0 a1_0 a1_1).bind fun t317 => (if t317 = 0 then (seriflaw19_OptimalLeast.j0 k l0 l2 a1_0 a1_1 (decide ((l0.length : Int) > 200))) else (seriflaw19_OptimalLeast.j0 k l0 l2 a1_0 a1_1 true))) else (none))) = some r := h
 clear h
 replace H := Option.bind_eq_some_iff.mp H
 obtain ⟨t316, A40, H⟩ := H
 replace H : (if t316 = true then ((serifref19_Check.f k l0 a1_0 a1_1).bind fun t317 => (if t317 = 0 then (seriflaw19_OptimalLeast.j0 k l0 l2 a1_0 a1_1 (decide ((l0.length : Int) > 200))) else (seriflaw19_OptimalLeast.j0 k l0 l2 a1_0 a1_1 true))) else (none)) = some r := H
 have A4 := Aside0.mk A40
 clear A40
 by_cases c5 : t316 = true
 ·subst c5
  have H1 : ((serifref19_Check.f k l0 a1_0 a1_1).bind fun t317 => (if t317 = 0 then (seriflaw19_OptimalLeast.j0 k l0 l2 a1_0 a1_1 (decide ((l0.length : Int) > 200))) else (seriflaw19_OptimalLeast.j0 k l0 l2 a1_0 a1_1 true))) = some r := by rw [if_pos rfl] at H; exact H
  clear H
  have H := H1
  clear H1
  have HC6 := Aside0.mk H
  clear H
  go_enter Try.func5, Try.ntmps5
  go_upto_region 4 with (first | ((with_reducible refine gate_dst (N := 4) rfl ?_); (try (refine gate_guard (by rfl) ?_; dsimp only)); refine box_event ?hg (N := 4) ?hd (cs := #[.int .i64 a1_0, .int .i64 a1_1]) (t := 37) ?hr ?_; (case hd => rfl); (case hg => rfl); (case hr => first | (go_simp; done) | (go_simp; rfl)); intro gb315 hg w7 hbox hb; have n0_ := Aside0.mk (below_step (bq HB) hb); have n1_ := Aside0.mk (hbox); have n2_ := Aside0.mk ((by rw [hg]; exact (below_size (bq HB)) : w.heap.size ≤ gb315)); have n3_ := Aside0.mk ((by rw [hg]; exact (below_size (bq HB)) : w.heap.size ≤ gb315)); clear HB; have HB := n0_; have BK315 := n1_; have GW315 := n2_; have GE315 := n3_; clear n0_ n1_ n2_ n3_; clear hb hbox hg) | (go_at_call 12; (with_reducible refine (seriflaw19_optimalAlive.calls k  true _ A4.out).mono ?_); rintro e w8 ⟨rfl, hb⟩; have n0_ := Aside0.mk (blk_below (g := gb315) (o := .cells #[.int .i64 a1_0, .int .i64 a1_1] 37 (0, 0)) (kq BK315) hb); have n1_ := Aside0.mk (below_step (bs HB GE315) hb); clear BK315; clear HB; have BK315 := n0_; have HB := n1_; clear n0_ n1_; (try clear hb); (try clear hb2); (try clear hk); (try clear hi); have hcz9_0 : w8.cell? ⟨gb315, 0, none⟩ = some (.int .i64 a1_0) := (blk_cell BK315.out 0).trans rfl; have hcz9_1 : w8.cell? ⟨gb315, 1, none⟩ = some (.int .i64 a1_1) := (blk_cell BK315.out 1).trans rfl; have hfz9_0 := blk_frozen BK315.out 0; have hfz9_1 := blk_frozen BK315.out 1))
  repeat (go_quiet (first | ((with_reducible refine gate_dst (N := 4) rfl ?_); (try (refine gate_guard (by rfl) ?_; dsimp only)); refine box_event ?hg (N := 4) ?hd (cs := #[.int .i64 a1_0, .int .i64 a1_1]) (t := 37) ?hr ?_; (case hd => rfl); (case hg => rfl); (case hr => first | (go_simp; done) | (go_simp; rfl)); intro gb315 hg w7 hbox hb; have n0_ := Aside0.mk (below_step (bq HB) hb); have n1_ := Aside0.mk (hbox); have n2_ := Aside0.mk ((by rw [hg]; exact (below_size (bq HB)) : w.heap.size ≤ gb315)); have n3_ := Aside0.mk ((by rw [hg]; exact (below_size (bq HB)) : w.heap.size ≤ gb315)); clear HB; have HB := n0_; have BK315 := n1_; have GW315 := n2_; have GE315 := n3_; clear n0_ n1_ n2_ n3_; clear hb hbox hg) | (go_at_call 12; (with_reducible refine (seriflaw19_optimalAlive.calls k  true _ A4.out).mono ?_); rintro e w8 ⟨rfl, hb⟩; have n0_ := Aside0.mk (blk_below (g := gb315) (o := .cells #[.int .i64 a1_0, .int .i64 a1_1] 37 (0, 0)) (kq BK315) hb); have n1_ := Aside0.mk (below_step (bs HB GE315) hb); clear BK315; clear HB; have BK315 := n0_; have HB := n1_; clear n0_ n1_; (try clear hb); (try clear hb2); (try clear hk); (try clear hi); have hcz9_0 : w8.cell? ⟨gb315, 0, none⟩ = some (.int .i64 a1_0) := (blk_cell BK315.out 0).trans rfl; have hcz9_1 : w8.cell? ⟨gb315, 1, none⟩ = some (.int .i64 a1_1) := (blk_cell BK315.out 1).trans rfl; have hfz9_0 := blk_frozen BK315.out 0; have hfz9_1 := blk_frozen BK315.out 1)); go_upto_region 4 with (first | ((with_reducible refine gate_dst (N := 4) rfl ?_); (try (refine gate_guard (by rfl) ?_; dsimp only)); refine box_event ?hg (N := 4) ?hd (cs := #[.int .i64 a1_0, .int .i64 a1_1]) (t := 37) ?hr ?_; (case hd => rfl); (case hg => rfl); (case hr => first | (go_simp; done) | (go_simp; rfl)); intro gb315 hg w7 hbox hb; have n0_ := Aside0.mk (below_step (bq HB) hb); have n1_ := Aside0.mk (hbox); have n2_ := Aside0.mk ((by rw [hg]; exact (below_size (bq HB)) : w.heap.size ≤ gb315)); have n3_ := Aside0.mk ((by rw [hg]; exact (below_size (bq HB)) : w.heap.size ≤ gb315)); clear HB; have HB := n0_; have BK315 := n1_; have GW315 := n2_; have GE315 := n3_; clear n0_ n1_ n2_ n3_; clear hb hbox hg) | (go_at_call 12; (with_reducible refine (seriflaw19_optimalAlive.calls k  true _ A4.out).mono ?_); rintro e w8 ⟨rfl, hb⟩; have n0_ := Aside0.mk (blk_below (g := gb315) (o := .cells #[.int .i64 a1_0, .int .i64 a1_1] 37 (0, 0)) (kq BK315) hb); have n1_ := Aside0.mk (below_step (bs HB GE315) hb); clear BK315; clear HB; have BK315 := n0_; have HB := n1_; clear n0_ n1_; (try clear hb); (try clear hb2); (try clear hk); (try clear hi); have hcz9_0 : w8.cell? ⟨gb315, 0, none⟩ = some (.int .i64 a1_0) := (blk_cell BK315.out 0).trans rfl; have hcz9_1 : w8.cell? ⟨gb315, 1, none⟩ = some (.int .i64 a1_1) := (blk_cell BK315.out 1).trans rfl; have hfz9_0 := blk_frozen BK315.out 0; have hfz9_1 := blk_frozen BK315.out 1)))
  (try simp only [Act.put, List.setIfInBounds_toArray, List.set_cons_zero, List.set_cons_succ])
  go_cut [30] (fun v30 wc => ∃ (kq : Nat) (x30_5 : Bool), v30 = .bool x30_5 ∧ Aside0 (seriflaw19_OptimalLeast.j0 kq l0 l2 a1_0 a1_1 x30_5 = some r) ∧ Aside0 (kq ≤ k) ∧ Aside0 (wc.heap[gb315]? = some (.cells #[.int .i64 a1_0, .int .i64 a1_1] 37 (0, 0))) ∧ Aside0 (Below w.heap.size w wc))
  case first =>
   have H := HC6.out
   clear HC6
   replace H := Option.bind_eq_some_iff.mp H
   obtain ⟨t317, A100, H⟩ := H
   replace H : (if t317 = 0 then (seriflaw19_OptimalLeast.j0 k l0 l2 a1_0 a1_1 (decide ((l0.length : Int) > 200))) else (seriflaw19_OptimalLeast.j0 k l0 l2 a1_0 a1_1 true)) = some r := H
   have A10 := Aside0.mk A100
   clear A100
   by_cases c11 : t317 = 0
   ·rw [if_pos c11] at H
    have c11b0 : (t317 == 0) = true := beq_iff_eq.mpr c11
    have c11b1 : (t317 != 0) = false := bne_eq_false_iff_eq.mpr c11
    clear c11
    (first | rw [c11b0] | (simp only [i64_w, i32_w]; rw [c11b0]) | skip)
    have H' := Aside0.mk H
    clear H
    go_wp2_with (first | (go_at_call 14; (with_reducible refine (serifref19_Check.calls k _ _ l0 a1_0 a1_1 t317 _ ?side1 ?side2 A10.out).mono ?_); (case side1 => repeat (first | exact (Kd.C_below HR0.out HB.out) | (with_reducible refine Kd.C_alloc ?_ _) | (with_reducible refine Kd.C_drewN ?_ _) | (with_reducible refine Kd.C_drew ?_))); (case side2 => exact HC0.out); rintro e w12 ⟨rfl, hb⟩; have n0_ := Aside0.mk (blk_below (g := gb315) (o := .cells #[.int .i64 a1_0, .int .i64 a1_1] 37 (0, 0)) (kq BK315) hb); have n1_ := Aside0.mk (below_step (bs HB GE315) hb); clear BK315; clear HB; have BK315 := n0_; have HB := n1_; clear n0_ n1_; (try clear hb); (try clear hb2); (try clear hk); (try clear hi)))
    repeat (go_quiet (first | (go_at_call 14; (with_reducible refine (serifref19_Check.calls k _ _ l0 a1_0 a1_1 t317 _ ?side1 ?side2 A10.out).mono ?_); (case side1 => repeat (first | exact (Kd.C_below HR0.out HB.out) | (with_reducible refine Kd.C_alloc ?_ _) | (with_reducible refine Kd.C_drewN ?_ _) | (with_reducible refine Kd.C_drew ?_))); (case side2 => exact HC0.out); rintro e w12 ⟨rfl, hb⟩; have n0_ := Aside0.mk (blk_below (g := gb315) (o := .cells #[.int .i64 a1_0, .int .i64 a1_1] 37 (0, 0)) (kq BK315) hb); have n1_ := Aside0.mk (below_step (bs HB GE315) hb); clear BK315; clear HB; have BK315 := n0_; have HB := n1_; clear n0_ n1_; (try clear hb); (try clear hb2); (try clear hk); (try clear hi))); try go_wp2_with (first | (go_at_call 14; (with_reducible refine (serifref19_Check.calls k _ _ l0 a1_0 a1_1 t317 _ ?side1 ?side2 A10.out).mono ?_); (case side1 => repeat (first | exact (Kd.C_below HR0.out HB.out) | (with_reducible refine Kd.C_alloc ?_ _) | (with_reducible refine Kd.C_drewN ?_ _) | (with_reducible refine Kd.C_drew ?_))); (case side2 => exact HC0.out); rintro e w12 ⟨rfl, hb⟩; have n0_ := Aside0.mk (blk_below (g := gb315) (o := .cells #[.int .i64 a1_0, .int .i64 a1_1] 37 (0, 0)) (kq BK315) hb); have n1_ := Aside0.mk (below_step (bs HB GE315) hb); clear BK315; clear HB; have BK315 := n0_; have HB := n1_; clear n0_ n1_; (try clear hb); (try clear hb2); (try clear hk); (try clear hi))))
    go_meet
    case rel => exact ⟨_, (decide ((l0.length : Int) > 200)), (by first | rfl | (simp; done) | (simp [*]; done)), H', ⟨by first | omega | exact Nat.le_refl _⟩, ⟨by (with_reducible repeat (first | refine blk_drewN ?_ _ | refine blk_drew ?_ | refine blk_alloc ?_ _)); exact BK315.out⟩, ⟨bs HB GE315⟩⟩
   ·rw [if_neg c11] at H
    have c11b0 : (t317 == 0) = false := beq_eq_false_iff_ne.mpr c11
    have c11b1 : (t317 != 0) = true := bne_iff_ne.mpr c11
    (first | rw [c11b0] | (simp only [i64_w, i32_w]; rw [c11b0]) | skip)
    have H' := Aside0.mk H
    clear H
    go_wp2_with (first | (go_at_call 14; (with_reducible refine (serifref19_Check.calls k _ _ l0 a1_0 a1_1 t317 _ ?side1 ?side2 A10.out).mono ?_); (case side1 => repeat (first | exact (Kd.C_below HR0.out HB.out) | (with_reducible refine Kd.C_alloc ?_ _) | (with_reducible refine Kd.C_drewN ?_ _) | (with_reducible refine Kd.C_drew ?_))); (case side2 => exact HC0.out); rintro e w13 ⟨rfl, hb⟩; have n0_ := Aside0.mk (blk_below (g := gb315) (o := .cells #[.int .i64 a1_0, .int .i64 a1_1] 37 (0, 0)) (kq BK315) hb); have n1_ := Aside0.mk (below_step (bs HB GE315) hb); clear BK315; clear HB; have BK315 := n0_; have HB := n1_; clear n0_ n1_; (try clear hb); (try clear hb2); (try clear hk); (try clear hi)))
    repeat (go_quiet (first | (go_at_call 14; (with_reducible refine (serifref19_Check.calls k _ _ l0 a1_0 a1_1 t317 _ ?side1 ?side2 A10.out).mono ?_); (case side1 => repeat (first | exact (Kd.C_below HR0.out HB.out) | (with_reducible refine Kd.C_alloc ?_ _) | (with_reducible refine Kd.C_drewN ?_ _) | (with_reducible refine Kd.C_drew ?_))); (case side2 => exact HC0.out); rintro e w13 ⟨rfl, hb⟩; have n0_ := Aside0.mk (blk_below (g := gb315) (o := .cells #[.int .i64 a1_0, .int .i64 a1_1] 37 (0, 0)) (kq BK315) hb); have n1_ := Aside0.mk (below_step (bs HB GE315) hb); clear BK315; clear HB; have BK315 := n0_; have HB := n1_; clear n0_ n1_; (try clear hb); (try clear hb2); (try clear hk); (try clear hi))); try go_wp2_with (first | (go_at_call 14; (with_reducible refine (serifref19_Check.calls k _ _ l0 a1_0 a1_1 t317 _ ?side1 ?side2 A10.out).mono ?_); (case side1 => repeat (first | exact (Kd.C_below HR0.out HB.out) | (with_reducible refine Kd.C_alloc ?_ _) | (with_reducible refine Kd.C_drewN ?_ _) | (with_reducible refine Kd.C_drew ?_))); (case side2 => exact HC0.out); rintro e w13 ⟨rfl, hb⟩; have n0_ := Aside0.mk (blk_below (g := gb315) (o := .cells #[.int .i64 a1_0, .int .i64 a1_1] 37 (0, 0)) (kq BK315) hb); have n1_ := Aside0.mk (below_step (bs HB GE315) hb); clear BK315; clear HB; have BK315 := n0_; have HB := n1_; clear n0_ n1_; (try clear hb); (try clear hb2); (try clear hk); (try clear hi))))
    go_meet
    case rel => exact ⟨_, (true), (by first | rfl | (simp; done) | (simp [*]; done)), H', ⟨by first | omega | exact Nat.le_refl _⟩, ⟨by (with_reducible repeat (first | refine blk_drewN ?_ _ | refine blk_drew ?_ | refine blk_alloc ?_ _)); exact BK315.out⟩, ⟨bs HB GE315⟩⟩
  case rest =>
   clear HC6
   try clear c1
   try clear c2
   try clear p2
   try clear c5
   try clear c11
   try clear c11b0
   try clear c11b1
   try clear hcz9_0
   try clear hcz9_1
   try clear hfz9_0
   try clear hfz9_1
   obtain ⟨kq, x30_5, rfl, HA, HJ5, BK315, HB⟩ := hcut
   cases kq with
   | zero => exact absurd HA.out (by simp [seriflaw19_OptimalLeast.j0])
   | succ kj5 =>
    have H := HA.out
    clear HA
    simp only [seriflaw19_OptimalLeast.j0] at H
    by_cases c14 : x30_5 = true
    ·subst c14
     have H1 : (some true) = some r := by rw [if_pos rfl] at H; exact H
     clear H
     have H := H1
     clear H1
     obtain rfl := Option.some.inj H
     go_wp2
     repeat (go_quiet (fail); try go_wp2)
     go_ret
     exact ⟨by first | rfl | (simp [errW_none, errW_some] <;> rfl) | (simp [*, errW_none, errW_some] <;> rfl), bs HB GE315⟩
    ·replace c14 := Bool.eq_false_iff.mpr c14
     subst c14
     have H1 : ((some (([] : List (S31)) : List (S31))).bind fun y318 => (if y318.length + l0.length < 2932031007402 then ((optimal_Best.f kj5 (y318 ++ l0) a1_0 a1_1).bind fun bt324 => (if bt324.2.2.2 = 0 then ((seriflaw19_demerits.f kj5 l0 bt324.1 a1_0 a1_1).bind fun bt331 => (if (bt331.2 == bt324.2.2.1) = true then (seriflaw19_OptimalLeast.j1 kj5 l0 l2 a1_0 a1_1 bt331.1 bt331.2 true bt324.1 bt324.2.1 bt324.2.2.1) else (if bt331.2 = true then (seriflaw19_OptimalLeast.j1 kj5 l0 l2 a1_0 a1_1 bt331.1 bt331.2 (bt331.1 != bt324.2.1) bt324.1 bt324.2.1 bt324.2.2.1) else (seriflaw19_OptimalLeast.j1 kj5 l0 l2 a1_0 a1_1 bt331.1 bt331.2 false bt324.1 bt324.2.1 bt324.2.2.1)))) else (none))) else (none))) = some r := by rw [if_neg (show ¬ (false = true) by decide)] at H; exact H
     clear H
     have H := H1
     clear H1
     obtain ⟨y318, hy318⟩ : ∃ y_ : List (S31), y_ = (([] : List (S31))) := ⟨_, rfl⟩
     replace H : (if y318.length + l0.length < 2932031007402 then ((optimal_Best.f kj5 (y318 ++ l0) a1_0 a1_1).bind fun bt324 => (if bt324.2.2.2 = 0 then ((seriflaw19_demerits.f kj5 l0 bt324.1 a1_0 a1_1).bind fun bt331 => (if (bt331.2 == bt324.2.2.1) = true then (seriflaw19_OptimalLeast.j1 kj5 l0 l2 a1_0 a1_1 bt331.1 bt331.2 true bt324.1 bt324.2.1 bt324.2.2.1) else (if bt331.2 = true then (seriflaw19_OptimalLeast.j1 kj5 l0 l2 a1_0 a1_1 bt331.1 bt331.2 (bt331.1 != bt324.2.1) bt324.1 bt324.2.1 bt324.2.2.1) else (seriflaw19_OptimalLeast.j1 kj5 l0 l2 a1_0 a1_1 bt331.1 bt331.2 false bt324.1 bt324.2.1 bt324.2.2.1)))) else (none))) else (none)) = some r := by first | (rw [hy318]; with_reducible exact H) | (have H2_ := (Option.bind_some _ _).symm.trans H; rw [hy318]; with_reducible exact H2_) | (have H2_ := (Option.bind_some _ _).symm.trans H; with_reducible exact H2_) | with_reducible exact H | (rw [hy318]; exact H) | exact H
     have Ny318 := Aside0.mk hy318
     clear hy318
     by_cases c15 : y318.length + l0.length < 2932031007402
     ·rw [if_pos c15] at H
      have LMc15 := Aside0.mk c15
      clear c15
      obtain ⟨y321, hy321⟩ : ∃ y_ : List (S31), y_ = (y318 ++ l0) := ⟨_, rfl⟩
      replace H : ((optimal_Best.f kj5 y321 a1_0 a1_1).bind fun bt324 => (if bt324.2.2.2 = 0 then ((seriflaw19_demerits.f kj5 l0 bt324.1 a1_0 a1_1).bind fun bt331 => (if (bt331.2 == bt324.2.2.1) = true then (seriflaw19_OptimalLeast.j1 kj5 l0 l2 a1_0 a1_1 bt331.1 bt331.2 true bt324.1 bt324.2.1 bt324.2.2.1) else (if bt331.2 = true then (seriflaw19_OptimalLeast.j1 kj5 l0 l2 a1_0 a1_1 bt331.1 bt331.2 (bt331.1 != bt324.2.1) bt324.1 bt324.2.1 bt324.2.2.1) else (seriflaw19_OptimalLeast.j1 kj5 l0 l2 a1_0 a1_1 bt331.1 bt331.2 false bt324.1 bt324.2.1 bt324.2.2.1)))) else (none))) = some r := by first | (rw [hy321]; with_reducible exact H) | (have H2_ := (Option.bind_some _ _).symm.trans H; rw [hy321]; with_reducible exact H2_) | (have H2_ := (Option.bind_some _ _).symm.trans H; with_reducible exact H2_) | with_reducible exact H | (rw [hy321]; exact H) | exact H
      have Ny321 := Aside0.mk hy321
      clear hy321
      replace H := Option.bind_eq_some_iff.mp H
      obtain ⟨⟨t324, t327, t328, t329⟩, A160, H⟩ := H
      replace H : (if t329 = 0 then ((seriflaw19_demerits.f kj5 l0 t324 a1_0 a1_1).bind fun bt331 => (if (bt331.2 == t328) = true then (seriflaw19_OptimalLeast.j1 kj5 l0 l2 a1_0 a1_1 bt331.1 bt331.2 true t324 t327 t328) else (if bt331.2 = true then (seriflaw19_OptimalLeast.j1 kj5 l0 l2 a1_0 a1_1 bt331.1 bt331.2 (bt331.1 != t327) t324 t327 t328) else (seriflaw19_OptimalLeast.j1 kj5 l0 l2 a1_0 a1_1 bt331.1 bt331.2 false t324 t327 t328)))) else (none)) = some r := H
      have A16 := Aside0.mk A160
      clear A160
      by_cases c17 : t329 = 0
      ·rw [if_pos c17] at H
       have c17b0 : (t329 == 0) = true := beq_iff_eq.mpr c17
       have c17b1 : (t329 != 0) = false := bne_eq_false_iff_eq.mpr c17
       clear c17
       replace H := Option.bind_eq_some_iff.mp H
       obtain ⟨⟨t331, t332⟩, A180, H⟩ := H
       replace H : (if (t332 == t328) = true then (seriflaw19_OptimalLeast.j1 kj5 l0 l2 a1_0 a1_1 t331 t332 true t324 t327 t328) else (if t332 = true then (seriflaw19_OptimalLeast.j1 kj5 l0 l2 a1_0 a1_1 t331 t332 (t331 != t327) t324 t327 t328) else (seriflaw19_OptimalLeast.j1 kj5 l0 l2 a1_0 a1_1 t331 t332 false t324 t327 t328))) = some r := H
       have A18 := Aside0.mk A180
       clear A180
       have HC19 := Aside0.mk H
       clear H
       go_upto_region 10 with (first | ((with_reducible refine gate_dst (N := 32) rfl ?_); (try (refine gate_guard (by rfl) ?_; dsimp only)); refine Kd.R_lit k31 _ 31 ?hg (N := 32) ?hd (xs := ([] : List (S31))) (inner := []) (ok := fun _ => True) (okp := fun _ => True) ?hr ?hp (fun _ hk => hk) trivial (Below.refl _ _) (Nat.le_refl _) (by simp) ?_; (case hd => rfl); (case hg => rfl); (case hr => first | (go_simp; done) | (go_simp; rfl)); (case hp => exact (Reps.none _ _)); intro v319 w20 ho21 hb hg_ hnew_; clear hg_ hnew_; (first | rw [← Ny318.out] at ho21 | (simp only [Int.reduceToNat] at ho21; rw [← Ny318.out] at ho21)); have n0_ := Aside0.mk (Kd.R_lower ho21 (below_size (bs HB GE315))); have n1_ := Aside0.mk (blk_below (g := gb315) (o := .cells #[.int .i64 a1_0, .int .i64 a1_1] 37 (0, 0)) (kq BK315) hb); have n2_ := Aside0.mk (below_step (bs HB GE315) hb); clear BK315; clear HB; have HO320 := n0_; have BK315 := n1_; have HB := n2_; clear n0_ n1_ n2_; clear hb ho21) | ((with_reducible refine gate_builtin (b := .append) (xs := #[.tmp 32, .tmp 33]) rfl ?_); (try (refine gate_guard (by rfl) ?_; dsimp only)); at_builtin; refine Kd.R_append_rows k31 (w0 := w) w.heap.size rfl (.tmp 32) (.tmp 33) 23 31 (.agg #[(.int .i64 0), (.int .i64 0), (.int .i64 0), (.int .i64 0), (.int .i64 0), (.bool false)]) 48 rfl Try.underlying23 info31 rfl (by decide) (by omega) v319 y318 l0 _ _ _ (fun _ => True) (fun _ => False) rfl rfl ?aO ?aR (fun _ _ h => h) (fun _ h => h.elim) ?aF ?aB ?aS ?aL ?_; (case aR => repeat (first | exact (Kd.C_below HR0.out HB.out) | (with_reducible refine Kd.C_alloc ?_ _) | (with_reducible refine Kd.C_drewN ?_ _) | (with_reducible refine Kd.C_drew ?_))); (case aB => exact (bs HB GE315)); (case aF => exact (fun _ _ => trivial)); (case aO => exact (by (with_reducible repeat (first | apply Kd.R_alloc | apply Kd.R_drewN | apply Kd.R_drew)); exact HO320.out)); (case aS => exact (below_size (bs HB GE315))); (case aL => have := LMc15.out; omega); intro v322 w22 ho hb hg hat; rw [← Ny321.out] at ho; have n0_ := Aside0.mk (blk_grown (g := gb315) (o := .cells #[.int .i64 a1_0, .int .i64 a1_1] 37 (0, 0)) (kq BK315) hg (Kd.R_ne HO320.out BK315.out (by decide))); have n1_ := Aside0.mk (hb); have n2_ := Aside0.mk (ho); clear BK315; clear HB; clear HO320; have BK315 := n0_; have HB := n1_; have HO323 := n2_; clear n0_ n1_ n2_; clear ho hb hg hat; obtain ⟨Ao23, co23, eo23⟩ := Kd.R_slice HO323.out; subst eo23) | (go_at_call 13; (with_reducible refine (optimal_Best.calls kj5 _ _ y321 a1_0 a1_1 t324 t327 t328 t329 _ ?side1 ?side2 A16.out).mono ?_); (case side1 => repeat (first | exact (Kd.R_reads' HO323.out).2.2 | (with_reducible refine Kd.C_alloc ?_ _) | (with_reducible refine Kd.C_drewN ?_ _) | (with_reducible refine Kd.C_drew ?_))); (case side2 => exact (Kd.R_reads' HO323.out).2.1); rintro e w24 ⟨v325, rfl, ho0, hb⟩; have n0_ := Aside0.mk (Kd.R_below (by (with_reducible repeat (first | apply Kd.R_alloc | apply Kd.R_drewN | apply Kd.R_drew)); exact HO323.out) hb); have n1_ := Aside0.mk (Kd.R_lower ho0 (below_size (bs HB GE315))); have n2_ := Aside0.mk (blk_below (g := gb315) (o := .cells #[.int .i64 a1_0, .int .i64 a1_1] 37 (0, 0)) (kq BK315) hb); have n3_ := Aside0.mk (below_step (bs HB GE315) hb); clear HO323; clear BK315; clear HB; have HO323 := n0_; have HO326 := n1_; have BK315 := n2_; have HB := n3_; clear n0_ n1_ n2_ n3_; (try clear hb); (try clear hb2); (try clear hk); (try clear hi); (try clear ho0)) | ((with_reducible refine gate_dst (N := 9) rfl ?_); (try (refine gate_guard (by rfl) ?_; dsimp only)); refine box_event ?hg (N := 9) ?hd (cs := #[.slice none 0 0, .int .i64 0, .bool false]) (t := 26) ?hr ?_; (case hd => rfl); (case hg => rfl); (case hr => first | (go_simp; done) | (go_simp; rfl)); intro gb330 hg w25 hbox hb; have n0_ := Aside0.mk (Kd.R_below (by (with_reducible repeat (first | apply Kd.R_alloc | apply Kd.R_drewN | apply Kd.R_drew)); exact HO323.out) hb); have n1_ := Aside0.mk (Kd.R_below (by (with_reducible repeat (first | apply Kd.R_alloc | apply Kd.R_drewN | apply Kd.R_drew)); exact HO326.out) hb); have n2_ := Aside0.mk (blk_below (g := gb315) (o := .cells #[.int .i64 a1_0, .int .i64 a1_1] 37 (0, 0)) (kq BK315) hb); have n3_ := Aside0.mk (below_step (bs HB GE315) hb); have n4_ := Aside0.mk (hbox); have n5_ := Aside0.mk ((by rw [hg]; exact (below_size (bs HB GE315)) : w.heap.size ≤ gb330)); have n6_ := Aside0.mk ((by rw [hg]; exact (below_size (bs HB GE315)) : w.heap.size ≤ gb330)); have n7_ := Aside0.mk ((by rw [hg]; exact Nat.ne_of_lt (blk_lt (g := gb315) (o := .cells #[.int .i64 a1_0, .int .i64 a1_1] 37 (0, 0)) (kq BK315)) : gb315 ≠ gb330)); have n8_ := Aside0.mk ((by rw [hg]; exact Nat.ne_of_gt (blk_lt (g := gb315) (o := .cells #[.int .i64 a1_0, .int .i64 a1_1] 37 (0, 0)) (kq BK315)) : gb330 ≠ gb315)); clear HO323; clear HO326; clear BK315; clear HB; have HO323 := n0_; have HO326 := n1_; have BK315 := n2_; have HB := n3_; have BK330 := n4_; have GW330 := n5_; have GE330 := n6_; have NB315_330 := n7_; have NB330_315 := n8_; clear n0_ n1_ n2_ n3_ n4_ n5_ n6_ n7_ n8_; clear hb hbox hg; obtain ⟨Ao26, co26, eo26⟩ := Kd.R_slice HO326.out; subst eo26; have hnb27 := NB330_315.out; have hnc27 := NB315_330.out; have hcz28_0 : w25.cell? ⟨gb330, 0, none⟩ = some (.slice none 0 0) := (blk_cell BK330.out 0).trans rfl; have hcz28_1 : w25.cell? ⟨gb330, 1, none⟩ = some (.int .i64 0) := (blk_cell BK330.out 1).trans rfl; have hcz28_2 : w25.cell? ⟨gb330, 2, none⟩ = some (.bool false) := (blk_cell BK330.out 2).trans rfl; have hfz28_0 := blk_frozen BK330.out 0; have hfz28_1 := blk_frozen BK330.out 1; have hfz28_2 := blk_frozen BK330.out 2) | (go_at_call 17; (with_reducible refine (seriflaw19_demerits.calls kj5 _ _ l0 _ _ t324 a1_0 a1_1 t331 t332 _ ?side1 ?side2 ?side3 ?side4 A18.out).mono ?_); (case side1 => exact Kd.C_below HR0.out (by repeat (first | (with_reducible first | exact HB.out | apply below_alloc | apply pw_below_drewN | apply below_drew1 | refine below_set ?_ GE315.out | refine below_set ?_ GE330.out) | exact HB.out))); (case side2 => exact HC0.out); (case side3 => refine (Kd.R_reads' (e := 3) (base := w.heap.size) (ok := fun k_ => True) (n := t324.length) (c := co26) ?_).2.2; exact (by (with_reducible repeat (first | apply Kd.R_alloc | apply Kd.R_drewN | apply Kd.R_drew)); exact (Kd.R_mono (Kd.R_far (p := ⟨gb330, 2, none⟩) (Kd.R_far (p := ⟨gb330, 1, none⟩) (Kd.R_far (p := ⟨gb330, 0, none⟩) (Kd.R_types HO326.out BK330.out (by decide)) (fun _ hk => hk.2) (.slice Ao26 t324.length co26)) (fun _ hk => hk.2) (.int .i64 t327)) (fun _ hk => hk.2) (.bool t328)) (fun _ h_ => h_.1)))); (case side4 => exact (Kd.R_reads' HO326.out).2.1); rintro e w' ⟨rfl, ⟨nd, rfl⟩⟩; (try first | exact ⟨rfl, _, World.drewN_drewN _ _ _⟩ | exact ⟨rfl, _, Eq.trans (World.drewN_drewN _ _ _) (congrArg (World.drewN _) (Nat.add_assoc _ _ _))⟩)))
       repeat (go_quiet (first | ((with_reducible refine gate_dst (N := 32) rfl ?_); (try (refine gate_guard (by rfl) ?_; dsimp only)); refine Kd.R_lit k31 _ 31 ?hg (N := 32) ?hd (xs := ([] : List (S31))) (inner := []) (ok := fun _ => True) (okp := fun _ => True) ?hr ?hp (fun _ hk => hk) trivial (Below.refl _ _) (Nat.le_refl _) (by simp) ?_; (case hd => rfl); (case hg => rfl); (case hr => first | (go_simp; done) | (go_simp; rfl)); (case hp => exact (Reps.none _ _)); intro v319 w20 ho21 hb hg_ hnew_; clear hg_ hnew_; (first | rw [← Ny318.out] at ho21 | (simp only [Int.reduceToNat] at ho21; rw [← Ny318.out] at ho21)); have n0_ := Aside0.mk (Kd.R_lower ho21 (below_size (bs HB GE315))); have n1_ := Aside0.mk (blk_below (g := gb315) (o := .cells #[.int .i64 a1_0, .int .i64 a1_1] 37 (0, 0)) (kq BK315) hb); have n2_ := Aside0.mk (below_step (bs HB GE315) hb); clear BK315; clear HB; have HO320 := n0_; have BK315 := n1_; have HB := n2_; clear n0_ n1_ n2_; clear hb ho21) | ((with_reducible refine gate_builtin (b := .append) (xs := #[.tmp 32, .tmp 33]) rfl ?_); (try (refine gate_guard (by rfl) ?_; dsimp only)); at_builtin; refine Kd.R_append_rows k31 (w0 := w) w.heap.size rfl (.tmp 32) (.tmp 33) 23 31 (.agg #[(.int .i64 0), (.int .i64 0), (.int .i64 0), (.int .i64 0), (.int .i64 0), (.bool false)]) 48 rfl Try.underlying23 info31 rfl (by decide) (by omega) v319 y318 l0 _ _ _ (fun _ => True) (fun _ => False) rfl rfl ?aO ?aR (fun _ _ h => h) (fun _ h => h.elim) ?aF ?aB ?aS ?aL ?_; (case aR => repeat (first | exact (Kd.C_below HR0.out HB.out) | (with_reducible refine Kd.C_alloc ?_ _) | (with_reducible refine Kd.C_drewN ?_ _) | (with_reducible refine Kd.C_drew ?_))); (case aB => exact (bs HB GE315)); (case aF => exact (fun _ _ => trivial)); (case aO => exact (by (with_reducible repeat (first | apply Kd.R_alloc | apply Kd.R_drewN | apply Kd.R_drew)); exact HO320.out)); (case aS => exact (below_size (bs HB GE315))); (case aL => have := LMc15.out; omega); intro v322 w22 ho hb hg hat; rw [← Ny321.out] at ho; have n0_ := Aside0.mk (blk_grown (g := gb315) (o := .cells #[.int .i64 a1_0, .int .i64 a1_1] 37 (0, 0)) (kq BK315) hg (Kd.R_ne HO320.out BK315.out (by decide))); have n1_ := Aside0.mk (hb); have n2_ := Aside0.mk (ho); clear BK315; clear HB; clear HO320; have BK315 := n0_; have HB := n1_; have HO323 := n2_; clear n0_ n1_ n2_; clear ho hb hg hat; obtain ⟨Ao23, co23, eo23⟩ := Kd.R_slice HO323.out; subst eo23) | (go_at_call 13; (with_reducible refine (optimal_Best.calls kj5 _ _ y321 a1_0 a1_1 t324 t327 t328 t329 _ ?side1 ?side2 A16.out).mono ?_); (case side1 => repeat (first | exact (Kd.R_reads' HO323.out).2.2 | (with_reducible refine Kd.C_alloc ?_ _) | (with_reducible refine Kd.C_drewN ?_ _) | (with_reducible refine Kd.C_drew ?_))); (case side2 => exact (Kd.R_reads' HO323.out).2.1); rintro e w24 ⟨v325, rfl, ho0, hb⟩; have n0_ := Aside0.mk (Kd.R_below (by (with_reducible repeat (first | apply Kd.R_alloc | apply Kd.R_drewN | apply Kd.R_drew)); exact HO323.out) hb); have n1_ := Aside0.mk (Kd.R_lower ho0 (below_size (bs HB GE315))); have n2_ := Aside0.mk (blk_below (g := gb315) (o := .cells #[.int .i64 a1_0, .int .i64 a1_1] 37 (0, 0)) (kq BK315) hb); have n3_ := Aside0.mk (below_step (bs HB GE315) hb); clear HO323; clear BK315; clear HB; have HO323 := n0_; have HO326 := n1_; have BK315 := n2_; have HB := n3_; clear n0_ n1_ n2_ n3_; (try clear hb); (try clear hb2); (try clear hk); (try clear hi); (try clear ho0)) | ((with_reducible refine gate_dst (N := 9) rfl ?_); (try (refine gate_guard (by rfl) ?_; dsimp only)); refine box_event ?hg (N := 9) ?hd (cs := #[.slice none 0 0, .int .i64 0, .bool false]) (t := 26) ?hr ?_; (case hd => rfl); (case hg => rfl); (case hr => first | (go_simp; done) | (go_simp; rfl)); intro gb330 hg w25 hbox hb; have n0_ := Aside0.mk (Kd.R_below (by (with_reducible repeat (first | apply Kd.R_alloc | apply Kd.R_drewN | apply Kd.R_drew)); exact HO323.out) hb); have n1_ := Aside0.mk (Kd.R_below (by (with_reducible repeat (first | apply Kd.R_alloc | apply Kd.R_drewN | apply Kd.R_drew)); exact HO326.out) hb); have n2_ := Aside0.mk (blk_below (g := gb315) (o := .cells #[.int .i64 a1_0, .int .i64 a1_1] 37 (0, 0)) (kq BK315) hb); have n3_ := Aside0.mk (below_step (bs HB GE315) hb); have n4_ := Aside0.mk (hbox); have n5_ := Aside0.mk ((by rw [hg]; exact (below_size (bs HB GE315)) : w.heap.size ≤ gb330)); have n6_ := Aside0.mk ((by rw [hg]; exact (below_size (bs HB GE315)) : w.heap.size ≤ gb330)); have n7_ := Aside0.mk ((by rw [hg]; exact Nat.ne_of_lt (blk_lt (g := gb315) (o := .cells #[.int .i64 a1_0, .int .i64 a1_1] 37 (0, 0)) (kq BK315)) : gb315 ≠ gb330)); have n8_ := Aside0.mk ((by rw [hg]; exact Nat.ne_of_gt (blk_lt (g := gb315) (o := .cells #[.int .i64 a1_0, .int .i64 a1_1] 37 (0, 0)) (kq BK315)) : gb330 ≠ gb315)); clear HO323; clear HO326; clear BK315; clear HB; have HO323 := n0_; have HO326 := n1_; have BK315 := n2_; have HB := n3_; have BK330 := n4_; have GW330 := n5_; have GE330 := n6_; have NB315_330 := n7_; have NB330_315 := n8_; clear n0_ n1_ n2_ n3_ n4_ n5_ n6_ n7_ n8_; clear hb hbox hg; obtain ⟨Ao26, co26, eo26⟩ := Kd.R_slice HO326.out; subst eo26; have hnb27 := NB330_315.out; have hnc27 := NB315_330.out; have hcz28_0 : w25.cell? ⟨gb330, 0, none⟩ = some (.slice none 0 0) := (blk_cell BK330.out 0).trans rfl; have hcz28_1 : w25.cell? ⟨gb330, 1, none⟩ = some (.int .i64 0) := (blk_cell BK330.out 1).trans rfl; have hcz28_2 : w25.cell? ⟨gb330, 2, none⟩ = some (.bool false) := (blk_cell BK330.out 2).trans rfl; have hfz28_0 := blk_frozen BK330.out 0; have hfz28_1 := blk_frozen BK330.out 1; have hfz28_2 := blk_frozen BK330.out 2) | (go_at_call 17; (with_reducible refine (seriflaw19_demerits.calls kj5 _ _ l0 _ _ t324 a1_0 a1_1 t331 t332 _ ?side1 ?side2 ?side3 ?side4 A18.out).mono ?_); (case side1 => exact Kd.C_below HR0.out (by repeat (first | (with_reducible first | exact HB.out | apply below_alloc | apply pw_below_drewN | apply below_drew1 | refine below_set ?_ GE315.out | refine below_set ?_ GE330.out) | exact HB.out))); (case side2 => exact HC0.out); (case side3 => refine (Kd.R_reads' (e := 3) (base := w.heap.size) (ok := fun k_ => True) (n := t324.length) (c := co26) ?_).2.2; exact (by (with_reducible repeat (first | apply Kd.R_alloc | apply Kd.R_drewN | apply Kd.R_drew)); exact (Kd.R_mono (Kd.R_far (p := ⟨gb330, 2, none⟩) (Kd.R_far (p := ⟨gb330, 1, none⟩) (Kd.R_far (p := ⟨gb330, 0, none⟩) (Kd.R_types HO326.out BK330.out (by decide)) (fun _ hk => hk.2) (.slice Ao26 t324.length co26)) (fun _ hk => hk.2) (.int .i64 t327)) (fun _ hk => hk.2) (.bool t328)) (fun _ h_ => h_.1)))); (case side4 => exact (Kd.R_reads' HO326.out).2.1); rintro e w' ⟨rfl, ⟨nd, rfl⟩⟩; (try first | exact ⟨rfl, _, World.drewN_drewN _ _ _⟩ | exact ⟨rfl, _, Eq.trans (World.drewN_drewN _ _ _) (congrArg (World.drewN _) (Nat.add_assoc _ _ _))⟩))); go_upto_region 10 with (first | ((with_reducible refine gate_dst (N := 32) rfl ?_); (try (refine gate_guard (by rfl) ?_; dsimp only)); refine Kd.R_lit k31 _ 31 ?hg (N := 32) ?hd (xs := ([] : List (S31))) (inner := []) (ok := fun _ => True) (okp := fun _ => True) ?hr ?hp (fun _ hk => hk) trivial (Below.refl _ _) (Nat.le_refl _) (by simp) ?_; (case hd => rfl); (case hg => rfl); (case hr => first | (go_simp; done) | (go_simp; rfl)); (case hp => exact (Reps.none _ _)); intro v319 w20 ho21 hb hg_ hnew_; clear hg_ hnew_; (first | rw [← Ny318.out] at ho21 | (simp only [Int.reduceToNat] at ho21; rw [← Ny318.out] at ho21)); have n0_ := Aside0.mk (Kd.R_lower ho21 (below_size (bs HB GE315))); have n1_ := Aside0.mk (blk_below (g := gb315) (o := .cells #[.int .i64 a1_0, .int .i64 a1_1] 37 (0, 0)) (kq BK315) hb); have n2_ := Aside0.mk (below_step (bs HB GE315) hb); clear BK315; clear HB; have HO320 := n0_; have BK315 := n1_; have HB := n2_; clear n0_ n1_ n2_; clear hb ho21) | ((with_reducible refine gate_builtin (b := .append) (xs := #[.tmp 32, .tmp 33]) rfl ?_); (try (refine gate_guard (by rfl) ?_; dsimp only)); at_builtin; refine Kd.R_append_rows k31 (w0 := w) w.heap.size rfl (.tmp 32) (.tmp 33) 23 31 (.agg #[(.int .i64 0), (.int .i64 0), (.int .i64 0), (.int .i64 0), (.int .i64 0), (.bool false)]) 48 rfl Try.underlying23 info31 rfl (by decide) (by omega) v319 y318 l0 _ _ _ (fun _ => True) (fun _ => False) rfl rfl ?aO ?aR (fun _ _ h => h) (fun _ h => h.elim) ?aF ?aB ?aS ?aL ?_; (case aR => repeat (first | exact (Kd.C_below HR0.out HB.out) | (with_reducible refine Kd.C_alloc ?_ _) | (with_reducible refine Kd.C_drewN ?_ _) | (with_reducible refine Kd.C_drew ?_))); (case aB => exact (bs HB GE315)); (case aF => exact (fun _ _ => trivial)); (case aO => exact (by (with_reducible repeat (first | apply Kd.R_alloc | apply Kd.R_drewN | apply Kd.R_drew)); exact HO320.out)); (case aS => exact (below_size (bs HB GE315))); (case aL => have := LMc15.out; omega); intro v322 w22 ho hb hg hat; rw [← Ny321.out] at ho; have n0_ := Aside0.mk (blk_grown (g := gb315) (o := .cells #[.int .i64 a1_0, .int .i64 a1_1] 37 (0, 0)) (kq BK315) hg (Kd.R_ne HO320.out BK315.out (by decide))); have n1_ := Aside0.mk (hb); have n2_ := Aside0.mk (ho); clear BK315; clear HB; clear HO320; have BK315 := n0_; have HB := n1_; have HO323 := n2_; clear n0_ n1_ n2_; clear ho hb hg hat; obtain ⟨Ao23, co23, eo23⟩ := Kd.R_slice HO323.out; subst eo23) | (go_at_call 13; (with_reducible refine (optimal_Best.calls kj5 _ _ y321 a1_0 a1_1 t324 t327 t328 t329 _ ?side1 ?side2 A16.out).mono ?_); (case side1 => repeat (first | exact (Kd.R_reads' HO323.out).2.2 | (with_reducible refine Kd.C_alloc ?_ _) | (with_reducible refine Kd.C_drewN ?_ _) | (with_reducible refine Kd.C_drew ?_))); (case side2 => exact (Kd.R_reads' HO323.out).2.1); rintro e w24 ⟨v325, rfl, ho0, hb⟩; have n0_ := Aside0.mk (Kd.R_below (by (with_reducible repeat (first | apply Kd.R_alloc | apply Kd.R_drewN | apply Kd.R_drew)); exact HO323.out) hb); have n1_ := Aside0.mk (Kd.R_lower ho0 (below_size (bs HB GE315))); have n2_ := Aside0.mk (blk_below (g := gb315) (o := .cells #[.int .i64 a1_0, .int .i64 a1_1] 37 (0, 0)) (kq BK315) hb); have n3_ := Aside0.mk (below_step (bs HB GE315) hb); clear HO323; clear BK315; clear HB; have HO323 := n0_; have HO326 := n1_; have BK315 := n2_; have HB := n3_; clear n0_ n1_ n2_ n3_; (try clear hb); (try clear hb2); (try clear hk); (try clear hi); (try clear ho0)) | ((with_reducible refine gate_dst (N := 9) rfl ?_); (try (refine gate_guard (by rfl) ?_; dsimp only)); refine box_event ?hg (N := 9) ?hd (cs := #[.slice none 0 0, .int .i64 0, .bool false]) (t := 26) ?hr ?_; (case hd => rfl); (case hg => rfl); (case hr => first | (go_simp; done) | (go_simp; rfl)); intro gb330 hg w25 hbox hb; have n0_ := Aside0.mk (Kd.R_below (by (with_reducible repeat (first | apply Kd.R_alloc | apply Kd.R_drewN | apply Kd.R_drew)); exact HO323.out) hb); have n1_ := Aside0.mk (Kd.R_below (by (with_reducible repeat (first | apply Kd.R_alloc | apply Kd.R_drewN | apply Kd.R_drew)); exact HO326.out) hb); have n2_ := Aside0.mk (blk_below (g := gb315) (o := .cells #[.int .i64 a1_0, .int .i64 a1_1] 37 (0, 0)) (kq BK315) hb); have n3_ := Aside0.mk (below_step (bs HB GE315) hb); have n4_ := Aside0.mk (hbox); have n5_ := Aside0.mk ((by rw [hg]; exact (below_size (bs HB GE315)) : w.heap.size ≤ gb330)); have n6_ := Aside0.mk ((by rw [hg]; exact (below_size (bs HB GE315)) : w.heap.size ≤ gb330)); have n7_ := Aside0.mk ((by rw [hg]; exact Nat.ne_of_lt (blk_lt (g := gb315) (o := .cells #[.int .i64 a1_0, .int .i64 a1_1] 37 (0, 0)) (kq BK315)) : gb315 ≠ gb330)); have n8_ := Aside0.mk ((by rw [hg]; exact Nat.ne_of_gt (blk_lt (g := gb315) (o := .cells #[.int .i64 a1_0, .int .i64 a1_1] 37 (0, 0)) (kq BK315)) : gb330 ≠ gb315)); clear HO323; clear HO326; clear BK315; clear HB; have HO323 := n0_; have HO326 := n1_; have BK315 := n2_; have HB := n3_; have BK330 := n4_; have GW330 := n5_; have GE330 := n6_; have NB315_330 := n7_; have NB330_315 := n8_; clear n0_ n1_ n2_ n3_ n4_ n5_ n6_ n7_ n8_; clear hb hbox hg; obtain ⟨Ao26, co26, eo26⟩ := Kd.R_slice HO326.out; subst eo26; have hnb27 := NB330_315.out; have hnc27 := NB315_330.out; have hcz28_0 : w25.cell? ⟨gb330, 0, none⟩ = some (.slice none 0 0) := (blk_cell BK330.out 0).trans rfl; have hcz28_1 : w25.cell? ⟨gb330, 1, none⟩ = some (.int .i64 0) := (blk_cell BK330.out 1).trans rfl; have hcz28_2 : w25.cell? ⟨gb330, 2, none⟩ = some (.bool false) := (blk_cell BK330.out 2).trans rfl; have hfz28_0 := blk_frozen BK330.out 0; have hfz28_1 := blk_frozen BK330.out 1; have hfz28_2 := blk_frozen BK330.out 2) | (go_at_call 17; (with_reducible refine (seriflaw19_demerits.calls kj5 _ _ l0 _ _ t324 a1_0 a1_1 t331 t332 _ ?side1 ?side2 ?side3 ?side4 A18.out).mono ?_); (case side1 => exact Kd.C_below HR0.out (by repeat (first | (with_reducible first | exact HB.out | apply below_alloc | apply pw_below_drewN | apply below_drew1 | refine below_set ?_ GE315.out | refine below_set ?_ GE330.out) | exact HB.out))); (case side2 => exact HC0.out); (case side3 => refine (Kd.R_reads' (e := 3) (base := w.heap.size) (ok := fun k_ => True) (n := t324.length) (c := co26) ?_).2.2; exact (by (with_reducible repeat (first | apply Kd.R_alloc | apply Kd.R_drewN | apply Kd.R_drew)); exact (Kd.R_mono (Kd.R_far (p := ⟨gb330, 2, none⟩) (Kd.R_far (p := ⟨gb330, 1, none⟩) (Kd.R_far (p := ⟨gb330, 0, none⟩) (Kd.R_types HO326.out BK330.out (by decide)) (fun _ hk => hk.2) (.slice Ao26 t324.length co26)) (fun _ hk => hk.2) (.int .i64 t327)) (fun _ hk => hk.2) (.bool t328)) (fun _ h_ => h_.1)))); (case side4 => exact (Kd.R_reads' HO326.out).2.1); rintro e w' ⟨rfl, ⟨nd, rfl⟩⟩; (try first | exact ⟨rfl, _, World.drewN_drewN _ _ _⟩ | exact ⟨rfl, _, Eq.trans (World.drewN_drewN _ _ _) (congrArg (World.drewN _) (Nat.add_assoc _ _ _))⟩))))
       (try simp only [Act.put, List.setIfInBounds_toArray, List.set_cons_zero, List.set_cons_succ])
       go_cut [63] (fun v63 wc => ∃ (kq : Nat) (x63_18 : Bool), v63 = .bool x63_18 ∧ Aside0 (seriflaw19_OptimalLeast.j1 kq l0 l2 a1_0 a1_1 t331 t332 x63_18 t324 t327 t328 = some r) ∧ Aside0 (kq ≤ kj5) ∧ Aside0 (Kd.R (Kd.int .i64) 3 wc w.heap.size (fun _ => True) (.slice Ao26 t324.length co26) t324) ∧ Aside0 (wc.heap[gb315]? = some (.cells #[.int .i64 a1_0, .int .i64 a1_1] 37 (0, 0))) ∧ Aside0 (wc.heap[gb330]? = some (.cells #[(.slice Ao26 t324.length co26), .int .i64 t327, .bool t328] 26 (0, 0))) ∧ Aside0 (Below w.heap.size w wc))
       case first =>
        have H := HC19.out
        clear HC19
        by_cases c29 : (t332 == t328) = true
        ·rw [if_pos c29] at H
         have c29b0 : (t332 == t328) = true := c29
         (try (have c29b1 : decide (t332 = t328) = true := by simpa using c29))
         (try (have c29b2 : (t332 == t328) = true := by simpa using c29))
         clear c29
         (first | rw [c29b0] | (simp only [i64_w, i32_w]; rw [c29b0]) | skip)
         have H' := Aside0.mk H
         clear H
         have hnb30 := NB330_315.out
         have hnc30 := NB315_330.out
         have hcz31_0 : w25.cell? ⟨gb330, 0, none⟩ = some (.slice none 0 0) := (blk_cell BK330.out 0).trans rfl
         have hcz31_1 : w25.cell? ⟨gb330, 1, none⟩ = some (.int .i64 0) := (blk_cell BK330.out 1).trans rfl
         have hcz31_2 : w25.cell? ⟨gb330, 2, none⟩ = some (.bool false) := (blk_cell BK330.out 2).trans rfl
         have hfz31_0 := blk_frozen BK330.out 0
         have hfz31_1 := blk_frozen BK330.out 1
         have hfz31_2 := blk_frozen BK330.out 2
         go_wp2
         repeat (go_quiet (fail); try go_wp2)
         go_meet
         case rel => exact ⟨_, (true), (by first | rfl | (simp; done) | (simp [*]; done)), H', ⟨by have := HJ5.out; first | omega | exact Nat.le_refl _⟩, ⟨by (with_reducible repeat (first | apply Kd.R_alloc | apply Kd.R_drewN | apply Kd.R_drew)); exact Kd.R_mono (Kd.R_far (p := ⟨gb330, 2, none⟩) (Kd.R_far (p := ⟨gb330, 1, none⟩) (Kd.R_far (p := ⟨gb330, 0, none⟩) (Kd.R_types HO326.out BK330.out (by decide)) (fun _ hk => hk.2) (.slice Ao26 t324.length co26)) (fun _ hk => hk.2) (.int .i64 t327)) (fun _ hk => hk.2) (.bool t328)) (fun _ hk => trivial)⟩, ⟨by (with_reducible repeat (first | refine blk_drewN ?_ _ | refine blk_drew ?_ | refine blk_alloc ?_ _)); refine blk_far ?_ NB315_330.out _; (with_reducible repeat (first | refine blk_drewN ?_ _ | refine blk_drew ?_ | refine blk_alloc ?_ _)); refine blk_far ?_ NB315_330.out _; (with_reducible repeat (first | refine blk_drewN ?_ _ | refine blk_drew ?_ | refine blk_alloc ?_ _)); refine blk_far ?_ NB315_330.out _; (with_reducible repeat (first | refine blk_drewN ?_ _ | refine blk_drew ?_ | refine blk_alloc ?_ _)); exact BK315.out⟩, ⟨by (with_reducible repeat (first | refine blk_drewN ?_ _ | refine blk_drew ?_ | refine blk_alloc ?_ _)); refine blk_put (cs := #[.slice Ao26 t324.length co26, .int .i64 t327, .bool false]) ?_ 2 _ rfl; (with_reducible repeat (first | refine blk_drewN ?_ _ | refine blk_drew ?_ | refine blk_alloc ?_ _)); refine blk_put (cs := #[.slice Ao26 t324.length co26, .int .i64 0, .bool false]) ?_ 1 _ rfl; (with_reducible repeat (first | refine blk_drewN ?_ _ | refine blk_drew ?_ | refine blk_alloc ?_ _)); refine blk_put (cs := #[.slice none 0 0, .int .i64 0, .bool false]) ?_ 0 _ rfl; (with_reducible repeat (first | refine blk_drewN ?_ _ | refine blk_drew ?_ | refine blk_alloc ?_ _)); exact BK330.out⟩, ⟨by repeat (first | (with_reducible first | exact HB.out | apply below_alloc | apply pw_below_drewN | apply below_drew1 | refine below_set ?_ GE315.out | refine below_set ?_ GE330.out) | exact HB.out)⟩⟩
        ·rw [if_neg c29] at H
         have c29b0 : (t332 == t328) = false := by simpa using c29
         (try (have c29b1 : decide (t332 = t328) = false := by simpa using c29))
         (try (have c29b2 : (t332 == t328) = false := by simpa using c29))
         (try (have c29b3 : ¬ (t332 = t328) := by simpa using c29))
         clear c29
         (first | rw [c29b0] | (simp only [i64_w, i32_w]; rw [c29b0]) | skip)
         by_cases c32 : t332 = true
         ·subst c32
          have H1 : (seriflaw19_OptimalLeast.j1 kj5 l0 l2 a1_0 a1_1 t331 true (t331 != t327) t324 t327 t328) = some r := by rw [if_pos rfl] at H; exact H
          clear H
          have H := H1
          clear H1
          have H' := Aside0.mk H
          clear H
          have hnb33 := NB330_315.out
          have hnc33 := NB315_330.out
          have hcz34_0 : w25.cell? ⟨gb330, 0, none⟩ = some (.slice none 0 0) := (blk_cell BK330.out 0).trans rfl
          have hcz34_1 : w25.cell? ⟨gb330, 1, none⟩ = some (.int .i64 0) := (blk_cell BK330.out 1).trans rfl
          have hcz34_2 : w25.cell? ⟨gb330, 2, none⟩ = some (.bool false) := (blk_cell BK330.out 2).trans rfl
          have hfz34_0 := blk_frozen BK330.out 0
          have hfz34_1 := blk_frozen BK330.out 1
          have hfz34_2 := blk_frozen BK330.out 2
          go_wp2
          repeat (go_quiet (fail); try go_wp2)
          go_meet
          case rel => exact ⟨_, ((t331 != t327)), (by first | rfl | (simp; done) | (simp [*]; done)), H', ⟨by have := HJ5.out; first | omega | exact Nat.le_refl _⟩, ⟨by (with_reducible repeat (first | apply Kd.R_alloc | apply Kd.R_drewN | apply Kd.R_drew)); exact Kd.R_mono (Kd.R_far (p := ⟨gb330, 2, none⟩) (Kd.R_far (p := ⟨gb330, 1, none⟩) (Kd.R_far (p := ⟨gb330, 0, none⟩) (Kd.R_types HO326.out BK330.out (by decide)) (fun _ hk => hk.2) (.slice Ao26 t324.length co26)) (fun _ hk => hk.2) (.int .i64 t327)) (fun _ hk => hk.2) (.bool t328)) (fun _ hk => trivial)⟩, ⟨by (with_reducible repeat (first | refine blk_drewN ?_ _ | refine blk_drew ?_ | refine blk_alloc ?_ _)); refine blk_far ?_ NB315_330.out _; (with_reducible repeat (first | refine blk_drewN ?_ _ | refine blk_drew ?_ | refine blk_alloc ?_ _)); refine blk_far ?_ NB315_330.out _; (with_reducible repeat (first | refine blk_drewN ?_ _ | refine blk_drew ?_ | refine blk_alloc ?_ _)); refine blk_far ?_ NB315_330.out _; (with_reducible repeat (first | refine blk_drewN ?_ _ | refine blk_drew ?_ | refine blk_alloc ?_ _)); exact BK315.out⟩, ⟨by (with_reducible repeat (first | refine blk_drewN ?_ _ | refine blk_drew ?_ | refine blk_alloc ?_ _)); refine blk_put (cs := #[.slice Ao26 t324.length co26, .int .i64 t327, .bool false]) ?_ 2 _ rfl; (with_reducible repeat (first | refine blk_drewN ?_ _ | refine blk_drew ?_ | refine blk_alloc ?_ _)); refine blk_put (cs := #[.slice Ao26 t324.length co26, .int .i64 0, .bool false]) ?_ 1 _ rfl; (with_reducible repeat (first | refine blk_drewN ?_ _ | refine blk_drew ?_ | refine blk_alloc ?_ _)); refine blk_put (cs := #[.slice none 0 0, .int .i64 0, .bool false]) ?_ 0 _ rfl; (with_reducible repeat (first | refine blk_drewN ?_ _ | refine blk_drew ?_ | refine blk_alloc ?_ _)); exact BK330.out⟩, ⟨by repeat (first | (with_reducible first | exact HB.out | apply below_alloc | apply pw_below_drewN | apply below_drew1 | refine below_set ?_ GE315.out | refine below_set ?_ GE330.out) | exact HB.out)⟩⟩
         ·replace c32 := Bool.eq_false_iff.mpr c32
          subst c32
          have H1 : (seriflaw19_OptimalLeast.j1 kj5 l0 l2 a1_0 a1_1 t331 false false t324 t327 t328) = some r := by rw [if_neg (show ¬ (false = true) by decide)] at H; exact H
          clear H
          have H := H1
          clear H1
          have H' := Aside0.mk H
          clear H
          have hnb35 := NB330_315.out
          have hnc35 := NB315_330.out
          have hcz36_0 : w25.cell? ⟨gb330, 0, none⟩ = some (.slice none 0 0) := (blk_cell BK330.out 0).trans rfl
          have hcz36_1 : w25.cell? ⟨gb330, 1, none⟩ = some (.int .i64 0) := (blk_cell BK330.out 1).trans rfl
          have hcz36_2 : w25.cell? ⟨gb330, 2, none⟩ = some (.bool false) := (blk_cell BK330.out 2).trans rfl
          have hfz36_0 := blk_frozen BK330.out 0
          have hfz36_1 := blk_frozen BK330.out 1
          have hfz36_2 := blk_frozen BK330.out 2
          go_wp2
          repeat (go_quiet (fail); try go_wp2)
          go_meet
          case rel => exact ⟨_, (false), (by first | rfl | (simp; done) | (simp [*]; done)), H', ⟨by have := HJ5.out; first | omega | exact Nat.le_refl _⟩, ⟨by (with_reducible repeat (first | apply Kd.R_alloc | apply Kd.R_drewN | apply Kd.R_drew)); exact Kd.R_mono (Kd.R_far (p := ⟨gb330, 2, none⟩) (Kd.R_far (p := ⟨gb330, 1, none⟩) (Kd.R_far (p := ⟨gb330, 0, none⟩) (Kd.R_types HO326.out BK330.out (by decide)) (fun _ hk => hk.2) (.slice Ao26 t324.length co26)) (fun _ hk => hk.2) (.int .i64 t327)) (fun _ hk => hk.2) (.bool t328)) (fun _ hk => trivial)⟩, ⟨by (with_reducible repeat (first | refine blk_drewN ?_ _ | refine blk_drew ?_ | refine blk_alloc ?_ _)); refine blk_far ?_ NB315_330.out _; (with_reducible repeat (first | refine blk_drewN ?_ _ | refine blk_drew ?_ | refine blk_alloc ?_ _)); refine blk_far ?_ NB315_330.out _; (with_reducible repeat (first | refine blk_drewN ?_ _ | refine blk_drew ?_ | refine blk_alloc ?_ _)); refine blk_far ?_ NB315_330.out _; (with_reducible repeat (first | refine blk_drewN ?_ _ | refine blk_drew ?_ | refine blk_alloc ?_ _)); exact BK315.out⟩, ⟨by (with_reducible repeat (first | refine blk_drewN ?_ _ | refine blk_drew ?_ | refine blk_alloc ?_ _)); refine blk_put (cs := #[.slice Ao26 t324.length co26, .int .i64 t327, .bool false]) ?_ 2 _ rfl; (with_reducible repeat (first | refine blk_drewN ?_ _ | refine blk_drew ?_ | refine blk_alloc ?_ _)); refine blk_put (cs := #[.slice Ao26 t324.length co26, .int .i64 0, .bool false]) ?_ 1 _ rfl; (with_reducible repeat (first | refine blk_drewN ?_ _ | refine blk_drew ?_ | refine blk_alloc ?_ _)); refine blk_put (cs := #[.slice none 0 0, .int .i64 0, .bool false]) ?_ 0 _ rfl; (with_reducible repeat (first | refine blk_drewN ?_ _ | refine blk_drew ?_ | refine blk_alloc ?_ _)); exact BK330.out⟩, ⟨by repeat (first | (with_reducible first | exact HB.out | apply below_alloc | apply pw_below_drewN | apply below_drew1 | refine below_set ?_ GE315.out | refine below_set ?_ GE330.out) | exact HB.out)⟩⟩
       case rest =>
        clear HC19
        try clear c1
        try clear c2
        try clear p2
        try clear c3
        try clear c5
        try clear c11
        try clear c11b0
        try clear c11b1
        try clear c14
        try clear c15
        try clear c17
        try clear c17b0
        try clear c17b1
        try clear c27
        try clear c29
        try clear c29b0
        try clear c29b1
        try clear c29b2
        try clear c30
        try clear c32
        try clear c33
        try clear c35
        try clear hcz28_0
        try clear hcz28_1
        try clear hcz28_2
        try clear hcz31_0
        try clear hcz31_1
        try clear hcz31_2
        try clear hcz34_0
        try clear hcz34_1
        try clear hcz34_2
        try clear hcz36_0
        try clear hcz36_1
        try clear hcz36_2
        try clear hcz9_0
        try clear hcz9_1
        try clear hfz28_0
        try clear hfz28_1
        try clear hfz28_2
        try clear hfz31_0
        try clear hfz31_1
        try clear hfz31_2
        try clear hfz34_0
        try clear hfz34_1
        try clear hfz34_2
        try clear hfz36_0
        try clear hfz36_1
        try clear hfz36_2
        try clear hfz9_0
        try clear hfz9_1
        try clear p2
        obtain ⟨kq, x63_18, rfl, HA, HJ18, HO_331000, BK315, BK330, HB⟩ := hcut
        cases kq with
        | zero => exact absurd HA.out (by simp [seriflaw19_OptimalLeast.j1])
        | succ kj18 =>
         have H := HA.out
         clear HA
         simp only [seriflaw19_OptimalLeast.j1] at H
         by_cases c37 : x63_18 = true
         ·subst c37
          have H1 : (none) = some r := by rw [if_pos rfl] at H; exact H
          clear H
          have H := H1
          clear H1
          exact absurd H (by simp)
         ·replace c37 := Bool.eq_false_iff.mpr c37
          subst c37
          have H1 : ((seriflaw19_demerits.f kj18 l0 l2 a1_0 a1_1).bind fun bt333 => (if bt333.2 = true then (if t332 = true then (if t331 < bt333.1 then (some true) else (if t331 = bt333.1 then ((serifref19_Sooner.f kj18 l2 t324).bind fun t335 => (some (!t335))) else (none))) else (none)) else (some true))) = some r := by rw [if_neg (show ¬ (false = true) by decide)] at H; exact H
          clear H
          have H := H1
          clear H1
          replace H := Option.bind_eq_some_iff.mp H
          obtain ⟨⟨t333, t334⟩, A380, H⟩ := H
          replace H : (if t334 = true then (if t332 = true then (if t331 < t333 then (some true) else (if t331 = t333 then ((serifref19_Sooner.f kj18 l2 t324).bind fun t335 => (some (!t335))) else (none))) else (none)) else (some true)) = some r := H
          have A38 := Aside0.mk A380
          clear A380
          by_cases c39 : t334 = true
          ·subst c39
           have H1 : (if t332 = true then (if t331 < t333 then (some true) else (if t331 = t333 then ((serifref19_Sooner.f kj18 l2 t324).bind fun t335 => (some (!t335))) else (none))) else (none)) = some r := by rw [if_pos rfl] at H; exact H
           clear H
           have H := H1
           clear H1
           by_cases c40 : t332 = true
           ·subst c40
            have H1 : (if t331 < t333 then (some true) else (if t331 = t333 then ((serifref19_Sooner.f kj18 l2 t324).bind fun t335 => (some (!t335))) else (none))) = some r := by rw [if_pos rfl] at H; exact H
            clear H
            have H := H1
            clear H1
            by_cases c41 : t331 < t333
            ·rw [if_pos c41] at H
             have c41b0 : decide (t331 < t333) = true := decide_eq_true c41
             clear c41
             obtain rfl := Option.some.inj H
             go_wp2_with (first | (go_at_call 17; (with_reducible refine (seriflaw19_demerits.calls kj18 _ _ l0 _ _ l2 a1_0 a1_1 t333 true _ ?side1 ?side2 ?side3 ?side4 A38.out).mono ?_); (case side1 => repeat (first | exact (Kd.C_below HR0.out HB.out) | (with_reducible refine Kd.C_alloc ?_ _) | (with_reducible refine Kd.C_drewN ?_ _) | (with_reducible refine Kd.C_drew ?_))); (case side2 => exact HC0.out); (case side3 => repeat (first | exact (Kd.C_below HR2.out HB.out) | (with_reducible refine Kd.C_alloc ?_ _) | (with_reducible refine Kd.C_drewN ?_ _) | (with_reducible refine Kd.C_drew ?_))); (case side4 => exact HC2.out); rintro e w' ⟨rfl, ⟨nd, rfl⟩⟩; (try first | exact ⟨rfl, _, World.drewN_drewN _ _ _⟩ | exact ⟨rfl, _, Eq.trans (World.drewN_drewN _ _ _) (congrArg (World.drewN _) (Nat.add_assoc _ _ _))⟩)))
             repeat (go_quiet (first | (go_at_call 17; (with_reducible refine (seriflaw19_demerits.calls kj18 _ _ l0 _ _ l2 a1_0 a1_1 t333 true _ ?side1 ?side2 ?side3 ?side4 A38.out).mono ?_); (case side1 => repeat (first | exact (Kd.C_below HR0.out HB.out) | (with_reducible refine Kd.C_alloc ?_ _) | (with_reducible refine Kd.C_drewN ?_ _) | (with_reducible refine Kd.C_drew ?_))); (case side2 => exact HC0.out); (case side3 => repeat (first | exact (Kd.C_below HR2.out HB.out) | (with_reducible refine Kd.C_alloc ?_ _) | (with_reducible refine Kd.C_drewN ?_ _) | (with_reducible refine Kd.C_drew ?_))); (case side4 => exact HC2.out); rintro e w' ⟨rfl, ⟨nd, rfl⟩⟩; (try first | exact ⟨rfl, _, World.drewN_drewN _ _ _⟩ | exact ⟨rfl, _, Eq.trans (World.drewN_drewN _ _ _) (congrArg (World.drewN _) (Nat.add_assoc _ _ _))⟩))); try go_wp2_with (first | (go_at_call 17; (with_reducible refine (seriflaw19_demerits.calls kj18 _ _ l0 _ _ l2 a1_0 a1_1 t333 true _ ?side1 ?side2 ?side3 ?side4 A38.out).mono ?_); (case side1 => repeat (first | exact (Kd.C_below HR0.out HB.out) | (with_reducible refine Kd.C_alloc ?_ _) | (with_reducible refine Kd.C_drewN ?_ _) | (with_reducible refine Kd.C_drew ?_))); (case side2 => exact HC0.out); (case side3 => repeat (first | exact (Kd.C_below HR2.out HB.out) | (with_reducible refine Kd.C_alloc ?_ _) | (with_reducible refine Kd.C_drewN ?_ _) | (with_reducible refine Kd.C_drew ?_))); (case side4 => exact HC2.out); rintro e w' ⟨rfl, ⟨nd, rfl⟩⟩; (try first | exact ⟨rfl, _, World.drewN_drewN _ _ _⟩ | exact ⟨rfl, _, Eq.trans (World.drewN_drewN _ _ _) (congrArg (World.drewN _) (Nat.add_assoc _ _ _))⟩))))
             go_ret
             exact ⟨by first | rfl | (simp [errW_none, errW_some] <;> rfl) | (simp [*, errW_none, errW_some] <;> rfl), by repeat (first | (with_reducible first | exact HB.out | apply below_alloc | apply pw_below_drewN | apply below_drew1 | refine below_set ?_ GE315.out | refine below_set ?_ GE330.out) | exact HB.out)⟩
            ·rw [if_neg c41] at H
             have c41b0 : decide (t331 < t333) = false := decide_eq_false c41
             clear c41
             by_cases c42 : t331 = t333
             ·rw [if_pos c42] at H
              have c42b0 : (t331 == t333) = true := beq_iff_eq.mpr c42
              have c42b1 : (t331 != t333) = false := bne_eq_false_iff_eq.mpr c42
              clear c42
              replace H := Option.bind_eq_some_iff.mp H
              obtain ⟨t335, A430, H⟩ := H
              replace H : (some (!t335)) = some r := H
              have A43 := Aside0.mk A430
              clear A430
              obtain rfl := Option.some.inj H
              go_wp2_with (first | (go_at_call 17; (with_reducible refine (seriflaw19_demerits.calls kj18 _ _ l0 _ _ l2 a1_0 a1_1 t333 true _ ?side1 ?side2 ?side3 ?side4 A38.out).mono ?_); (case side1 => repeat (first | exact (Kd.C_below HR0.out HB.out) | (with_reducible refine Kd.C_alloc ?_ _) | (with_reducible refine Kd.C_drewN ?_ _) | (with_reducible refine Kd.C_drew ?_))); (case side2 => exact HC0.out); (case side3 => repeat (first | exact (Kd.C_below HR2.out HB.out) | (with_reducible refine Kd.C_alloc ?_ _) | (with_reducible refine Kd.C_drewN ?_ _) | (with_reducible refine Kd.C_drew ?_))); (case side4 => exact HC2.out); rintro e w' ⟨rfl, ⟨nd, rfl⟩⟩; (try first | exact ⟨rfl, _, World.drewN_drewN _ _ _⟩ | exact ⟨rfl, _, Eq.trans (World.drewN_drewN _ _ _) (congrArg (World.drewN _) (Nat.add_assoc _ _ _))⟩); have hnb44 := NB330_315.out; have hnc44 := NB315_330.out; have hcz45_0 : wc.cell? ⟨gb330, 0, none⟩ = some (.slice Ao26 t324.length co26) := (blk_cell BK330.out 0).trans rfl; have hcz45_1 : wc.cell? ⟨gb330, 1, none⟩ = some (.int .i64 t327) := (blk_cell BK330.out 1).trans rfl; have hcz45_2 : wc.cell? ⟨gb330, 2, none⟩ = some (.bool t328) := (blk_cell BK330.out 2).trans rfl; have hfz45_0 := blk_frozen BK330.out 0; have hfz45_1 := blk_frozen BK330.out 1; have hfz45_2 := blk_frozen BK330.out 2) | (go_at_call 18; (with_reducible refine (serifref19_Sooner.calls kj18 _ _ l2 _ _ t324 t335 _ ?side1 ?side2 ?side3 ?side4 A43.out).mono ?_); (case side1 => repeat (first | exact (Kd.C_below HR2.out (by repeat (first | (with_reducible first | exact HB.out | apply below_alloc | apply pw_below_drewN | apply below_drew1 | refine below_set ?_ GE315.out | refine below_set ?_ GE330.out) | exact HB.out))) | (with_reducible refine Kd.C_alloc ?_ _) | (with_reducible refine Kd.C_drewN ?_ _) | (with_reducible refine Kd.C_drew ?_))); (case side2 => exact HC2.out); (case side3 => repeat (first | exact (Kd.R_reads' HO_331000.out).2.2 | (with_reducible refine Kd.C_alloc ?_ _) | (with_reducible refine Kd.C_drewN ?_ _) | (with_reducible refine Kd.C_drew ?_))); (case side4 => exact (Kd.R_reads' HO_331000.out).2.1); rintro e w' ⟨rfl, ⟨nd, rfl⟩⟩; (try first | exact ⟨rfl, _, World.drewN_drewN _ _ _⟩ | exact ⟨rfl, _, Eq.trans (World.drewN_drewN _ _ _) (congrArg (World.drewN _) (Nat.add_assoc _ _ _))⟩)))
              repeat (go_quiet (first | (go_at_call 17; (with_reducible refine (seriflaw19_demerits.calls kj18 _ _ l0 _ _ l2 a1_0 a1_1 t333 true _ ?side1 ?side2 ?side3 ?side4 A38.out).mono ?_); (case side1 => repeat (first | exact (Kd.C_below HR0.out HB.out) | (with_reducible refine Kd.C_alloc ?_ _) | (with_reducible refine Kd.C_drewN ?_ _) | (with_reducible refine Kd.C_drew ?_))); (case side2 => exact HC0.out); (case side3 => repeat (first | exact (Kd.C_below HR2.out HB.out) | (with_reducible refine Kd.C_alloc ?_ _) | (with_reducible refine Kd.C_drewN ?_ _) | (with_reducible refine Kd.C_drew ?_))); (case side4 => exact HC2.out); rintro e w' ⟨rfl, ⟨nd, rfl⟩⟩; (try first | exact ⟨rfl, _, World.drewN_drewN _ _ _⟩ | exact ⟨rfl, _, Eq.trans (World.drewN_drewN _ _ _) (congrArg (World.drewN _) (Nat.add_assoc _ _ _))⟩); have hnb44 := NB330_315.out; have hnc44 := NB315_330.out; have hcz45_0 : wc.cell? ⟨gb330, 0, none⟩ = some (.slice Ao26 t324.length co26) := (blk_cell BK330.out 0).trans rfl; have hcz45_1 : wc.cell? ⟨gb330, 1, none⟩ = some (.int .i64 t327) := (blk_cell BK330.out 1).trans rfl; have hcz45_2 : wc.cell? ⟨gb330, 2, none⟩ = some (.bool t328) := (blk_cell BK330.out 2).trans rfl; have hfz45_0 := blk_frozen BK330.out 0; have hfz45_1 := blk_frozen BK330.out 1; have hfz45_2 := blk_frozen BK330.out 2) | (go_at_call 18; (with_reducible refine (serifref19_Sooner.calls kj18 _ _ l2 _ _ t324 t335 _ ?side1 ?side2 ?side3 ?side4 A43.out).mono ?_); (case side1 => repeat (first | exact (Kd.C_below HR2.out (by repeat (first | (with_reducible first | exact HB.out | apply below_alloc | apply pw_below_drewN | apply below_drew1 | refine below_set ?_ GE315.out | refine below_set ?_ GE330.out) | exact HB.out))) | (with_reducible refine Kd.C_alloc ?_ _) | (with_reducible refine Kd.C_drewN ?_ _) | (with_reducible refine Kd.C_drew ?_))); (case side2 => exact HC2.out); (case side3 => repeat (first | exact (Kd.R_reads' HO_331000.out).2.2 | (with_reducible refine Kd.C_alloc ?_ _) | (with_reducible refine Kd.C_drewN ?_ _) | (with_reducible refine Kd.C_drew ?_))); (case side4 => exact (Kd.R_reads' HO_331000.out).2.1); rintro e w' ⟨rfl, ⟨nd, rfl⟩⟩; (try first | exact ⟨rfl, _, World.drewN_drewN _ _ _⟩ | exact ⟨rfl, _, Eq.trans (World.drewN_drewN _ _ _) (congrArg (World.drewN _) (Nat.add_assoc _ _ _))⟩))); try go_wp2_with (first | (go_at_call 17; (with_reducible refine (seriflaw19_demerits.calls kj18 _ _ l0 _ _ l2 a1_0 a1_1 t333 true _ ?side1 ?side2 ?side3 ?side4 A38.out).mono ?_); (case side1 => repeat (first | exact (Kd.C_below HR0.out HB.out) | (with_reducible refine Kd.C_alloc ?_ _) | (with_reducible refine Kd.C_drewN ?_ _) | (with_reducible refine Kd.C_drew ?_))); (case side2 => exact HC0.out); (case side3 => repeat (first | exact (Kd.C_below HR2.out HB.out) | (with_reducible refine Kd.C_alloc ?_ _) | (with_reducible refine Kd.C_drewN ?_ _) | (with_reducible refine Kd.C_drew ?_))); (case side4 => exact HC2.out); rintro e w' ⟨rfl, ⟨nd, rfl⟩⟩; (try first | exact ⟨rfl, _, World.drewN_drewN _ _ _⟩ | exact ⟨rfl, _, Eq.trans (World.drewN_drewN _ _ _) (congrArg (World.drewN _) (Nat.add_assoc _ _ _))⟩); have hnb44 := NB330_315.out; have hnc44 := NB315_330.out; have hcz45_0 : wc.cell? ⟨gb330, 0, none⟩ = some (.slice Ao26 t324.length co26) := (blk_cell BK330.out 0).trans rfl; have hcz45_1 : wc.cell? ⟨gb330, 1, none⟩ = some (.int .i64 t327) := (blk_cell BK330.out 1).trans rfl; have hcz45_2 : wc.cell? ⟨gb330, 2, none⟩ = some (.bool t328) := (blk_cell BK330.out 2).trans rfl; have hfz45_0 := blk_frozen BK330.out 0; have hfz45_1 := blk_frozen BK330.out 1; have hfz45_2 := blk_frozen BK330.out 2) | (go_at_call 18; (with_reducible refine (serifref19_Sooner.calls kj18 _ _ l2 _ _ t324 t335 _ ?side1 ?side2 ?side3 ?side4 A43.out).mono ?_); (case side1 => repeat (first | exact (Kd.C_below HR2.out (by repeat (first | (with_reducible first | exact HB.out | apply below_alloc | apply pw_below_drewN | apply below_drew1 | refine below_set ?_ GE315.out | refine below_set ?_ GE330.out) | exact HB.out))) | (with_reducible refine Kd.C_alloc ?_ _) | (with_reducible refine Kd.C_drewN ?_ _) | (with_reducible refine Kd.C_drew ?_))); (case side2 => exact HC2.out); (case side3 => repeat (first | exact (Kd.R_reads' HO_331000.out).2.2 | (with_reducible refine Kd.C_alloc ?_ _) | (with_reducible refine Kd.C_drewN ?_ _) | (with_reducible refine Kd.C_drew ?_))); (case side4 => exact (Kd.R_reads' HO_331000.out).2.1); rintro e w' ⟨rfl, ⟨nd, rfl⟩⟩; (try first | exact ⟨rfl, _, World.drewN_drewN _ _ _⟩ | exact ⟨rfl, _, Eq.trans (World.drewN_drewN _ _ _) (congrArg (World.drewN _) (Nat.add_assoc _ _ _))⟩))))
              go_ret
              exact ⟨by first | rfl | (simp [errW_none, errW_some] <;> rfl) | (simp [*, errW_none, errW_some] <;> rfl), by repeat (first | (with_reducible first | exact HB.out | apply below_alloc | apply pw_below_drewN | apply below_drew1 | refine below_set ?_ GE315.out | refine below_set ?_ GE330.out) | exact HB.out)⟩
             ·rw [if_neg c42] at H
              exact absurd H (by simp)
           ·replace c40 := Bool.eq_false_iff.mpr c40
            subst c40
            have H1 : (none) = some r := by rw [if_neg (show ¬ (false = true) by decide)] at H; exact H
            clear H
            have H := H1
            clear H1
            exact absurd H (by simp)
          ·replace c39 := Bool.eq_false_iff.mpr c39
           subst c39
           have H1 : (some true) = some r := by rw [if_neg (show ¬ (false = true) by decide)] at H; exact H
           clear H
           have H := H1
           clear H1
           obtain rfl := Option.some.inj H
           go_wp2_with (first | (go_at_call 17; (with_reducible refine (seriflaw19_demerits.calls kj18 _ _ l0 _ _ l2 a1_0 a1_1 t333 false _ ?side1 ?side2 ?side3 ?side4 A38.out).mono ?_); (case side1 => repeat (first | exact (Kd.C_below HR0.out HB.out) | (with_reducible refine Kd.C_alloc ?_ _) | (with_reducible refine Kd.C_drewN ?_ _) | (with_reducible refine Kd.C_drew ?_))); (case side2 => exact HC0.out); (case side3 => repeat (first | exact (Kd.C_below HR2.out HB.out) | (with_reducible refine Kd.C_alloc ?_ _) | (with_reducible refine Kd.C_drewN ?_ _) | (with_reducible refine Kd.C_drew ?_))); (case side4 => exact HC2.out); rintro e w' ⟨rfl, ⟨nd, rfl⟩⟩; (try first | exact ⟨rfl, _, World.drewN_drewN _ _ _⟩ | exact ⟨rfl, _, Eq.trans (World.drewN_drewN _ _ _) (congrArg (World.drewN _) (Nat.add_assoc _ _ _))⟩)))
           repeat (go_quiet (first | (go_at_call 17; (with_reducible refine (seriflaw19_demerits.calls kj18 _ _ l0 _ _ l2 a1_0 a1_1 t333 false _ ?side1 ?side2 ?side3 ?side4 A38.out).mono ?_); (case side1 => repeat (first | exact (Kd.C_below HR0.out HB.out) | (with_reducible refine Kd.C_alloc ?_ _) | (with_reducible refine Kd.C_drewN ?_ _) | (with_reducible refine Kd.C_drew ?_))); (case side2 => exact HC0.out); (case side3 => repeat (first | exact (Kd.C_below HR2.out HB.out) | (with_reducible refine Kd.C_alloc ?_ _) | (with_reducible refine Kd.C_drewN ?_ _) | (with_reducible refine Kd.C_drew ?_))); (case side4 => exact HC2.out); rintro e w' ⟨rfl, ⟨nd, rfl⟩⟩; (try first | exact ⟨rfl, _, World.drewN_drewN _ _ _⟩ | exact ⟨rfl, _, Eq.trans (World.drewN_drewN _ _ _) (congrArg (World.drewN _) (Nat.add_assoc _ _ _))⟩))); try go_wp2_with (first | (go_at_call 17; (with_reducible refine (seriflaw19_demerits.calls kj18 _ _ l0 _ _ l2 a1_0 a1_1 t333 false _ ?side1 ?side2 ?side3 ?side4 A38.out).mono ?_); (case side1 => repeat (first | exact (Kd.C_below HR0.out HB.out) | (with_reducible refine Kd.C_alloc ?_ _) | (with_reducible refine Kd.C_drewN ?_ _) | (with_reducible refine Kd.C_drew ?_))); (case side2 => exact HC0.out); (case side3 => repeat (first | exact (Kd.C_below HR2.out HB.out) | (with_reducible refine Kd.C_alloc ?_ _) | (with_reducible refine Kd.C_drewN ?_ _) | (with_reducible refine Kd.C_drew ?_))); (case side4 => exact HC2.out); rintro e w' ⟨rfl, ⟨nd, rfl⟩⟩; (try first | exact ⟨rfl, _, World.drewN_drewN _ _ _⟩ | exact ⟨rfl, _, Eq.trans (World.drewN_drewN _ _ _) (congrArg (World.drewN _) (Nat.add_assoc _ _ _))⟩))))
           go_ret
           exact ⟨by first | rfl | (simp [errW_none, errW_some] <;> rfl) | (simp [*, errW_none, errW_some] <;> rfl), by repeat (first | (with_reducible first | exact HB.out | apply below_alloc | apply pw_below_drewN | apply below_drew1 | refine below_set ?_ GE315.out | refine below_set ?_ GE330.out) | exact HB.out)⟩
      ·rw [if_neg c17] at H
       exact absurd H (by simp)
     ·rw [if_neg c15] at H
      exact absurd H (by simp)
 ·replace c5 := Bool.eq_false_iff.mpr c5
  subst c5
  have H1 : (none) = some r := by rw [if_neg (show ¬ (false = true) by decide)] at H; exact H
  clear H
  have H := H1
  clear H1
  exact absurd H (by simp)

def okS37 (x : S37) : Prop := (Lit.int .i64 x.f0).wf = true ∧ (Lit.int .i64 x.f1).wf = true
/-- THE ONE PURE STATEMENT of seriflaw19_OptimalLeast: yours. -/
def seriflaw19_OptimalLeast.Pure : Prop := ∀ (l0 : List (S31)) (x1 : S37) (l2 : List Int), (l0.length ≤ 9223372036854775807 ∧ l0.length * 48 ≤ 140737488351232 ∧ ∀ y1_ ∈ l0, okS31 y1_) → (okS37 x1) → (l2.length ≤ 9223372036854775807 ∧ l2.length * 8 ≤ 140737488351232 ∧ ∀ y1_ ∈ l2, (Lit.int .i64 y1_).wf = true) → ∃ k, seriflaw19_OptimalLeast.f k l0 x1.f0 x1.f1 l2 = some true

end Go.Proofs.Ytfbanppdiglciaa.X
