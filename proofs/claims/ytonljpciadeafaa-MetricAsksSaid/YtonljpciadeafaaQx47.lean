-- written by a program of this session (wip/xprint.py) over the kit's print
import Derived.Test.YtonljpciadeafaaQx0
import Derived.Test.YtonljpciadeafaaQx45
namespace Go.Proofs.Ytonljpciadeafaa.Q
open Go.RowKit Go.Proofs.YtonljpciadeafaaW.PrintWords Go.Proofs.YtonljpciadeafaaW.PrintLast Go.Proofs.YtonljpciadeafaaW.PrintMore
attribute [local go_sem] max2_int min2_int max_two min_two max_three min_three max_four min_four   -- for this text's walks alone
set_option linter.unusedVariables false
set_option linter.unusedSimpArgs false

/-! ### metric_Place: function 24 -/
def metric_Place.j0 : Nat → Int → Bool → Int → Int → Int → Int → Int → Int → List Int → List Int → List Int → Option (Int × Int × Int)
 | 0, _, _, _, _, _, _, _, _, _, _, _ => none
 | k + 1, x1, x7, x252000, x252001, x252002, x252003, x252004, x252005, x252006, x252007, x252008 => if x7 = true then (some (0, 0, 45)) else (if (x252008.length : Int) = 0 then (some (0, 0, 0)) else (if 0 ≤ x1 then (if x1 < (x252008.length : Int) then (if 0 ≤ (wrap64 (x1 + 1)) then (if (wrap64 (x1 + 1)) < (x252008.length : Int) then (some (rd x252008 x1, wrap64 ((rd x252008 (wrap64 (x1 + 1))) - (rd x252008 x1)), 0)) else (none)) else (none)) else (none)) else (none)))
def metric_Place.f (k : Nat) (a0_0 : Int) (a0_1 : Int) (a0_2 : Int) (a0_3 : Int) (a0_4 : Int) (a0_5 : Int) (l0_6 : List Int) (l0_7 : List Int) (l0_8 : List Int) (a1 : Int) : Option (Int × Int × Int) := (metric_has.f a0_0 a0_1 a0_2 a0_3 a0_4 a0_5 l0_6 l0_7 l0_8 a1).bind fun t252 => (if t252 = true then (if (l0_6.length : Int) < a0_2 then (metric_Place.j0 k a1 true a0_0 a0_1 a0_2 a0_3 a0_4 a0_5 l0_6 l0_7 l0_8) else (if (l0_8.length : Int) > 0 then (metric_Place.j0 k a1 ((wrap64 ((l0_8.length : Int) - 1)) != a0_2) a0_0 a0_1 a0_2 a0_3 a0_4 a0_5 l0_6 l0_7 l0_8) else (metric_Place.j0 k a1 false a0_0 a0_1 a0_2 a0_3 a0_4 a0_5 l0_6 l0_7 l0_8))) else (metric_Place.j0 k a1 true a0_0 a0_1 a0_2 a0_3 a0_4 a0_5 l0_6 l0_7 l0_8))
theorem metric_Place.mono_l : ∀ k, (∀ y0 y1 y2 y3 y4 y5 y6 y7 y8 y9 y10, LeO (metric_Place.j0 k y0 y1 y2 y3 y4 y5 y6 y7 y8 y9 y10) (metric_Place.j0 (k + 1) y0 y1 y2 y3 y4 y5 y6 y7 y8 y9 y10))
 | 0 => fun _ _ _ _ _ _ _ _ _ _ _ r h => by simp [metric_Place.j0] at h
 | k + 1 => by
  have ih0 := metric_Place.mono_l k
  ·intro y0 y1 y2 y3 y4 y5 y6 y7 y8 y9 y10
   unfold metric_Place.j0
   repeat' first
   | (with_reducible exact ih0 _ _ _ _ _ _ _ _ _ _ _)
   | (with_reducible exact LeO.refl _)
   | (with_reducible exact LeO.none _)
   | (with_reducible refine LeO.ite ?_ ?_)
   | (with_reducible refine LeO.bind ?_ (fun _ => ?_))
   | exact ih0 _ _ _ _ _ _ _ _ _ _ _
   | exact LeO.none _
   | refine LeO.ite ?_ ?_
   | refine LeO.bind ?_ (fun _ => ?_)
theorem metric_Place.mono : ∀ a0 a1 a2 a3 a4 a5 a6 a7 a8 a9 k, LeO (metric_Place.f k a0 a1 a2 a3 a4 a5 a6 a7 a8 a9) (metric_Place.f (k + 1) a0 a1 a2 a3 a4 a5 a6 a7 a8 a9) := by
 intro a0 a1 a2 a3 a4 a5 a6 a7 a8 a9 k
 have ih0 := metric_Place.mono_l k
 unfold metric_Place.f
 repeat' first
   | (with_reducible exact ih0 _ _ _ _ _ _ _ _ _ _ _)
   | (with_reducible exact LeO.refl _)
   | (with_reducible exact LeO.none _)
   | (with_reducible refine LeO.ite ?_ ?_)
   | (with_reducible refine LeO.bind ?_ (fun _ => ?_))
   | exact ih0 _ _ _ _ _ _ _ _ _ _ _
   | exact LeO.none _
   | refine LeO.ite ?_ ?_
   | refine LeO.bind ?_ (fun _ => ?_)
set_option maxHeartbeats 8000000 in
set_option maxRecDepth 100000 in
theorem metric_Place.calls (k : Nat) (a0_0 : Int) (a0_1 : Int) (a0_2 : Int) (a0_3 : Int) (a0_4 : Int) (a0_5 : Int) (A0_6 : Option Addr) (c0_6 : Nat) (l0_6 : List Int) (A0_7 : Option Addr) (c0_7 : Nat) (l0_7 : List Int) (A0_8 : Option Addr) (c0_8 : Nat) (l0_8 : List Int) (a1 : Int) (r1 : Int) (r2 : Int) (r3 : Int) (w : World) (hr0_6 : Kd.C (Kd.int .i64) w A0_6 l0_6.length l0_6) (hc0_6 : l0_6.length ≤ c0_6) (hr0_7 : Kd.C (Kd.int .i64) w A0_7 l0_7.length l0_7) (hc0_7 : l0_7.length ≤ c0_7) (hr0_8 : Kd.C (Kd.int .i64) w A0_8 l0_8.length l0_8) (hc0_8 : l0_8.length ≤ c0_8) (h : metric_Place.f k a0_0 a0_1 a0_2 a0_3 a0_4 a0_5 l0_6 l0_7 l0_8 a1 = some (r1, r2, r3)) :
  Calls Try.prog 24 #[.agg #[.int .i64 a0_0, .int .i64 a0_1, .int .i64 a0_2, .int .i64 a0_3, .int .i64 a0_4, .int .i64 a0_5, .slice A0_6 l0_6.length c0_6, .slice A0_7 l0_7.length c0_7, .slice A0_8 l0_8.length c0_8], .int .i64 a1] w fun e w' => e = .returned (.tuple #[.int .i64 r1, .int .i64 r2, .int .i64 r3]) ∧ Below w.heap.size w w' := by
 have hu37 := Try.underlying37
 have HR0_6 := Aside0.mk hr0_6
 have HC0_6 := Aside0.mk hc0_6
 clear hr0_6 hc0_6
 have HR0_7 := Aside0.mk hr0_7
 have HC0_7 := Aside0.mk hc0_7
 clear hr0_7 hc0_7
 have HR0_8 := Aside0.mk hr0_8
 have HC0_8 := Aside0.mk hc0_8
 clear hr0_8 hc0_8
 have HB := Aside0.mk (Below.refl w.heap.size w)
 have H : ((metric_has.f a0_0 a0_1 a0_2 a0_3 a0_4 a0_5 l0_6 l0_7 l0_8 a1).bind fun t252 => (if t252 = true then (if (l0_6.length : Int) < a0_2 then (metric_Place.j0 k a1 true a0_0 a0_1 a0_2 a0_3 a0_4 a0_5 l0_6 l0_7 l0_8) else (if (l0_8.length : Int) > 0 then (metric_Place.j0 k a1 ((wrap64 ((l0_8.length : Int) - 1)) != a0_2) a0_0 a0_1 a0_2 a0_3 a0_4 a0_5 l0_6 l0_7 l0_8) else (metric_Place.j0 k a1 false a0_0 a0_1 a0_2 a0_3 a0_4 a0_5 l0_6 l0_7 l0_8))) else (metric_Place.j0 k a1 true a0_0 a0_1 a0_2 a0_3 a0_4 a0_5 l0_6 l0_7 l0_8))) = some (r1, r2, r3) := h
 clear h
 have HC3 := Aside0.mk H
 clear H
 go_enter Try.func24, Try.ntmps24
 go_upto_region 1 with (first | ((with_reducible refine gate_dst (N := 2) rfl ?_); (try (refine gate_guard (by rfl) ?_; dsimp only)); refine box_event ?hg (N := 2) ?hd (cs := #[.int .i64 a0_0, .int .i64 a0_1, .int .i64 a0_2, .int .i64 a0_3, .int .i64 a0_4, .int .i64 a0_5, .slice A0_6 l0_6.length c0_6, .slice A0_7 l0_7.length c0_7, .slice A0_8 l0_8.length c0_8]) (t := 37) ?hr ?_; (case hd => rfl); (case hg => rfl); (case hr => first | (go_simp; done) | (go_simp; rfl)); intro gb251 hg w4 hbox hb; have n0_ := Aside0.mk (below_step (bq HB) hb); have n1_ := Aside0.mk (hbox); have n2_ := Aside0.mk ((by rw [hg]; exact (below_size (bq HB)) : w.heap.size ≤ gb251)); have n3_ := Aside0.mk ((by rw [hg]; exact (below_size (bq HB)) : w.heap.size ≤ gb251)); clear HB; have HB := n0_; have BK251 := n1_; have GW251 := n2_; have GE251 := n3_; clear n0_ n1_ n2_ n3_; clear hb hbox hg))
 repeat (go_quiet (first | ((with_reducible refine gate_dst (N := 2) rfl ?_); (try (refine gate_guard (by rfl) ?_; dsimp only)); refine box_event ?hg (N := 2) ?hd (cs := #[.int .i64 a0_0, .int .i64 a0_1, .int .i64 a0_2, .int .i64 a0_3, .int .i64 a0_4, .int .i64 a0_5, .slice A0_6 l0_6.length c0_6, .slice A0_7 l0_7.length c0_7, .slice A0_8 l0_8.length c0_8]) (t := 37) ?hr ?_; (case hd => rfl); (case hg => rfl); (case hr => first | (go_simp; done) | (go_simp; rfl)); intro gb251 hg w4 hbox hb; have n0_ := Aside0.mk (below_step (bq HB) hb); have n1_ := Aside0.mk (hbox); have n2_ := Aside0.mk ((by rw [hg]; exact (below_size (bq HB)) : w.heap.size ≤ gb251)); have n3_ := Aside0.mk ((by rw [hg]; exact (below_size (bq HB)) : w.heap.size ≤ gb251)); clear HB; have HB := n0_; have BK251 := n1_; have GW251 := n2_; have GE251 := n3_; clear n0_ n1_ n2_ n3_; clear hb hbox hg)); go_upto_region 1 with (first | ((with_reducible refine gate_dst (N := 2) rfl ?_); (try (refine gate_guard (by rfl) ?_; dsimp only)); refine box_event ?hg (N := 2) ?hd (cs := #[.int .i64 a0_0, .int .i64 a0_1, .int .i64 a0_2, .int .i64 a0_3, .int .i64 a0_4, .int .i64 a0_5, .slice A0_6 l0_6.length c0_6, .slice A0_7 l0_7.length c0_7, .slice A0_8 l0_8.length c0_8]) (t := 37) ?hr ?_; (case hd => rfl); (case hg => rfl); (case hr => first | (go_simp; done) | (go_simp; rfl)); intro gb251 hg w4 hbox hb; have n0_ := Aside0.mk (below_step (bq HB) hb); have n1_ := Aside0.mk (hbox); have n2_ := Aside0.mk ((by rw [hg]; exact (below_size (bq HB)) : w.heap.size ≤ gb251)); have n3_ := Aside0.mk ((by rw [hg]; exact (below_size (bq HB)) : w.heap.size ≤ gb251)); clear HB; have HB := n0_; have BK251 := n1_; have GW251 := n2_; have GE251 := n3_; clear n0_ n1_ n2_ n3_; clear hb hbox hg)))
 (try simp only [Act.put, List.setIfInBounds_toArray, List.set_cons_zero, List.set_cons_succ])
 go_cut [7] (fun v7 wc => ∃ (kq : Nat) (x7_2 : Bool), v7 = .bool x7_2 ∧ Aside0 (metric_Place.j0 kq a1 x7_2 a0_0 a0_1 a0_2 a0_3 a0_4 a0_5 l0_6 l0_7 l0_8 = some (r1, r2, r3)) ∧ Aside0 (kq ≤ k) ∧ Aside0 (wc.heap[gb251]? = some (.cells #[.int .i64 a0_0, .int .i64 a0_1, .int .i64 a0_2, .int .i64 a0_3, .int .i64 a0_4, .int .i64 a0_5, (.slice A0_6 l0_6.length c0_6), (.slice A0_7 l0_7.length c0_7), (.slice A0_8 l0_8.length c0_8)] 37 (0, 0))) ∧ Aside0 (Below w.heap.size w wc))
 case first =>
  have H := HC3.out
  clear HC3
  replace H := Option.bind_eq_some_iff.mp H
  obtain ⟨t252, A50, H⟩ := H
  replace H : (if t252 = true then (if (l0_6.length : Int) < a0_2 then (metric_Place.j0 k a1 true a0_0 a0_1 a0_2 a0_3 a0_4 a0_5 l0_6 l0_7 l0_8) else (if (l0_8.length : Int) > 0 then (metric_Place.j0 k a1 ((wrap64 ((l0_8.length : Int) - 1)) != a0_2) a0_0 a0_1 a0_2 a0_3 a0_4 a0_5 l0_6 l0_7 l0_8) else (metric_Place.j0 k a1 false a0_0 a0_1 a0_2 a0_3 a0_4 a0_5 l0_6 l0_7 l0_8))) else (metric_Place.j0 k a1 true a0_0 a0_1 a0_2 a0_3 a0_4 a0_5 l0_6 l0_7 l0_8)) = some (r1, r2, r3) := H
  have A5 := Aside0.mk A50
  clear A50
  by_cases c6 : t252 = true
  ·subst c6
   have H1 : (if (l0_6.length : Int) < a0_2 then (metric_Place.j0 k a1 true a0_0 a0_1 a0_2 a0_3 a0_4 a0_5 l0_6 l0_7 l0_8) else (if (l0_8.length : Int) > 0 then (metric_Place.j0 k a1 ((wrap64 ((l0_8.length : Int) - 1)) != a0_2) a0_0 a0_1 a0_2 a0_3 a0_4 a0_5 l0_6 l0_7 l0_8) else (metric_Place.j0 k a1 false a0_0 a0_1 a0_2 a0_3 a0_4 a0_5 l0_6 l0_7 l0_8))) = some (r1, r2, r3) := by rw [if_pos rfl] at H; exact H
   clear H
   have H := H1
   clear H1
   by_cases c7 : (l0_6.length : Int) < a0_2
   ·rw [if_pos c7] at H
    have c7b0 : decide ((l0_6.length : Int) < a0_2) = true := decide_eq_true c7
    clear c7
    (first | rw [c7b0] | (simp only [i64_w, i32_w]; rw [c7b0]) | skip)
    have H' := Aside0.mk H
    clear H
    have hcz8_0 : w4.cell? ⟨gb251, 0, none⟩ = some (.int .i64 a0_0) := (blk_cell BK251.out 0).trans rfl
    have hcz8_1 : w4.cell? ⟨gb251, 1, none⟩ = some (.int .i64 a0_1) := (blk_cell BK251.out 1).trans rfl
    have hcz8_2 : w4.cell? ⟨gb251, 2, none⟩ = some (.int .i64 a0_2) := (blk_cell BK251.out 2).trans rfl
    have hcz8_3 : w4.cell? ⟨gb251, 3, none⟩ = some (.int .i64 a0_3) := (blk_cell BK251.out 3).trans rfl
    have hcz8_4 : w4.cell? ⟨gb251, 4, none⟩ = some (.int .i64 a0_4) := (blk_cell BK251.out 4).trans rfl
    have hcz8_5 : w4.cell? ⟨gb251, 5, none⟩ = some (.int .i64 a0_5) := (blk_cell BK251.out 5).trans rfl
    have hcz8_6 : w4.cell? ⟨gb251, 6, none⟩ = some (.slice A0_6 l0_6.length c0_6) := (blk_cell BK251.out 6).trans rfl
    have hcz8_7 : w4.cell? ⟨gb251, 7, none⟩ = some (.slice A0_7 l0_7.length c0_7) := (blk_cell BK251.out 7).trans rfl
    have hcz8_8 : w4.cell? ⟨gb251, 8, none⟩ = some (.slice A0_8 l0_8.length c0_8) := (blk_cell BK251.out 8).trans rfl
    have hfz8_0 := blk_frozen BK251.out 0
    have hfz8_1 := blk_frozen BK251.out 1
    have hfz8_2 := blk_frozen BK251.out 2
    have hfz8_3 := blk_frozen BK251.out 3
    have hfz8_4 := blk_frozen BK251.out 4
    have hfz8_5 := blk_frozen BK251.out 5
    have hfz8_6 := blk_frozen BK251.out 6
    have hfz8_7 := blk_frozen BK251.out 7
    have hfz8_8 := blk_frozen BK251.out 8
    go_wp2_with (first | (go_at_call 50; (with_reducible refine (metric_has.calls a0_0 a0_1 a0_2 a0_3 a0_4 a0_5 _ _ l0_6 _ _ l0_7 _ _ l0_8 a1 true _ ?side1 ?side2 ?side3 ?side4 ?side5 ?side6 A5.out).mono ?_); (case side1 => repeat (first | exact (Kd.C_below HR0_6.out HB.out) | (with_reducible refine Kd.C_alloc ?_ _) | (with_reducible refine Kd.C_drewN ?_ _) | (with_reducible refine Kd.C_drew ?_))); (case side2 => exact HC0_6.out); (case side3 => repeat (first | exact (Kd.C_below HR0_7.out HB.out) | (with_reducible refine Kd.C_alloc ?_ _) | (with_reducible refine Kd.C_drewN ?_ _) | (with_reducible refine Kd.C_drew ?_))); (case side4 => exact HC0_7.out); (case side5 => repeat (first | exact (Kd.C_below HR0_8.out HB.out) | (with_reducible refine Kd.C_alloc ?_ _) | (with_reducible refine Kd.C_drewN ?_ _) | (with_reducible refine Kd.C_drew ?_))); (case side6 => exact HC0_8.out); rintro e w9 ⟨rfl, hb⟩; have n0_ := Aside0.mk (blk_below (g := gb251) (o := .cells #[.int .i64 a0_0, .int .i64 a0_1, .int .i64 a0_2, .int .i64 a0_3, .int .i64 a0_4, .int .i64 a0_5, .slice A0_6 l0_6.length c0_6, .slice A0_7 l0_7.length c0_7, .slice A0_8 l0_8.length c0_8] 37 (0, 0)) (kq BK251) hb); have n1_ := Aside0.mk (below_step (bs HB GE251) hb); clear BK251; clear HB; have BK251 := n0_; have HB := n1_; clear n0_ n1_; (try clear hb); (try clear hb2); (try clear hk); (try clear hi); have hcz10_0 : w9.cell? ⟨gb251, 0, none⟩ = some (.int .i64 a0_0) := (blk_cell BK251.out 0).trans rfl; have hcz10_1 : w9.cell? ⟨gb251, 1, none⟩ = some (.int .i64 a0_1) := (blk_cell BK251.out 1).trans rfl; have hcz10_2 : w9.cell? ⟨gb251, 2, none⟩ = some (.int .i64 a0_2) := (blk_cell BK251.out 2).trans rfl; have hcz10_3 : w9.cell? ⟨gb251, 3, none⟩ = some (.int .i64 a0_3) := (blk_cell BK251.out 3).trans rfl; have hcz10_4 : w9.cell? ⟨gb251, 4, none⟩ = some (.int .i64 a0_4) := (blk_cell BK251.out 4).trans rfl; have hcz10_5 : w9.cell? ⟨gb251, 5, none⟩ = some (.int .i64 a0_5) := (blk_cell BK251.out 5).trans rfl; have hcz10_6 : w9.cell? ⟨gb251, 6, none⟩ = some (.slice A0_6 l0_6.length c0_6) := (blk_cell BK251.out 6).trans rfl; have hcz10_7 : w9.cell? ⟨gb251, 7, none⟩ = some (.slice A0_7 l0_7.length c0_7) := (blk_cell BK251.out 7).trans rfl; have hcz10_8 : w9.cell? ⟨gb251, 8, none⟩ = some (.slice A0_8 l0_8.length c0_8) := (blk_cell BK251.out 8).trans rfl; have hfz10_0 := blk_frozen BK251.out 0; have hfz10_1 := blk_frozen BK251.out 1; have hfz10_2 := blk_frozen BK251.out 2; have hfz10_3 := blk_frozen BK251.out 3; have hfz10_4 := blk_frozen BK251.out 4; have hfz10_5 := blk_frozen BK251.out 5; have hfz10_6 := blk_frozen BK251.out 6; have hfz10_7 := blk_frozen BK251.out 7; have hfz10_8 := blk_frozen BK251.out 8))
    repeat (go_quiet (first | (go_at_call 50; (with_reducible refine (metric_has.calls a0_0 a0_1 a0_2 a0_3 a0_4 a0_5 _ _ l0_6 _ _ l0_7 _ _ l0_8 a1 true _ ?side1 ?side2 ?side3 ?side4 ?side5 ?side6 A5.out).mono ?_); (case side1 => repeat (first | exact (Kd.C_below HR0_6.out HB.out) | (with_reducible refine Kd.C_alloc ?_ _) | (with_reducible refine Kd.C_drewN ?_ _) | (with_reducible refine Kd.C_drew ?_))); (case side2 => exact HC0_6.out); (case side3 => repeat (first | exact (Kd.C_below HR0_7.out HB.out) | (with_reducible refine Kd.C_alloc ?_ _) | (with_reducible refine Kd.C_drewN ?_ _) | (with_reducible refine Kd.C_drew ?_))); (case side4 => exact HC0_7.out); (case side5 => repeat (first | exact (Kd.C_below HR0_8.out HB.out) | (with_reducible refine Kd.C_alloc ?_ _) | (with_reducible refine Kd.C_drewN ?_ _) | (with_reducible refine Kd.C_drew ?_))); (case side6 => exact HC0_8.out); rintro e w9 ⟨rfl, hb⟩; have n0_ := Aside0.mk (blk_below (g := gb251) (o := .cells #[.int .i64 a0_0, .int .i64 a0_1, .int .i64 a0_2, .int .i64 a0_3, .int .i64 a0_4, .int .i64 a0_5, .slice A0_6 l0_6.length c0_6, .slice A0_7 l0_7.length c0_7, .slice A0_8 l0_8.length c0_8] 37 (0, 0)) (kq BK251) hb); have n1_ := Aside0.mk (below_step (bs HB GE251) hb); clear BK251; clear HB; have BK251 := n0_; have HB := n1_; clear n0_ n1_; (try clear hb); (try clear hb2); (try clear hk); (try clear hi); have hcz10_0 : w9.cell? ⟨gb251, 0, none⟩ = some (.int .i64 a0_0) := (blk_cell BK251.out 0).trans rfl; have hcz10_1 : w9.cell? ⟨gb251, 1, none⟩ = some (.int .i64 a0_1) := (blk_cell BK251.out 1).trans rfl; have hcz10_2 : w9.cell? ⟨gb251, 2, none⟩ = some (.int .i64 a0_2) := (blk_cell BK251.out 2).trans rfl; have hcz10_3 : w9.cell? ⟨gb251, 3, none⟩ = some (.int .i64 a0_3) := (blk_cell BK251.out 3).trans rfl; have hcz10_4 : w9.cell? ⟨gb251, 4, none⟩ = some (.int .i64 a0_4) := (blk_cell BK251.out 4).trans rfl; have hcz10_5 : w9.cell? ⟨gb251, 5, none⟩ = some (.int .i64 a0_5) := (blk_cell BK251.out 5).trans rfl; have hcz10_6 : w9.cell? ⟨gb251, 6, none⟩ = some (.slice A0_6 l0_6.length c0_6) := (blk_cell BK251.out 6).trans rfl; have hcz10_7 : w9.cell? ⟨gb251, 7, none⟩ = some (.slice A0_7 l0_7.length c0_7) := (blk_cell BK251.out 7).trans rfl; have hcz10_8 : w9.cell? ⟨gb251, 8, none⟩ = some (.slice A0_8 l0_8.length c0_8) := (blk_cell BK251.out 8).trans rfl; have hfz10_0 := blk_frozen BK251.out 0; have hfz10_1 := blk_frozen BK251.out 1; have hfz10_2 := blk_frozen BK251.out 2; have hfz10_3 := blk_frozen BK251.out 3; have hfz10_4 := blk_frozen BK251.out 4; have hfz10_5 := blk_frozen BK251.out 5; have hfz10_6 := blk_frozen BK251.out 6; have hfz10_7 := blk_frozen BK251.out 7; have hfz10_8 := blk_frozen BK251.out 8)); try go_wp2_with (first | (go_at_call 50; (with_reducible refine (metric_has.calls a0_0 a0_1 a0_2 a0_3 a0_4 a0_5 _ _ l0_6 _ _ l0_7 _ _ l0_8 a1 true _ ?side1 ?side2 ?side3 ?side4 ?side5 ?side6 A5.out).mono ?_); (case side1 => repeat (first | exact (Kd.C_below HR0_6.out HB.out) | (with_reducible refine Kd.C_alloc ?_ _) | (with_reducible refine Kd.C_drewN ?_ _) | (with_reducible refine Kd.C_drew ?_))); (case side2 => exact HC0_6.out); (case side3 => repeat (first | exact (Kd.C_below HR0_7.out HB.out) | (with_reducible refine Kd.C_alloc ?_ _) | (with_reducible refine Kd.C_drewN ?_ _) | (with_reducible refine Kd.C_drew ?_))); (case side4 => exact HC0_7.out); (case side5 => repeat (first | exact (Kd.C_below HR0_8.out HB.out) | (with_reducible refine Kd.C_alloc ?_ _) | (with_reducible refine Kd.C_drewN ?_ _) | (with_reducible refine Kd.C_drew ?_))); (case side6 => exact HC0_8.out); rintro e w9 ⟨rfl, hb⟩; have n0_ := Aside0.mk (blk_below (g := gb251) (o := .cells #[.int .i64 a0_0, .int .i64 a0_1, .int .i64 a0_2, .int .i64 a0_3, .int .i64 a0_4, .int .i64 a0_5, .slice A0_6 l0_6.length c0_6, .slice A0_7 l0_7.length c0_7, .slice A0_8 l0_8.length c0_8] 37 (0, 0)) (kq BK251) hb); have n1_ := Aside0.mk (below_step (bs HB GE251) hb); clear BK251; clear HB; have BK251 := n0_; have HB := n1_; clear n0_ n1_; (try clear hb); (try clear hb2); (try clear hk); (try clear hi); have hcz10_0 : w9.cell? ⟨gb251, 0, none⟩ = some (.int .i64 a0_0) := (blk_cell BK251.out 0).trans rfl; have hcz10_1 : w9.cell? ⟨gb251, 1, none⟩ = some (.int .i64 a0_1) := (blk_cell BK251.out 1).trans rfl; have hcz10_2 : w9.cell? ⟨gb251, 2, none⟩ = some (.int .i64 a0_2) := (blk_cell BK251.out 2).trans rfl; have hcz10_3 : w9.cell? ⟨gb251, 3, none⟩ = some (.int .i64 a0_3) := (blk_cell BK251.out 3).trans rfl; have hcz10_4 : w9.cell? ⟨gb251, 4, none⟩ = some (.int .i64 a0_4) := (blk_cell BK251.out 4).trans rfl; have hcz10_5 : w9.cell? ⟨gb251, 5, none⟩ = some (.int .i64 a0_5) := (blk_cell BK251.out 5).trans rfl; have hcz10_6 : w9.cell? ⟨gb251, 6, none⟩ = some (.slice A0_6 l0_6.length c0_6) := (blk_cell BK251.out 6).trans rfl; have hcz10_7 : w9.cell? ⟨gb251, 7, none⟩ = some (.slice A0_7 l0_7.length c0_7) := (blk_cell BK251.out 7).trans rfl; have hcz10_8 : w9.cell? ⟨gb251, 8, none⟩ = some (.slice A0_8 l0_8.length c0_8) := (blk_cell BK251.out 8).trans rfl; have hfz10_0 := blk_frozen BK251.out 0; have hfz10_1 := blk_frozen BK251.out 1; have hfz10_2 := blk_frozen BK251.out 2; have hfz10_3 := blk_frozen BK251.out 3; have hfz10_4 := blk_frozen BK251.out 4; have hfz10_5 := blk_frozen BK251.out 5; have hfz10_6 := blk_frozen BK251.out 6; have hfz10_7 := blk_frozen BK251.out 7; have hfz10_8 := blk_frozen BK251.out 8)))
    go_meet
    case rel => exact ⟨_, (true), (by first | rfl | (simp; done) | (simp [*]; done)), H', ⟨by first | omega | exact Nat.le_refl _⟩, ⟨by (with_reducible repeat (first | refine blk_drewN ?_ _ | refine blk_drew ?_ | refine blk_alloc ?_ _)); exact BK251.out⟩, ⟨bs HB GE251⟩⟩
   ·rw [if_neg c7] at H
    have c7b0 : decide ((l0_6.length : Int) < a0_2) = false := decide_eq_false c7
    clear c7
    (first | rw [c7b0] | (simp only [i64_w, i32_w]; rw [c7b0]) | skip)
    by_cases c11 : (l0_8.length : Int) > 0
    ·rw [if_pos c11] at H
     have c11b0 : decide (0 < (l0_8.length : Int)) = true := decide_eq_true c11
     have c11b1 : decide (0 < l0_8.length) = true := decide_eq_true (by omega)
     clear c11
     have H' := Aside0.mk H
     clear H
     have hcz12_0 : w4.cell? ⟨gb251, 0, none⟩ = some (.int .i64 a0_0) := (blk_cell BK251.out 0).trans rfl
     have hcz12_1 : w4.cell? ⟨gb251, 1, none⟩ = some (.int .i64 a0_1) := (blk_cell BK251.out 1).trans rfl
     have hcz12_2 : w4.cell? ⟨gb251, 2, none⟩ = some (.int .i64 a0_2) := (blk_cell BK251.out 2).trans rfl
     have hcz12_3 : w4.cell? ⟨gb251, 3, none⟩ = some (.int .i64 a0_3) := (blk_cell BK251.out 3).trans rfl
     have hcz12_4 : w4.cell? ⟨gb251, 4, none⟩ = some (.int .i64 a0_4) := (blk_cell BK251.out 4).trans rfl
     have hcz12_5 : w4.cell? ⟨gb251, 5, none⟩ = some (.int .i64 a0_5) := (blk_cell BK251.out 5).trans rfl
     have hcz12_6 : w4.cell? ⟨gb251, 6, none⟩ = some (.slice A0_6 l0_6.length c0_6) := (blk_cell BK251.out 6).trans rfl
     have hcz12_7 : w4.cell? ⟨gb251, 7, none⟩ = some (.slice A0_7 l0_7.length c0_7) := (blk_cell BK251.out 7).trans rfl
     have hcz12_8 : w4.cell? ⟨gb251, 8, none⟩ = some (.slice A0_8 l0_8.length c0_8) := (blk_cell BK251.out 8).trans rfl
     have hfz12_0 := blk_frozen BK251.out 0
     have hfz12_1 := blk_frozen BK251.out 1
     have hfz12_2 := blk_frozen BK251.out 2
     have hfz12_3 := blk_frozen BK251.out 3
     have hfz12_4 := blk_frozen BK251.out 4
     have hfz12_5 := blk_frozen BK251.out 5
     have hfz12_6 := blk_frozen BK251.out 6
     have hfz12_7 := blk_frozen BK251.out 7
     have hfz12_8 := blk_frozen BK251.out 8
     go_wp2_with (first | (go_at_call 50; (with_reducible refine (metric_has.calls a0_0 a0_1 a0_2 a0_3 a0_4 a0_5 _ _ l0_6 _ _ l0_7 _ _ l0_8 a1 true _ ?side1 ?side2 ?side3 ?side4 ?side5 ?side6 A5.out).mono ?_); (case side1 => repeat (first | exact (Kd.C_below HR0_6.out HB.out) | (with_reducible refine Kd.C_alloc ?_ _) | (with_reducible refine Kd.C_drewN ?_ _) | (with_reducible refine Kd.C_drew ?_))); (case side2 => exact HC0_6.out); (case side3 => repeat (first | exact (Kd.C_below HR0_7.out HB.out) | (with_reducible refine Kd.C_alloc ?_ _) | (with_reducible refine Kd.C_drewN ?_ _) | (with_reducible refine Kd.C_drew ?_))); (case side4 => exact HC0_7.out); (case side5 => repeat (first | exact (Kd.C_below HR0_8.out HB.out) | (with_reducible refine Kd.C_alloc ?_ _) | (with_reducible refine Kd.C_drewN ?_ _) | (with_reducible refine Kd.C_drew ?_))); (case side6 => exact HC0_8.out); rintro e w13 ⟨rfl, hb⟩; have n0_ := Aside0.mk (blk_below (g := gb251) (o := .cells #[.int .i64 a0_0, .int .i64 a0_1, .int .i64 a0_2, .int .i64 a0_3, .int .i64 a0_4, .int .i64 a0_5, .slice A0_6 l0_6.length c0_6, .slice A0_7 l0_7.length c0_7, .slice A0_8 l0_8.length c0_8] 37 (0, 0)) (kq BK251) hb); have n1_ := Aside0.mk (below_step (bs HB GE251) hb); clear BK251; clear HB; have BK251 := n0_; have HB := n1_; clear n0_ n1_; (try clear hb); (try clear hb2); (try clear hk); (try clear hi); have hcz14_0 : w13.cell? ⟨gb251, 0, none⟩ = some (.int .i64 a0_0) := (blk_cell BK251.out 0).trans rfl; have hcz14_1 : w13.cell? ⟨gb251, 1, none⟩ = some (.int .i64 a0_1) := (blk_cell BK251.out 1).trans rfl; have hcz14_2 : w13.cell? ⟨gb251, 2, none⟩ = some (.int .i64 a0_2) := (blk_cell BK251.out 2).trans rfl; have hcz14_3 : w13.cell? ⟨gb251, 3, none⟩ = some (.int .i64 a0_3) := (blk_cell BK251.out 3).trans rfl; have hcz14_4 : w13.cell? ⟨gb251, 4, none⟩ = some (.int .i64 a0_4) := (blk_cell BK251.out 4).trans rfl; have hcz14_5 : w13.cell? ⟨gb251, 5, none⟩ = some (.int .i64 a0_5) := (blk_cell BK251.out 5).trans rfl; have hcz14_6 : w13.cell? ⟨gb251, 6, none⟩ = some (.slice A0_6 l0_6.length c0_6) := (blk_cell BK251.out 6).trans rfl; have hcz14_7 : w13.cell? ⟨gb251, 7, none⟩ = some (.slice A0_7 l0_7.length c0_7) := (blk_cell BK251.out 7).trans rfl; have hcz14_8 : w13.cell? ⟨gb251, 8, none⟩ = some (.slice A0_8 l0_8.length c0_8) := (blk_cell BK251.out 8).trans rfl; have hfz14_0 := blk_frozen BK251.out 0; have hfz14_1 := blk_frozen BK251.out 1; have hfz14_2 := blk_frozen BK251.out 2; have hfz14_3 := blk_frozen BK251.out 3; have hfz14_4 := blk_frozen BK251.out 4; have hfz14_5 := blk_frozen BK251.out 5; have hfz14_6 := blk_frozen BK251.out 6; have hfz14_7 := blk_frozen BK251.out 7; have hfz14_8 := blk_frozen BK251.out 8))
     repeat (go_quiet (first | (go_at_call 50; (with_reducible refine (metric_has.calls a0_0 a0_1 a0_2 a0_3 a0_4 a0_5 _ _ l0_6 _ _ l0_7 _ _ l0_8 a1 true _ ?side1 ?side2 ?side3 ?side4 ?side5 ?side6 A5.out).mono ?_); (case side1 => repeat (first | exact (Kd.C_below HR0_6.out HB.out) | (with_reducible refine Kd.C_alloc ?_ _) | (with_reducible refine Kd.C_drewN ?_ _) | (with_reducible refine Kd.C_drew ?_))); (case side2 => exact HC0_6.out); (case side3 => repeat (first | exact (Kd.C_below HR0_7.out HB.out) | (with_reducible refine Kd.C_alloc ?_ _) | (with_reducible refine Kd.C_drewN ?_ _) | (with_reducible refine Kd.C_drew ?_))); (case side4 => exact HC0_7.out); (case side5 => repeat (first | exact (Kd.C_below HR0_8.out HB.out) | (with_reducible refine Kd.C_alloc ?_ _) | (with_reducible refine Kd.C_drewN ?_ _) | (with_reducible refine Kd.C_drew ?_))); (case side6 => exact HC0_8.out); rintro e w13 ⟨rfl, hb⟩; have n0_ := Aside0.mk (blk_below (g := gb251) (o := .cells #[.int .i64 a0_0, .int .i64 a0_1, .int .i64 a0_2, .int .i64 a0_3, .int .i64 a0_4, .int .i64 a0_5, .slice A0_6 l0_6.length c0_6, .slice A0_7 l0_7.length c0_7, .slice A0_8 l0_8.length c0_8] 37 (0, 0)) (kq BK251) hb); have n1_ := Aside0.mk (below_step (bs HB GE251) hb); clear BK251; clear HB; have BK251 := n0_; have HB := n1_; clear n0_ n1_; (try clear hb); (try clear hb2); (try clear hk); (try clear hi); have hcz14_0 : w13.cell? ⟨gb251, 0, none⟩ = some (.int .i64 a0_0) := (blk_cell BK251.out 0).trans rfl; have hcz14_1 : w13.cell? ⟨gb251, 1, none⟩ = some (.int .i64 a0_1) := (blk_cell BK251.out 1).trans rfl; have hcz14_2 : w13.cell? ⟨gb251, 2, none⟩ = some (.int .i64 a0_2) := (blk_cell BK251.out 2).trans rfl; have hcz14_3 : w13.cell? ⟨gb251, 3, none⟩ = some (.int .i64 a0_3) := (blk_cell BK251.out 3).trans rfl; have hcz14_4 : w13.cell? ⟨gb251, 4, none⟩ = some (.int .i64 a0_4) := (blk_cell BK251.out 4).trans rfl; have hcz14_5 : w13.cell? ⟨gb251, 5, none⟩ = some (.int .i64 a0_5) := (blk_cell BK251.out 5).trans rfl; have hcz14_6 : w13.cell? ⟨gb251, 6, none⟩ = some (.slice A0_6 l0_6.length c0_6) := (blk_cell BK251.out 6).trans rfl; have hcz14_7 : w13.cell? ⟨gb251, 7, none⟩ = some (.slice A0_7 l0_7.length c0_7) := (blk_cell BK251.out 7).trans rfl; have hcz14_8 : w13.cell? ⟨gb251, 8, none⟩ = some (.slice A0_8 l0_8.length c0_8) := (blk_cell BK251.out 8).trans rfl; have hfz14_0 := blk_frozen BK251.out 0; have hfz14_1 := blk_frozen BK251.out 1; have hfz14_2 := blk_frozen BK251.out 2; have hfz14_3 := blk_frozen BK251.out 3; have hfz14_4 := blk_frozen BK251.out 4; have hfz14_5 := blk_frozen BK251.out 5; have hfz14_6 := blk_frozen BK251.out 6; have hfz14_7 := blk_frozen BK251.out 7; have hfz14_8 := blk_frozen BK251.out 8)); try go_wp2_with (first | (go_at_call 50; (with_reducible refine (metric_has.calls a0_0 a0_1 a0_2 a0_3 a0_4 a0_5 _ _ l0_6 _ _ l0_7 _ _ l0_8 a1 true _ ?side1 ?side2 ?side3 ?side4 ?side5 ?side6 A5.out).mono ?_); (case side1 => repeat (first | exact (Kd.C_below HR0_6.out HB.out) | (with_reducible refine Kd.C_alloc ?_ _) | (with_reducible refine Kd.C_drewN ?_ _) | (with_reducible refine Kd.C_drew ?_))); (case side2 => exact HC0_6.out); (case side3 => repeat (first | exact (Kd.C_below HR0_7.out HB.out) | (with_reducible refine Kd.C_alloc ?_ _) | (with_reducible refine Kd.C_drewN ?_ _) | (with_reducible refine Kd.C_drew ?_))); (case side4 => exact HC0_7.out); (case side5 => repeat (first | exact (Kd.C_below HR0_8.out HB.out) | (with_reducible refine Kd.C_alloc ?_ _) | (with_reducible refine Kd.C_drewN ?_ _) | (with_reducible refine Kd.C_drew ?_))); (case side6 => exact HC0_8.out); rintro e w13 ⟨rfl, hb⟩; have n0_ := Aside0.mk (blk_below (g := gb251) (o := .cells #[.int .i64 a0_0, .int .i64 a0_1, .int .i64 a0_2, .int .i64 a0_3, .int .i64 a0_4, .int .i64 a0_5, .slice A0_6 l0_6.length c0_6, .slice A0_7 l0_7.length c0_7, .slice A0_8 l0_8.length c0_8] 37 (0, 0)) (kq BK251) hb); have n1_ := Aside0.mk (below_step (bs HB GE251) hb); clear BK251; clear HB; have BK251 := n0_; have HB := n1_; clear n0_ n1_; (try clear hb); (try clear hb2); (try clear hk); (try clear hi); have hcz14_0 : w13.cell? ⟨gb251, 0, none⟩ = some (.int .i64 a0_0) := (blk_cell BK251.out 0).trans rfl; have hcz14_1 : w13.cell? ⟨gb251, 1, none⟩ = some (.int .i64 a0_1) := (blk_cell BK251.out 1).trans rfl; have hcz14_2 : w13.cell? ⟨gb251, 2, none⟩ = some (.int .i64 a0_2) := (blk_cell BK251.out 2).trans rfl; have hcz14_3 : w13.cell? ⟨gb251, 3, none⟩ = some (.int .i64 a0_3) := (blk_cell BK251.out 3).trans rfl; have hcz14_4 : w13.cell? ⟨gb251, 4, none⟩ = some (.int .i64 a0_4) := (blk_cell BK251.out 4).trans rfl; have hcz14_5 : w13.cell? ⟨gb251, 5, none⟩ = some (.int .i64 a0_5) := (blk_cell BK251.out 5).trans rfl; have hcz14_6 : w13.cell? ⟨gb251, 6, none⟩ = some (.slice A0_6 l0_6.length c0_6) := (blk_cell BK251.out 6).trans rfl; have hcz14_7 : w13.cell? ⟨gb251, 7, none⟩ = some (.slice A0_7 l0_7.length c0_7) := (blk_cell BK251.out 7).trans rfl; have hcz14_8 : w13.cell? ⟨gb251, 8, none⟩ = some (.slice A0_8 l0_8.length c0_8) := (blk_cell BK251.out 8).trans rfl; have hfz14_0 := blk_frozen BK251.out 0; have hfz14_1 := blk_frozen BK251.out 1; have hfz14_2 := blk_frozen BK251.out 2; have hfz14_3 := blk_frozen BK251.out 3; have hfz14_4 := blk_frozen BK251.out 4; have hfz14_5 := blk_frozen BK251.out 5; have hfz14_6 := blk_frozen BK251.out 6; have hfz14_7 := blk_frozen BK251.out 7; have hfz14_8 := blk_frozen BK251.out 8)))
     go_meet
     case rel => exact ⟨_, (((wrap64 ((l0_8.length : Int) - 1)) != a0_2)), (by first | rfl | (simp; done) | (simp [*]; done)), H', ⟨by first | omega | exact Nat.le_refl _⟩, ⟨by (with_reducible repeat (first | refine blk_drewN ?_ _ | refine blk_drew ?_ | refine blk_alloc ?_ _)); exact BK251.out⟩, ⟨bs HB GE251⟩⟩
    ·rw [if_neg c11] at H
     have c11b0 : decide (0 < (l0_8.length : Int)) = false := decide_eq_false c11
     have c11b1 : decide (0 < l0_8.length) = false := decide_eq_false (by omega)
     clear c11
     have H' := Aside0.mk H
     clear H
     have hcz15_0 : w4.cell? ⟨gb251, 0, none⟩ = some (.int .i64 a0_0) := (blk_cell BK251.out 0).trans rfl
     have hcz15_1 : w4.cell? ⟨gb251, 1, none⟩ = some (.int .i64 a0_1) := (blk_cell BK251.out 1).trans rfl
     have hcz15_2 : w4.cell? ⟨gb251, 2, none⟩ = some (.int .i64 a0_2) := (blk_cell BK251.out 2).trans rfl
     have hcz15_3 : w4.cell? ⟨gb251, 3, none⟩ = some (.int .i64 a0_3) := (blk_cell BK251.out 3).trans rfl
     have hcz15_4 : w4.cell? ⟨gb251, 4, none⟩ = some (.int .i64 a0_4) := (blk_cell BK251.out 4).trans rfl
     have hcz15_5 : w4.cell? ⟨gb251, 5, none⟩ = some (.int .i64 a0_5) := (blk_cell BK251.out 5).trans rfl
     have hcz15_6 : w4.cell? ⟨gb251, 6, none⟩ = some (.slice A0_6 l0_6.length c0_6) := (blk_cell BK251.out 6).trans rfl
     have hcz15_7 : w4.cell? ⟨gb251, 7, none⟩ = some (.slice A0_7 l0_7.length c0_7) := (blk_cell BK251.out 7).trans rfl
     have hcz15_8 : w4.cell? ⟨gb251, 8, none⟩ = some (.slice A0_8 l0_8.length c0_8) := (blk_cell BK251.out 8).trans rfl
     have hfz15_0 := blk_frozen BK251.out 0
     have hfz15_1 := blk_frozen BK251.out 1
     have hfz15_2 := blk_frozen BK251.out 2
     have hfz15_3 := blk_frozen BK251.out 3
     have hfz15_4 := blk_frozen BK251.out 4
     have hfz15_5 := blk_frozen BK251.out 5
     have hfz15_6 := blk_frozen BK251.out 6
     have hfz15_7 := blk_frozen BK251.out 7
     have hfz15_8 := blk_frozen BK251.out 8
     go_wp2_with (first | (go_at_call 50; (with_reducible refine (metric_has.calls a0_0 a0_1 a0_2 a0_3 a0_4 a0_5 _ _ l0_6 _ _ l0_7 _ _ l0_8 a1 true _ ?side1 ?side2 ?side3 ?side4 ?side5 ?side6 A5.out).mono ?_); (case side1 => repeat (first | exact (Kd.C_below HR0_6.out HB.out) | (with_reducible refine Kd.C_alloc ?_ _) | (with_reducible refine Kd.C_drewN ?_ _) | (with_reducible refine Kd.C_drew ?_))); (case side2 => exact HC0_6.out); (case side3 => repeat (first | exact (Kd.C_below HR0_7.out HB.out) | (with_reducible refine Kd.C_alloc ?_ _) | (with_reducible refine Kd.C_drewN ?_ _) | (with_reducible refine Kd.C_drew ?_))); (case side4 => exact HC0_7.out); (case side5 => repeat (first | exact (Kd.C_below HR0_8.out HB.out) | (with_reducible refine Kd.C_alloc ?_ _) | (with_reducible refine Kd.C_drewN ?_ _) | (with_reducible refine Kd.C_drew ?_))); (case side6 => exact HC0_8.out); rintro e w16 ⟨rfl, hb⟩; have n0_ := Aside0.mk (blk_below (g := gb251) (o := .cells #[.int .i64 a0_0, .int .i64 a0_1, .int .i64 a0_2, .int .i64 a0_3, .int .i64 a0_4, .int .i64 a0_5, .slice A0_6 l0_6.length c0_6, .slice A0_7 l0_7.length c0_7, .slice A0_8 l0_8.length c0_8] 37 (0, 0)) (kq BK251) hb); have n1_ := Aside0.mk (below_step (bs HB GE251) hb); clear BK251; clear HB; have BK251 := n0_; have HB := n1_; clear n0_ n1_; (try clear hb); (try clear hb2); (try clear hk); (try clear hi); have hcz17_0 : w16.cell? ⟨gb251, 0, none⟩ = some (.int .i64 a0_0) := (blk_cell BK251.out 0).trans rfl; have hcz17_1 : w16.cell? ⟨gb251, 1, none⟩ = some (.int .i64 a0_1) := (blk_cell BK251.out 1).trans rfl; have hcz17_2 : w16.cell? ⟨gb251, 2, none⟩ = some (.int .i64 a0_2) := (blk_cell BK251.out 2).trans rfl; have hcz17_3 : w16.cell? ⟨gb251, 3, none⟩ = some (.int .i64 a0_3) := (blk_cell BK251.out 3).trans rfl; have hcz17_4 : w16.cell? ⟨gb251, 4, none⟩ = some (.int .i64 a0_4) := (blk_cell BK251.out 4).trans rfl; have hcz17_5 : w16.cell? ⟨gb251, 5, none⟩ = some (.int .i64 a0_5) := (blk_cell BK251.out 5).trans rfl; have hcz17_6 : w16.cell? ⟨gb251, 6, none⟩ = some (.slice A0_6 l0_6.length c0_6) := (blk_cell BK251.out 6).trans rfl; have hcz17_7 : w16.cell? ⟨gb251, 7, none⟩ = some (.slice A0_7 l0_7.length c0_7) := (blk_cell BK251.out 7).trans rfl; have hcz17_8 : w16.cell? ⟨gb251, 8, none⟩ = some (.slice A0_8 l0_8.length c0_8) := (blk_cell BK251.out 8).trans rfl; have hfz17_0 := blk_frozen BK251.out 0; have hfz17_1 := blk_frozen BK251.out 1; have hfz17_2 := blk_frozen BK251.out 2; have hfz17_3 := blk_frozen BK251.out 3; have hfz17_4 := blk_frozen BK251.out 4; have hfz17_5 := blk_frozen BK251.out 5; have hfz17_6 := blk_frozen BK251.out 6; have hfz17_7 := blk_frozen BK251.out 7; have hfz17_8 := blk_frozen BK251.out 8))
     repeat (go_quiet (first | (go_at_call 50; (with_reducible refine (metric_has.calls a0_0 a0_1 a0_2 a0_3 a0_4 a0_5 _ _ l0_6 _ _ l0_7 _ _ l0_8 a1 true _ ?side1 ?side2 ?side3 ?side4 ?side5 ?side6 A5.out).mono ?_); (case side1 => repeat (first | exact (Kd.C_below HR0_6.out HB.out) | (with_reducible refine Kd.C_alloc ?_ _) | (with_reducible refine Kd.C_drewN ?_ _) | (with_reducible refine Kd.C_drew ?_))); (case side2 => exact HC0_6.out); (case side3 => repeat (first | exact (Kd.C_below HR0_7.out HB.out) | (with_reducible refine Kd.C_alloc ?_ _) | (with_reducible refine Kd.C_drewN ?_ _) | (with_reducible refine Kd.C_drew ?_))); (case side4 => exact HC0_7.out); (case side5 => repeat (first | exact (Kd.C_below HR0_8.out HB.out) | (with_reducible refine Kd.C_alloc ?_ _) | (with_reducible refine Kd.C_drewN ?_ _) | (with_reducible refine Kd.C_drew ?_))); (case side6 => exact HC0_8.out); rintro e w16 ⟨rfl, hb⟩; have n0_ := Aside0.mk (blk_below (g := gb251) (o := .cells #[.int .i64 a0_0, .int .i64 a0_1, .int .i64 a0_2, .int .i64 a0_3, .int .i64 a0_4, .int .i64 a0_5, .slice A0_6 l0_6.length c0_6, .slice A0_7 l0_7.length c0_7, .slice A0_8 l0_8.length c0_8] 37 (0, 0)) (kq BK251) hb); have n1_ := Aside0.mk (below_step (bs HB GE251) hb); clear BK251; clear HB; have BK251 := n0_; have HB := n1_; clear n0_ n1_; (try clear hb); (try clear hb2); (try clear hk); (try clear hi); have hcz17_0 : w16.cell? ⟨gb251, 0, none⟩ = some (.int .i64 a0_0) := (blk_cell BK251.out 0).trans rfl; have hcz17_1 : w16.cell? ⟨gb251, 1, none⟩ = some (.int .i64 a0_1) := (blk_cell BK251.out 1).trans rfl; have hcz17_2 : w16.cell? ⟨gb251, 2, none⟩ = some (.int .i64 a0_2) := (blk_cell BK251.out 2).trans rfl; have hcz17_3 : w16.cell? ⟨gb251, 3, none⟩ = some (.int .i64 a0_3) := (blk_cell BK251.out 3).trans rfl; have hcz17_4 : w16.cell? ⟨gb251, 4, none⟩ = some (.int .i64 a0_4) := (blk_cell BK251.out 4).trans rfl; have hcz17_5 : w16.cell? ⟨gb251, 5, none⟩ = some (.int .i64 a0_5) := (blk_cell BK251.out 5).trans rfl; have hcz17_6 : w16.cell? ⟨gb251, 6, none⟩ = some (.slice A0_6 l0_6.length c0_6) := (blk_cell BK251.out 6).trans rfl; have hcz17_7 : w16.cell? ⟨gb251, 7, none⟩ = some (.slice A0_7 l0_7.length c0_7) := (blk_cell BK251.out 7).trans rfl; have hcz17_8 : w16.cell? ⟨gb251, 8, none⟩ = some (.slice A0_8 l0_8.length c0_8) := (blk_cell BK251.out 8).trans rfl; have hfz17_0 := blk_frozen BK251.out 0; have hfz17_1 := blk_frozen BK251.out 1; have hfz17_2 := blk_frozen BK251.out 2; have hfz17_3 := blk_frozen BK251.out 3; have hfz17_4 := blk_frozen BK251.out 4; have hfz17_5 := blk_frozen BK251.out 5; have hfz17_6 := blk_frozen BK251.out 6; have hfz17_7 := blk_frozen BK251.out 7; have hfz17_8 := blk_frozen BK251.out 8)); try go_wp2_with (first | (go_at_call 50; (with_reducible refine (metric_has.calls a0_0 a0_1 a0_2 a0_3 a0_4 a0_5 _ _ l0_6 _ _ l0_7 _ _ l0_8 a1 true _ ?side1 ?side2 ?side3 ?side4 ?side5 ?side6 A5.out).mono ?_); (case side1 => repeat (first | exact (Kd.C_below HR0_6.out HB.out) | (with_reducible refine Kd.C_alloc ?_ _) | (with_reducible refine Kd.C_drewN ?_ _) | (with_reducible refine Kd.C_drew ?_))); (case side2 => exact HC0_6.out); (case side3 => repeat (first | exact (Kd.C_below HR0_7.out HB.out) | (with_reducible refine Kd.C_alloc ?_ _) | (with_reducible refine Kd.C_drewN ?_ _) | (with_reducible refine Kd.C_drew ?_))); (case side4 => exact HC0_7.out); (case side5 => repeat (first | exact (Kd.C_below HR0_8.out HB.out) | (with_reducible refine Kd.C_alloc ?_ _) | (with_reducible refine Kd.C_drewN ?_ _) | (with_reducible refine Kd.C_drew ?_))); (case side6 => exact HC0_8.out); rintro e w16 ⟨rfl, hb⟩; have n0_ := Aside0.mk (blk_below (g := gb251) (o := .cells #[.int .i64 a0_0, .int .i64 a0_1, .int .i64 a0_2, .int .i64 a0_3, .int .i64 a0_4, .int .i64 a0_5, .slice A0_6 l0_6.length c0_6, .slice A0_7 l0_7.length c0_7, .slice A0_8 l0_8.length c0_8] 37 (0, 0)) (kq BK251) hb); have n1_ := Aside0.mk (below_step (bs HB GE251) hb); clear BK251; clear HB; have BK251 := n0_; have HB := n1_; clear n0_ n1_; (try clear hb); (try clear hb2); (try clear hk); (try clear hi); have hcz17_0 : w16.cell? ⟨gb251, 0, none⟩ = some (.int .i64 a0_0) := (blk_cell BK251.out 0).trans rfl; have hcz17_1 : w16.cell? ⟨gb251, 1, none⟩ = some (.int .i64 a0_1) := (blk_cell BK251.out 1).trans rfl; have hcz17_2 : w16.cell? ⟨gb251, 2, none⟩ = some (.int .i64 a0_2) := (blk_cell BK251.out 2).trans rfl; have hcz17_3 : w16.cell? ⟨gb251, 3, none⟩ = some (.int .i64 a0_3) := (blk_cell BK251.out 3).trans rfl; have hcz17_4 : w16.cell? ⟨gb251, 4, none⟩ = some (.int .i64 a0_4) := (blk_cell BK251.out 4).trans rfl; have hcz17_5 : w16.cell? ⟨gb251, 5, none⟩ = some (.int .i64 a0_5) := (blk_cell BK251.out 5).trans rfl; have hcz17_6 : w16.cell? ⟨gb251, 6, none⟩ = some (.slice A0_6 l0_6.length c0_6) := (blk_cell BK251.out 6).trans rfl; have hcz17_7 : w16.cell? ⟨gb251, 7, none⟩ = some (.slice A0_7 l0_7.length c0_7) := (blk_cell BK251.out 7).trans rfl; have hcz17_8 : w16.cell? ⟨gb251, 8, none⟩ = some (.slice A0_8 l0_8.length c0_8) := (blk_cell BK251.out 8).trans rfl; have hfz17_0 := blk_frozen BK251.out 0; have hfz17_1 := blk_frozen BK251.out 1; have hfz17_2 := blk_frozen BK251.out 2; have hfz17_3 := blk_frozen BK251.out 3; have hfz17_4 := blk_frozen BK251.out 4; have hfz17_5 := blk_frozen BK251.out 5; have hfz17_6 := blk_frozen BK251.out 6; have hfz17_7 := blk_frozen BK251.out 7; have hfz17_8 := blk_frozen BK251.out 8)))
     go_meet
     case rel => exact ⟨_, (false), (by first | rfl | (simp; done) | (simp [*]; done)), H', ⟨by first | omega | exact Nat.le_refl _⟩, ⟨by (with_reducible repeat (first | refine blk_drewN ?_ _ | refine blk_drew ?_ | refine blk_alloc ?_ _)); exact BK251.out⟩, ⟨bs HB GE251⟩⟩
  ·replace c6 := Bool.eq_false_iff.mpr c6
   subst c6
   have H1 : (metric_Place.j0 k a1 true a0_0 a0_1 a0_2 a0_3 a0_4 a0_5 l0_6 l0_7 l0_8) = some (r1, r2, r3) := by rw [if_neg (show ¬ (false = true) by decide)] at H; exact H
   clear H
   have H := H1
   clear H1
   have H' := Aside0.mk H
   clear H
   have hcz18_0 : w4.cell? ⟨gb251, 0, none⟩ = some (.int .i64 a0_0) := (blk_cell BK251.out 0).trans rfl
   have hcz18_1 : w4.cell? ⟨gb251, 1, none⟩ = some (.int .i64 a0_1) := (blk_cell BK251.out 1).trans rfl
   have hcz18_2 : w4.cell? ⟨gb251, 2, none⟩ = some (.int .i64 a0_2) := (blk_cell BK251.out 2).trans rfl
   have hcz18_3 : w4.cell? ⟨gb251, 3, none⟩ = some (.int .i64 a0_3) := (blk_cell BK251.out 3).trans rfl
   have hcz18_4 : w4.cell? ⟨gb251, 4, none⟩ = some (.int .i64 a0_4) := (blk_cell BK251.out 4).trans rfl
   have hcz18_5 : w4.cell? ⟨gb251, 5, none⟩ = some (.int .i64 a0_5) := (blk_cell BK251.out 5).trans rfl
   have hcz18_6 : w4.cell? ⟨gb251, 6, none⟩ = some (.slice A0_6 l0_6.length c0_6) := (blk_cell BK251.out 6).trans rfl
   have hcz18_7 : w4.cell? ⟨gb251, 7, none⟩ = some (.slice A0_7 l0_7.length c0_7) := (blk_cell BK251.out 7).trans rfl
   have hcz18_8 : w4.cell? ⟨gb251, 8, none⟩ = some (.slice A0_8 l0_8.length c0_8) := (blk_cell BK251.out 8).trans rfl
   have hfz18_0 := blk_frozen BK251.out 0
   have hfz18_1 := blk_frozen BK251.out 1
   have hfz18_2 := blk_frozen BK251.out 2
   have hfz18_3 := blk_frozen BK251.out 3
   have hfz18_4 := blk_frozen BK251.out 4
   have hfz18_5 := blk_frozen BK251.out 5
   have hfz18_6 := blk_frozen BK251.out 6
   have hfz18_7 := blk_frozen BK251.out 7
   have hfz18_8 := blk_frozen BK251.out 8
   go_wp2_with (first | (go_at_call 50; (with_reducible refine (metric_has.calls a0_0 a0_1 a0_2 a0_3 a0_4 a0_5 _ _ l0_6 _ _ l0_7 _ _ l0_8 a1 false _ ?side1 ?side2 ?side3 ?side4 ?side5 ?side6 A5.out).mono ?_); (case side1 => repeat (first | exact (Kd.C_below HR0_6.out HB.out) | (with_reducible refine Kd.C_alloc ?_ _) | (with_reducible refine Kd.C_drewN ?_ _) | (with_reducible refine Kd.C_drew ?_))); (case side2 => exact HC0_6.out); (case side3 => repeat (first | exact (Kd.C_below HR0_7.out HB.out) | (with_reducible refine Kd.C_alloc ?_ _) | (with_reducible refine Kd.C_drewN ?_ _) | (with_reducible refine Kd.C_drew ?_))); (case side4 => exact HC0_7.out); (case side5 => repeat (first | exact (Kd.C_below HR0_8.out HB.out) | (with_reducible refine Kd.C_alloc ?_ _) | (with_reducible refine Kd.C_drewN ?_ _) | (with_reducible refine Kd.C_drew ?_))); (case side6 => exact HC0_8.out); rintro e w19 ⟨rfl, hb⟩; have n0_ := Aside0.mk (blk_below (g := gb251) (o := .cells #[.int .i64 a0_0, .int .i64 a0_1, .int .i64 a0_2, .int .i64 a0_3, .int .i64 a0_4, .int .i64 a0_5, .slice A0_6 l0_6.length c0_6, .slice A0_7 l0_7.length c0_7, .slice A0_8 l0_8.length c0_8] 37 (0, 0)) (kq BK251) hb); have n1_ := Aside0.mk (below_step (bs HB GE251) hb); clear BK251; clear HB; have BK251 := n0_; have HB := n1_; clear n0_ n1_; (try clear hb); (try clear hb2); (try clear hk); (try clear hi)))
   repeat (go_quiet (first | (go_at_call 50; (with_reducible refine (metric_has.calls a0_0 a0_1 a0_2 a0_3 a0_4 a0_5 _ _ l0_6 _ _ l0_7 _ _ l0_8 a1 false _ ?side1 ?side2 ?side3 ?side4 ?side5 ?side6 A5.out).mono ?_); (case side1 => repeat (first | exact (Kd.C_below HR0_6.out HB.out) | (with_reducible refine Kd.C_alloc ?_ _) | (with_reducible refine Kd.C_drewN ?_ _) | (with_reducible refine Kd.C_drew ?_))); (case side2 => exact HC0_6.out); (case side3 => repeat (first | exact (Kd.C_below HR0_7.out HB.out) | (with_reducible refine Kd.C_alloc ?_ _) | (with_reducible refine Kd.C_drewN ?_ _) | (with_reducible refine Kd.C_drew ?_))); (case side4 => exact HC0_7.out); (case side5 => repeat (first | exact (Kd.C_below HR0_8.out HB.out) | (with_reducible refine Kd.C_alloc ?_ _) | (with_reducible refine Kd.C_drewN ?_ _) | (with_reducible refine Kd.C_drew ?_))); (case side6 => exact HC0_8.out); rintro e w19 ⟨rfl, hb⟩; have n0_ := Aside0.mk (blk_below (g := gb251) (o := .cells #[.int .i64 a0_0, .int .i64 a0_1, .int .i64 a0_2, .int .i64 a0_3, .int .i64 a0_4, .int .i64 a0_5, .slice A0_6 l0_6.length c0_6, .slice A0_7 l0_7.length c0_7, .slice A0_8 l0_8.length c0_8] 37 (0, 0)) (kq BK251) hb); have n1_ := Aside0.mk (below_step (bs HB GE251) hb); clear BK251; clear HB; have BK251 := n0_; have HB := n1_; clear n0_ n1_; (try clear hb); (try clear hb2); (try clear hk); (try clear hi))); try go_wp2_with (first | (go_at_call 50; (with_reducible refine (metric_has.calls a0_0 a0_1 a0_2 a0_3 a0_4 a0_5 _ _ l0_6 _ _ l0_7 _ _ l0_8 a1 false _ ?side1 ?side2 ?side3 ?side4 ?side5 ?side6 A5.out).mono ?_); (case side1 => repeat (first | exact (Kd.C_below HR0_6.out HB.out) | (with_reducible refine Kd.C_alloc ?_ _) | (with_reducible refine Kd.C_drewN ?_ _) | (with_reducible refine Kd.C_drew ?_))); (case side2 => exact HC0_6.out); (case side3 => repeat (first | exact (Kd.C_below HR0_7.out HB.out) | (with_reducible refine Kd.C_alloc ?_ _) | (with_reducible refine Kd.C_drewN ?_ _) | (with_reducible refine Kd.C_drew ?_))); (case side4 => exact HC0_7.out); (case side5 => repeat (first | exact (Kd.C_below HR0_8.out HB.out) | (with_reducible refine Kd.C_alloc ?_ _) | (with_reducible refine Kd.C_drewN ?_ _) | (with_reducible refine Kd.C_drew ?_))); (case side6 => exact HC0_8.out); rintro e w19 ⟨rfl, hb⟩; have n0_ := Aside0.mk (blk_below (g := gb251) (o := .cells #[.int .i64 a0_0, .int .i64 a0_1, .int .i64 a0_2, .int .i64 a0_3, .int .i64 a0_4, .int .i64 a0_5, .slice A0_6 l0_6.length c0_6, .slice A0_7 l0_7.length c0_7, .slice A0_8 l0_8.length c0_8] 37 (0, 0)) (kq BK251) hb); have n1_ := Aside0.mk (below_step (bs HB GE251) hb); clear BK251; clear HB; have BK251 := n0_; have HB := n1_; clear n0_ n1_; (try clear hb); (try clear hb2); (try clear hk); (try clear hi))))
   go_meet
   case rel => exact ⟨_, (true), (by first | rfl | (simp; done) | (simp [*]; done)), H', ⟨by first | omega | exact Nat.le_refl _⟩, ⟨by (with_reducible repeat (first | refine blk_drewN ?_ _ | refine blk_drew ?_ | refine blk_alloc ?_ _)); exact BK251.out⟩, ⟨bs HB GE251⟩⟩
 case rest =>
  clear HC3
  try clear c1
  try clear c2
  try clear p2
  try clear c6
  try clear p6
  try clear c7
  try clear c7b0
  try clear c11
  try clear c11b0
  try clear c11b1
  try clear hcz10_0
  try clear hcz10_1
  try clear hcz10_2
  try clear hcz10_3
  try clear hcz10_4
  try clear hcz10_5
  try clear hcz10_6
  try clear hcz10_7
  try clear hcz10_8
  try clear hcz12_0
  try clear hcz12_1
  try clear hcz12_2
  try clear hcz12_3
  try clear hcz12_4
  try clear hcz12_5
  try clear hcz12_6
  try clear hcz12_7
  try clear hcz12_8
  try clear hcz14_0
  try clear hcz14_1
  try clear hcz14_2
  try clear hcz14_3
  try clear hcz14_4
  try clear hcz14_5
  try clear hcz14_6
  try clear hcz14_7
  try clear hcz14_8
  try clear hcz15_0
  try clear hcz15_1
  try clear hcz15_2
  try clear hcz15_3
  try clear hcz15_4
  try clear hcz15_5
  try clear hcz15_6
  try clear hcz15_7
  try clear hcz15_8
  try clear hcz17_0
  try clear hcz17_1
  try clear hcz17_2
  try clear hcz17_3
  try clear hcz17_4
  try clear hcz17_5
  try clear hcz17_6
  try clear hcz17_7
  try clear hcz17_8
  try clear hcz18_0
  try clear hcz18_1
  try clear hcz18_2
  try clear hcz18_3
  try clear hcz18_4
  try clear hcz18_5
  try clear hcz18_6
  try clear hcz18_7
  try clear hcz18_8
  try clear hcz8_0
  try clear hcz8_1
  try clear hcz8_2
  try clear hcz8_3
  try clear hcz8_4
  try clear hcz8_5
  try clear hcz8_6
  try clear hcz8_7
  try clear hcz8_8
  try clear hfz10_0
  try clear hfz10_1
  try clear hfz10_2
  try clear hfz10_3
  try clear hfz10_4
  try clear hfz10_5
  try clear hfz10_6
  try clear hfz10_7
  try clear hfz10_8
  try clear hfz12_0
  try clear hfz12_1
  try clear hfz12_2
  try clear hfz12_3
  try clear hfz12_4
  try clear hfz12_5
  try clear hfz12_6
  try clear hfz12_7
  try clear hfz12_8
  try clear hfz14_0
  try clear hfz14_1
  try clear hfz14_2
  try clear hfz14_3
  try clear hfz14_4
  try clear hfz14_5
  try clear hfz14_6
  try clear hfz14_7
  try clear hfz14_8
  try clear hfz15_0
  try clear hfz15_1
  try clear hfz15_2
  try clear hfz15_3
  try clear hfz15_4
  try clear hfz15_5
  try clear hfz15_6
  try clear hfz15_7
  try clear hfz15_8
  try clear hfz17_0
  try clear hfz17_1
  try clear hfz17_2
  try clear hfz17_3
  try clear hfz17_4
  try clear hfz17_5
  try clear hfz17_6
  try clear hfz17_7
  try clear hfz17_8
  try clear hfz18_0
  try clear hfz18_1
  try clear hfz18_2
  try clear hfz18_3
  try clear hfz18_4
  try clear hfz18_5
  try clear hfz18_6
  try clear hfz18_7
  try clear hfz18_8
  try clear hfz8_0
  try clear hfz8_1
  try clear hfz8_2
  try clear hfz8_3
  try clear hfz8_4
  try clear hfz8_5
  try clear hfz8_6
  try clear hfz8_7
  try clear hfz8_8
  obtain ⟨kq, x7_2, rfl, HA, HJ2, BK251, HB⟩ := hcut
  cases kq with
  | zero => exact absurd HA.out (by simp [metric_Place.j0])
  | succ kj2 =>
   have H := HA.out
   clear HA
   simp only [metric_Place.j0] at H
   by_cases c20 : x7_2 = true
   ·subst c20
    have H1 : (some (0, 0, 45)) = some (r1, r2, r3) := by rw [if_pos rfl] at H; exact H
    clear H
    have H := H1
    clear H1
    simp only [Option.some.injEq, Prod.mk.injEq] at H
    obtain ⟨rfl, rfl, rfl⟩ := H
    go_wp2
    repeat (go_quiet (fail); try go_wp2)
    go_ret3
    exact ⟨by first | rfl | (simp [errW_none, errW_some] <;> rfl) | (simp [*, errW_none, errW_some] <;> rfl), bs HB GE251⟩
   ·replace c20 := Bool.eq_false_iff.mpr c20
    subst c20
    have H1 : (if (l0_8.length : Int) = 0 then (some (0, 0, 0)) else (if 0 ≤ a1 then (if a1 < (l0_8.length : Int) then (if 0 ≤ (wrap64 (a1 + 1)) then (if (wrap64 (a1 + 1)) < (l0_8.length : Int) then (some (rd l0_8 a1, wrap64 ((rd l0_8 (wrap64 (a1 + 1))) - (rd l0_8 a1)), 0)) else (none)) else (none)) else (none)) else (none))) = some (r1, r2, r3) := by rw [if_neg (show ¬ (false = true) by decide)] at H; exact H
    clear H
    have H := H1
    clear H1
    by_cases c21 : (l0_8.length : Int) = 0
    ·rw [if_pos c21] at H
     have c21b0 : ((l0_8.length : Int) == 0) = true := beq_iff_eq.mpr c21
     have c21b1 : ((l0_8.length : Int) != 0) = false := bne_eq_false_iff_eq.mpr c21
     clear c21
     simp only [Option.some.injEq, Prod.mk.injEq] at H
     obtain ⟨rfl, rfl, rfl⟩ := H
     have hcz22_0 : wc.cell? ⟨gb251, 0, none⟩ = some (.int .i64 a0_0) := (blk_cell BK251.out 0).trans rfl
     have hcz22_1 : wc.cell? ⟨gb251, 1, none⟩ = some (.int .i64 a0_1) := (blk_cell BK251.out 1).trans rfl
     have hcz22_2 : wc.cell? ⟨gb251, 2, none⟩ = some (.int .i64 a0_2) := (blk_cell BK251.out 2).trans rfl
     have hcz22_3 : wc.cell? ⟨gb251, 3, none⟩ = some (.int .i64 a0_3) := (blk_cell BK251.out 3).trans rfl
     have hcz22_4 : wc.cell? ⟨gb251, 4, none⟩ = some (.int .i64 a0_4) := (blk_cell BK251.out 4).trans rfl
     have hcz22_5 : wc.cell? ⟨gb251, 5, none⟩ = some (.int .i64 a0_5) := (blk_cell BK251.out 5).trans rfl
     have hcz22_6 : wc.cell? ⟨gb251, 6, none⟩ = some (.slice A0_6 l0_6.length c0_6) := (blk_cell BK251.out 6).trans rfl
     have hcz22_7 : wc.cell? ⟨gb251, 7, none⟩ = some (.slice A0_7 l0_7.length c0_7) := (blk_cell BK251.out 7).trans rfl
     have hcz22_8 : wc.cell? ⟨gb251, 8, none⟩ = some (.slice A0_8 l0_8.length c0_8) := (blk_cell BK251.out 8).trans rfl
     have hfz22_0 := blk_frozen BK251.out 0
     have hfz22_1 := blk_frozen BK251.out 1
     have hfz22_2 := blk_frozen BK251.out 2
     have hfz22_3 := blk_frozen BK251.out 3
     have hfz22_4 := blk_frozen BK251.out 4
     have hfz22_5 := blk_frozen BK251.out 5
     have hfz22_6 := blk_frozen BK251.out 6
     have hfz22_7 := blk_frozen BK251.out 7
     have hfz22_8 := blk_frozen BK251.out 8
     go_wp2
     repeat (go_quiet (fail); try go_wp2)
     go_ret3
     exact ⟨by first | rfl | (simp [errW_none, errW_some] <;> rfl) | (simp [*, errW_none, errW_some] <;> rfl), bs HB GE251⟩
    ·rw [if_neg c21] at H
     have c21b0 : ((l0_8.length : Int) == 0) = false := beq_eq_false_iff_ne.mpr c21
     have c21b1 : ((l0_8.length : Int) != 0) = true := bne_iff_ne.mpr c21
     have c21b2 : ¬ (l0_8 = []) := fun h_ => c21 (by rw [h_]; rfl)
     by_cases c23 : 0 ≤ a1
     ·rw [if_pos c23] at H
      have c23b0 : decide (0 ≤ a1) = true := decide_eq_true c23
      clear c23
      by_cases c24 : a1 < (l0_8.length : Int)
      ·rw [if_pos c24] at H
       have c24b0 : decide (a1 < (l0_8.length : Int)) = true := decide_eq_true c24
       clear c24
       obtain ⟨ji25, hji25⟩ : ∃ j_ : Int, (wrap64 (a1 + 1)) = j_ := ⟨_, rfl⟩
       replace H : (if 0 ≤ (ji25) then (if (ji25) < (l0_8.length : Int) then (some (rd l0_8 a1, wrap64 ((rd l0_8 (ji25)) - (rd l0_8 a1)), 0)) else (none)) else (none)) = some (r1, r2, r3) := by first | (rw [hji25] at H; exact H) | (simp only [hji25] at H ⊢; exact H)
       have hji25w : (IntKind.i64.wrap (a1 + 1)) = ji25 := (i64_w _).trans hji25
       by_cases c26 : 0 ≤ (ji25)
       ·rw [if_pos c26] at H
        have c26b0 : decide (0 ≤ (ji25)) = true := decide_eq_true c26
        clear c26
        by_cases c27 : (ji25) < (l0_8.length : Int)
        ·rw [if_pos c27] at H
         have c27b0 : decide ((ji25) < (l0_8.length : Int)) = true := decide_eq_true c27
         clear c27
         simp only [Option.some.injEq, Prod.mk.injEq] at H
         obtain ⟨rfl, rfl, rfl⟩ := H
         have hcz28_0 : wc.cell? ⟨gb251, 0, none⟩ = some (.int .i64 a0_0) := (blk_cell BK251.out 0).trans rfl
         have hcz28_1 : wc.cell? ⟨gb251, 1, none⟩ = some (.int .i64 a0_1) := (blk_cell BK251.out 1).trans rfl
         have hcz28_2 : wc.cell? ⟨gb251, 2, none⟩ = some (.int .i64 a0_2) := (blk_cell BK251.out 2).trans rfl
         have hcz28_3 : wc.cell? ⟨gb251, 3, none⟩ = some (.int .i64 a0_3) := (blk_cell BK251.out 3).trans rfl
         have hcz28_4 : wc.cell? ⟨gb251, 4, none⟩ = some (.int .i64 a0_4) := (blk_cell BK251.out 4).trans rfl
         have hcz28_5 : wc.cell? ⟨gb251, 5, none⟩ = some (.int .i64 a0_5) := (blk_cell BK251.out 5).trans rfl
         have hcz28_6 : wc.cell? ⟨gb251, 6, none⟩ = some (.slice A0_6 l0_6.length c0_6) := (blk_cell BK251.out 6).trans rfl
         have hcz28_7 : wc.cell? ⟨gb251, 7, none⟩ = some (.slice A0_7 l0_7.length c0_7) := (blk_cell BK251.out 7).trans rfl
         have hcz28_8 : wc.cell? ⟨gb251, 8, none⟩ = some (.slice A0_8 l0_8.length c0_8) := (blk_cell BK251.out 8).trans rfl
         have hfz28_0 := blk_frozen BK251.out 0
         have hfz28_1 := blk_frozen BK251.out 1
         have hfz28_2 := blk_frozen BK251.out 2
         have hfz28_3 := blk_frozen BK251.out 3
         have hfz28_4 := blk_frozen BK251.out 4
         have hfz28_5 := blk_frozen BK251.out 5
         have hfz28_6 := blk_frozen BK251.out 6
         have hfz28_7 := blk_frozen BK251.out 7
         have hfz28_8 := blk_frozen BK251.out 8
         have p253 : 0 ≤ (a1 : Int) := odt
         have q253 : a1 < (l0_8.length : Int) := odt
         obtain ⟨ad253, e253, hx253_0⟩ := Kd.at_int HR0_8.out a1 p253 q253
         cases e253
         replace hx253_0 := (HB.out.cell (World.block_lt_of_cell? w _ hx253_0)).trans hx253_0
         replace p253 := eq_true p253
         replace q253 := eq_true q253
         have p254 : 0 ≤ ((ji25) : Int) := odt
         have q254 : (ji25) < (l0_8.length : Int) := odt
         obtain ⟨ad254, e254, hx254_0⟩ := Kd.at_int HR0_8.out (ji25) p254 q254
         obtain rfl : ad253 = ad254 := (by injection e254)
         replace hx254_0 := (HB.out.cell (World.block_lt_of_cell? w _ hx254_0)).trans hx254_0
         replace p254 := eq_true p254
         replace q254 := eq_true q254
         have p255 : 0 ≤ (a1 : Int) := odt
         have q255 : a1 < (l0_8.length : Int) := odt
         obtain ⟨ad255, e255, hx255_0⟩ := Kd.at_int HR0_8.out a1 p255 q255
         obtain rfl : ad253 = ad255 := (by injection e255)
         replace hx255_0 := (HB.out.cell (World.block_lt_of_cell? w _ hx255_0)).trans hx255_0
         replace p255 := eq_true p255
         replace q255 := eq_true q255
         go_wp2
         repeat (go_quiet (fail); try go_wp2)
         go_ret3
         exact ⟨by first | rfl | (simp [errW_none, errW_some] <;> rfl) | (simp only [← hji25]; first | rfl | (simp [errW_none, errW_some] <;> rfl)) | (simp [*, errW_none, errW_some] <;> rfl), bs HB GE251⟩
        ·rw [if_neg c27] at H
         exact absurd H (by simp)
       ·rw [if_neg c26] at H
        exact absurd H (by simp)
      ·rw [if_neg c24] at H
       exact absurd H (by simp)
     ·rw [if_neg c23] at H
      exact absurd H (by simp)

end Go.Proofs.Ytonljpciadeafaa.Q
