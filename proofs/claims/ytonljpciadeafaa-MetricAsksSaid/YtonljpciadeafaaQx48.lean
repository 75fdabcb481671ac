-- written by a program of this session (wip/xprint.py) over the kit's print
import Derived.Test.YtonljpciadeafaaQx0
import Derived.Test.YtonljpciadeafaaQx44
import Derived.Test.YtonljpciadeafaaQx46
import Derived.Test.YtonljpciadeafaaQx47
namespace Go.Proofs.Ytonljpciadeafaa.Q
open Go.RowKit Go.Proofs.YtonljpciadeafaaW.PrintWords Go.Proofs.YtonljpciadeafaaW.PrintLast Go.Proofs.YtonljpciadeafaaW.PrintMore
attribute [local go_sem] max2_int min2_int max_two min_two max_three min_three max_four min_four   -- for this text's walks alone
set_option linter.unusedVariables false
set_option linter.unusedSimpArgs false

/-! ### seriflaw04_MetricAsks: function 9 -/
mutual
def seriflaw04_MetricAsks.j0 : Nat → Int → Bool → Int → Int → Int → Int → Int → Int → List Int → List Int → List Int → Option (Bool)
 | 0, _, _, _, _, _, _, _, _, _, _, _ => none
 | k + 1, x1, x5, x257000, x257001, x257002, x257003, x257004, x257005, x257006, x257007, x257008 => (metric_Advance.f x257000 x257001 x257002 x257003 x257004 x257005 x257006 x257007 x257008 x1).bind fun bt258 => ((metric_Place.f k x257000 x257001 x257002 x257003 x257004 x257005 x257006 x257007 x257008 x1).bind fun bt260 => (if x5 = true then (if bt258.1 = 0 then (if bt258.2 = 45 then (if bt260.1 = 0 then (if bt260.2.1 = 0 then (some (bt260.2.2 == 45)) else (none)) else (none)) else (none)) else (none)) else (if 0 ≤ x1 then (if x1 < (x257006.length : Int) then (if bt258.1 = (rd x257006 x1) then (seriflaw04_MetricAsks.j1 k x1 bt260.1 bt260.2.1 bt260.2.2 (bt258.2 != 0) x257000 x257001 x257002 x257003 x257004 x257005 x257006 x257007 x257008) else (seriflaw04_MetricAsks.j1 k x1 bt260.1 bt260.2.1 bt260.2.2 true x257000 x257001 x257002 x257003 x257004 x257005 x257006 x257007 x257008)) else (none)) else (none))))
def seriflaw04_MetricAsks.j1 : Nat → Int → Int → Int → Int → Bool → Int → Int → Int → Int → Int → Int → List Int → List Int → List Int → Option (Bool)
 | 0, _, _, _, _, _, _, _, _, _, _, _, _, _, _ => none
 | k + 1, x1, x8, x9, x10, x71, x257000, x257001, x257002, x257003, x257004, x257005, x257006, x257007, x257008 => if x71 = true then (none) else (if (x257008.length : Int) = 0 then (if x8 = 0 then (if x9 = 0 then (some (x10 == 0)) else (none)) else (none)) else (if (wrap64 ((x257008.length : Int) - 1)) = x257002 then (if 0 ≤ x1 then (if x1 < (x257008.length : Int) then (if (rd x257008 x1) < 0 then (some true) else (if 0 ≤ (wrap64 (x1 + 1)) then (if (wrap64 (x1 + 1)) < (x257008.length : Int) then (if (rd x257008 (wrap64 (x1 + 1))) < (rd x257008 x1) then (some true) else (if x8 = (rd x257008 x1) then (if x9 = (wrap64 ((rd x257008 (wrap64 (x1 + 1))) - (rd x257008 x1))) then (some (x10 == 0)) else (none)) else (none))) else (none)) else (none))) else (none)) else (none)) else (if x8 = 0 then (if x9 = 0 then (some (x10 == 45)) else (none)) else (none))))
end
def seriflaw04_MetricAsks.f (k : Nat) (a0_0 : Int) (a0_1 : Int) (a0_2 : Int) (a0_3 : Int) (a0_4 : Int) (a0_5 : Int) (l0_6 : List Int) (l0_7 : List Int) (l0_8 : List Int) (a1 : Int) : Option (Bool) := (seriflaw04_metricAlive.f).bind fun t257 => (if t257 = true then (if a1 < 0 then (seriflaw04_MetricAsks.j0 k a1 true a0_0 a0_1 a0_2 a0_3 a0_4 a0_5 l0_6 l0_7 l0_8) else (if a1 ≥ a0_2 then (seriflaw04_MetricAsks.j0 k a1 true a0_0 a0_1 a0_2 a0_3 a0_4 a0_5 l0_6 l0_7 l0_8) else (seriflaw04_MetricAsks.j0 k a1 (decide ((l0_6.length : Int) < a0_2)) a0_0 a0_1 a0_2 a0_3 a0_4 a0_5 l0_6 l0_7 l0_8))) else (none))
theorem seriflaw04_MetricAsks.mono_l : ∀ k, (∀ y0 y1 y2 y3 y4 y5 y6 y7 y8 y9 y10, LeO (seriflaw04_MetricAsks.j0 k y0 y1 y2 y3 y4 y5 y6 y7 y8 y9 y10) (seriflaw04_MetricAsks.j0 (k + 1) y0 y1 y2 y3 y4 y5 y6 y7 y8 y9 y10)) ∧ (∀ y0 y1 y2 y3 y4 y5 y6 y7 y8 y9 y10 y11 y12 y13, LeO (seriflaw04_MetricAsks.j1 k y0 y1 y2 y3 y4 y5 y6 y7 y8 y9 y10 y11 y12 y13) (seriflaw04_MetricAsks.j1 (k + 1) y0 y1 y2 y3 y4 y5 y6 y7 y8 y9 y10 y11 y12 y13))
 | 0 => ⟨fun _ _ _ _ _ _ _ _ _ _ _ r h => by simp [seriflaw04_MetricAsks.j0] at h, fun _ _ _ _ _ _ _ _ _ _ _ _ _ _ r h => by simp [seriflaw04_MetricAsks.j1] at h⟩
 | k + 1 => by
  obtain ⟨ih0, ih1⟩ := seriflaw04_MetricAsks.mono_l k
  refine ⟨?_, ?_⟩
  ·intro y0 y1 y2 y3 y4 y5 y6 y7 y8 y9 y10
   unfold seriflaw04_MetricAsks.j0
   repeat' first
   | (with_reducible exact ih0 _ _ _ _ _ _ _ _ _ _ _)
   | (with_reducible exact ih1 _ _ _ _ _ _ _ _ _ _ _ _ _ _)
   | (with_reducible exact metric_Place.mono _ _ _ _ _ _ _ _ _ _ _)
   | (with_reducible exact LeO.refl _)
   | (with_reducible exact LeO.none _)
   | (with_reducible refine LeO.ite ?_ ?_)
   | (with_reducible refine LeO.bind ?_ (fun _ => ?_))
   | exact ih0 _ _ _ _ _ _ _ _ _ _ _
   | exact ih1 _ _ _ _ _ _ _ _ _ _ _ _ _ _
   | exact metric_Place.mono _ _ _ _ _ _ _ _ _ _ _
   | exact LeO.none _
   | refine LeO.ite ?_ ?_
   | refine LeO.bind ?_ (fun _ => ?_)
  ·intro y0 y1 y2 y3 y4 y5 y6 y7 y8 y9 y10 y11 y12 y13
   unfold seriflaw04_MetricAsks.j1
   repeat' first
   | (with_reducible exact ih0 _ _ _ _ _ _ _ _ _ _ _)
   | (with_reducible exact ih1 _ _ _ _ _ _ _ _ _ _ _ _ _ _)
   | (with_reducible exact metric_Place.mono _ _ _ _ _ _ _ _ _ _ _)
   | (with_reducible exact LeO.refl _)
   | (with_reducible exact LeO.none _)
   | (with_reducible refine LeO.ite ?_ ?_)
   | (with_reducible refine LeO.bind ?_ (fun _ => ?_))
   | exact ih0 _ _ _ _ _ _ _ _ _ _ _
   | exact ih1 _ _ _ _ _ _ _ _ _ _ _ _ _ _
   | exact metric_Place.mono _ _ _ _ _ _ _ _ _ _ _
   | exact LeO.none _
   | refine LeO.ite ?_ ?_
   | refine LeO.bind ?_ (fun _ => ?_)
theorem seriflaw04_MetricAsks.mono : ∀ a0 a1 a2 a3 a4 a5 a6 a7 a8 a9 k, LeO (seriflaw04_MetricAsks.f k a0 a1 a2 a3 a4 a5 a6 a7 a8 a9) (seriflaw04_MetricAsks.f (k + 1) a0 a1 a2 a3 a4 a5 a6 a7 a8 a9) := by
 intro a0 a1 a2 a3 a4 a5 a6 a7 a8 a9 k
 obtain ⟨ih0, ih1⟩ := seriflaw04_MetricAsks.mono_l k
 unfold seriflaw04_MetricAsks.f
 repeat' first
   | (with_reducible exact ih0 _ _ _ _ _ _ _ _ _ _ _)
   | (with_reducible exact ih1 _ _ _ _ _ _ _ _ _ _ _ _ _ _)
   | (with_reducible exact metric_Place.mono _ _ _ _ _ _ _ _ _ _ _)
   | (with_reducible exact LeO.refl _)
   | (with_reducible exact LeO.none _)
   | (with_reducible refine LeO.ite ?_ ?_)
   | (with_reducible refine LeO.bind ?_ (fun _ => ?_))
   | exact ih0 _ _ _ _ _ _ _ _ _ _ _
   | exact ih1 _ _ _ _ _ _ _ _ _ _ _ _ _ _
   | exact metric_Place.mono _ _ _ _ _ _ _ _ _ _ _
   | exact LeO.none _
   | refine LeO.ite ?_ ?_
   | refine LeO.bind ?_ (fun _ => ?_)
set_option maxHeartbeats 8000000 in
set_option maxRecDepth 100000 in
theorem seriflaw04_MetricAsks.calls (k : Nat) (a0_0 : Int) (a0_1 : Int) (a0_2 : Int) (a0_3 : Int) (a0_4 : Int) (a0_5 : Int) (A0_6 : Option Addr) (c0_6 : Nat) (l0_6 : List Int) (A0_7 : Option Addr) (c0_7 : Nat) (l0_7 : List Int) (A0_8 : Option Addr) (c0_8 : Nat) (l0_8 : List Int) (a1 : Int) (r : Bool) (w : World) (hr0_6 : Kd.C (Kd.int .i64) w A0_6 l0_6.length l0_6) (hc0_6 : l0_6.length ≤ c0_6) (hr0_7 : Kd.C (Kd.int .i64) w A0_7 l0_7.length l0_7) (hc0_7 : l0_7.length ≤ c0_7) (hr0_8 : Kd.C (Kd.int .i64) w A0_8 l0_8.length l0_8) (hc0_8 : l0_8.length ≤ c0_8) (h : seriflaw04_MetricAsks.f k a0_0 a0_1 a0_2 a0_3 a0_4 a0_5 l0_6 l0_7 l0_8 a1 = some r) :
  Calls Try.prog 9 #[.agg #[.int .i64 a0_0, .int .i64 a0_1, .int .i64 a0_2, .int .i64 a0_3, .int .i64 a0_4, .int .i64 a0_5, .slice A0_6 l0_6.length c0_6, .slice A0_7 l0_7.length c0_7, .slice A0_8 l0_8.length c0_8], .int .i64 a1] w fun e w' => e = .returned (.bool r) ∧ Below w.heap.size w w' := by
 have hu37 := Try.underlying37
 have HR0_6 := Aside0.mk hr0_6
 have HC0_6 := Aside0.mk hc0_6
 clear hr0_6 hc0_6
 have HR0_7 := Aside0.mk hr0_7
 have HC0_7 := Aside0.mk hc0_7
 clear hr0_7 hc0_7
 have HR0_8 := Aside0.mk hr0_8
 have HC0_8 := Aside0.mk hc0_8
 clear hr0_8 hc0_8
 have HB := Aside0.mk (Below.refl w.heap.size w)
 have H : ((seriflaw04_metricAlive.f).bind fun t257 => (if t257 = true then (if a1 < 0 then (seriflaw04_MetricAsks.j0 k a1 true a0_0 a0_1 a0_2 a0_3 a0_4 a0_5 l0_6 l0_7 l0_8) else (if a1 ≥ a0_2 then (seriflaw04_MetricAsks.j0 k a1 true a0_0 a0_1 a0_2 a0_3 a0_4 a0_5 l0_6 l0_7 l0_8) else (seriflaw04_MetricAsks.j0 k a1 (decide ((l0_6.length : Int) < a0_2)) a0_0 a0_1 a0_2 a0_3 a0_4 a0_5 l0_6 l0_7 l0_8))) else (none))) = some r := h
 clear h
 replace H := Option.bind_eq_some_iff.mp H
 obtain ⟨t257, A30, H⟩ := H
 replace H : (if t257 = true then (if a1 < 0 then (seriflaw04_MetricAsks.j0 k a1 true a0_0 a0_1 a0_2 a0_3 a0_4 a0_5 l0_6 l0_7 l0_8) else (if a1 ≥ a0_2 then (seriflaw04_MetricAsks.j0 k a1 true a0_0 a0_1 a0_2 a0_3 a0_4 a0_5 l0_6 l0_7 l0_8) else (seriflaw04_MetricAsks.j0 k a1 (decide ((l0_6.length : Int) < a0_2)) a0_0 a0_1 a0_2 a0_3 a0_4 a0_5 l0_6 l0_7 l0_8))) else (none)) = some r := H
 have A3 := Aside0.mk A30
 clear A30
 by_cases c4 : t257 = true
 ·subst c4
  have H1 : (if a1 < 0 then (seriflaw04_MetricAsks.j0 k a1 true a0_0 a0_1 a0_2 a0_3 a0_4 a0_5 l0_6 l0_7 l0_8) else (if a1 ≥ a0_2 then (seriflaw04_MetricAsks.j0 k a1 true a0_0 a0_1 a0_2 a0_3 a0_4 a0_5 l0_6 l0_7 l0_8) else (seriflaw04_MetricAsks.j0 k a1 (decide ((l0_6.length : Int) < a0_2)) a0_0 a0_1 a0_2 a0_3 a0_4 a0_5 l0_6 l0_7 l0_8))) = some r := by rw [if_pos rfl] at H; exact H
  clear H
  have H := H1
  clear H1
  have HC5 := Aside0.mk H
  clear H
  go_enter Try.func9, Try.ntmps9
  go_upto_region 3 with (first | ((with_reducible refine gate_dst (N := 2) rfl ?_); (try (refine gate_guard (by rfl) ?_; dsimp only)); refine box_event ?hg (N := 2) ?hd (cs := #[.int .i64 a0_0, .int .i64 a0_1, .int .i64 a0_2, .int .i64 a0_3, .int .i64 a0_4, .int .i64 a0_5, .slice A0_6 l0_6.length c0_6, .slice A0_7 l0_7.length c0_7, .slice A0_8 l0_8.length c0_8]) (t := 37) ?hr ?_; (case hd => rfl); (case hg => rfl); (case hr => first | (go_simp; done) | (go_simp; rfl)); intro gb256 hg w6 hbox hb; have n0_ := Aside0.mk (below_step (bq HB) hb); have n1_ := Aside0.mk (hbox); have n2_ := Aside0.mk ((by rw [hg]; exact (below_size (bq HB)) : w.heap.size ≤ gb256)); have n3_ := Aside0.mk ((by rw [hg]; exact (below_size (bq HB)) : w.heap.size ≤ gb256)); clear HB; have HB := n0_; have BK256 := n1_; have GW256 := n2_; have GE256 := n3_; clear n0_ n1_ n2_ n3_; clear hb hbox hg) | (go_at_call 13; (with_reducible refine (seriflaw04_metricAlive.calls  true _ A3.out).mono ?_); rintro e w7 ⟨rfl, hb⟩; have n0_ := Aside0.mk (blk_below (g := gb256) (o := .cells #[.int .i64 a0_0, .int .i64 a0_1, .int .i64 a0_2, .int .i64 a0_3, .int .i64 a0_4, .int .i64 a0_5, .slice A0_6 l0_6.length c0_6, .slice A0_7 l0_7.length c0_7, .slice A0_8 l0_8.length c0_8] 37 (0, 0)) (kq BK256) hb); have n1_ := Aside0.mk (below_step (bs HB GE256) hb); clear BK256; clear HB; have BK256 := n0_; have HB := n1_; clear n0_ n1_; (try clear hb); (try clear hb2); (try clear hk); (try clear hi)))
  repeat (go_quiet (first | ((with_reducible refine gate_dst (N := 2) rfl ?_); (try (refine gate_guard (by rfl) ?_; dsimp only)); refine box_event ?hg (N := 2) ?hd (cs := #[.int .i64 a0_0, .int .i64 a0_1, .int .i64 a0_2, .int .i64 a0_3, .int .i64 a0_4, .int .i64 a0_5, .slice A0_6 l0_6.length c0_6, .slice A0_7 l0_7.length c0_7, .slice A0_8 l0_8.length c0_8]) (t := 37) ?hr ?_; (case hd => rfl); (case hg => rfl); (case hr => first | (go_simp; done) | (go_simp; rfl)); intro gb256 hg w6 hbox hb; have n0_ := Aside0.mk (below_step (bq HB) hb); have n1_ := Aside0.mk (hbox); have n2_ := Aside0.mk ((by rw [hg]; exact (below_size (bq HB)) : w.heap.size ≤ gb256)); have n3_ := Aside0.mk ((by rw [hg]; exact (below_size (bq HB)) : w.heap.size ≤ gb256)); clear HB; have HB := n0_; have BK256 := n1_; have GW256 := n2_; have GE256 := n3_; clear n0_ n1_ n2_ n3_; clear hb hbox hg) | (go_at_call 13; (with_reducible refine (seriflaw04_metricAlive.calls  true _ A3.out).mono ?_); rintro e w7 ⟨rfl, hb⟩; have n0_ := Aside0.mk (blk_below (g := gb256) (o := .cells #[.int .i64 a0_0, .int .i64 a0_1, .int .i64 a0_2, .int .i64 a0_3, .int .i64 a0_4, .int .i64 a0_5, .slice A0_6 l0_6.length c0_6, .slice A0_7 l0_7.length c0_7, .slice A0_8 l0_8.length c0_8] 37 (0, 0)) (kq BK256) hb); have n1_ := Aside0.mk (below_step (bs HB GE256) hb); clear BK256; clear HB; have BK256 := n0_; have HB := n1_; clear n0_ n1_; (try clear hb); (try clear hb2); (try clear hk); (try clear hi))); go_upto_region 3 with (first | ((with_reducible refine gate_dst (N := 2) rfl ?_); (try (refine gate_guard (by rfl) ?_; dsimp only)); refine box_event ?hg (N := 2) ?hd (cs := #[.int .i64 a0_0, .int .i64 a0_1, .int .i64 a0_2, .int .i64 a0_3, .int .i64 a0_4, .int .i64 a0_5, .slice A0_6 l0_6.length c0_6, .slice A0_7 l0_7.length c0_7, .slice A0_8 l0_8.length c0_8]) (t := 37) ?hr ?_; (case hd => rfl); (case hg => rfl); (case hr => first | (go_simp; done) | (go_simp; rfl)); intro gb256 hg w6 hbox hb; have n0_ := Aside0.mk (below_step (bq HB) hb); have n1_ := Aside0.mk (hbox); have n2_ := Aside0.mk ((by rw [hg]; exact (below_size (bq HB)) : w.heap.size ≤ gb256)); have n3_ := Aside0.mk ((by rw [hg]; exact (below_size (bq HB)) : w.heap.size ≤ gb256)); clear HB; have HB := n0_; have BK256 := n1_; have GW256 := n2_; have GE256 := n3_; clear n0_ n1_ n2_ n3_; clear hb hbox hg) | (go_at_call 13; (with_reducible refine (seriflaw04_metricAlive.calls  true _ A3.out).mono ?_); rintro e w7 ⟨rfl, hb⟩; have n0_ := Aside0.mk (blk_below (g := gb256) (o := .cells #[.int .i64 a0_0, .int .i64 a0_1, .int .i64 a0_2, .int .i64 a0_3, .int .i64 a0_4, .int .i64 a0_5, .slice A0_6 l0_6.length c0_6, .slice A0_7 l0_7.length c0_7, .slice A0_8 l0_8.length c0_8] 37 (0, 0)) (kq BK256) hb); have n1_ := Aside0.mk (below_step (bs HB GE256) hb); clear BK256; clear HB; have BK256 := n0_; have HB := n1_; clear n0_ n1_; (try clear hb); (try clear hb2); (try clear hk); (try clear hi))))
  (try simp only [Act.put, List.setIfInBounds_toArray, List.set_cons_zero, List.set_cons_succ])
  go_cut [5] (fun v5 wc => ∃ (kq : Nat) (x5_4 : Bool), v5 = .bool x5_4 ∧ Aside0 (seriflaw04_MetricAsks.j0 kq a1 x5_4 a0_0 a0_1 a0_2 a0_3 a0_4 a0_5 l0_6 l0_7 l0_8 = some r) ∧ Aside0 (kq ≤ k) ∧ Aside0 (wc.heap[gb256]? = some (.cells #[.int .i64 a0_0, .int .i64 a0_1, .int .i64 a0_2, .int .i64 a0_3, .int .i64 a0_4, .int .i64 a0_5, (.slice A0_6 l0_6.length c0_6), (.slice A0_7 l0_7.length c0_7), (.slice A0_8 l0_8.length c0_8)] 37 (0, 0))) ∧ Aside0 (Below w.heap.size w wc))
  case first =>
   have H := HC5.out
   clear HC5
   by_cases c8 : a1 < 0
   ·rw [if_pos c8] at H
    have c8b0 : decide (a1 < 0) = true := decide_eq_true c8
    clear c8
    (first | rw [c8b0] | (simp only [i64_w, i32_w]; rw [c8b0]) | skip)
    have H' := Aside0.mk H
    clear H
    go_wp2
    repeat (go_quiet (fail); try go_wp2)
    go_meet
    case rel => exact ⟨_, (true), (by first | rfl | (simp; done) | (simp [*]; done)), H', ⟨by first | omega | exact Nat.le_refl _⟩, ⟨by (with_reducible repeat (first | refine blk_drewN ?_ _ | refine blk_drew ?_ | refine blk_alloc ?_ _)); exact BK256.out⟩, ⟨bs HB GE256⟩⟩
   ·rw [if_neg c8] at H
    have c8b0 : decide (a1 < 0) = false := decide_eq_false c8
    clear c8
    (first | rw [c8b0] | (simp only [i64_w, i32_w]; rw [c8b0]) | skip)
    by_cases c9 : a1 ≥ a0_2
    ·rw [if_pos c9] at H
     have c9b0 : decide (a0_2 ≤ a1) = true := decide_eq_true c9
     clear c9
     have H' := Aside0.mk H
     clear H
     have hcz10_0 : w7.cell? ⟨gb256, 0, none⟩ = some (.int .i64 a0_0) := (blk_cell BK256.out 0).trans rfl
     have hcz10_1 : w7.cell? ⟨gb256, 1, none⟩ = some (.int .i64 a0_1) := (blk_cell BK256.out 1).trans rfl
     have hcz10_2 : w7.cell? ⟨gb256, 2, none⟩ = some (.int .i64 a0_2) := (blk_cell BK256.out 2).trans rfl
     have hcz10_3 : w7.cell? ⟨gb256, 3, none⟩ = some (.int .i64 a0_3) := (blk_cell BK256.out 3).trans rfl
     have hcz10_4 : w7.cell? ⟨gb256, 4, none⟩ = some (.int .i64 a0_4) := (blk_cell BK256.out 4).trans rfl
     have hcz10_5 : w7.cell? ⟨gb256, 5, none⟩ = some (.int .i64 a0_5) := (blk_cell BK256.out 5).trans rfl
     have hcz10_6 : w7.cell? ⟨gb256, 6, none⟩ = some (.slice A0_6 l0_6.length c0_6) := (blk_cell BK256.out 6).trans rfl
     have hcz10_7 : w7.cell? ⟨gb256, 7, none⟩ = some (.slice A0_7 l0_7.length c0_7) := (blk_cell BK256.out 7).trans rfl
     have hcz10_8 : w7.cell? ⟨gb256, 8, none⟩ = some (.slice A0_8 l0_8.length c0_8) := (blk_cell BK256.out 8).trans rfl
     have hfz10_0 := blk_frozen BK256.out 0
     have hfz10_1 := blk_frozen BK256.out 1
     have hfz10_2 := blk_frozen BK256.out 2
     have hfz10_3 := blk_frozen BK256.out 3
     have hfz10_4 := blk_frozen BK256.out 4
     have hfz10_5 := blk_frozen BK256.out 5
     have hfz10_6 := blk_frozen BK256.out 6
     have hfz10_7 := blk_frozen BK256.out 7
     have hfz10_8 := blk_frozen BK256.out 8
     go_wp2
     repeat (go_quiet (fail); try go_wp2)
     go_meet
     case rel => exact ⟨_, (true), (by first | rfl | (simp; done) | (simp [*]; done)), H', ⟨by first | omega | exact Nat.le_refl _⟩, ⟨by (with_reducible repeat (first | refine blk_drewN ?_ _ | refine blk_drew ?_ | refine blk_alloc ?_ _)); exact BK256.out⟩, ⟨bs HB GE256⟩⟩
    ·rw [if_neg c9] at H
     have c9b0 : decide (a0_2 ≤ a1) = false := decide_eq_false c9
     clear c9
     have H' := Aside0.mk H
     clear H
     have hcz11_0 : w7.cell? ⟨gb256, 0, none⟩ = some (.int .i64 a0_0) := (blk_cell BK256.out 0).trans rfl
     have hcz11_1 : w7.cell? ⟨gb256, 1, none⟩ = some (.int .i64 a0_1) := (blk_cell BK256.out 1).trans rfl
     have hcz11_2 : w7.cell? ⟨gb256, 2, none⟩ = some (.int .i64 a0_2) := (blk_cell BK256.out 2).trans rfl
     have hcz11_3 : w7.cell? ⟨gb256, 3, none⟩ = some (.int .i64 a0_3) := (blk_cell BK256.out 3).trans rfl
     have hcz11_4 : w7.cell? ⟨gb256, 4, none⟩ = some (.int .i64 a0_4) := (blk_cell BK256.out 4).trans rfl
     have hcz11_5 : w7.cell? ⟨gb256, 5, none⟩ = some (.int .i64 a0_5) := (blk_cell BK256.out 5).trans rfl
     have hcz11_6 : w7.cell? ⟨gb256, 6, none⟩ = some (.slice A0_6 l0_6.length c0_6) := (blk_cell BK256.out 6).trans rfl
     have hcz11_7 : w7.cell? ⟨gb256, 7, none⟩ = some (.slice A0_7 l0_7.length c0_7) := (blk_cell BK256.out 7).trans rfl
     have hcz11_8 : w7.cell? ⟨gb256, 8, none⟩ = some (.slice A0_8 l0_8.length c0_8) := (blk_cell BK256.out 8).trans rfl
     have hfz11_0 := blk_frozen BK256.out 0
     have hfz11_1 := blk_frozen BK256.out 1
     have hfz11_2 := blk_frozen BK256.out 2
     have hfz11_3 := blk_frozen BK256.out 3
     have hfz11_4 := blk_frozen BK256.out 4
     have hfz11_5 := blk_frozen BK256.out 5
     have hfz11_6 := blk_frozen BK256.out 6
     have hfz11_7 := blk_frozen BK256.out 7
     have hfz11_8 := blk_frozen BK256.out 8
     go_wp2
     repeat (go_quiet (fail); try go_wp2)
     go_meet
     case rel => exact ⟨_, (decide ((l0_6.length : Int) < a0_2)), (by first | rfl | (simp; done) | (simp [*]; done)), H', ⟨by first | omega | exact Nat.le_refl _⟩, ⟨by (with_reducible repeat (first | refine blk_drewN ?_ _ | refine blk_drew ?_ | refine blk_alloc ?_ _)); exact BK256.out⟩, ⟨bs HB GE256⟩⟩
  case rest =>
   clear HC5
   try clear p2
   try clear c4
   try clear c8
   try clear c8b0
   try clear c9
   try clear c9b0
   try clear hcz10_0
   try clear hcz10_1
   try clear hcz10_2
   try clear hcz10_3
   try clear hcz10_4
   try clear hcz10_5
   try clear hcz10_6
   try clear hcz10_7
   try clear hcz10_8
   try clear hcz11_0
   try clear hcz11_1
   try clear hcz11_2
   try clear hcz11_3
   try clear hcz11_4
   try clear hcz11_5
   try clear hcz11_6
   try clear hcz11_7
   try clear hcz11_8
   try clear hfz10_0
   try clear hfz10_1
   try clear hfz10_2
   try clear hfz10_3
   try clear hfz10_4
   try clear hfz10_5
   try clear hfz10_6
   try clear hfz10_7
   try clear hfz10_8
   try clear hfz11_0
   try clear hfz11_1
   try clear hfz11_2
   try clear hfz11_3
   try clear hfz11_4
   try clear hfz11_5
   try clear hfz11_6
   try clear hfz11_7
   try clear hfz11_8
   obtain ⟨kq, x5_4, rfl, HA, HJ4, BK256, HB⟩ := hcut
   cases kq with
   | zero => exact absurd HA.out (by simp [seriflaw04_MetricAsks.j0])
   | succ kj4 =>
    have H := HA.out
    clear HA
    simp only [seriflaw04_MetricAsks.j0] at H
    replace H := Option.bind_eq_some_iff.mp H
    obtain ⟨⟨t258, t259⟩, A120, H⟩ := H
    replace H : ((metric_Place.f kj4 a0_0 a0_1 a0_2 a0_3 a0_4 a0_5 l0_6 l0_7 l0_8 a1).bind fun bt260 => (if x5_4 = true then (if t258 = 0 then (if t259 = 45 then (if bt260.1 = 0 then (if bt260.2.1 = 0 then (some (bt260.2.2 == 45)) else (none)) else (none)) else (none)) else (none)) else (if 0 ≤ a1 then (if a1 < (l0_6.length : Int) then (if t258 = (rd l0_6 a1) then (seriflaw04_MetricAsks.j1 kj4 a1 bt260.1 bt260.2.1 bt260.2.2 (t259 != 0) a0_0 a0_1 a0_2 a0_3 a0_4 a0_5 l0_6 l0_7 l0_8) else (seriflaw04_MetricAsks.j1 kj4 a1 bt260.1 bt260.2.1 bt260.2.2 true a0_0 a0_1 a0_2 a0_3 a0_4 a0_5 l0_6 l0_7 l0_8)) else (none)) else (none)))) = some r := H
    have A12 := Aside0.mk A120
    clear A120
    replace H := Option.bind_eq_some_iff.mp H
    obtain ⟨⟨t260, t261, t262⟩, A130, H⟩ := H
    replace H : (if x5_4 = true then (if t258 = 0 then (if t259 = 45 then (if t260 = 0 then (if t261 = 0 then (some (t262 == 45)) else (none)) else (none)) else (none)) else (none)) else (if 0 ≤ a1 then (if a1 < (l0_6.length : Int) then (if t258 = (rd l0_6 a1) then (seriflaw04_MetricAsks.j1 kj4 a1 t260 t261 t262 (t259 != 0) a0_0 a0_1 a0_2 a0_3 a0_4 a0_5 l0_6 l0_7 l0_8) else (seriflaw04_MetricAsks.j1 kj4 a1 t260 t261 t262 true a0_0 a0_1 a0_2 a0_3 a0_4 a0_5 l0_6 l0_7 l0_8)) else (none)) else (none))) = some r := H
    have A13 := Aside0.mk A130
    clear A130
    by_cases c14 : x5_4 = true
    ·subst c14
     have H1 : (if t258 = 0 then (if t259 = 45 then (if t260 = 0 then (if t261 = 0 then (some (t262 == 45)) else (none)) else (none)) else (none)) else (none)) = some r := by rw [if_pos rfl] at H; exact H
     clear H
     have H := H1
     clear H1
     by_cases c15 : t258 = 0
     ·rw [if_pos c15] at H
      have c15b0 : (t258 == 0) = true := beq_iff_eq.mpr c15
      have c15b1 : (t258 != 0) = false := bne_eq_false_iff_eq.mpr c15
      clear c15
      by_cases c16 : t259 = 45
      ·rw [if_pos c16] at H
       have c16b0 : (t259 == 45) = true := beq_iff_eq.mpr c16
       have c16b1 : (t259 != 45) = false := bne_eq_false_iff_eq.mpr c16
       clear c16
       by_cases c17 : t260 = 0
       ·rw [if_pos c17] at H
        have c17b0 : (t260 == 0) = true := beq_iff_eq.mpr c17
        have c17b1 : (t260 != 0) = false := bne_eq_false_iff_eq.mpr c17
        clear c17
        by_cases c18 : t261 = 0
        ·rw [if_pos c18] at H
         have c18b0 : (t261 == 0) = true := beq_iff_eq.mpr c18
         have c18b1 : (t261 != 0) = false := bne_eq_false_iff_eq.mpr c18
         clear c18
         obtain rfl := Option.some.inj H
         have hcz19_0 : wc.cell? ⟨gb256, 0, none⟩ = some (.int .i64 a0_0) := (blk_cell BK256.out 0).trans rfl
         have hcz19_1 : wc.cell? ⟨gb256, 1, none⟩ = some (.int .i64 a0_1) := (blk_cell BK256.out 1).trans rfl
         have hcz19_2 : wc.cell? ⟨gb256, 2, none⟩ = some (.int .i64 a0_2) := (blk_cell BK256.out 2).trans rfl
         have hcz19_3 : wc.cell? ⟨gb256, 3, none⟩ = some (.int .i64 a0_3) := (blk_cell BK256.out 3).trans rfl
         have hcz19_4 : wc.cell? ⟨gb256, 4, none⟩ = some (.int .i64 a0_4) := (blk_cell BK256.out 4).trans rfl
         have hcz19_5 : wc.cell? ⟨gb256, 5, none⟩ = some (.int .i64 a0_5) := (blk_cell BK256.out 5).trans rfl
         have hcz19_6 : wc.cell? ⟨gb256, 6, none⟩ = some (.slice A0_6 l0_6.length c0_6) := (blk_cell BK256.out 6).trans rfl
         have hcz19_7 : wc.cell? ⟨gb256, 7, none⟩ = some (.slice A0_7 l0_7.length c0_7) := (blk_cell BK256.out 7).trans rfl
         have hcz19_8 : wc.cell? ⟨gb256, 8, none⟩ = some (.slice A0_8 l0_8.length c0_8) := (blk_cell BK256.out 8).trans rfl
         have hfz19_0 := blk_frozen BK256.out 0
         have hfz19_1 := blk_frozen BK256.out 1
         have hfz19_2 := blk_frozen BK256.out 2
         have hfz19_3 := blk_frozen BK256.out 3
         have hfz19_4 := blk_frozen BK256.out 4
         have hfz19_5 := blk_frozen BK256.out 5
         have hfz19_6 := blk_frozen BK256.out 6
         have hfz19_7 := blk_frozen BK256.out 7
         have hfz19_8 := blk_frozen BK256.out 8
         go_wp2_with (first | (go_at_call 23; (with_reducible refine (metric_Advance.calls a0_0 a0_1 a0_2 a0_3 a0_4 a0_5 _ _ l0_6 _ _ l0_7 _ _ l0_8 a1 t258 t259 _ ?side1 ?side2 ?side3 ?side4 ?side5 ?side6 A12.out).mono ?_); (case side1 => repeat (first | exact (Kd.C_below HR0_6.out HB.out) | (with_reducible refine Kd.C_alloc ?_ _) | (with_reducible refine Kd.C_drewN ?_ _) | (with_reducible refine Kd.C_drew ?_))); (case side2 => exact HC0_6.out); (case side3 => repeat (first | exact (Kd.C_below HR0_7.out HB.out) | (with_reducible refine Kd.C_alloc ?_ _) | (with_reducible refine Kd.C_drewN ?_ _) | (with_reducible refine Kd.C_drew ?_))); (case side4 => exact HC0_7.out); (case side5 => repeat (first | exact (Kd.C_below HR0_8.out HB.out) | (with_reducible refine Kd.C_alloc ?_ _) | (with_reducible refine Kd.C_drewN ?_ _) | (with_reducible refine Kd.C_drew ?_))); (case side6 => exact HC0_8.out); rintro e w20 ⟨rfl, hb⟩; have n0_ := Aside0.mk (blk_below (g := gb256) (o := .cells #[.int .i64 a0_0, .int .i64 a0_1, .int .i64 a0_2, .int .i64 a0_3, .int .i64 a0_4, .int .i64 a0_5, .slice A0_6 l0_6.length c0_6, .slice A0_7 l0_7.length c0_7, .slice A0_8 l0_8.length c0_8] 37 (0, 0)) (kq BK256) hb); have n1_ := Aside0.mk (below_step (bs HB GE256) hb); clear BK256; clear HB; have BK256 := n0_; have HB := n1_; clear n0_ n1_; (try clear hb); (try clear hb2); (try clear hk); (try clear hi); have hcz21_0 : w20.cell? ⟨gb256, 0, none⟩ = some (.int .i64 a0_0) := (blk_cell BK256.out 0).trans rfl; have hcz21_1 : w20.cell? ⟨gb256, 1, none⟩ = some (.int .i64 a0_1) := (blk_cell BK256.out 1).trans rfl; have hcz21_2 : w20.cell? ⟨gb256, 2, none⟩ = some (.int .i64 a0_2) := (blk_cell BK256.out 2).trans rfl; have hcz21_3 : w20.cell? ⟨gb256, 3, none⟩ = some (.int .i64 a0_3) := (blk_cell BK256.out 3).trans rfl; have hcz21_4 : w20.cell? ⟨gb256, 4, none⟩ = some (.int .i64 a0_4) := (blk_cell BK256.out 4).trans rfl; have hcz21_5 : w20.cell? ⟨gb256, 5, none⟩ = some (.int .i64 a0_5) := (blk_cell BK256.out 5).trans rfl; have hcz21_6 : w20.cell? ⟨gb256, 6, none⟩ = some (.slice A0_6 l0_6.length c0_6) := (blk_cell BK256.out 6).trans rfl; have hcz21_7 : w20.cell? ⟨gb256, 7, none⟩ = some (.slice A0_7 l0_7.length c0_7) := (blk_cell BK256.out 7).trans rfl; have hcz21_8 : w20.cell? ⟨gb256, 8, none⟩ = some (.slice A0_8 l0_8.length c0_8) := (blk_cell BK256.out 8).trans rfl; have hfz21_0 := blk_frozen BK256.out 0; have hfz21_1 := blk_frozen BK256.out 1; have hfz21_2 := blk_frozen BK256.out 2; have hfz21_3 := blk_frozen BK256.out 3; have hfz21_4 := blk_frozen BK256.out 4; have hfz21_5 := blk_frozen BK256.out 5; have hfz21_6 := blk_frozen BK256.out 6; have hfz21_7 := blk_frozen BK256.out 7; have hfz21_8 := blk_frozen BK256.out 8) | (go_at_call 24; (with_reducible refine (metric_Place.calls kj4 a0_0 a0_1 a0_2 a0_3 a0_4 a0_5 _ _ l0_6 _ _ l0_7 _ _ l0_8 a1 t260 t261 t262 _ ?side1 ?side2 ?side3 ?side4 ?side5 ?side6 A13.out).mono ?_); (case side1 => repeat (first | exact (Kd.C_below HR0_6.out HB.out) | (with_reducible refine Kd.C_alloc ?_ _) | (with_reducible refine Kd.C_drewN ?_ _) | (with_reducible refine Kd.C_drew ?_))); (case side2 => exact HC0_6.out); (case side3 => repeat (first | exact (Kd.C_below HR0_7.out HB.out) | (with_reducible refine Kd.C_alloc ?_ _) | (with_reducible refine Kd.C_drewN ?_ _) | (with_reducible refine Kd.C_drew ?_))); (case side4 => exact HC0_7.out); (case side5 => repeat (first | exact (Kd.C_below HR0_8.out HB.out) | (with_reducible refine Kd.C_alloc ?_ _) | (with_reducible refine Kd.C_drewN ?_ _) | (with_reducible refine Kd.C_drew ?_))); (case side6 => exact HC0_8.out); rintro e w22 ⟨rfl, hb⟩; have n0_ := Aside0.mk (blk_below (g := gb256) (o := .cells #[.int .i64 a0_0, .int .i64 a0_1, .int .i64 a0_2, .int .i64 a0_3, .int .i64 a0_4, .int .i64 a0_5, .slice A0_6 l0_6.length c0_6, .slice A0_7 l0_7.length c0_7, .slice A0_8 l0_8.length c0_8] 37 (0, 0)) (kq BK256) hb); have n1_ := Aside0.mk (below_step (bs HB GE256) hb); clear BK256; clear HB; have BK256 := n0_; have HB := n1_; clear n0_ n1_; (try clear hb); (try clear hb2); (try clear hk); (try clear hi)))
         repeat (go_quiet (first | (go_at_call 23; (with_reducible refine (metric_Advance.calls a0_0 a0_1 a0_2 a0_3 a0_4 a0_5 _ _ l0_6 _ _ l0_7 _ _ l0_8 a1 t258 t259 _ ?side1 ?side2 ?side3 ?side4 ?side5 ?side6 A12.out).mono ?_); (case side1 => repeat (first | exact (Kd.C_below HR0_6.out HB.out) | (with_reducible refine Kd.C_alloc ?_ _) | (with_reducible refine Kd.C_drewN ?_ _) | (with_reducible refine Kd.C_drew ?_))); (case side2 => exact HC0_6.out); (case side3 => repeat (first | exact (Kd.C_below HR0_7.out HB.out) | (with_reducible refine Kd.C_alloc ?_ _) | (with_reducible refine Kd.C_drewN ?_ _) | (with_reducible refine Kd.C_drew ?_))); (case side4 => exact HC0_7.out); (case side5 => repeat (first | exact (Kd.C_below HR0_8.out HB.out) | (with_reducible refine Kd.C_alloc ?_ _) | (with_reducible refine Kd.C_drewN ?_ _) | (with_reducible refine Kd.C_drew ?_))); (case side6 => exact HC0_8.out); rintro e w20 ⟨rfl, hb⟩; have n0_ := Aside0.mk (blk_below (g := gb256) (o := .cells #[.int .i64 a0_0, .int .i64 a0_1, .int .i64 a0_2, .int .i64 a0_3, .int .i64 a0_4, .int .i64 a0_5, .slice A0_6 l0_6.length c0_6, .slice A0_7 l0_7.length c0_7, .slice A0_8 l0_8.length c0_8] 37 (0, 0)) (kq BK256) hb); have n1_ := Aside0.mk (below_step (bs HB GE256) hb); clear BK256; clear HB; have BK256 := n0_; have HB := n1_; clear n0_ n1_; (try clear hb); (try clear hb2); (try clear hk); (try clear hi); have hcz21_0 : w20.cell? ⟨gb256, 0, none⟩ = some (.int .i64 a0_0) := (blk_cell BK256.out 0).trans rfl; have hcz21_1 : w20.cell? ⟨gb256, 1, none⟩ = some (.int .i64 a0_1) := (blk_cell BK256.out 1).trans rfl; have hcz21_2 : w20.cell? ⟨gb256, 2, none⟩ = some (.int .i64 a0_2) := (blk_cell BK256.out 2).trans rfl; have hcz21_3 : w20.cell? ⟨gb256, 3, none⟩ = some (.int .i64 a0_3) := (blk_cell BK256.out 3).trans rfl; have hcz21_4 : w20.cell? ⟨gb256, 4, none⟩ = some (.int .i64 a0_4) := (blk_cell BK256.out 4).trans rfl; have hcz21_5 : w20.cell? ⟨gb256, 5, none⟩ = some (.int .i64 a0_5) := (blk_cell BK256.out 5).trans rfl; have hcz21_6 : w20.cell? ⟨gb256, 6, none⟩ = some (.slice A0_6 l0_6.length c0_6) := (blk_cell BK256.out 6).trans rfl; have hcz21_7 : w20.cell? ⟨gb256, 7, none⟩ = some (.slice A0_7 l0_7.length c0_7) := (blk_cell BK256.out 7).trans rfl; have hcz21_8 : w20.cell? ⟨gb256, 8, none⟩ = some (.slice A0_8 l0_8.length c0_8) := (blk_cell BK256.out 8).trans rfl; have hfz21_0 := blk_frozen BK256.out 0; have hfz21_1 := blk_frozen BK256.out 1; have hfz21_2 := blk_frozen BK256.out 2; have hfz21_3 := blk_frozen BK256.out 3; have hfz21_4 := blk_frozen BK256.out 4; have hfz21_5 := blk_frozen BK256.out 5; have hfz21_6 := blk_frozen BK256.out 6; have hfz21_7 := blk_frozen BK256.out 7; have hfz21_8 := blk_frozen BK256.out 8) | (go_at_call 24; (with_reducible refine (metric_Place.calls kj4 a0_0 a0_1 a0_2 a0_3 a0_4 a0_5 _ _ l0_6 _ _ l0_7 _ _ l0_8 a1 t260 t261 t262 _ ?side1 ?side2 ?side3 ?side4 ?side5 ?side6 A13.out).mono ?_); (case side1 => repeat (first | exact (Kd.C_below HR0_6.out HB.out) | (with_reducible refine Kd.C_alloc ?_ _) | (with_reducible refine Kd.C_drewN ?_ _) | (with_reducible refine Kd.C_drew ?_))); (case side2 => exact HC0_6.out); (case side3 => repeat (first | exact (Kd.C_below HR0_7.out HB.out) | (with_reducible refine Kd.C_alloc ?_ _) | (with_reducible refine Kd.C_drewN ?_ _) | (with_reducible refine Kd.C_drew ?_))); (case side4 => exact HC0_7.out); (case side5 => repeat (first | exact (Kd.C_below HR0_8.out HB.out) | (with_reducible refine Kd.C_alloc ?_ _) | (with_reducible refine Kd.C_drewN ?_ _) | (with_reducible refine Kd.C_drew ?_))); (case side6 => exact HC0_8.out); rintro e w22 ⟨rfl, hb⟩; have n0_ := Aside0.mk (blk_below (g := gb256) (o := .cells #[.int .i64 a0_0, .int .i64 a0_1, .int .i64 a0_2, .int .i64 a0_3, .int .i64 a0_4, .int .i64 a0_5, .slice A0_6 l0_6.length c0_6, .slice A0_7 l0_7.length c0_7, .slice A0_8 l0_8.length c0_8] 37 (0, 0)) (kq BK256) hb); have n1_ := Aside0.mk (below_step (bs HB GE256) hb); clear BK256; clear HB; have BK256 := n0_; have HB := n1_; clear n0_ n1_; (try clear hb); (try clear hb2); (try clear hk); (try clear hi))); try go_wp2_with (first | (go_at_call 23; (with_reducible refine (metric_Advance.calls a0_0 a0_1 a0_2 a0_3 a0_4 a0_5 _ _ l0_6 _ _ l0_7 _ _ l0_8 a1 t258 t259 _ ?side1 ?side2 ?side3 ?side4 ?side5 ?side6 A12.out).mono ?_); (case side1 => repeat (first | exact (Kd.C_below HR0_6.out HB.out) | (with_reducible refine Kd.C_alloc ?_ _) | (with_reducible refine Kd.C_drewN ?_ _) | (with_reducible refine Kd.C_drew ?_))); (case side2 => exact HC0_6.out); (case side3 => repeat (first | exact (Kd.C_below HR0_7.out HB.out) | (with_reducible refine Kd.C_alloc ?_ _) | (with_reducible refine Kd.C_drewN ?_ _) | (with_reducible refine Kd.C_drew ?_))); (case side4 => exact HC0_7.out); (case side5 => repeat (first | exact (Kd.C_below HR0_8.out HB.out) | (with_reducible refine Kd.C_alloc ?_ _) | (with_reducible refine Kd.C_drewN ?_ _) | (with_reducible refine Kd.C_drew ?_))); (case side6 => exact HC0_8.out); rintro e w20 ⟨rfl, hb⟩; have n0_ := Aside0.mk (blk_below (g := gb256) (o := .cells #[.int .i64 a0_0, .int .i64 a0_1, .int .i64 a0_2, .int .i64 a0_3, .int .i64 a0_4, .int .i64 a0_5, .slice A0_6 l0_6.length c0_6, .slice A0_7 l0_7.length c0_7, .slice A0_8 l0_8.length c0_8] 37 (0, 0)) (kq BK256) hb); have n1_ := Aside0.mk (below_step (bs HB GE256) hb); clear BK256; clear HB; have BK256 := n0_; have HB := n1_; clear n0_ n1_; (try clear hb); (try clear hb2); (try clear hk); (try clear hi); have hcz21_0 : w20.cell? ⟨gb256, 0, none⟩ = some (.int .i64 a0_0) := (blk_cell BK256.out 0).trans rfl; have hcz21_1 : w20.cell? ⟨gb256, 1, none⟩ = some (.int .i64 a0_1) := (blk_cell BK256.out 1).trans rfl; have hcz21_2 : w20.cell? ⟨gb256, 2, none⟩ = some (.int .i64 a0_2) := (blk_cell BK256.out 2).trans rfl; have hcz21_3 : w20.cell? ⟨gb256, 3, none⟩ = some (.int .i64 a0_3) := (blk_cell BK256.out 3).trans rfl; have hcz21_4 : w20.cell? ⟨gb256, 4, none⟩ = some (.int .i64 a0_4) := (blk_cell BK256.out 4).trans rfl; have hcz21_5 : w20.cell? ⟨gb256, 5, none⟩ = some (.int .i64 a0_5) := (blk_cell BK256.out 5).trans rfl; have hcz21_6 : w20.cell? ⟨gb256, 6, none⟩ = some (.slice A0_6 l0_6.length c0_6) := (blk_cell BK256.out 6).trans rfl; have hcz21_7 : w20.cell? ⟨gb256, 7, none⟩ = some (.slice A0_7 l0_7.length c0_7) := (blk_cell BK256.out 7).trans rfl; have hcz21_8 : w20.cell? ⟨gb256, 8, none⟩ = some (.slice A0_8 l0_8.length c0_8) := (blk_cell BK256.out 8).trans rfl; have hfz21_0 := blk_frozen BK256.out 0; have hfz21_1 := blk_frozen BK256.out 1; have hfz21_2 := blk_frozen BK256.out 2; have hfz21_3 := blk_frozen BK256.out 3; have hfz21_4 := blk_frozen BK256.out 4; have hfz21_5 := blk_frozen BK256.out 5; have hfz21_6 := blk_frozen BK256.out 6; have hfz21_7 := blk_frozen BK256.out 7; have hfz21_8 := blk_frozen BK256.out 8) | (go_at_call 24; (with_reducible refine (metric_Place.calls kj4 a0_0 a0_1 a0_2 a0_3 a0_4 a0_5 _ _ l0_6 _ _ l0_7 _ _ l0_8 a1 t260 t261 t262 _ ?side1 ?side2 ?side3 ?side4 ?side5 ?side6 A13.out).mono ?_); (case side1 => repeat (first | exact (Kd.C_below HR0_6.out HB.out) | (with_reducible refine Kd.C_alloc ?_ _) | (with_reducible refine Kd.C_drewN ?_ _) | (with_reducible refine Kd.C_drew ?_))); (case side2 => exact HC0_6.out); (case side3 => repeat (first | exact (Kd.C_below HR0_7.out HB.out) | (with_reducible refine Kd.C_alloc ?_ _) | (with_reducible refine Kd.C_drewN ?_ _) | (with_reducible refine Kd.C_drew ?_))); (case side4 => exact HC0_7.out); (case side5 => repeat (first | exact (Kd.C_below HR0_8.out HB.out) | (with_reducible refine Kd.C_alloc ?_ _) | (with_reducible refine Kd.C_drewN ?_ _) | (with_reducible refine Kd.C_drew ?_))); (case side6 => exact HC0_8.out); rintro e w22 ⟨rfl, hb⟩; have n0_ := Aside0.mk (blk_below (g := gb256) (o := .cells #[.int .i64 a0_0, .int .i64 a0_1, .int .i64 a0_2, .int .i64 a0_3, .int .i64 a0_4, .int .i64 a0_5, .slice A0_6 l0_6.length c0_6, .slice A0_7 l0_7.length c0_7, .slice A0_8 l0_8.length c0_8] 37 (0, 0)) (kq BK256) hb); have n1_ := Aside0.mk (below_step (bs HB GE256) hb); clear BK256; clear HB; have BK256 := n0_; have HB := n1_; clear n0_ n1_; (try clear hb); (try clear hb2); (try clear hk); (try clear hi))))
         go_ret
         exact ⟨by first | rfl | (simp [errW_none, errW_some] <;> rfl) | (simp [*, errW_none, errW_some] <;> rfl), bs HB GE256⟩
        ·rw [if_neg c18] at H
         exact absurd H (by simp)
       ·rw [if_neg c17] at H
        exact absurd H (by simp)
      ·rw [if_neg c16] at H
       exact absurd H (by simp)
     ·rw [if_neg c15] at H
      exact absurd H (by simp)
    ·replace c14 := Bool.eq_false_iff.mpr c14
     subst c14
     have H1 : (if 0 ≤ a1 then (if a1 < (l0_6.length : Int) then (if t258 = (rd l0_6 a1) then (seriflaw04_MetricAsks.j1 kj4 a1 t260 t261 t262 (t259 != 0) a0_0 a0_1 a0_2 a0_3 a0_4 a0_5 l0_6 l0_7 l0_8) else (seriflaw04_MetricAsks.j1 kj4 a1 t260 t261 t262 true a0_0 a0_1 a0_2 a0_3 a0_4 a0_5 l0_6 l0_7 l0_8)) else (none)) else (none)) = some r := by rw [if_neg (show ¬ (false = true) by decide)] at H; exact H
     clear H
     have H := H1
     clear H1
     have HC23 := Aside0.mk H
     clear H
     have hcz24_0 : wc.cell? ⟨gb256, 0, none⟩ = some (.int .i64 a0_0) := (blk_cell BK256.out 0).trans rfl
     have hcz24_1 : wc.cell? ⟨gb256, 1, none⟩ = some (.int .i64 a0_1) := (blk_cell BK256.out 1).trans rfl
     have hcz24_2 : wc.cell? ⟨gb256, 2, none⟩ = some (.int .i64 a0_2) := (blk_cell BK256.out 2).trans rfl
     have hcz24_3 : wc.cell? ⟨gb256, 3, none⟩ = some (.int .i64 a0_3) := (blk_cell BK256.out 3).trans rfl
     have hcz24_4 : wc.cell? ⟨gb256, 4, none⟩ = some (.int .i64 a0_4) := (blk_cell BK256.out 4).trans rfl
     have hcz24_5 : wc.cell? ⟨gb256, 5, none⟩ = some (.int .i64 a0_5) := (blk_cell BK256.out 5).trans rfl
     have hcz24_6 : wc.cell? ⟨gb256, 6, none⟩ = some (.slice A0_6 l0_6.length c0_6) := (blk_cell BK256.out 6).trans rfl
     have hcz24_7 : wc.cell? ⟨gb256, 7, none⟩ = some (.slice A0_7 l0_7.length c0_7) := (blk_cell BK256.out 7).trans rfl
     have hcz24_8 : wc.cell? ⟨gb256, 8, none⟩ = some (.slice A0_8 l0_8.length c0_8) := (blk_cell BK256.out 8).trans rfl
     have hfz24_0 := blk_frozen BK256.out 0
     have hfz24_1 := blk_frozen BK256.out 1
     have hfz24_2 := blk_frozen BK256.out 2
     have hfz24_3 := blk_frozen BK256.out 3
     have hfz24_4 := blk_frozen BK256.out 4
     have hfz24_5 := blk_frozen BK256.out 5
     have hfz24_6 := blk_frozen BK256.out 6
     have hfz24_7 := blk_frozen BK256.out 7
     have hfz24_8 := blk_frozen BK256.out 8
     go_upto_region 8 with (first | (go_at_call 23; (with_reducible refine (metric_Advance.calls a0_0 a0_1 a0_2 a0_3 a0_4 a0_5 _ _ l0_6 _ _ l0_7 _ _ l0_8 a1 t258 t259 _ ?side1 ?side2 ?side3 ?side4 ?side5 ?side6 A12.out).mono ?_); (case side1 => repeat (first | exact (Kd.C_below HR0_6.out HB.out) | (with_reducible refine Kd.C_alloc ?_ _) | (with_reducible refine Kd.C_drewN ?_ _) | (with_reducible refine Kd.C_drew ?_))); (case side2 => exact HC0_6.out); (case side3 => repeat (first | exact (Kd.C_below HR0_7.out HB.out) | (with_reducible refine Kd.C_alloc ?_ _) | (with_reducible refine Kd.C_drewN ?_ _) | (with_reducible refine Kd.C_drew ?_))); (case side4 => exact HC0_7.out); (case side5 => repeat (first | exact (Kd.C_below HR0_8.out HB.out) | (with_reducible refine Kd.C_alloc ?_ _) | (with_reducible refine Kd.C_drewN ?_ _) | (with_reducible refine Kd.C_drew ?_))); (case side6 => exact HC0_8.out); rintro e w25 ⟨rfl, hb⟩; have n0_ := Aside0.mk (blk_below (g := gb256) (o := .cells #[.int .i64 a0_0, .int .i64 a0_1, .int .i64 a0_2, .int .i64 a0_3, .int .i64 a0_4, .int .i64 a0_5, .slice A0_6 l0_6.length c0_6, .slice A0_7 l0_7.length c0_7, .slice A0_8 l0_8.length c0_8] 37 (0, 0)) (kq BK256) hb); have n1_ := Aside0.mk (below_step (bs HB GE256) hb); clear BK256; clear HB; have BK256 := n0_; have HB := n1_; clear n0_ n1_; (try clear hb); (try clear hb2); (try clear hk); (try clear hi); have hcz26_0 : w25.cell? ⟨gb256, 0, none⟩ = some (.int .i64 a0_0) := (blk_cell BK256.out 0).trans rfl; have hcz26_1 : w25.cell? ⟨gb256, 1, none⟩ = some (.int .i64 a0_1) := (blk_cell BK256.out 1).trans rfl; have hcz26_2 : w25.cell? ⟨gb256, 2, none⟩ = some (.int .i64 a0_2) := (blk_cell BK256.out 2).trans rfl; have hcz26_3 : w25.cell? ⟨gb256, 3, none⟩ = some (.int .i64 a0_3) := (blk_cell BK256.out 3).trans rfl; have hcz26_4 : w25.cell? ⟨gb256, 4, none⟩ = some (.int .i64 a0_4) := (blk_cell BK256.out 4).trans rfl; have hcz26_5 : w25.cell? ⟨gb256, 5, none⟩ = some (.int .i64 a0_5) := (blk_cell BK256.out 5).trans rfl; have hcz26_6 : w25.cell? ⟨gb256, 6, none⟩ = some (.slice A0_6 l0_6.length c0_6) := (blk_cell BK256.out 6).trans rfl; have hcz26_7 : w25.cell? ⟨gb256, 7, none⟩ = some (.slice A0_7 l0_7.length c0_7) := (blk_cell BK256.out 7).trans rfl; have hcz26_8 : w25.cell? ⟨gb256, 8, none⟩ = some (.slice A0_8 l0_8.length c0_8) := (blk_cell BK256.out 8).trans rfl; have hfz26_0 := blk_frozen BK256.out 0; have hfz26_1 := blk_frozen BK256.out 1; have hfz26_2 := blk_frozen BK256.out 2; have hfz26_3 := blk_frozen BK256.out 3; have hfz26_4 := blk_frozen BK256.out 4; have hfz26_5 := blk_frozen BK256.out 5; have hfz26_6 := blk_frozen BK256.out 6; have hfz26_7 := blk_frozen BK256.out 7; have hfz26_8 := blk_frozen BK256.out 8) | (go_at_call 24; (with_reducible refine (metric_Place.calls kj4 a0_0 a0_1 a0_2 a0_3 a0_4 a0_5 _ _ l0_6 _ _ l0_7 _ _ l0_8 a1 t260 t261 t262 _ ?side1 ?side2 ?side3 ?side4 ?side5 ?side6 A13.out).mono ?_); (case side1 => repeat (first | exact (Kd.C_below HR0_6.out HB.out) | (with_reducible refine Kd.C_alloc ?_ _) | (with_reducible refine Kd.C_drewN ?_ _) | (with_reducible refine Kd.C_drew ?_))); (case side2 => exact HC0_6.out); (case side3 => repeat (first | exact (Kd.C_below HR0_7.out HB.out) | (with_reducible refine Kd.C_alloc ?_ _) | (with_reducible refine Kd.C_drewN ?_ _) | (with_reducible refine Kd.C_drew ?_))); (case side4 => exact HC0_7.out); (case side5 => repeat (first | exact (Kd.C_below HR0_8.out HB.out) | (with_reducible refine Kd.C_alloc ?_ _) | (with_reducible refine Kd.C_drewN ?_ _) | (with_reducible refine Kd.C_drew ?_))); (case side6 => exact HC0_8.out); rintro e w27 ⟨rfl, hb⟩; have n0_ := Aside0.mk (blk_below (g := gb256) (o := .cells #[.int .i64 a0_0, .int .i64 a0_1, .int .i64 a0_2, .int .i64 a0_3, .int .i64 a0_4, .int .i64 a0_5, .slice A0_6 l0_6.length c0_6, .slice A0_7 l0_7.length c0_7, .slice A0_8 l0_8.length c0_8] 37 (0, 0)) (kq BK256) hb); have n1_ := Aside0.mk (below_step (bs HB GE256) hb); clear BK256; clear HB; have BK256 := n0_; have HB := n1_; clear n0_ n1_; (try clear hb); (try clear hb2); (try clear hk); (try clear hi)))
     repeat (go_quiet (first | (go_at_call 23; (with_reducible refine (metric_Advance.calls a0_0 a0_1 a0_2 a0_3 a0_4 a0_5 _ _ l0_6 _ _ l0_7 _ _ l0_8 a1 t258 t259 _ ?side1 ?side2 ?side3 ?side4 ?side5 ?side6 A12.out).mono ?_); (case side1 => repeat (first | exact (Kd.C_below HR0_6.out HB.out) | (with_reducible refine Kd.C_alloc ?_ _) | (with_reducible refine Kd.C_drewN ?_ _) | (with_reducible refine Kd.C_drew ?_))); (case side2 => exact HC0_6.out); (case side3 => repeat (first | exact (Kd.C_below HR0_7.out HB.out) | (with_reducible refine Kd.C_alloc ?_ _) | (with_reducible refine Kd.C_drewN ?_ _) | (with_reducible refine Kd.C_drew ?_))); (case side4 => exact HC0_7.out); (case side5 => repeat (first | exact (Kd.C_below HR0_8.out HB.out) | (with_reducible refine Kd.C_alloc ?_ _) | (with_reducible refine Kd.C_drewN ?_ _) | (with_reducible refine Kd.C_drew ?_))); (case side6 => exact HC0_8.out); rintro e w25 ⟨rfl, hb⟩; have n0_ := Aside0.mk (blk_below (g := gb256) (o := .cells #[.int .i64 a0_0, .int .i64 a0_1, .int .i64 a0_2, .int .i64 a0_3, .int .i64 a0_4, .int .i64 a0_5, .slice A0_6 l0_6.length c0_6, .slice A0_7 l0_7.length c0_7, .slice A0_8 l0_8.length c0_8] 37 (0, 0)) (kq BK256) hb); have n1_ := Aside0.mk (below_step (bs HB GE256) hb); clear BK256; clear HB; have BK256 := n0_; have HB := n1_; clear n0_ n1_; (try clear hb); (try clear hb2); (try clear hk); (try clear hi); have hcz26_0 : w25.cell? ⟨gb256, 0, none⟩ = some (.int .i64 a0_0) := (blk_cell BK256.out 0).trans rfl; have hcz26_1 : w25.cell? ⟨gb256, 1, none⟩ = some (.int .i64 a0_1) := (blk_cell BK256.out 1).trans rfl; have hcz26_2 : w25.cell? ⟨gb256, 2, none⟩ = some (.int .i64 a0_2) := (blk_cell BK256.out 2).trans rfl; have hcz26_3 : w25.cell? ⟨gb256, 3, none⟩ = some (.int .i64 a0_3) := (blk_cell BK256.out 3).trans rfl; have hcz26_4 : w25.cell? ⟨gb256, 4, none⟩ = some (.int .i64 a0_4) := (blk_cell BK256.out 4).trans rfl; have hcz26_5 : w25.cell? ⟨gb256, 5, none⟩ = some (.int .i64 a0_5) := (blk_cell BK256.out 5).trans rfl; have hcz26_6 : w25.cell? ⟨gb256, 6, none⟩ = some (.slice A0_6 l0_6.length c0_6) := (blk_cell BK256.out 6).trans rfl; have hcz26_7 : w25.cell? ⟨gb256, 7, none⟩ = some (.slice A0_7 l0_7.length c0_7) := (blk_cell BK256.out 7).trans rfl; have hcz26_8 : w25.cell? ⟨gb256, 8, none⟩ = some (.slice A0_8 l0_8.length c0_8) := (blk_cell BK256.out 8).trans rfl; have hfz26_0 := blk_frozen BK256.out 0; have hfz26_1 := blk_frozen BK256.out 1; have hfz26_2 := blk_frozen BK256.out 2; have hfz26_3 := blk_frozen BK256.out 3; have hfz26_4 := blk_frozen BK256.out 4; have hfz26_5 := blk_frozen BK256.out 5; have hfz26_6 := blk_frozen BK256.out 6; have hfz26_7 := blk_frozen BK256.out 7; have hfz26_8 := blk_frozen BK256.out 8) | (go_at_call 24; (with_reducible refine (metric_Place.calls kj4 a0_0 a0_1 a0_2 a0_3 a0_4 a0_5 _ _ l0_6 _ _ l0_7 _ _ l0_8 a1 t260 t261 t262 _ ?side1 ?side2 ?side3 ?side4 ?side5 ?side6 A13.out).mono ?_); (case side1 => repeat (first | exact (Kd.C_below HR0_6.out HB.out) | (with_reducible refine Kd.C_alloc ?_ _) | (with_reducible refine Kd.C_drewN ?_ _) | (with_reducible refine Kd.C_drew ?_))); (case side2 => exact HC0_6.out); (case side3 => repeat (first | exact (Kd.C_below HR0_7.out HB.out) | (with_reducible refine Kd.C_alloc ?_ _) | (with_reducible refine Kd.C_drewN ?_ _) | (with_reducible refine Kd.C_drew ?_))); (case side4 => exact HC0_7.out); (case side5 => repeat (first | exact (Kd.C_below HR0_8.out HB.out) | (with_reducible refine Kd.C_alloc ?_ _) | (with_reducible refine Kd.C_drewN ?_ _) | (with_reducible refine Kd.C_drew ?_))); (case side6 => exact HC0_8.out); rintro e w27 ⟨rfl, hb⟩; have n0_ := Aside0.mk (blk_below (g := gb256) (o := .cells #[.int .i64 a0_0, .int .i64 a0_1, .int .i64 a0_2, .int .i64 a0_3, .int .i64 a0_4, .int .i64 a0_5, .slice A0_6 l0_6.length c0_6, .slice A0_7 l0_7.length c0_7, .slice A0_8 l0_8.length c0_8] 37 (0, 0)) (kq BK256) hb); have n1_ := Aside0.mk (below_step (bs HB GE256) hb); clear BK256; clear HB; have BK256 := n0_; have HB := n1_; clear n0_ n1_; (try clear hb); (try clear hb2); (try clear hk); (try clear hi))); go_upto_region 8 with (first | (go_at_call 23; (with_reducible refine (metric_Advance.calls a0_0 a0_1 a0_2 a0_3 a0_4 a0_5 _ _ l0_6 _ _ l0_7 _ _ l0_8 a1 t258 t259 _ ?side1 ?side2 ?side3 ?side4 ?side5 ?side6 A12.out).mono ?_); (case side1 => repeat (first | exact (Kd.C_below HR0_6.out HB.out) | (with_reducible refine Kd.C_alloc ?_ _) | (with_reducible refine Kd.C_drewN ?_ _) | (with_reducible refine Kd.C_drew ?_))); (case side2 => exact HC0_6.out); (case side3 => repeat (first | exact (Kd.C_below HR0_7.out HB.out) | (with_reducible refine Kd.C_alloc ?_ _) | (with_reducible refine Kd.C_drewN ?_ _) | (with_reducible refine Kd.C_drew ?_))); (case side4 => exact HC0_7.out); (case side5 => repeat (first | exact (Kd.C_below HR0_8.out HB.out) | (with_reducible refine Kd.C_alloc ?_ _) | (with_reducible refine Kd.C_drewN ?_ _) | (with_reducible refine Kd.C_drew ?_))); (case side6 => exact HC0_8.out); rintro e w25 ⟨rfl, hb⟩; have n0_ := Aside0.mk (blk_below (g := gb256) (o := .cells #[.int .i64 a0_0, .int .i64 a0_1, .int .i64 a0_2, .int .i64 a0_3, .int .i64 a0_4, .int .i64 a0_5, .slice A0_6 l0_6.length c0_6, .slice A0_7 l0_7.length c0_7, .slice A0_8 l0_8.length c0_8] 37 (0, 0)) (kq BK256) hb); have n1_ := Aside0.mk (below_step (bs HB GE256) hb); clear BK256; clear HB; have BK256 := n0_; have HB := n1_; clear n0_ n1_; (try clear hb); (try clear hb2); (try clear hk); (try clear hi); have hcz26_0 : w25.cell? ⟨gb256, 0, none⟩ = some (.int .i64 a0_0) := (blk_cell BK256.out 0).trans rfl; have hcz26_1 : w25.cell? ⟨gb256, 1, none⟩ = some (.int .i64 a0_1) := (blk_cell BK256.out 1).trans rfl; have hcz26_2 : w25.cell? ⟨gb256, 2, none⟩ = some (.int .i64 a0_2) := (blk_cell BK256.out 2).trans rfl; have hcz26_3 : w25.cell? ⟨gb256, 3, none⟩ = some (.int .i64 a0_3) := (blk_cell BK256.out 3).trans rfl; have hcz26_4 : w25.cell? ⟨gb256, 4, none⟩ = some (.int .i64 a0_4) := (blk_cell BK256.out 4).trans rfl; have hcz26_5 : w25.cell? ⟨gb256, 5, none⟩ = some (.int .i64 a0_5) := (blk_cell BK256.out 5).trans rfl; have hcz26_6 : w25.cell? ⟨gb256, 6, none⟩ = some (.slice A0_6 l0_6.length c0_6) := (blk_cell BK256.out 6).trans rfl; have hcz26_7 : w25.cell? ⟨gb256, 7, none⟩ = some (.slice A0_7 l0_7.length c0_7) := (blk_cell BK256.out 7).trans rfl; have hcz26_8 : w25.cell? ⟨gb256, 8, none⟩ = some (.slice A0_8 l0_8.length c0_8) := (blk_cell BK256.out 8).trans rfl; have hfz26_0 := blk_frozen BK256.out 0; have hfz26_1 := blk_frozen BK256.out 1; have hfz26_2 := blk_frozen BK256.out 2; have hfz26_3 := blk_frozen BK256.out 3; have hfz26_4 := blk_frozen BK256.out 4; have hfz26_5 := blk_frozen BK256.out 5; have hfz26_6 := blk_frozen BK256.out 6; have hfz26_7 := blk_frozen BK256.out 7; have hfz26_8 := blk_frozen BK256.out 8) | (go_at_call 24; (with_reducible refine (metric_Place.calls kj4 a0_0 a0_1 a0_2 a0_3 a0_4 a0_5 _ _ l0_6 _ _ l0_7 _ _ l0_8 a1 t260 t261 t262 _ ?side1 ?side2 ?side3 ?side4 ?side5 ?side6 A13.out).mono ?_); (case side1 => repeat (first | exact (Kd.C_below HR0_6.out HB.out) | (with_reducible refine Kd.C_alloc ?_ _) | (with_reducible refine Kd.C_drewN ?_ _) | (with_reducible refine Kd.C_drew ?_))); (case side2 => exact HC0_6.out); (case side3 => repeat (first | exact (Kd.C_below HR0_7.out HB.out) | (with_reducible refine Kd.C_alloc ?_ _) | (with_reducible refine Kd.C_drewN ?_ _) | (with_reducible refine Kd.C_drew ?_))); (case side4 => exact HC0_7.out); (case side5 => repeat (first | exact (Kd.C_below HR0_8.out HB.out) | (with_reducible refine Kd.C_alloc ?_ _) | (with_reducible refine Kd.C_drewN ?_ _) | (with_reducible refine Kd.C_drew ?_))); (case side6 => exact HC0_8.out); rintro e w27 ⟨rfl, hb⟩; have n0_ := Aside0.mk (blk_below (g := gb256) (o := .cells #[.int .i64 a0_0, .int .i64 a0_1, .int .i64 a0_2, .int .i64 a0_3, .int .i64 a0_4, .int .i64 a0_5, .slice A0_6 l0_6.length c0_6, .slice A0_7 l0_7.length c0_7, .slice A0_8 l0_8.length c0_8] 37 (0, 0)) (kq BK256) hb); have n1_ := Aside0.mk (below_step (bs HB GE256) hb); clear BK256; clear HB; have BK256 := n0_; have HB := n1_; clear n0_ n1_; (try clear hb); (try clear hb2); (try clear hk); (try clear hi))))
     (try simp only [Act.put, List.setIfInBounds_toArray, List.set_cons_zero, List.set_cons_succ])
     go_cut [71] (fun v71 wc => ∃ (kq : Nat) (x71_22 : Bool), v71 = .bool x71_22 ∧ Aside0 (seriflaw04_MetricAsks.j1 kq a1 t260 t261 t262 x71_22 a0_0 a0_1 a0_2 a0_3 a0_4 a0_5 l0_6 l0_7 l0_8 = some r) ∧ Aside0 (kq ≤ kj4) ∧ Aside0 (wc.heap[gb256]? = some (.cells #[.int .i64 a0_0, .int .i64 a0_1, .int .i64 a0_2, .int .i64 a0_3, .int .i64 a0_4, .int .i64 a0_5, (.slice A0_6 l0_6.length c0_6), (.slice A0_7 l0_7.length c0_7), (.slice A0_8 l0_8.length c0_8)] 37 (0, 0))) ∧ Aside0 (Below w.heap.size w wc))
     case first =>
      have H := HC23.out
      clear HC23
      by_cases c28 : 0 ≤ a1
      ·rw [if_pos c28] at H
       have c28b0 : decide (0 ≤ a1) = true := decide_eq_true c28
       clear c28
       (first | rw [c28b0] | (simp only [i64_w, i32_w]; rw [c28b0]) | skip)
       by_cases c29 : a1 < (l0_6.length : Int)
       ·rw [if_pos c29] at H
        have c29b0 : decide (a1 < (l0_6.length : Int)) = true := decide_eq_true c29
        clear c29
        by_cases c30 : t258 = (rd l0_6 a1)
        ·rw [if_pos c30] at H
         have c30b0 : (t258 == (rd l0_6 a1)) = true := beq_iff_eq.mpr c30
         have c30b1 : (t258 != (rd l0_6 a1)) = false := bne_eq_false_iff_eq.mpr c30
         clear c30
         have H' := Aside0.mk H
         clear H
         have hcz31_0 : w27.cell? ⟨gb256, 0, none⟩ = some (.int .i64 a0_0) := (blk_cell BK256.out 0).trans rfl
         have hcz31_1 : w27.cell? ⟨gb256, 1, none⟩ = some (.int .i64 a0_1) := (blk_cell BK256.out 1).trans rfl
         have hcz31_2 : w27.cell? ⟨gb256, 2, none⟩ = some (.int .i64 a0_2) := (blk_cell BK256.out 2).trans rfl
         have hcz31_3 : w27.cell? ⟨gb256, 3, none⟩ = some (.int .i64 a0_3) := (blk_cell BK256.out 3).trans rfl
         have hcz31_4 : w27.cell? ⟨gb256, 4, none⟩ = some (.int .i64 a0_4) := (blk_cell BK256.out 4).trans rfl
         have hcz31_5 : w27.cell? ⟨gb256, 5, none⟩ = some (.int .i64 a0_5) := (blk_cell BK256.out 5).trans rfl
         have hcz31_6 : w27.cell? ⟨gb256, 6, none⟩ = some (.slice A0_6 l0_6.length c0_6) := (blk_cell BK256.out 6).trans rfl
         have hcz31_7 : w27.cell? ⟨gb256, 7, none⟩ = some (.slice A0_7 l0_7.length c0_7) := (blk_cell BK256.out 7).trans rfl
         have hcz31_8 : w27.cell? ⟨gb256, 8, none⟩ = some (.slice A0_8 l0_8.length c0_8) := (blk_cell BK256.out 8).trans rfl
         have hfz31_0 := blk_frozen BK256.out 0
         have hfz31_1 := blk_frozen BK256.out 1
         have hfz31_2 := blk_frozen BK256.out 2
         have hfz31_3 := blk_frozen BK256.out 3
         have hfz31_4 := blk_frozen BK256.out 4
         have hfz31_5 := blk_frozen BK256.out 5
         have hfz31_6 := blk_frozen BK256.out 6
         have hfz31_7 := blk_frozen BK256.out 7
         have hfz31_8 := blk_frozen BK256.out 8
         have p263 : 0 ≤ (a1 : Int) := odt
         have q263 : a1 < (l0_6.length : Int) := odt
         obtain ⟨ad263, e263, hx263_0⟩ := Kd.at_int HR0_6.out a1 p263 q263
         cases e263
         replace hx263_0 := (HB.out.cell (World.block_lt_of_cell? w _ hx263_0)).trans hx263_0
         replace p263 := eq_true p263
         replace q263 := eq_true q263
         go_wp2
         repeat (go_quiet (fail); try go_wp2)
         go_meet
         case rel => exact ⟨_, ((t259 != 0)), (by first | rfl | (simp; done) | (simp [*]; done)), H', ⟨by have := HJ4.out; first | omega | exact Nat.le_refl _⟩, ⟨by (with_reducible repeat (first | refine blk_drewN ?_ _ | refine blk_drew ?_ | refine blk_alloc ?_ _)); exact BK256.out⟩, ⟨bs HB GE256⟩⟩
        ·rw [if_neg c30] at H
         have c30b0 : (t258 == (rd l0_6 a1)) = false := beq_eq_false_iff_ne.mpr c30
         have c30b1 : (t258 != (rd l0_6 a1)) = true := bne_iff_ne.mpr c30
         have H' := Aside0.mk H
         clear H
         have hcz32_0 : w27.cell? ⟨gb256, 0, none⟩ = some (.int .i64 a0_0) := (blk_cell BK256.out 0).trans rfl
         have hcz32_1 : w27.cell? ⟨gb256, 1, none⟩ = some (.int .i64 a0_1) := (blk_cell BK256.out 1).trans rfl
         have hcz32_2 : w27.cell? ⟨gb256, 2, none⟩ = some (.int .i64 a0_2) := (blk_cell BK256.out 2).trans rfl
         have hcz32_3 : w27.cell? ⟨gb256, 3, none⟩ = some (.int .i64 a0_3) := (blk_cell BK256.out 3).trans rfl
         have hcz32_4 : w27.cell? ⟨gb256, 4, none⟩ = some (.int .i64 a0_4) := (blk_cell BK256.out 4).trans rfl
         have hcz32_5 : w27.cell? ⟨gb256, 5, none⟩ = some (.int .i64 a0_5) := (blk_cell BK256.out 5).trans rfl
         have hcz32_6 : w27.cell? ⟨gb256, 6, none⟩ = some (.slice A0_6 l0_6.length c0_6) := (blk_cell BK256.out 6).trans rfl
         have hcz32_7 : w27.cell? ⟨gb256, 7, none⟩ = some (.slice A0_7 l0_7.length c0_7) := (blk_cell BK256.out 7).trans rfl
         have hcz32_8 : w27.cell? ⟨gb256, 8, none⟩ = some (.slice A0_8 l0_8.length c0_8) := (blk_cell BK256.out 8).trans rfl
         have hfz32_0 := blk_frozen BK256.out 0
         have hfz32_1 := blk_frozen BK256.out 1
         have hfz32_2 := blk_frozen BK256.out 2
         have hfz32_3 := blk_frozen BK256.out 3
         have hfz32_4 := blk_frozen BK256.out 4
         have hfz32_5 := blk_frozen BK256.out 5
         have hfz32_6 := blk_frozen BK256.out 6
         have hfz32_7 := blk_frozen BK256.out 7
         have hfz32_8 := blk_frozen BK256.out 8
         have p263 : 0 ≤ (a1 : Int) := odt
         have q263 : a1 < (l0_6.length : Int) := odt
         obtain ⟨ad263, e263, hx263_0⟩ := Kd.at_int HR0_6.out a1 p263 q263
         cases e263
         replace hx263_0 := (HB.out.cell (World.block_lt_of_cell? w _ hx263_0)).trans hx263_0
         replace p263 := eq_true p263
         replace q263 := eq_true q263
         go_wp2
         repeat (go_quiet (fail); try go_wp2)
         go_meet
         case rel => exact ⟨_, (true), (by first | rfl | (simp; done) | (simp [*]; done)), H', ⟨by have := HJ4.out; first | omega | exact Nat.le_refl _⟩, ⟨by (with_reducible repeat (first | refine blk_drewN ?_ _ | refine blk_drew ?_ | refine blk_alloc ?_ _)); exact BK256.out⟩, ⟨bs HB GE256⟩⟩
       ·rw [if_neg c29] at H
        exact absurd H (by simp)
      ·rw [if_neg c28] at H
       exact absurd H (by simp)
     case rest =>
      clear HC23
      try clear c1
      try clear c2
      try clear p2
      try clear q2
      try clear hx2
      try clear c3
      try clear c4
      try clear c8
      try clear c8b0
      try clear c9
      try clear c9b0
      try clear c14
      try clear c15
      try clear c15b0
      try clear c15b1
      try clear c16
      try clear c16b0
      try clear c16b1
      try clear c17
      try clear c17b0
      try clear c17b1
      try clear c18
      try clear c18b0
      try clear c18b1
      try clear p26
      try clear q26
      try clear hx26
      try clear c28
      try clear c28b0
      try clear c29
      try clear c29b0
      try clear c30
      try clear c30b0
      try clear c30b1
      try clear hcz10_0
      try clear hcz10_1
      try clear hcz10_2
      try clear hcz10_3
      try clear hcz10_4
      try clear hcz10_5
      try clear hcz10_6
      try clear hcz10_7
      try clear hcz10_8
      try clear hcz11_0
      try clear hcz11_1
      try clear hcz11_2
      try clear hcz11_3
      try clear hcz11_4
      try clear hcz11_5
      try clear hcz11_6
      try clear hcz11_7
      try clear hcz11_8
      try clear hcz19_0
      try clear hcz19_1
      try clear hcz19_2
      try clear hcz19_3
      try clear hcz19_4
      try clear hcz19_5
      try clear hcz19_6
      try clear hcz19_7
      try clear hcz19_8
      try clear hcz21_0
      try clear hcz21_1
      try clear hcz21_2
      try clear hcz21_3
      try clear hcz21_4
      try clear hcz21_5
      try clear hcz21_6
      try clear hcz21_7
      try clear hcz21_8
      try clear hcz24_0
      try clear hcz24_1
      try clear hcz24_2
      try clear hcz24_3
      try clear hcz24_4
      try clear hcz24_5
      try clear hcz24_6
      try clear hcz24_7
      try clear hcz24_8
      try clear hcz26_0
      try clear hcz26_1
      try clear hcz26_2
      try clear hcz26_3
      try clear hcz26_4
      try clear hcz26_5
      try clear hcz26_6
      try clear hcz26_7
      try clear hcz26_8
      try clear hcz31_0
      try clear hcz31_1
      try clear hcz31_2
      try clear hcz31_3
      try clear hcz31_4
      try clear hcz31_5
      try clear hcz31_6
      try clear hcz31_7
      try clear hcz31_8
      try clear hcz32_0
      try clear hcz32_1
      try clear hcz32_2
      try clear hcz32_3
      try clear hcz32_4
      try clear hcz32_5
      try clear hcz32_6
      try clear hcz32_7
      try clear hcz32_8
      try clear hfz10_0
      try clear hfz10_1
      try clear hfz10_2
      try clear hfz10_3
      try clear hfz10_4
      try clear hfz10_5
      try clear hfz10_6
      try clear hfz10_7
      try clear hfz10_8
      try clear hfz11_0
      try clear hfz11_1
      try clear hfz11_2
      try clear hfz11_3
      try clear hfz11_4
      try clear hfz11_5
      try clear hfz11_6
      try clear hfz11_7
      try clear hfz11_8
      try clear hfz19_0
      try clear hfz19_1
      try clear hfz19_2
      try clear hfz19_3
      try clear hfz19_4
      try clear hfz19_5
      try clear hfz19_6
      try clear hfz19_7
      try clear hfz19_8
      try clear hfz21_0
      try clear hfz21_1
      try clear hfz21_2
      try clear hfz21_3
      try clear hfz21_4
      try clear hfz21_5
      try clear hfz21_6
      try clear hfz21_7
      try clear hfz21_8
      try clear hfz24_0
      try clear hfz24_1
      try clear hfz24_2
      try clear hfz24_3
      try clear hfz24_4
      try clear hfz24_5
      try clear hfz24_6
      try clear hfz24_7
      try clear hfz24_8
      try clear hfz26_0
      try clear hfz26_1
      try clear hfz26_2
      try clear hfz26_3
      try clear hfz26_4
      try clear hfz26_5
      try clear hfz26_6
      try clear hfz26_7
      try clear hfz26_8
      try clear hfz31_0
      try clear hfz31_1
      try clear hfz31_2
      try clear hfz31_3
      try clear hfz31_4
      try clear hfz31_5
      try clear hfz31_6
      try clear hfz31_7
      try clear hfz31_8
      try clear hfz32_0
      try clear hfz32_1
      try clear hfz32_2
      try clear hfz32_3
      try clear hfz32_4
      try clear hfz32_5
      try clear hfz32_6
      try clear hfz32_7
      try clear hfz32_8
      try clear hx263_0
      try clear p2
      try clear p263
      try clear q263
      obtain ⟨kq, x71_22, rfl, HA, HJ22, BK256, HB⟩ := hcut
      cases kq with
      | zero => exact absurd HA.out (by simp [seriflaw04_MetricAsks.j1])
      | succ kj22 =>
       have H := HA.out
       clear HA
       simp only [seriflaw04_MetricAsks.j1] at H
       by_cases c33 : x71_22 = true
       ·subst c33
        have H1 : (none) = some r := by rw [if_pos rfl] at H; exact H
        clear H
        have H := H1
        clear H1
        exact absurd H (by simp)
       ·replace c33 := Bool.eq_false_iff.mpr c33
        subst c33
        have H1 : (if (l0_8.length : Int) = 0 then (if t260 = 0 then (if t261 = 0 then (some (t262 == 0)) else (none)) else (none)) else (if (wrap64 ((l0_8.length : Int) - 1)) = a0_2 then (if 0 ≤ a1 then (if a1 < (l0_8.length : Int) then (if (rd l0_8 a1) < 0 then (some true) else (if 0 ≤ (wrap64 (a1 + 1)) then (if (wrap64 (a1 + 1)) < (l0_8.length : Int) then (if (rd l0_8 (wrap64 (a1 + 1))) < (rd l0_8 a1) then (some true) else (if t260 = (rd l0_8 a1) then (if t261 = (wrap64 ((rd l0_8 (wrap64 (a1 + 1))) - (rd l0_8 a1))) then (some (t262 == 0)) else (none)) else (none))) else (none)) else (none))) else (none)) else (none)) else (if t260 = 0 then (if t261 = 0 then (some (t262 == 45)) else (none)) else (none)))) = some r := by rw [if_neg (show ¬ (false = true) by decide)] at H; exact H
        clear H
        have H := H1
        clear H1
        by_cases c34 : (l0_8.length : Int) = 0
        ·rw [if_pos c34] at H
         have c34b0 : ((l0_8.length : Int) == 0) = true := beq_iff_eq.mpr c34
         have c34b1 : ((l0_8.length : Int) != 0) = false := bne_eq_false_iff_eq.mpr c34
         clear c34
         by_cases c35 : t260 = 0
         ·rw [if_pos c35] at H
          have c35b0 : (t260 == 0) = true := beq_iff_eq.mpr c35
          have c35b1 : (t260 != 0) = false := bne_eq_false_iff_eq.mpr c35
          clear c35
          by_cases c36 : t261 = 0
          ·rw [if_pos c36] at H
           have c36b0 : (t261 == 0) = true := beq_iff_eq.mpr c36
           have c36b1 : (t261 != 0) = false := bne_eq_false_iff_eq.mpr c36
           clear c36
           obtain rfl := Option.some.inj H
           have hcz37_0 : wc.cell? ⟨gb256, 0, none⟩ = some (.int .i64 a0_0) := (blk_cell BK256.out 0).trans rfl
           have hcz37_1 : wc.cell? ⟨gb256, 1, none⟩ = some (.int .i64 a0_1) := (blk_cell BK256.out 1).trans rfl
           have hcz37_2 : wc.cell? ⟨gb256, 2, none⟩ = some (.int .i64 a0_2) := (blk_cell BK256.out 2).trans rfl
           have hcz37_3 : wc.cell? ⟨gb256, 3, none⟩ = some (.int .i64 a0_3) := (blk_cell BK256.out 3).trans rfl
           have hcz37_4 : wc.cell? ⟨gb256, 4, none⟩ = some (.int .i64 a0_4) := (blk_cell BK256.out 4).trans rfl
           have hcz37_5 : wc.cell? ⟨gb256, 5, none⟩ = some (.int .i64 a0_5) := (blk_cell BK256.out 5).trans rfl
           have hcz37_6 : wc.cell? ⟨gb256, 6, none⟩ = some (.slice A0_6 l0_6.length c0_6) := (blk_cell BK256.out 6).trans rfl
           have hcz37_7 : wc.cell? ⟨gb256, 7, none⟩ = some (.slice A0_7 l0_7.length c0_7) := (blk_cell BK256.out 7).trans rfl
           have hcz37_8 : wc.cell? ⟨gb256, 8, none⟩ = some (.slice A0_8 l0_8.length c0_8) := (blk_cell BK256.out 8).trans rfl
           have hfz37_0 := blk_frozen BK256.out 0
           have hfz37_1 := blk_frozen BK256.out 1
           have hfz37_2 := blk_frozen BK256.out 2
           have hfz37_3 := blk_frozen BK256.out 3
           have hfz37_4 := blk_frozen BK256.out 4
           have hfz37_5 := blk_frozen BK256.out 5
           have hfz37_6 := blk_frozen BK256.out 6
           have hfz37_7 := blk_frozen BK256.out 7
           have hfz37_8 := blk_frozen BK256.out 8
           go_wp2
           repeat (go_quiet (fail); try go_wp2)
           go_ret
           exact ⟨by first | rfl | (simp [errW_none, errW_some] <;> rfl) | (simp [*, errW_none, errW_some] <;> rfl), bs HB GE256⟩
          ·rw [if_neg c36] at H
           exact absurd H (by simp)
         ·rw [if_neg c35] at H
          exact absurd H (by simp)
        ·rw [if_neg c34] at H
         have c34b0 : ((l0_8.length : Int) == 0) = false := beq_eq_false_iff_ne.mpr c34
         have c34b1 : ((l0_8.length : Int) != 0) = true := bne_iff_ne.mpr c34
         have c34b2 : ¬ (l0_8 = []) := fun h_ => c34 (by rw [h_]; rfl)
         by_cases c38 : (wrap64 ((l0_8.length : Int) - 1)) = a0_2
         ·rw [if_pos c38] at H
          have c38b0 : ((wrap64 ((l0_8.length : Int) - 1)) == a0_2) = true := beq_iff_eq.mpr c38
          have c38b1 : ((wrap64 ((l0_8.length : Int) - 1)) != a0_2) = false := bne_eq_false_iff_eq.mpr c38
          clear c38
          by_cases c39 : 0 ≤ a1
          ·rw [if_pos c39] at H
           have c39b0 : decide (0 ≤ a1) = true := decide_eq_true c39
           clear c39
           by_cases c40 : a1 < (l0_8.length : Int)
           ·rw [if_pos c40] at H
            have c40b0 : decide (a1 < (l0_8.length : Int)) = true := decide_eq_true c40
            clear c40
            by_cases c41 : (rd l0_8 a1) < 0
            ·rw [if_pos c41] at H
             have c41b0 : decide ((rd l0_8 a1) < 0) = true := decide_eq_true c41
             clear c41
             obtain rfl := Option.some.inj H
             have hcz42_0 : wc.cell? ⟨gb256, 0, none⟩ = some (.int .i64 a0_0) := (blk_cell BK256.out 0).trans rfl
             have hcz42_1 : wc.cell? ⟨gb256, 1, none⟩ = some (.int .i64 a0_1) := (blk_cell BK256.out 1).trans rfl
             have hcz42_2 : wc.cell? ⟨gb256, 2, none⟩ = some (.int .i64 a0_2) := (blk_cell BK256.out 2).trans rfl
             have hcz42_3 : wc.cell? ⟨gb256, 3, none⟩ = some (.int .i64 a0_3) := (blk_cell BK256.out 3).trans rfl
             have hcz42_4 : wc.cell? ⟨gb256, 4, none⟩ = some (.int .i64 a0_4) := (blk_cell BK256.out 4).trans rfl
             have hcz42_5 : wc.cell? ⟨gb256, 5, none⟩ = some (.int .i64 a0_5) := (blk_cell BK256.out 5).trans rfl
             have hcz42_6 : wc.cell? ⟨gb256, 6, none⟩ = some (.slice A0_6 l0_6.length c0_6) := (blk_cell BK256.out 6).trans rfl
             have hcz42_7 : wc.cell? ⟨gb256, 7, none⟩ = some (.slice A0_7 l0_7.length c0_7) := (blk_cell BK256.out 7).trans rfl
             have hcz42_8 : wc.cell? ⟨gb256, 8, none⟩ = some (.slice A0_8 l0_8.length c0_8) := (blk_cell BK256.out 8).trans rfl
             have hfz42_0 := blk_frozen BK256.out 0
             have hfz42_1 := blk_frozen BK256.out 1
             have hfz42_2 := blk_frozen BK256.out 2
             have hfz42_3 := blk_frozen BK256.out 3
             have hfz42_4 := blk_frozen BK256.out 4
             have hfz42_5 := blk_frozen BK256.out 5
             have hfz42_6 := blk_frozen BK256.out 6
             have hfz42_7 := blk_frozen BK256.out 7
             have hfz42_8 := blk_frozen BK256.out 8
             have p264 : 0 ≤ (a1 : Int) := odt
             have q264 : a1 < (l0_8.length : Int) := odt
             obtain ⟨ad264, e264, hx264_0⟩ := Kd.at_int HR0_8.out a1 p264 q264
             cases e264
             replace hx264_0 := (HB.out.cell (World.block_lt_of_cell? w _ hx264_0)).trans hx264_0
             replace p264 := eq_true p264
             replace q264 := eq_true q264
             go_wp2
             repeat (go_quiet (fail); try go_wp2)
             go_ret
             exact ⟨by first | rfl | (simp [errW_none, errW_some] <;> rfl) | (simp [*, errW_none, errW_some] <;> rfl), bs HB GE256⟩
            ·rw [if_neg c41] at H
             have c41b0 : decide ((rd l0_8 a1) < 0) = false := decide_eq_false c41
             clear c41
             obtain ⟨ji43, hji43⟩ : ∃ j_ : Int, (wrap64 (a1 + 1)) = j_ := ⟨_, rfl⟩
             replace H : (if 0 ≤ (ji43) then (if (ji43) < (l0_8.length : Int) then (if (rd l0_8 (ji43)) < (rd l0_8 a1) then (some true) else (if t260 = (rd l0_8 a1) then (if t261 = (wrap64 ((rd l0_8 (ji43)) - (rd l0_8 a1))) then (some (t262 == 0)) else (none)) else (none))) else (none)) else (none)) = some r := by first | (rw [hji43] at H; exact H) | (simp only [hji43] at H ⊢; exact H)
             have hji43w : (IntKind.i64.wrap (a1 + 1)) = ji43 := (i64_w _).trans hji43
             by_cases c44 : 0 ≤ (ji43)
             ·rw [if_pos c44] at H
              have c44b0 : decide (0 ≤ (ji43)) = true := decide_eq_true c44
              clear c44
              by_cases c45 : (ji43) < (l0_8.length : Int)
              ·rw [if_pos c45] at H
               have c45b0 : decide ((ji43) < (l0_8.length : Int)) = true := decide_eq_true c45
               clear c45
               by_cases c46 : (rd l0_8 (ji43)) < (rd l0_8 a1)
               ·rw [if_pos c46] at H
                have c46b0 : decide ((rd l0_8 (ji43)) < (rd l0_8 a1)) = true := decide_eq_true c46
                clear c46
                obtain rfl := Option.some.inj H
                have hcz47_0 : wc.cell? ⟨gb256, 0, none⟩ = some (.int .i64 a0_0) := (blk_cell BK256.out 0).trans rfl
                have hcz47_1 : wc.cell? ⟨gb256, 1, none⟩ = some (.int .i64 a0_1) := (blk_cell BK256.out 1).trans rfl
                have hcz47_2 : wc.cell? ⟨gb256, 2, none⟩ = some (.int .i64 a0_2) := (blk_cell BK256.out 2).trans rfl
                have hcz47_3 : wc.cell? ⟨gb256, 3, none⟩ = some (.int .i64 a0_3) := (blk_cell BK256.out 3).trans rfl
                have hcz47_4 : wc.cell? ⟨gb256, 4, none⟩ = some (.int .i64 a0_4) := (blk_cell BK256.out 4).trans rfl
                have hcz47_5 : wc.cell? ⟨gb256, 5, none⟩ = some (.int .i64 a0_5) := (blk_cell BK256.out 5).trans rfl
                have hcz47_6 : wc.cell? ⟨gb256, 6, none⟩ = some (.slice A0_6 l0_6.length c0_6) := (blk_cell BK256.out 6).trans rfl
                have hcz47_7 : wc.cell? ⟨gb256, 7, none⟩ = some (.slice A0_7 l0_7.length c0_7) := (blk_cell BK256.out 7).trans rfl
                have hcz47_8 : wc.cell? ⟨gb256, 8, none⟩ = some (.slice A0_8 l0_8.length c0_8) := (blk_cell BK256.out 8).trans rfl
                have hfz47_0 := blk_frozen BK256.out 0
                have hfz47_1 := blk_frozen BK256.out 1
                have hfz47_2 := blk_frozen BK256.out 2
                have hfz47_3 := blk_frozen BK256.out 3
                have hfz47_4 := blk_frozen BK256.out 4
                have hfz47_5 := blk_frozen BK256.out 5
                have hfz47_6 := blk_frozen BK256.out 6
                have hfz47_7 := blk_frozen BK256.out 7
                have hfz47_8 := blk_frozen BK256.out 8
                have p264 : 0 ≤ (a1 : Int) := odt
                have q264 : a1 < (l0_8.length : Int) := odt
                obtain ⟨ad264, e264, hx264_0⟩ := Kd.at_int HR0_8.out a1 p264 q264
                cases e264
                replace hx264_0 := (HB.out.cell (World.block_lt_of_cell? w _ hx264_0)).trans hx264_0
                replace p264 := eq_true p264
                replace q264 := eq_true q264
                have p265 : 0 ≤ ((ji43) : Int) := odt
                have q265 : (ji43) < (l0_8.length : Int) := odt
                obtain ⟨ad265, e265, hx265_0⟩ := Kd.at_int HR0_8.out (ji43) p265 q265
                obtain rfl : ad264 = ad265 := (by injection e265)
                replace hx265_0 := (HB.out.cell (World.block_lt_of_cell? w _ hx265_0)).trans hx265_0
                replace p265 := eq_true p265
                replace q265 := eq_true q265
                have p266 : 0 ≤ (a1 : Int) := odt
                have q266 : a1 < (l0_8.length : Int) := odt
                obtain ⟨ad266, e266, hx266_0⟩ := Kd.at_int HR0_8.out a1 p266 q266
                obtain rfl : ad264 = ad266 := (by injection e266)
                replace hx266_0 := (HB.out.cell (World.block_lt_of_cell? w _ hx266_0)).trans hx266_0
                replace p266 := eq_true p266
                replace q266 := eq_true q266
                go_wp2
                repeat (go_quiet (fail); try go_wp2)
                go_ret
                exact ⟨by first | rfl | (simp [errW_none, errW_some] <;> rfl) | (simp only [← hji43]; first | rfl | (simp [errW_none, errW_some] <;> rfl)) | (simp [*, errW_none, errW_some] <;> rfl), bs HB GE256⟩
               ·rw [if_neg c46] at H
                have c46b0 : decide ((rd l0_8 (ji43)) < (rd l0_8 a1)) = false := decide_eq_false c46
                clear c46
                by_cases c48 : t260 = (rd l0_8 a1)
                ·rw [if_pos c48] at H
                 have c48b0 : (t260 == (rd l0_8 a1)) = true := beq_iff_eq.mpr c48
                 have c48b1 : (t260 != (rd l0_8 a1)) = false := bne_eq_false_iff_eq.mpr c48
                 clear c48
                 by_cases c49 : t261 = (wrap64 ((rd l0_8 (ji43)) - (rd l0_8 a1)))
                 ·rw [if_pos c49] at H
                  have c49b0 : (t261 == (wrap64 ((rd l0_8 (ji43)) - (rd l0_8 a1)))) = true := beq_iff_eq.mpr c49
                  have c49b1 : (t261 != (wrap64 ((rd l0_8 (ji43)) - (rd l0_8 a1)))) = false := bne_eq_false_iff_eq.mpr c49
                  clear c49
                  obtain rfl := Option.some.inj H
                  have hcz50_0 : wc.cell? ⟨gb256, 0, none⟩ = some (.int .i64 a0_0) := (blk_cell BK256.out 0).trans rfl
                  have hcz50_1 : wc.cell? ⟨gb256, 1, none⟩ = some (.int .i64 a0_1) := (blk_cell BK256.out 1).trans rfl
                  have hcz50_2 : wc.cell? ⟨gb256, 2, none⟩ = some (.int .i64 a0_2) := (blk_cell BK256.out 2).trans rfl
                  have hcz50_3 : wc.cell? ⟨gb256, 3, none⟩ = some (.int .i64 a0_3) := (blk_cell BK256.out 3).trans rfl
                  have hcz50_4 : wc.cell? ⟨gb256, 4, none⟩ = some (.int .i64 a0_4) := (blk_cell BK256.out 4).trans rfl
                  have hcz50_5 : wc.cell? ⟨gb256, 5, none⟩ = some (.int .i64 a0_5) := (blk_cell BK256.out 5).trans rfl
                  have hcz50_6 : wc.cell? ⟨gb256, 6, none⟩ = some (.slice A0_6 l0_6.length c0_6) := (blk_cell BK256.out 6).trans rfl
                  have hcz50_7 : wc.cell? ⟨gb256, 7, none⟩ = some (.slice A0_7 l0_7.length c0_7) := (blk_cell BK256.out 7).trans rfl
                  have hcz50_8 : wc.cell? ⟨gb256, 8, none⟩ = some (.slice A0_8 l0_8.length c0_8) := (blk_cell BK256.out 8).trans rfl
                  have hfz50_0 := blk_frozen BK256.out 0
                  have hfz50_1 := blk_frozen BK256.out 1
                  have hfz50_2 := blk_frozen BK256.out 2
                  have hfz50_3 := blk_frozen BK256.out 3
                  have hfz50_4 := blk_frozen BK256.out 4
                  have hfz50_5 := blk_frozen BK256.out 5
                  have hfz50_6 := blk_frozen BK256.out 6
                  have hfz50_7 := blk_frozen BK256.out 7
                  have hfz50_8 := blk_frozen BK256.out 8
                  have p264 : 0 ≤ (a1 : Int) := odt
                  have q264 : a1 < (l0_8.length : Int) := odt
                  obtain ⟨ad264, e264, hx264_0⟩ := Kd.at_int HR0_8.out a1 p264 q264
                  cases e264
                  replace hx264_0 := (HB.out.cell (World.block_lt_of_cell? w _ hx264_0)).trans hx264_0
                  replace p264 := eq_true p264
                  replace q264 := eq_true q264
                  have p265 : 0 ≤ ((ji43) : Int) := odt
                  have q265 : (ji43) < (l0_8.length : Int) := odt
                  obtain ⟨ad265, e265, hx265_0⟩ := Kd.at_int HR0_8.out (ji43) p265 q265
                  obtain rfl : ad264 = ad265 := (by injection e265)
                  replace hx265_0 := (HB.out.cell (World.block_lt_of_cell? w _ hx265_0)).trans hx265_0
                  replace p265 := eq_true p265
                  replace q265 := eq_true q265
                  have p266 : 0 ≤ (a1 : Int) := odt
                  have q266 : a1 < (l0_8.length : Int) := odt
                  obtain ⟨ad266, e266, hx266_0⟩ := Kd.at_int HR0_8.out a1 p266 q266
                  obtain rfl : ad264 = ad266 := (by injection e266)
                  replace hx266_0 := (HB.out.cell (World.block_lt_of_cell? w _ hx266_0)).trans hx266_0
                  replace p266 := eq_true p266
                  replace q266 := eq_true q266
                  have p267 : 0 ≤ (a1 : Int) := odt
                  have q267 : a1 < (l0_8.length : Int) := odt
                  obtain ⟨ad267, e267, hx267_0⟩ := Kd.at_int HR0_8.out a1 p267 q267
                  obtain rfl : ad264 = ad267 := (by injection e267)
                  replace hx267_0 := (HB.out.cell (World.block_lt_of_cell? w _ hx267_0)).trans hx267_0
                  replace p267 := eq_true p267
                  replace q267 := eq_true q267
                  have p268 : 0 ≤ ((ji43) : Int) := odt
                  have q268 : (ji43) < (l0_8.length : Int) := odt
                  obtain ⟨ad268, e268, hx268_0⟩ := Kd.at_int HR0_8.out (ji43) p268 q268
                  obtain rfl : ad264 = ad268 := (by injection e268)
                  replace hx268_0 := (HB.out.cell (World.block_lt_of_cell? w _ hx268_0)).trans hx268_0
                  replace p268 := eq_true p268
                  replace q268 := eq_true q268
                  have p269 : 0 ≤ (a1 : Int) := odt
                  have q269 : a1 < (l0_8.length : Int) := odt
                  obtain ⟨ad269, e269, hx269_0⟩ := Kd.at_int HR0_8.out a1 p269 q269
                  obtain rfl : ad264 = ad269 := (by injection e269)
                  replace hx269_0 := (HB.out.cell (World.block_lt_of_cell? w _ hx269_0)).trans hx269_0
                  replace p269 := eq_true p269
                  replace q269 := eq_true q269
                  go_wp2
                  repeat (go_quiet (fail); try go_wp2)
                  go_ret
                  exact ⟨by first | rfl | (simp [errW_none, errW_some] <;> rfl) | (simp only [← hji43]; first | rfl | (simp [errW_none, errW_some] <;> rfl)) | (simp [*, errW_none, errW_some] <;> rfl), bs HB GE256⟩
                 ·rw [if_neg c49] at H
                  exact absurd H (by simp)
                ·rw [if_neg c48] at H
                 exact absurd H (by simp)
              ·rw [if_neg c45] at H
               exact absurd H (by simp)
             ·rw [if_neg c44] at H
              exact absurd H (by simp)
           ·rw [if_neg c40] at H
            exact absurd H (by simp)
          ·rw [if_neg c39] at H
           exact absurd H (by simp)
         ·rw [if_neg c38] at H
          have c38b0 : ((wrap64 ((l0_8.length : Int) - 1)) == a0_2) = false := beq_eq_false_iff_ne.mpr c38
          have c38b1 : ((wrap64 ((l0_8.length : Int) - 1)) != a0_2) = true := bne_iff_ne.mpr c38
          by_cases c51 : t260 = 0
          ·rw [if_pos c51] at H
           have c51b0 : (t260 == 0) = true := beq_iff_eq.mpr c51
           have c51b1 : (t260 != 0) = false := bne_eq_false_iff_eq.mpr c51
           clear c51
           by_cases c52 : t261 = 0
           ·rw [if_pos c52] at H
            have c52b0 : (t261 == 0) = true := beq_iff_eq.mpr c52
            have c52b1 : (t261 != 0) = false := bne_eq_false_iff_eq.mpr c52
            clear c52
            obtain rfl := Option.some.inj H
            have hcz53_0 : wc.cell? ⟨gb256, 0, none⟩ = some (.int .i64 a0_0) := (blk_cell BK256.out 0).trans rfl
            have hcz53_1 : wc.cell? ⟨gb256, 1, none⟩ = some (.int .i64 a0_1) := (blk_cell BK256.out 1).trans rfl
            have hcz53_2 : wc.cell? ⟨gb256, 2, none⟩ = some (.int .i64 a0_2) := (blk_cell BK256.out 2).trans rfl
            have hcz53_3 : wc.cell? ⟨gb256, 3, none⟩ = some (.int .i64 a0_3) := (blk_cell BK256.out 3).trans rfl
            have hcz53_4 : wc.cell? ⟨gb256, 4, none⟩ = some (.int .i64 a0_4) := (blk_cell BK256.out 4).trans rfl
            have hcz53_5 : wc.cell? ⟨gb256, 5, none⟩ = some (.int .i64 a0_5) := (blk_cell BK256.out 5).trans rfl
            have hcz53_6 : wc.cell? ⟨gb256, 6, none⟩ = some (.slice A0_6 l0_6.length c0_6) := (blk_cell BK256.out 6).trans rfl
            have hcz53_7 : wc.cell? ⟨gb256, 7, none⟩ = some (.slice A0_7 l0_7.length c0_7) := (blk_cell BK256.out 7).trans rfl
            have hcz53_8 : wc.cell? ⟨gb256, 8, none⟩ = some (.slice A0_8 l0_8.length c0_8) := (blk_cell BK256.out 8).trans rfl
            have hfz53_0 := blk_frozen BK256.out 0
            have hfz53_1 := blk_frozen BK256.out 1
            have hfz53_2 := blk_frozen BK256.out 2
            have hfz53_3 := blk_frozen BK256.out 3
            have hfz53_4 := blk_frozen BK256.out 4
            have hfz53_5 := blk_frozen BK256.out 5
            have hfz53_6 := blk_frozen BK256.out 6
            have hfz53_7 := blk_frozen BK256.out 7
            have hfz53_8 := blk_frozen BK256.out 8
            go_wp2
            repeat (go_quiet (fail); try go_wp2)
            go_ret
            exact ⟨by first | rfl | (simp [errW_none, errW_some] <;> rfl) | (simp [*, errW_none, errW_some] <;> rfl), bs HB GE256⟩
           ·rw [if_neg c52] at H
            exact absurd H (by simp)
          ·rw [if_neg c51] at H
           exact absurd H (by simp)
 ·replace c4 := Bool.eq_false_iff.mpr c4
  subst c4
  have H1 : (none) = some r := by rw [if_neg (show ¬ (false = true) by decide)] at H; exact H
  clear H
  have H := H1
  clear H1
  exact absurd H (by simp)

def okS37 (x : S37) : Prop := (Lit.int .i64 x.f0).wf = true ∧ (Lit.int .i64 x.f1).wf = true ∧ (Lit.int .i64 x.f2).wf = true ∧ (Lit.int .i64 x.f3).wf = true ∧ (Lit.int .i64 x.f4).wf = true ∧ (Lit.int .i64 x.f5).wf = true ∧ (x.f6.length ≤ 9223372036854775807 ∧ x.f6.length * 8 ≤ 140737488351232 ∧ ∀ y1_ ∈ x.f6, (Lit.int .i64 y1_).wf = true) ∧ (x.f7.length ≤ 9223372036854775807 ∧ x.f7.length * 8 ≤ 140737488351232 ∧ ∀ y1_ ∈ x.f7, (Lit.int .i64 y1_).wf = true) ∧ (x.f8.length ≤ 9223372036854775807 ∧ x.f8.length * 8 ≤ 140737488351232 ∧ ∀ y1_ ∈ x.f8, (Lit.int .i64 y1_).wf = true)
/-- THE ONE PURE STATEMENT of seriflaw04_MetricAsks: yours. -/
def seriflaw04_MetricAsks.Pure : Prop := ∀ (x0 : S37) (a1 : Int), (okS37 x0) → ((Lit.int .i64 a1).wf = true) → ∃ k, seriflaw04_MetricAsks.f k x0.f0 x0.f1 x0.f2 x0.f3 x0.f4 x0.f5 x0.f6 x0.f7 x0.f8 a1 = some true

end Go.Proofs.Ytonljpciadeafaa.Q
