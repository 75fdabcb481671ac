-- written by a program of this session (wip/xprint.py) over the kit's print
import Derived.Test.YtmlkpadlafjfeaaPx0
namespace Go.Proofs.Ytmlkpadlafjfeaa.P
open Go.RowKit Go.Proofs.YtmlkpadlafjfeaaW.PrintWords Go.Proofs.YtmlkpadlafjfeaaW.PrintLast Go.Proofs.YtmlkpadlafjfeaaW.PrintMore
attribute [local go_sem] max2_int min2_int max_two min_two max_three min_three max_four min_four   -- for this text's walks alone
set_option linter.unusedVariables false
set_option linter.unusedSimpArgs false

/-! ### serifref06_Hull: function 18 -/
mutual
def serifref06_Hull.l0 : Nat → List (S35) → List (S35) → Int → Int → Int → Int → Int → Int → Option (Int × Int × Int × Int × Bool)
 | 0, _, _, _, _, _, _, _, _ => none
 | k + 1, x0, x8, x9, x10, x478000, x478001, x478002, x478003 => if x10 < x9 then (if 0 ≤ x10 then (if x10 < (x8.length : Int) then (if x10 = 0 then (serifref06_Hull.j1 k x0 x10 x8 x9 x10 true x478000 x478001 x478002 x478003 ((rd_T35 x8 x10).f0) ((rd_T35 x8 x10).f1)) else (serifref06_Hull.j1 k x0 x10 x8 x9 x10 (decide (((rd_T35 x8 x10).f0) < x478000)) x478000 x478001 x478002 x478003 ((rd_T35 x8 x10).f0) ((rd_T35 x8 x10).f1))) else (none)) else (none)) else (some (x478000, x478001, x478002, x478003, decide ((x0.length : Int) > 0)))
def serifref06_Hull.j1 : Nat → List (S35) → Int → List (S35) → Int → Int → Bool → Int → Int → Int → Int → Int → Int → Option (Int × Int × Int × Int × Bool)
 | 0, _, _, _, _, _, _, _, _, _, _, _, _ => none
 | k + 1, x0, x5, x8, x9, x10, x23, x478000, x478001, x478002, x478003, x480000, x480001 => if x23 = true then (serifref06_Hull.j2 k x0 x5 x8 x9 x10 x480000 x478001 x478002 x478003 x480000 x480001) else (serifref06_Hull.j2 k x0 x5 x8 x9 x10 x478000 x478001 x478002 x478003 x480000 x480001)
def serifref06_Hull.j2 : Nat → List (S35) → Int → List (S35) → Int → Int → Int → Int → Int → Int → Int → Int → Option (Int × Int × Int × Int × Bool)
 | 0, _, _, _, _, _, _, _, _, _, _, _ => none
 | k + 1, x0, x5, x8, x9, x10, x478000, x478001, x478002, x478003, x480000, x480001 => if x5 = 0 then (serifref06_Hull.j3 k x0 x5 x8 x9 x10 true x478000 x478001 x478002 x478003 x480000 x480001) else (serifref06_Hull.j3 k x0 x5 x8 x9 x10 (decide (x480001 < x478001)) x478000 x478001 x478002 x478003 x480000 x480001)
def serifref06_Hull.j3 : Nat → List (S35) → Int → List (S35) → Int → Int → Bool → Int → Int → Int → Int → Int → Int → Option (Int × Int × Int × Int × Bool)
 | 0, _, _, _, _, _, _, _, _, _, _, _, _ => none
 | k + 1, x0, x5, x8, x9, x10, x35, x478000, x478001, x478002, x478003, x480000, x480001 => if x35 = true then (serifref06_Hull.j4 k x0 x5 x8 x9 x10 x478000 x480001 x478002 x478003 x480000 x480001) else (serifref06_Hull.j4 k x0 x5 x8 x9 x10 x478000 x478001 x478002 x478003 x480000 x480001)
def serifref06_Hull.j4 : Nat → List (S35) → Int → List (S35) → Int → Int → Int → Int → Int → Int → Int → Int → Option (Int × Int × Int × Int × Bool)
 | 0, _, _, _, _, _, _, _, _, _, _, _ => none
 | k + 1, x0, x5, x8, x9, x10, x478000, x478001, x478002, x478003, x480000, x480001 => if x5 = 0 then (serifref06_Hull.j5 k x0 x5 x8 x9 x10 true x478000 x478001 x478002 x478003 x480000 x480001) else (serifref06_Hull.j5 k x0 x5 x8 x9 x10 (decide (x480000 > x478002)) x478000 x478001 x478002 x478003 x480000 x480001)
def serifref06_Hull.j5 : Nat → List (S35) → Int → List (S35) → Int → Int → Bool → Int → Int → Int → Int → Int → Int → Option (Int × Int × Int × Int × Bool)
 | 0, _, _, _, _, _, _, _, _, _, _, _, _ => none
 | k + 1, x0, x5, x8, x9, x10, x47, x478000, x478001, x478002, x478003, x480000, x480001 => if x47 = true then (if x5 = 0 then (serifref06_Hull.l0 k x0 x8 x9 (wrap64 (x10 + 1)) x478000 x478001 x480000 x480001) else (if x480001 > x478003 then (serifref06_Hull.l0 k x0 x8 x9 (wrap64 (x10 + 1)) x478000 x478001 x480000 x480001) else (serifref06_Hull.l0 k x0 x8 x9 (wrap64 (x10 + 1)) x478000 x478001 x480000 x478003))) else (if x5 = 0 then (serifref06_Hull.l0 k x0 x8 x9 (wrap64 (x10 + 1)) x478000 x478001 x478002 x480001) else (if x480001 > x478003 then (serifref06_Hull.l0 k x0 x8 x9 (wrap64 (x10 + 1)) x478000 x478001 x478002 x480001) else (serifref06_Hull.l0 k x0 x8 x9 (wrap64 (x10 + 1)) x478000 x478001 x478002 x478003)))
end
def serifref06_Hull.f (k : Nat) (l0 : List (S35)) : Option (Int × Int × Int × Int × Bool) := serifref06_Hull.l0 k l0 l0 (l0.length : Int) 0 0 0 0 0
theorem serifref06_Hull.mono_l : ∀ k, (∀ y0 y1 y2 y3 y4 y5 y6 y7, LeO (serifref06_Hull.l0 k y0 y1 y2 y3 y4 y5 y6 y7) (serifref06_Hull.l0 (k + 1) y0 y1 y2 y3 y4 y5 y6 y7)) ∧ (∀ y0 y1 y2 y3 y4 y5 y6 y7 y8 y9 y10 y11, LeO (serifref06_Hull.j1 k y0 y1 y2 y3 y4 y5 y6 y7 y8 y9 y10 y11) (serifref06_Hull.j1 (k + 1) y0 y1 y2 y3 y4 y5 y6 y7 y8 y9 y10 y11)) ∧ (∀ y0 y1 y2 y3 y4 y5 y6 y7 y8 y9 y10, LeO (serifref06_Hull.j2 k y0 y1 y2 y3 y4 y5 y6 y7 y8 y9 y10) (serifref06_Hull.j2 (k + 1) y0 y1 y2 y3 y4 y5 y6 y7 y8 y9 y10)) ∧ (∀ y0 y1 y2 y3 y4 y5 y6 y7 y8 y9 y10 y11, LeO (serifref06_Hull.j3 k y0 y1 y2 y3 y4 y5 y6 y7 y8 y9 y10 y11) (serifref06_Hull.j3 (k + 1) y0 y1 y2 y3 y4 y5 y6 y7 y8 y9 y10 y11)) ∧ (∀ y0 y1 y2 y3 y4 y5 y6 y7 y8 y9 y10, LeO (serifref06_Hull.j4 k y0 y1 y2 y3 y4 y5 y6 y7 y8 y9 y10) (serifref06_Hull.j4 (k + 1) y0 y1 y2 y3 y4 y5 y6 y7 y8 y9 y10)) ∧ (∀ y0 y1 y2 y3 y4 y5 y6 y7 y8 y9 y10 y11, LeO (serifref06_Hull.j5 k y0 y1 y2 y3 y4 y5 y6 y7 y8 y9 y10 y11) (serifref06_Hull.j5 (k + 1) y0 y1 y2 y3 y4 y5 y6 y7 y8 y9 y10 y11))
 | 0 => ⟨fun _ _ _ _ _ _ _ _ r h => by simp [serifref06_Hull.l0] at h, fun _ _ _ _ _ _ _ _ _ _ _ _ r h => by simp [serifref06_Hull.j1] at h, fun _ _ _ _ _ _ _ _ _ _ _ r h => by simp [serifref06_Hull.j2] at h, fun _ _ _ _ _ _ _ _ _ _ _ _ r h => by simp [serifref06_Hull.j3] at h, fun _ _ _ _ _ _ _ _ _ _ _ r h => by simp [serifref06_Hull.j4] at h, fun _ _ _ _ _ _ _ _ _ _ _ _ r h => by simp [serifref06_Hull.j5] at h⟩
 | k + 1 => by
  obtain ⟨ih0, ih1, ih2, ih3, ih4, ih5⟩ := serifref06_Hull.mono_l k
  refine ⟨?_, ?_, ?_, ?_, ?_, ?_⟩
  ·intro y0 y1 y2 y3 y4 y5 y6 y7
   unfold serifref06_Hull.l0
   repeat' first
   | (with_reducible exact ih0 _ _ _ _ _ _ _ _)
   | (with_reducible exact ih1 _ _ _ _ _ _ _ _ _ _ _ _)
   | (with_reducible exact ih2 _ _ _ _ _ _ _ _ _ _ _)
   | (with_reducible exact ih3 _ _ _ _ _ _ _ _ _ _ _ _)
   | (with_reducible exact ih4 _ _ _ _ _ _ _ _ _ _ _)
   | (with_reducible exact ih5 _ _ _ _ _ _ _ _ _ _ _ _)
   | (with_reducible exact LeO.refl _)
   | (with_reducible exact LeO.none _)
   | (with_reducible refine LeO.ite ?_ ?_)
   | (with_reducible refine LeO.bind ?_ (fun _ => ?_))
   | exact ih0 _ _ _ _ _ _ _ _
   | exact ih1 _ _ _ _ _ _ _ _ _ _ _ _
   | exact ih2 _ _ _ _ _ _ _ _ _ _ _
   | exact ih3 _ _ _ _ _ _ _ _ _ _ _ _
   | exact ih4 _ _ _ _ _ _ _ _ _ _ _
   | exact ih5 _ _ _ _ _ _ _ _ _ _ _ _
   | exact LeO.none _
   | refine LeO.ite ?_ ?_
   | refine LeO.bind ?_ (fun _ => ?_)
  ·intro y0 y1 y2 y3 y4 y5 y6 y7 y8 y9 y10 y11
   unfold serifref06_Hull.j1
   repeat' first
   | (with_reducible exact ih0 _ _ _ _ _ _ _ _)
   | (with_reducible exact ih1 _ _ _ _ _ _ _ _ _ _ _ _)
   | (with_reducible exact ih2 _ _ _ _ _ _ _ _ _ _ _)
   | (with_reducible exact ih3 _ _ _ _ _ _ _ _ _ _ _ _)
   | (with_reducible exact ih4 _ _ _ _ _ _ _ _ _ _ _)
   | (with_reducible exact ih5 _ _ _ _ _ _ _ _ _ _ _ _)
   | (with_reducible exact LeO.refl _)
   | (with_reducible exact LeO.none _)
   | (with_reducible refine LeO.ite ?_ ?_)
   | (with_reducible refine LeO.bind ?_ (fun _ => ?_))
   | exact ih0 _ _ _ _ _ _ _ _
   | exact ih1 _ _ _ _ _ _ _ _ _ _ _ _
   | exact ih2 _ _ _ _ _ _ _ _ _ _ _
   | exact ih3 _ _ _ _ _ _ _ _ _ _ _ _
   | exact ih4 _ _ _ _ _ _ _ _ _ _ _
   | exact ih5 _ _ _ _ _ _ _ _ _ _ _ _
   | exact LeO.none _
   | refine LeO.ite ?_ ?_
   | refine LeO.bind ?_ (fun _ => ?_)
  ·intro y0 y1 y2 y3 y4 y5 y6 y7 y8 y9 y10
   unfold serifref06_Hull.j2
   repeat' first
   | (with_reducible exact ih0 _ _ _ _ _ _ _ _)
   | (with_reducible exact ih1 _ _ _ _ _ _ _ _ _ _ _ _)
   | (with_reducible exact ih2 _ _ _ _ _ _ _ _ _ _ _)
   | (with_reducible exact ih3 _ _ _ _ _ _ _ _ _ _ _ _)
   | (with_reducible exact ih4 _ _ _ _ _ _ _ _ _ _ _)
   | (with_reducible exact ih5 _ _ _ _ _ _ _ _ _ _ _ _)
   | (with_reducible exact LeO.refl _)
   | (with_reducible exact LeO.none _)
   | (with_reducible refine LeO.ite ?_ ?_)
   | (with_reducible refine LeO.bind ?_ (fun _ => ?_))
   | exact ih0 _ _ _ _ _ _ _ _
   | exact ih1 _ _ _ _ _ _ _ _ _ _ _ _
   | exact ih2 _ _ _ _ _ _ _ _ _ _ _
   | exact ih3 _ _ _ _ _ _ _ _ _ _ _ _
   | exact ih4 _ _ _ _ _ _ _ _ _ _ _
   | exact ih5 _ _ _ _ _ _ _ _ _ _ _ _
   | exact LeO.none _
   | refine LeO.ite ?_ ?_
   | refine LeO.bind ?_ (fun _ => ?_)
  ·intro y0 y1 y2 y3 y4 y5 y6 y7 y8 y9 y10 y11
   unfold serifref06_Hull.j3
   repeat' first
   | (with_reducible exact ih0 _ _ _ _ _ _ _ _)
   | (with_reducible exact ih1 _ _ _ _ _ _ _ _ _ _ _ _)
   | (with_reducible exact ih2 _ _ _ _ _ _ _ _ _ _ _)
   | (with_reducible exact ih3 _ _ _ _ _ _ _ _ _ _ _ _)
   | (with_reducible exact ih4 _ _ _ _ _ _ _ _ _ _ _)
   | (with_reducible exact ih5 _ _ _ _ _ _ _ _ _ _ _ _)
   | (with_reducible exact LeO.refl _)
   | (with_reducible exact LeO.none _)
   | (with_reducible refine LeO.ite ?_ ?_)
   | (with_reducible refine LeO.bind ?_ (fun _ => ?_))
   | exact ih0 _ _ _ _ _ _ _ _
   | exact ih1 _ _ _ _ _ _ _ _ _ _ _ _
   | exact ih2 _ _ _ _ _ _ _ _ _ _ _
   | exact ih3 _ _ _ _ _ _ _ _ _ _ _ _
   | exact ih4 _ _ _ _ _ _ _ _ _ _ _
   | exact ih5 _ _ _ _ _ _ _ _ _ _ _ _
   | exact LeO.none _
   | refine LeO.ite ?_ ?_
   | refine LeO.bind ?_ (fun _ => ?_)
  ·intro y0 y1 y2 y3 y4 y5 y6 y7 y8 y9 y10
   unfold serifref06_Hull.j4
   repeat' first
   | (with_reducible exact ih0 _ _ _ _ _ _ _ _)
   | (with_reducible exact ih1 _ _ _ _ _ _ _ _ _ _ _ _)
   | (with_reducible exact ih2 _ _ _ _ _ _ _ _ _ _ _)
   | (with_reducible exact ih3 _ _ _ _ _ _ _ _ _ _ _ _)
   | (with_reducible exact ih4 _ _ _ _ _ _ _ _ _ _ _)
   | (with_reducible exact ih5 _ _ _ _ _ _ _ _ _ _ _ _)
   | (with_reducible exact LeO.refl _)
   | (with_reducible exact LeO.none _)
   | (with_reducible refine LeO.ite ?_ ?_)
   | (with_reducible refine LeO.bind ?_ (fun _ => ?_))
   | exact ih0 _ _ _ _ _ _ _ _
   | exact ih1 _ _ _ _ _ _ _ _ _ _ _ _
   | exact ih2 _ _ _ _ _ _ _ _ _ _ _
   | exact ih3 _ _ _ _ _ _ _ _ _ _ _ _
   | exact ih4 _ _ _ _ _ _ _ _ _ _ _
   | exact ih5 _ _ _ _ _ _ _ _ _ _ _ _
   | exact LeO.none _
   | refine LeO.ite ?_ ?_
   | refine LeO.bind ?_ (fun _ => ?_)
  ·intro y0 y1 y2 y3 y4 y5 y6 y7 y8 y9 y10 y11
   unfold serifref06_Hull.j5
   repeat' first
   | (with_reducible exact ih0 _ _ _ _ _ _ _ _)
   | (with_reducible exact ih1 _ _ _ _ _ _ _ _ _ _ _ _)
   | (with_reducible exact ih2 _ _ _ _ _ _ _ _ _ _ _)
   | (with_reducible exact ih3 _ _ _ _ _ _ _ _ _ _ _ _)
   | (with_reducible exact ih4 _ _ _ _ _ _ _ _ _ _ _)
   | (with_reducible exact ih5 _ _ _ _ _ _ _ _ _ _ _ _)
   | (with_reducible exact LeO.refl _)
   | (with_reducible exact LeO.none _)
   | (with_reducible refine LeO.ite ?_ ?_)
   | (with_reducible refine LeO.bind ?_ (fun _ => ?_))
   | exact ih0 _ _ _ _ _ _ _ _
   | exact ih1 _ _ _ _ _ _ _ _ _ _ _ _
   | exact ih2 _ _ _ _ _ _ _ _ _ _ _
   | exact ih3 _ _ _ _ _ _ _ _ _ _ _ _
   | exact ih4 _ _ _ _ _ _ _ _ _ _ _
   | exact ih5 _ _ _ _ _ _ _ _ _ _ _ _
   | exact LeO.none _
   | refine LeO.ite ?_ ?_
   | refine LeO.bind ?_ (fun _ => ?_)
theorem serifref06_Hull.mono : ∀ a0 k, LeO (serifref06_Hull.f k a0) (serifref06_Hull.f (k + 1) a0) := by
 intro a0 k
 obtain ⟨ih0, ih1, ih2, ih3, ih4, ih5⟩ := serifref06_Hull.mono_l k
 unfold serifref06_Hull.f
 repeat' first
   | (with_reducible exact ih0 _ _ _ _ _ _ _ _)
   | (with_reducible exact ih1 _ _ _ _ _ _ _ _ _ _ _ _)
   | (with_reducible exact ih2 _ _ _ _ _ _ _ _ _ _ _)
   | (with_reducible exact ih3 _ _ _ _ _ _ _ _ _ _ _ _)
   | (with_reducible exact ih4 _ _ _ _ _ _ _ _ _ _ _)
   | (with_reducible exact ih5 _ _ _ _ _ _ _ _ _ _ _ _)
   | (with_reducible exact LeO.refl _)
   | (with_reducible exact LeO.none _)
   | (with_reducible refine LeO.ite ?_ ?_)
   | (with_reducible refine LeO.bind ?_ (fun _ => ?_))
   | exact ih0 _ _ _ _ _ _ _ _
   | exact ih1 _ _ _ _ _ _ _ _ _ _ _ _
   | exact ih2 _ _ _ _ _ _ _ _ _ _ _
   | exact ih3 _ _ _ _ _ _ _ _ _ _ _ _
   | exact ih4 _ _ _ _ _ _ _ _ _ _ _
   | exact ih5 _ _ _ _ _ _ _ _ _ _ _ _
   | exact LeO.none _
   | refine LeO.ite ?_ ?_
   | refine LeO.bind ?_ (fun _ => ?_)
set_option maxHeartbeats 8000000 in
set_option maxRecDepth 100000 in
theorem serifref06_Hull.calls (k : Nat) (A0 : Option Addr) (c0 : Nat) (l0 : List (S35)) (r1 : Int) (r2 : Int) (r3 : Int) (r4 : Int) (r5 : Bool) (w : World) (hr0 : Kd.C k35 w A0 l0.length l0) (hc0 : l0.length ≤ c0) (h : serifref06_Hull.f k l0 = some (r1, r2, r3, r4, r5)) :
  Calls Try.prog 18 #[.slice A0 l0.length c0] w fun e w' => e = .returned (.tuple #[.agg #[.int .i64 r1, .int .i64 r2, .int .i64 r3, .int .i64 r4], .bool r5]) ∧ Below w.heap.size w w' := by
 have hu45 := Try.underlying45
 have hu35 := Try.underlying35
 have HR0 := Aside0.mk hr0
 have HC0 := Aside0.mk hc0
 clear hr0 hc0
 have HB := Aside0.mk (Below.refl w.heap.size w)
 have H : (serifref06_Hull.l0 k l0 l0 (l0.length : Int) 0 0 0 0 0) = some (r1, r2, r3, r4, r5) := h
 clear h
 have H' := Aside0.mk H
 clear H
 go_enter Try.func18, Try.ntmps18
 go_wp2_with (first | ((with_reducible refine gate_dst (N := 2) rfl ?_); refine box_event ?hg (N := 2) ?hd (cs := #[.int .i64 0, .int .i64 0, .int .i64 0, .int .i64 0]) (t := 45) ?hr ?_; (case hd => rfl); (case hg => rfl); (case hr => first | (go_simp; done) | (go_simp; rfl)); intro gb476 hg w2 hbox hb; have n0_ := Aside0.mk (below_step (bq HB) hb); have n1_ := Aside0.mk (hbox); have n2_ := Aside0.mk ((by rw [hg]; exact (below_size (bq HB)) : w.heap.size ≤ gb476)); have n3_ := Aside0.mk ((by rw [hg]; exact (below_size (bq HB)) : w.heap.size ≤ gb476)); clear HB; have HB := n0_; have BK476 := n1_; have GW476 := n2_; have GE476 := n3_; clear n0_ n1_ n2_ n3_; clear hb hbox hg) | ((with_reducible refine gate_dst (N := 4) rfl ?_); refine box_event ?hg (N := 4) ?hd (cs := #[.int .i64 0, .int .i64 0, .int .i64 0, .int .i64 0]) (t := 45) ?hr ?_; (case hd => rfl); (case hg => rfl); (case hr => first | (go_simp; done) | (go_simp; rfl)); intro gb477 hg w3 hbox hb; have n0_ := Aside0.mk (blk_below (g := gb476) (o := .cells #[.int .i64 0, .int .i64 0, .int .i64 0, .int .i64 0] 45 (0, 0)) (kq BK476) hb); have n1_ := Aside0.mk (below_step (bs HB GE476) hb); have n2_ := Aside0.mk (hbox); have n3_ := Aside0.mk ((by rw [hg]; exact (below_size (bs HB GE476)) : w.heap.size ≤ gb477)); have n4_ := Aside0.mk ((by rw [hg]; exact (below_size (bs HB GE476)) : w.heap.size ≤ gb477)); have n5_ := Aside0.mk ((by rw [hg]; exact Nat.ne_of_lt (blk_lt (g := gb476) (o := .cells #[.int .i64 0, .int .i64 0, .int .i64 0, .int .i64 0] 45 (0, 0)) (kq BK476)) : gb476 ≠ gb477)); have n6_ := Aside0.mk ((by rw [hg]; exact Nat.ne_of_gt (blk_lt (g := gb476) (o := .cells #[.int .i64 0, .int .i64 0, .int .i64 0, .int .i64 0] 45 (0, 0)) (kq BK476)) : gb477 ≠ gb476)); clear BK476; clear HB; have BK476 := n0_; have HB := n1_; have BK477 := n2_; have GW477 := n3_; have GE477 := n4_; have NB476_477 := n5_; have NB477_476 := n6_; clear n0_ n1_ n2_ n3_ n4_ n5_ n6_; clear hb hbox hg; have hnb4 := NB477_476.out; have hnc4 := NB476_477.out; have hcz5_0 : w3.cell? ⟨gb477, 0, none⟩ = some (.int .i64 0) := (blk_cell BK477.out 0).trans rfl; have hcz5_1 : w3.cell? ⟨gb477, 1, none⟩ = some (.int .i64 0) := (blk_cell BK477.out 1).trans rfl; have hcz5_2 : w3.cell? ⟨gb477, 2, none⟩ = some (.int .i64 0) := (blk_cell BK477.out 2).trans rfl; have hcz5_3 : w3.cell? ⟨gb477, 3, none⟩ = some (.int .i64 0) := (blk_cell BK477.out 3).trans rfl; have hfz5_0 := blk_frozen BK477.out 0; have hfz5_1 := blk_frozen BK477.out 1; have hfz5_2 := blk_frozen BK477.out 2; have hfz5_3 := blk_frozen BK477.out 3))
 go_loopg [10] k (fun kq v10 w' => ∃ (x10_1 : Int) (x478000_1 : Int) (x478001_1 : Int) (x478002_1 : Int) (x478003_1 : Int), v10 = .int .i64 x10_1 ∧ Aside0 (serifref06_Hull.l0 kq l0 l0 (l0.length : Int) x10_1 x478000_1 x478001_1 x478002_1 x478003_1 = some (r1, r2, r3, r4, r5)) ∧ Aside0 (kq ≤ k) ∧ Aside0 (w'.heap[gb476]? = some (.cells #[.int .i64 0, .int .i64 0, .int .i64 0, .int .i64 0] 45 (0, 0))) ∧ Aside0 (w'.heap[gb477]? = some (.cells #[.int .i64 x478000_1, .int .i64 x478001_1, .int .i64 x478002_1, .int .i64 x478003_1] 45 (0, 0))) ∧ Aside0 (Below w.heap.size w w'))
 case atStart => exact ⟨(0), (0), (0), (0), (0), (by first | rfl | (simp; done) | (simp [*]; done)), H', ⟨Nat.le_refl _⟩, ⟨by (with_reducible repeat (first | refine blk_drewN ?_ _ | refine blk_drew ?_ | refine blk_alloc ?_ _)); refine blk_far ?_ NB476_477.out _; (with_reducible repeat (first | refine blk_drewN ?_ _ | refine blk_drew ?_ | refine blk_alloc ?_ _)); refine blk_far ?_ NB476_477.out _; (with_reducible repeat (first | refine blk_drewN ?_ _ | refine blk_drew ?_ | refine blk_alloc ?_ _)); refine blk_far ?_ NB476_477.out _; (with_reducible repeat (first | refine blk_drewN ?_ _ | refine blk_drew ?_ | refine blk_alloc ?_ _)); refine blk_far ?_ NB476_477.out _; (with_reducible repeat (first | refine blk_drewN ?_ _ | refine blk_drew ?_ | refine blk_alloc ?_ _)); exact BK476.out⟩, ⟨by (with_reducible repeat (first | refine blk_drewN ?_ _ | refine blk_drew ?_ | refine blk_alloc ?_ _)); refine blk_put (cs := #[.int .i64 0, .int .i64 0, .int .i64 0, .int .i64 0]) ?_ 3 _ rfl; (with_reducible repeat (first | refine blk_drewN ?_ _ | refine blk_drew ?_ | refine blk_alloc ?_ _)); refine blk_put (cs := #[.int .i64 0, .int .i64 0, .int .i64 0, .int .i64 0]) ?_ 2 _ rfl; (with_reducible repeat (first | refine blk_drewN ?_ _ | refine blk_drew ?_ | refine blk_alloc ?_ _)); refine blk_put (cs := #[.int .i64 0, .int .i64 0, .int .i64 0, .int .i64 0]) ?_ 1 _ rfl; (with_reducible repeat (first | refine blk_drewN ?_ _ | refine blk_drew ?_ | refine blk_alloc ?_ _)); refine blk_put (cs := #[.int .i64 0, .int .i64 0, .int .i64 0, .int .i64 0]) ?_ 0 _ rfl; (with_reducible repeat (first | refine blk_drewN ?_ _ | refine blk_drew ?_ | refine blk_alloc ?_ _)); exact BK477.out⟩, ⟨by repeat (first | (with_reducible first | exact HB.out | apply below_alloc | apply pw_below_drewN | apply below_drew1 | refine below_set ?_ GE476.out | refine below_set ?_ GE477.out) | exact HB.out)⟩⟩
 case round =>
  clear H'
  try clear c1
  try clear p2
  try clear c4
  try clear hcz5_0
  try clear hcz5_1
  try clear hcz5_2
  try clear hcz5_3
  try clear hfz5_0
  try clear hfz5_1
  try clear hfz5_2
  try clear hfz5_3
  obtain ⟨x10_1, x478000_1, x478001_1, x478002_1, x478003_1, rfl, HA, HK1, BK476, BK477, HB⟩ := hrel
  cases gk with
  | zero => exact absurd HA.out (by simp [serifref06_Hull.l0])
  | succ k1 =>
   have H := HA.out
   clear HA
   simp only [serifref06_Hull.l0] at H
   by_cases c6 : x10_1 < (l0.length : Int)
   ·rw [if_pos c6] at H
    have c6b0 : decide (x10_1 < (l0.length : Int)) = true := decide_eq_true c6
    clear c6
    by_cases c7 : 0 ≤ x10_1
    ·rw [if_pos c7] at H
     have c7b0 : decide (0 ≤ x10_1) = true := decide_eq_true c7
     clear c7
     by_cases c8 : x10_1 < (l0.length : Int)
     ·rw [if_pos c8] at H
      have c8b0 : decide (x10_1 < (l0.length : Int)) = true := decide_eq_true c8
      clear c8
      have HC9 := Aside0.mk H
      clear H
      have p478 : 0 ≤ (x10_1 : Int) := odt
      have q478 : x10_1 < (l0.length : Int) := odt
      obtain ⟨ad478, e478, hx478_0, hx478_1⟩ := at_T35 HR0.out x10_1 p478 q478
      cases e478
      replace hx478_0 := (HB.out.cell (World.block_lt_of_cell? w _ hx478_0)).trans hx478_0
      replace hx478_1 := (HB.out.cell (World.block_lt_of_cell? w _ hx478_1)).trans hx478_1
      replace p478 := eq_true p478
      replace q478 := eq_true q478
      go_upto_region 5 with (first | ((with_reducible refine gate_dst (N := 6) rfl ?_); refine box_event ?hg (N := 6) ?hd (cs := #[.int .i64 0, .int .i64 0]) (t := 35) ?hr ?_; (case hd => rfl); (case hg => rfl); (case hr => first | (go_simp; done) | (go_simp; rfl)); intro gb479 hg w10 hbox hb; have n0_ := Aside0.mk (blk_below (g := gb476) (o := .cells #[.int .i64 0, .int .i64 0, .int .i64 0, .int .i64 0] 45 (0, 0)) (kq BK476) hb); have n1_ := Aside0.mk (blk_below (g := gb477) (o := .cells #[.int .i64 x478000_1, .int .i64 x478001_1, .int .i64 x478002_1, .int .i64 x478003_1] 45 (0, 0)) (kq BK477) hb); have n2_ := Aside0.mk (below_step (by repeat (first | (with_reducible first | exact HB.out | apply below_alloc | apply pw_below_drewN | apply below_drew1 | refine below_set ?_ GE476.out | refine below_set ?_ GE477.out) | exact HB.out)) hb); have n3_ := Aside0.mk (hbox); have n4_ := Aside0.mk ((by rw [hg]; exact (below_size (by repeat (first | (with_reducible first | exact HB.out | apply below_alloc | apply pw_below_drewN | apply below_drew1 | refine below_set ?_ GE476.out | refine below_set ?_ GE477.out) | exact HB.out))) : w.heap.size ≤ gb479)); have n5_ := Aside0.mk ((by rw [hg]; exact (below_size (by repeat (first | (with_reducible first | exact HB.out | apply below_alloc | apply pw_below_drewN | apply below_drew1 | refine below_set ?_ GE476.out | refine below_set ?_ GE477.out) | exact HB.out))) : w.heap.size ≤ gb479)); have n6_ := Aside0.mk ((by rw [hg]; exact Nat.ne_of_lt (blk_lt (g := gb476) (o := .cells #[.int .i64 0, .int .i64 0, .int .i64 0, .int .i64 0] 45 (0, 0)) (kq BK476)) : gb476 ≠ gb479)); have n7_ := Aside0.mk ((by rw [hg]; exact Nat.ne_of_gt (blk_lt (g := gb476) (o := .cells #[.int .i64 0, .int .i64 0, .int .i64 0, .int .i64 0] 45 (0, 0)) (kq BK476)) : gb479 ≠ gb476)); have n8_ := Aside0.mk ((by rw [hg]; exact Nat.ne_of_lt (blk_lt (g := gb477) (o := .cells #[.int .i64 x478000_1, .int .i64 x478001_1, .int .i64 x478002_1, .int .i64 x478003_1] 45 (0, 0)) (kq BK477)) : gb477 ≠ gb479)); have n9_ := Aside0.mk ((by rw [hg]; exact Nat.ne_of_gt (blk_lt (g := gb477) (o := .cells #[.int .i64 x478000_1, .int .i64 x478001_1, .int .i64 x478002_1, .int .i64 x478003_1] 45 (0, 0)) (kq BK477)) : gb479 ≠ gb477)); clear BK476; clear BK477; clear HB; have BK476 := n0_; have BK477 := n1_; have HB := n2_; have BK479 := n3_; have GW479 := n4_; have GE479 := n5_; have NB476_479 := n6_; have NB479_476 := n7_; have NB477_479 := n8_; have NB479_477 := n9_; clear n0_ n1_ n2_ n3_ n4_ n5_ n6_ n7_ n8_ n9_; clear hb hbox hg; have hnb11 := NB479_476.out; have hnc11 := NB476_479.out; have hnb12 := NB479_477.out; have hnc12 := NB477_479.out; have hcz13_0 : w10.cell? ⟨gb479, 0, none⟩ = some (.int .i64 0) := (blk_cell BK479.out 0).trans rfl; have hcz13_1 : w10.cell? ⟨gb479, 1, none⟩ = some (.int .i64 0) := (blk_cell BK479.out 1).trans rfl; have hfz13_0 := blk_frozen BK479.out 0; have hfz13_1 := blk_frozen BK479.out 1))
      (try simp only [Act.put, List.setIfInBounds_toArray, List.set_cons_zero, List.set_cons_succ])
      go_cut [23] (fun v23 wc => ∃ (kq : Nat) (x23_8 : Bool), v23 = .bool x23_8 ∧ Aside0 (serifref06_Hull.j1 kq l0 x10_1 l0 (l0.length : Int) x10_1 x23_8 x478000_1 x478001_1 x478002_1 x478003_1 ((rd_T35 l0 x10_1).f0) ((rd_T35 l0 x10_1).f1) = some (r1, r2, r3, r4, r5)) ∧ Aside0 (kq ≤ k1) ∧ Aside0 (wc.heap[gb476]? = some (.cells #[.int .i64 0, .int .i64 0, .int .i64 0, .int .i64 0] 45 (0, 0))) ∧ Aside0 (wc.heap[gb477]? = some (.cells #[.int .i64 x478000_1, .int .i64 x478001_1, .int .i64 x478002_1, .int .i64 x478003_1] 45 (0, 0))) ∧ Aside0 (wc.heap[gb479]? = some (.cells #[.int .i64 ((rd_T35 l0 x10_1).f0), .int .i64 ((rd_T35 l0 x10_1).f1)] 35 (0, 0))) ∧ Aside0 (Below w.heap.size w wc))
      case first =>
       have H := HC9.out
       clear HC9
       by_cases c14 : x10_1 = 0
       ·rw [if_pos c14] at H
        have c14b0 : (x10_1 == 0) = true := beq_iff_eq.mpr c14
        have c14b1 : (x10_1 != 0) = false := bne_eq_false_iff_eq.mpr c14
        clear c14
        (first | rw [c14b0] | (simp only [i64_w, i32_w]; rw [c14b0]) | skip)
        have H' := Aside0.mk H
        clear H
        go_wp2
        go_meet
        case rel => exact ⟨_, (true), (by first | rfl | (simp; done) | (simp [*]; done)), H', ⟨by have := HK1.out; first | omega | exact Nat.le_refl _⟩, ⟨by (with_reducible repeat (first | refine blk_drewN ?_ _ | refine blk_drew ?_ | refine blk_alloc ?_ _)); refine blk_far ?_ NB476_479.out _; (with_reducible repeat (first | refine blk_drewN ?_ _ | refine blk_drew ?_ | refine blk_alloc ?_ _)); refine blk_far ?_ NB476_479.out _; (with_reducible repeat (first | refine blk_drewN ?_ _ | refine blk_drew ?_ | refine blk_alloc ?_ _)); exact BK476.out⟩, ⟨by (with_reducible repeat (first | refine blk_drewN ?_ _ | refine blk_drew ?_ | refine blk_alloc ?_ _)); refine blk_far ?_ NB477_479.out _; (with_reducible repeat (first | refine blk_drewN ?_ _ | refine blk_drew ?_ | refine blk_alloc ?_ _)); refine blk_far ?_ NB477_479.out _; (with_reducible repeat (first | refine blk_drewN ?_ _ | refine blk_drew ?_ | refine blk_alloc ?_ _)); exact BK477.out⟩, ⟨by (with_reducible repeat (first | refine blk_drewN ?_ _ | refine blk_drew ?_ | refine blk_alloc ?_ _)); refine blk_put (cs := #[.int .i64 ((rd_T35 l0 x10_1).f0), .int .i64 0]) ?_ 1 _ rfl; (with_reducible repeat (first | refine blk_drewN ?_ _ | refine blk_drew ?_ | refine blk_alloc ?_ _)); refine blk_put (cs := #[.int .i64 0, .int .i64 0]) ?_ 0 _ rfl; (with_reducible repeat (first | refine blk_drewN ?_ _ | refine blk_drew ?_ | refine blk_alloc ?_ _)); exact BK479.out⟩, ⟨by repeat (first | (with_reducible first | exact HB.out | apply below_alloc | apply pw_below_drewN | apply below_drew1 | refine below_set ?_ GE476.out | refine below_set ?_ GE477.out | refine below_set ?_ GE479.out) | exact HB.out)⟩⟩
       ·rw [if_neg c14] at H
        have c14b0 : (x10_1 == 0) = false := beq_eq_false_iff_ne.mpr c14
        have c14b1 : (x10_1 != 0) = true := bne_iff_ne.mpr c14
        (first | rw [c14b0] | (simp only [i64_w, i32_w]; rw [c14b0]) | skip)
        have H' := Aside0.mk H
        clear H
        have hnb15 := NB479_476.out
        have hnc15 := NB476_479.out
        have hnb16 := NB479_477.out
        have hnc16 := NB477_479.out
        have hcz17_0 : w10.cell? ⟨gb479, 0, none⟩ = some (.int .i64 0) := (blk_cell BK479.out 0).trans rfl
        have hcz17_1 : w10.cell? ⟨gb479, 1, none⟩ = some (.int .i64 0) := (blk_cell BK479.out 1).trans rfl
        have hfz17_0 := blk_frozen BK479.out 0
        have hfz17_1 := blk_frozen BK479.out 1
        have hnb18 := NB477_476.out
        have hnc18 := NB476_477.out
        have hcz19_0 : w10.cell? ⟨gb477, 0, none⟩ = some (.int .i64 x478000_1) := (blk_cell BK477.out 0).trans rfl
        have hcz19_1 : w10.cell? ⟨gb477, 1, none⟩ = some (.int .i64 x478001_1) := (blk_cell BK477.out 1).trans rfl
        have hcz19_2 : w10.cell? ⟨gb477, 2, none⟩ = some (.int .i64 x478002_1) := (blk_cell BK477.out 2).trans rfl
        have hcz19_3 : w10.cell? ⟨gb477, 3, none⟩ = some (.int .i64 x478003_1) := (blk_cell BK477.out 3).trans rfl
        have hfz19_0 := blk_frozen BK477.out 0
        have hfz19_1 := blk_frozen BK477.out 1
        have hfz19_2 := blk_frozen BK477.out 2
        have hfz19_3 := blk_frozen BK477.out 3
        go_wp2
        go_meet
        case rel => exact ⟨_, (decide (((rd_T35 l0 x10_1).f0) < x478000_1)), (by first | rfl | (simp; done) | (simp [*]; done)), H', ⟨by have := HK1.out; first | omega | exact Nat.le_refl _⟩, ⟨by (with_reducible repeat (first | refine blk_drewN ?_ _ | refine blk_drew ?_ | refine blk_alloc ?_ _)); refine blk_far ?_ NB476_479.out _; (with_reducible repeat (first | refine blk_drewN ?_ _ | refine blk_drew ?_ | refine blk_alloc ?_ _)); refine blk_far ?_ NB476_479.out _; (with_reducible repeat (first | refine blk_drewN ?_ _ | refine blk_drew ?_ | refine blk_alloc ?_ _)); exact BK476.out⟩, ⟨by (with_reducible repeat (first | refine blk_drewN ?_ _ | refine blk_drew ?_ | refine blk_alloc ?_ _)); refine blk_far ?_ NB477_479.out _; (with_reducible repeat (first | refine blk_drewN ?_ _ | refine blk_drew ?_ | refine blk_alloc ?_ _)); refine blk_far ?_ NB477_479.out _; (with_reducible repeat (first | refine blk_drewN ?_ _ | refine blk_drew ?_ | refine blk_alloc ?_ _)); exact BK477.out⟩, ⟨by (with_reducible repeat (first | refine blk_drewN ?_ _ | refine blk_drew ?_ | refine blk_alloc ?_ _)); refine blk_put (cs := #[.int .i64 ((rd_T35 l0 x10_1).f0), .int .i64 0]) ?_ 1 _ rfl; (with_reducible repeat (first | refine blk_drewN ?_ _ | refine blk_drew ?_ | refine blk_alloc ?_ _)); refine blk_put (cs := #[.int .i64 0, .int .i64 0]) ?_ 0 _ rfl; (with_reducible repeat (first | refine blk_drewN ?_ _ | refine blk_drew ?_ | refine blk_alloc ?_ _)); exact BK479.out⟩, ⟨by repeat (first | (with_reducible first | exact HB.out | apply below_alloc | apply pw_below_drewN | apply below_drew1 | refine below_set ?_ GE476.out | refine below_set ?_ GE477.out | refine below_set ?_ GE479.out) | exact HB.out)⟩⟩
      case rest =>
       clear HC9
       try clear c1
       try clear p2
       try clear c4
       try clear p4
       try clear q4
       try clear hx4
       try clear c6
       try clear c6b0
       try clear c7
       try clear c7b0
       try clear c8
       try clear c8b0
       try clear c11
       try clear c12
       try clear c14
       try clear c14b0
       try clear c14b1
       try clear c15
       try clear c16
       try clear c18
       try clear hcz13_0
       try clear hcz13_1
       try clear hcz17_0
       try clear hcz17_1
       try clear hcz19_0
       try clear hcz19_1
       try clear hcz19_2
       try clear hcz19_3
       try clear hcz5_0
       try clear hcz5_1
       try clear hcz5_2
       try clear hcz5_3
       try clear hfz13_0
       try clear hfz13_1
       try clear hfz17_0
       try clear hfz17_1
       try clear hfz19_0
       try clear hfz19_1
       try clear hfz19_2
       try clear hfz19_3
       try clear hfz5_0
       try clear hfz5_1
       try clear hfz5_2
       try clear hfz5_3
       try clear hx478_0
       try clear hx478_1
       try clear p2
       try clear p478
       try clear q478
       obtain ⟨kq, x23_8, rfl, HA, HJ8, BK476, BK477, BK479, HB⟩ := hcut
       cases kq with
       | zero => exact absurd HA.out (by simp [serifref06_Hull.j1])
       | succ kj8 =>
        have H := HA.out
        clear HA
        simp only [serifref06_Hull.j1] at H
        have HC20 := Aside0.mk H
        clear H
        go_upto_if 23 with (fail)
        go_cut [] (fun wc => ∃ (kq : Nat) (x478000_19 : Int), Aside0 (serifref06_Hull.j2 kq l0 x10_1 l0 (l0.length : Int) x10_1 x478000_19 x478001_1 x478002_1 x478003_1 ((rd_T35 l0 x10_1).f0) ((rd_T35 l0 x10_1).f1) = some (r1, r2, r3, r4, r5)) ∧ Aside0 (kq ≤ kj8) ∧ Aside0 (wc.heap[gb476]? = some (.cells #[.int .i64 0, .int .i64 0, .int .i64 0, .int .i64 0] 45 (0, 0))) ∧ Aside0 (wc.heap[gb477]? = some (.cells #[.int .i64 x478000_19, .int .i64 x478001_1, .int .i64 x478002_1, .int .i64 x478003_1] 45 (0, 0))) ∧ Aside0 (wc.heap[gb479]? = some (.cells #[.int .i64 ((rd_T35 l0 x10_1).f0), .int .i64 ((rd_T35 l0 x10_1).f1)] 35 (0, 0))) ∧ Aside0 (Below w.heap.size w wc))
        case first =>
         have H := HC20.out
         clear HC20
         by_cases c21 : x23_8 = true
         ·subst c21
          have H1 : (serifref06_Hull.j2 kj8 l0 x10_1 l0 (l0.length : Int) x10_1 ((rd_T35 l0 x10_1).f0) x478001_1 x478002_1 x478003_1 ((rd_T35 l0 x10_1).f0) ((rd_T35 l0 x10_1).f1)) = some (r1, r2, r3, r4, r5) := by rw [if_pos rfl] at H; exact H
          clear H
          have H := H1
          clear H1
          have H' := Aside0.mk H
          clear H
          have hnb22 := NB479_476.out
          have hnc22 := NB476_479.out
          have hnb23 := NB479_477.out
          have hnc23 := NB477_479.out
          have hcz24_0 : wc.cell? ⟨gb479, 0, none⟩ = some (.int .i64 ((rd_T35 l0 x10_1).f0)) := (blk_cell BK479.out 0).trans rfl
          have hcz24_1 : wc.cell? ⟨gb479, 1, none⟩ = some (.int .i64 ((rd_T35 l0 x10_1).f1)) := (blk_cell BK479.out 1).trans rfl
          have hfz24_0 := blk_frozen BK479.out 0
          have hfz24_1 := blk_frozen BK479.out 1
          have hnb25 := NB477_476.out
          have hnc25 := NB476_477.out
          have hcz26_0 : wc.cell? ⟨gb477, 0, none⟩ = some (.int .i64 x478000_1) := (blk_cell BK477.out 0).trans rfl
          have hcz26_1 : wc.cell? ⟨gb477, 1, none⟩ = some (.int .i64 x478001_1) := (blk_cell BK477.out 1).trans rfl
          have hcz26_2 : wc.cell? ⟨gb477, 2, none⟩ = some (.int .i64 x478002_1) := (blk_cell BK477.out 2).trans rfl
          have hcz26_3 : wc.cell? ⟨gb477, 3, none⟩ = some (.int .i64 x478003_1) := (blk_cell BK477.out 3).trans rfl
          have hfz26_0 := blk_frozen BK477.out 0
          have hfz26_1 := blk_frozen BK477.out 1
          have hfz26_2 := blk_frozen BK477.out 2
          have hfz26_3 := blk_frozen BK477.out 3
          go_wp2
          go_meet
          case rel => exact ⟨_, (((rd_T35 l0 x10_1).f0)), H', ⟨by have := HK1.out; have := HJ8.out; first | omega | exact Nat.le_refl _⟩, ⟨by (with_reducible repeat (first | refine blk_drewN ?_ _ | refine blk_drew ?_ | refine blk_alloc ?_ _)); refine blk_far ?_ NB476_477.out _; (with_reducible repeat (first | refine blk_drewN ?_ _ | refine blk_drew ?_ | refine blk_alloc ?_ _)); exact BK476.out⟩, ⟨by (with_reducible repeat (first | refine blk_drewN ?_ _ | refine blk_drew ?_ | refine blk_alloc ?_ _)); refine blk_put (cs := #[.int .i64 x478000_1, .int .i64 x478001_1, .int .i64 x478002_1, .int .i64 x478003_1]) ?_ 0 _ rfl; (with_reducible repeat (first | refine blk_drewN ?_ _ | refine blk_drew ?_ | refine blk_alloc ?_ _)); exact BK477.out⟩, ⟨by (with_reducible repeat (first | refine blk_drewN ?_ _ | refine blk_drew ?_ | refine blk_alloc ?_ _)); refine blk_far ?_ NB479_477.out _; (with_reducible repeat (first | refine blk_drewN ?_ _ | refine blk_drew ?_ | refine blk_alloc ?_ _)); exact BK479.out⟩, ⟨by repeat (first | (with_reducible first | exact HB.out | apply below_alloc | apply pw_below_drewN | apply below_drew1 | refine below_set ?_ GE476.out | refine below_set ?_ GE477.out | refine below_set ?_ GE479.out) | exact HB.out)⟩⟩
         ·replace c21 := Bool.eq_false_iff.mpr c21
          subst c21
          have H1 : (serifref06_Hull.j2 kj8 l0 x10_1 l0 (l0.length : Int) x10_1 x478000_1 x478001_1 x478002_1 x478003_1 ((rd_T35 l0 x10_1).f0) ((rd_T35 l0 x10_1).f1)) = some (r1, r2, r3, r4, r5) := by rw [if_neg (show ¬ (false = true) by decide)] at H; exact H
          clear H
          have H := H1
          clear H1
          have H' := Aside0.mk H
          clear H
          go_wp2
          go_meet
          case rel => exact ⟨_, (x478000_1), H', ⟨by have := HK1.out; have := HJ8.out; first | omega | exact Nat.le_refl _⟩, ⟨by (with_reducible repeat (first | refine blk_drewN ?_ _ | refine blk_drew ?_ | refine blk_alloc ?_ _)); exact BK476.out⟩, ⟨by (with_reducible repeat (first | refine blk_drewN ?_ _ | refine blk_drew ?_ | refine blk_alloc ?_ _)); exact BK477.out⟩, ⟨by (with_reducible repeat (first | refine blk_drewN ?_ _ | refine blk_drew ?_ | refine blk_alloc ?_ _)); exact BK479.out⟩, ⟨by repeat (first | (with_reducible first | exact HB.out | apply below_alloc | apply pw_below_drewN | apply below_drew1 | refine below_set ?_ GE476.out | refine below_set ?_ GE477.out | refine below_set ?_ GE479.out) | exact HB.out)⟩⟩
        case rest =>
         clear HC20
         try clear c1
         try clear c2
         try clear p2
         try clear c4
         try clear p4
         try clear q4
         try clear hx4
         try clear c6
         try clear c6b0
         try clear c7
         try clear c7b0
         try clear c8
         try clear c8b0
         try clear c11
         try clear c12
         try clear c14
         try clear c14b0
         try clear c14b1
         try clear c15
         try clear c16
         try clear c18
         try clear c21
         try clear c22
         try clear c23
         try clear c25
         try clear hcz13_0
         try clear hcz13_1
         try clear hcz17_0
         try clear hcz17_1
         try clear hcz19_0
         try clear hcz19_1
         try clear hcz19_2
         try clear hcz19_3
         try clear hcz24_0
         try clear hcz24_1
         try clear hcz26_0
         try clear hcz26_1
         try clear hcz26_2
         try clear hcz26_3
         try clear hcz5_0
         try clear hcz5_1
         try clear hcz5_2
         try clear hcz5_3
         try clear hfz13_0
         try clear hfz13_1
         try clear hfz17_0
         try clear hfz17_1
         try clear hfz19_0
         try clear hfz19_1
         try clear hfz19_2
         try clear hfz19_3
         try clear hfz24_0
         try clear hfz24_1
         try clear hfz26_0
         try clear hfz26_1
         try clear hfz26_2
         try clear hfz26_3
         try clear hfz5_0
         try clear hfz5_1
         try clear hfz5_2
         try clear hfz5_3
         try clear hx478_0
         try clear hx478_1
         try clear p2
         try clear p4
         try clear p478
         try clear q4
         try clear q478
         obtain ⟨kq, x478000_19, HA, HJ19, BK476, BK477, BK479, HB⟩ := hcut
         cases kq with
         | zero => exact absurd HA.out (by simp [serifref06_Hull.j2])
         | succ kj19 =>
          have H := HA.out
          clear HA
          simp only [serifref06_Hull.j2] at H
          have HC27 := Aside0.mk H
          clear H
          go_upto_region 7 with (fail)
          go_cut [35] (fun v35 wc => ∃ (kq : Nat) (x35_26 : Bool), v35 = .bool x35_26 ∧ Aside0 (serifref06_Hull.j3 kq l0 x10_1 l0 (l0.length : Int) x10_1 x35_26 x478000_19 x478001_1 x478002_1 x478003_1 ((rd_T35 l0 x10_1).f0) ((rd_T35 l0 x10_1).f1) = some (r1, r2, r3, r4, r5)) ∧ Aside0 (kq ≤ kj19) ∧ Aside0 (wc.heap[gb476]? = some (.cells #[.int .i64 0, .int .i64 0, .int .i64 0, .int .i64 0] 45 (0, 0))) ∧ Aside0 (wc.heap[gb477]? = some (.cells #[.int .i64 x478000_19, .int .i64 x478001_1, .int .i64 x478002_1, .int .i64 x478003_1] 45 (0, 0))) ∧ Aside0 (wc.heap[gb479]? = some (.cells #[.int .i64 ((rd_T35 l0 x10_1).f0), .int .i64 ((rd_T35 l0 x10_1).f1)] 35 (0, 0))) ∧ Aside0 (Below w.heap.size w wc))
          case first =>
           have H := HC27.out
           clear HC27
           by_cases c28 : x10_1 = 0
           ·rw [if_pos c28] at H
            have c28b0 : (x10_1 == 0) = true := beq_iff_eq.mpr c28
            have c28b1 : (x10_1 != 0) = false := bne_eq_false_iff_eq.mpr c28
            clear c28
            (first | rw [c28b0] | (simp only [i64_w, i32_w]; rw [c28b0]) | skip)
            have H' := Aside0.mk H
            clear H
            go_wp2
            go_meet
            case rel => exact ⟨_, (true), (by first | rfl | (simp; done) | (simp [*]; done)), H', ⟨by have := HK1.out; have := HJ8.out; have := HJ19.out; first | omega | exact Nat.le_refl _⟩, ⟨by (with_reducible repeat (first | refine blk_drewN ?_ _ | refine blk_drew ?_ | refine blk_alloc ?_ _)); exact BK476.out⟩, ⟨by (with_reducible repeat (first | refine blk_drewN ?_ _ | refine blk_drew ?_ | refine blk_alloc ?_ _)); exact BK477.out⟩, ⟨by (with_reducible repeat (first | refine blk_drewN ?_ _ | refine blk_drew ?_ | refine blk_alloc ?_ _)); exact BK479.out⟩, ⟨by repeat (first | (with_reducible first | exact HB.out | apply below_alloc | apply pw_below_drewN | apply below_drew1 | refine below_set ?_ GE476.out | refine below_set ?_ GE477.out | refine below_set ?_ GE479.out) | exact HB.out)⟩⟩
           ·rw [if_neg c28] at H
            have c28b0 : (x10_1 == 0) = false := beq_eq_false_iff_ne.mpr c28
            have c28b1 : (x10_1 != 0) = true := bne_iff_ne.mpr c28
            (first | rw [c28b0] | (simp only [i64_w, i32_w]; rw [c28b0]) | skip)
            have H' := Aside0.mk H
            clear H
            have hnb29 := NB479_476.out
            have hnc29 := NB476_479.out
            have hnb30 := NB479_477.out
            have hnc30 := NB477_479.out
            have hcz31_0 : wc.cell? ⟨gb479, 0, none⟩ = some (.int .i64 ((rd_T35 l0 x10_1).f0)) := (blk_cell BK479.out 0).trans rfl
            have hcz31_1 : wc.cell? ⟨gb479, 1, none⟩ = some (.int .i64 ((rd_T35 l0 x10_1).f1)) := (blk_cell BK479.out 1).trans rfl
            have hfz31_0 := blk_frozen BK479.out 0
            have hfz31_1 := blk_frozen BK479.out 1
            have hnb32 := NB477_476.out
            have hnc32 := NB476_477.out
            have hcz33_0 : wc.cell? ⟨gb477, 0, none⟩ = some (.int .i64 x478000_19) := (blk_cell BK477.out 0).trans rfl
            have hcz33_1 : wc.cell? ⟨gb477, 1, none⟩ = some (.int .i64 x478001_1) := (blk_cell BK477.out 1).trans rfl
            have hcz33_2 : wc.cell? ⟨gb477, 2, none⟩ = some (.int .i64 x478002_1) := (blk_cell BK477.out 2).trans rfl
            have hcz33_3 : wc.cell? ⟨gb477, 3, none⟩ = some (.int .i64 x478003_1) := (blk_cell BK477.out 3).trans rfl
            have hfz33_0 := blk_frozen BK477.out 0
            have hfz33_1 := blk_frozen BK477.out 1
            have hfz33_2 := blk_frozen BK477.out 2
            have hfz33_3 := blk_frozen BK477.out 3
            go_wp2
            go_meet
            case rel => exact ⟨_, (decide (((rd_T35 l0 x10_1).f1) < x478001_1)), (by first | rfl | (simp; done) | (simp [*]; done)), H', ⟨by have := HK1.out; have := HJ8.out; have := HJ19.out; first | omega | exact Nat.le_refl _⟩, ⟨by (with_reducible repeat (first | refine blk_drewN ?_ _ | refine blk_drew ?_ | refine blk_alloc ?_ _)); exact BK476.out⟩, ⟨by (with_reducible repeat (first | refine blk_drewN ?_ _ | refine blk_drew ?_ | refine blk_alloc ?_ _)); exact BK477.out⟩, ⟨by (with_reducible repeat (first | refine blk_drewN ?_ _ | refine blk_drew ?_ | refine blk_alloc ?_ _)); exact BK479.out⟩, ⟨by repeat (first | (with_reducible first | exact HB.out | apply below_alloc | apply pw_below_drewN | apply below_drew1 | refine below_set ?_ GE476.out | refine below_set ?_ GE477.out | refine below_set ?_ GE479.out) | exact HB.out)⟩⟩
          case rest =>
           clear HC27
           try clear c1
           try clear c2
           try clear p2
           try clear c3
           try clear c4
           try clear p4
           try clear q4
           try clear hx4
           try clear c6
           try clear c6b0
           try clear c7
           try clear c7b0
           try clear c8
           try clear c8b0
           try clear c11
           try clear c12
           try clear c14
           try clear c14b0
           try clear c14b1
           try clear c15
           try clear c16
           try clear c18
           try clear c21
           try clear c22
           try clear c23
           try clear c25
           try clear c28
           try clear c28b0
           try clear c28b1
           try clear c29
           try clear c30
           try clear c32
           try clear hcz13_0
           try clear hcz13_1
           try clear hcz17_0
           try clear hcz17_1
           try clear hcz19_0
           try clear hcz19_1
           try clear hcz19_2
           try clear hcz19_3
           try clear hcz24_0
           try clear hcz24_1
           try clear hcz26_0
           try clear hcz26_1
           try clear hcz26_2
           try clear hcz26_3
           try clear hcz31_0
           try clear hcz31_1
           try clear hcz33_0
           try clear hcz33_1
           try clear hcz33_2
           try clear hcz33_3
           try clear hcz5_0
           try clear hcz5_1
           try clear hcz5_2
           try clear hcz5_3
           try clear hfz13_0
           try clear hfz13_1
           try clear hfz17_0
           try clear hfz17_1
           try clear hfz19_0
           try clear hfz19_1
           try clear hfz19_2
           try clear hfz19_3
           try clear hfz24_0
           try clear hfz24_1
           try clear hfz26_0
           try clear hfz26_1
           try clear hfz26_2
           try clear hfz26_3
           try clear hfz31_0
           try clear hfz31_1
           try clear hfz33_0
           try clear hfz33_1
           try clear hfz33_2
           try clear hfz33_3
           try clear hfz5_0
           try clear hfz5_1
           try clear hfz5_2
           try clear hfz5_3
           try clear hx478_0
           try clear hx478_1
           try clear p2
           try clear p4
           try clear p478
           try clear q4
           try clear q478
           obtain ⟨kq, x35_26, rfl, HA, HJ26, BK476, BK477, BK479, HB⟩ := hcut
           cases kq with
           | zero => exact absurd HA.out (by simp [serifref06_Hull.j3])
           | succ kj26 =>
            have H := HA.out
            clear HA
            simp only [serifref06_Hull.j3] at H
            have HC34 := Aside0.mk H
            clear H
            go_upto_if 35 with (fail)
            go_cut [] (fun wc => ∃ (kq : Nat) (x478001_33 : Int), Aside0 (serifref06_Hull.j4 kq l0 x10_1 l0 (l0.length : Int) x10_1 x478000_19 x478001_33 x478002_1 x478003_1 ((rd_T35 l0 x10_1).f0) ((rd_T35 l0 x10_1).f1) = some (r1, r2, r3, r4, r5)) ∧ Aside0 (kq ≤ kj26) ∧ Aside0 (wc.heap[gb476]? = some (.cells #[.int .i64 0, .int .i64 0, .int .i64 0, .int .i64 0] 45 (0, 0))) ∧ Aside0 (wc.heap[gb477]? = some (.cells #[.int .i64 x478000_19, .int .i64 x478001_33, .int .i64 x478002_1, .int .i64 x478003_1] 45 (0, 0))) ∧ Aside0 (wc.heap[gb479]? = some (.cells #[.int .i64 ((rd_T35 l0 x10_1).f0), .int .i64 ((rd_T35 l0 x10_1).f1)] 35 (0, 0))) ∧ Aside0 (Below w.heap.size w wc))
            case first =>
             have H := HC34.out
             clear HC34
             by_cases c35 : x35_26 = true
             ·subst c35
              have H1 : (serifref06_Hull.j4 kj26 l0 x10_1 l0 (l0.length : Int) x10_1 x478000_19 ((rd_T35 l0 x10_1).f1) x478002_1 x478003_1 ((rd_T35 l0 x10_1).f0) ((rd_T35 l0 x10_1).f1)) = some (r1, r2, r3, r4, r5) := by rw [if_pos rfl] at H; exact H
              clear H
              have H := H1
              clear H1
              have H' := Aside0.mk H
              clear H
              have hnb36 := NB479_476.out
              have hnc36 := NB476_479.out
              have hnb37 := NB479_477.out
              have hnc37 := NB477_479.out
              have hcz38_0 : wc.cell? ⟨gb479, 0, none⟩ = some (.int .i64 ((rd_T35 l0 x10_1).f0)) := (blk_cell BK479.out 0).trans rfl
              have hcz38_1 : wc.cell? ⟨gb479, 1, none⟩ = some (.int .i64 ((rd_T35 l0 x10_1).f1)) := (blk_cell BK479.out 1).trans rfl
              have hfz38_0 := blk_frozen BK479.out 0
              have hfz38_1 := blk_frozen BK479.out 1
              have hnb39 := NB477_476.out
              have hnc39 := NB476_477.out
              have hcz40_0 : wc.cell? ⟨gb477, 0, none⟩ = some (.int .i64 x478000_19) := (blk_cell BK477.out 0).trans rfl
              have hcz40_1 : wc.cell? ⟨gb477, 1, none⟩ = some (.int .i64 x478001_1) := (blk_cell BK477.out 1).trans rfl
              have hcz40_2 : wc.cell? ⟨gb477, 2, none⟩ = some (.int .i64 x478002_1) := (blk_cell BK477.out 2).trans rfl
              have hcz40_3 : wc.cell? ⟨gb477, 3, none⟩ = some (.int .i64 x478003_1) := (blk_cell BK477.out 3).trans rfl
              have hfz40_0 := blk_frozen BK477.out 0
              have hfz40_1 := blk_frozen BK477.out 1
              have hfz40_2 := blk_frozen BK477.out 2
              have hfz40_3 := blk_frozen BK477.out 3
              go_wp2
              go_meet
              case rel => exact ⟨_, (((rd_T35 l0 x10_1).f1)), H', ⟨by have := HK1.out; have := HJ8.out; have := HJ19.out; have := HJ26.out; first | omega | exact Nat.le_refl _⟩, ⟨by (with_reducible repeat (first | refine blk_drewN ?_ _ | refine blk_drew ?_ | refine blk_alloc ?_ _)); refine blk_far ?_ NB476_477.out _; (with_reducible repeat (first | refine blk_drewN ?_ _ | refine blk_drew ?_ | refine blk_alloc ?_ _)); exact BK476.out⟩, ⟨by (with_reducible repeat (first | refine blk_drewN ?_ _ | refine blk_drew ?_ | refine blk_alloc ?_ _)); refine blk_put (cs := #[.int .i64 x478000_19, .int .i64 x478001_1, .int .i64 x478002_1, .int .i64 x478003_1]) ?_ 1 _ rfl; (with_reducible repeat (first | refine blk_drewN ?_ _ | refine blk_drew ?_ | refine blk_alloc ?_ _)); exact BK477.out⟩, ⟨by (with_reducible repeat (first | refine blk_drewN ?_ _ | refine blk_drew ?_ | refine blk_alloc ?_ _)); refine blk_far ?_ NB479_477.out _; (with_reducible repeat (first | refine blk_drewN ?_ _ | refine blk_drew ?_ | refine blk_alloc ?_ _)); exact BK479.out⟩, ⟨by repeat (first | (with_reducible first | exact HB.out | apply below_alloc | apply pw_below_drewN | apply below_drew1 | refine below_set ?_ GE476.out | refine below_set ?_ GE477.out | refine below_set ?_ GE479.out) | exact HB.out)⟩⟩
             ·replace c35 := Bool.eq_false_iff.mpr c35
              subst c35
              have H1 : (serifref06_Hull.j4 kj26 l0 x10_1 l0 (l0.length : Int) x10_1 x478000_19 x478001_1 x478002_1 x478003_1 ((rd_T35 l0 x10_1).f0) ((rd_T35 l0 x10_1).f1)) = some (r1, r2, r3, r4, r5) := by rw [if_neg (show ¬ (false = true) by decide)] at H; exact H
              clear H
              have H := H1
              clear H1
              have H' := Aside0.mk H
              clear H
              go_wp2
              go_meet
              case rel => exact ⟨_, (x478001_1), H', ⟨by have := HK1.out; have := HJ8.out; have := HJ19.out; have := HJ26.out; first | omega | exact Nat.le_refl _⟩, ⟨by (with_reducible repeat (first | refine blk_drewN ?_ _ | refine blk_drew ?_ | refine blk_alloc ?_ _)); exact BK476.out⟩, ⟨by (with_reducible repeat (first | refine blk_drewN ?_ _ | refine blk_drew ?_ | refine blk_alloc ?_ _)); exact BK477.out⟩, ⟨by (with_reducible repeat (first | refine blk_drewN ?_ _ | refine blk_drew ?_ | refine blk_alloc ?_ _)); exact BK479.out⟩, ⟨by repeat (first | (with_reducible first | exact HB.out | apply below_alloc | apply pw_below_drewN | apply below_drew1 | refine below_set ?_ GE476.out | refine below_set ?_ GE477.out | refine below_set ?_ GE479.out) | exact HB.out)⟩⟩
            case rest =>
             clear HC34
             try clear c1
             try clear c2
             try clear p2
             try clear c3
             try clear c4
             try clear p4
             try clear q4
             try clear hx4
             try clear c6
             try clear c6b0
             try clear c7
             try clear c7b0
             try clear c8
             try clear c8b0
             try clear c11
             try clear c12
             try clear c14
             try clear c14b0
             try clear c14b1
             try clear c15
             try clear c16
             try clear c18
             try clear c21
             try clear c22
             try clear c23
             try clear c25
             try clear c28
             try clear c28b0
             try clear c28b1
             try clear c29
             try clear c30
             try clear c32
             try clear c35
             try clear c36
             try clear c37
             try clear c39
             try clear hcz13_0
             try clear hcz13_1
             try clear hcz17_0
             try clear hcz17_1
             try clear hcz19_0
             try clear hcz19_1
             try clear hcz19_2
             try clear hcz19_3
             try clear hcz24_0
             try clear hcz24_1
             try clear hcz26_0
             try clear hcz26_1
             try clear hcz26_2
             try clear hcz26_3
             try clear hcz31_0
             try clear hcz31_1
             try clear hcz33_0
             try clear hcz33_1
             try clear hcz33_2
             try clear hcz33_3
             try clear hcz38_0
             try clear hcz38_1
             try clear hcz40_0
             try clear hcz40_1
             try clear hcz40_2
             try clear hcz40_3
             try clear hcz5_0
             try clear hcz5_1
             try clear hcz5_2
             try clear hcz5_3
             try clear hfz13_0
             try clear hfz13_1
             try clear hfz17_0
             try clear hfz17_1
             try clear hfz19_0
             try clear hfz19_1
             try clear hfz19_2
             try clear hfz19_3
             try clear hfz24_0
             try clear hfz24_1
             try clear hfz26_0
             try clear hfz26_1
             try clear hfz26_2
             try clear hfz26_3
             try clear hfz31_0
             try clear hfz31_1
             try clear hfz33_0
             try clear hfz33_1
             try clear hfz33_2
             try clear hfz33_3
             try clear hfz38_0
             try clear hfz38_1
             try clear hfz40_0
             try clear hfz40_1
             try clear hfz40_2
             try clear hfz40_3
             try clear hfz5_0
             try clear hfz5_1
             try clear hfz5_2
             try clear hfz5_3
             try clear hx478_0
             try clear hx478_1
             try clear p2
             try clear p4
             try clear p478
             try clear q4
             try clear q478
             obtain ⟨kq, x478001_33, HA, HJ33, BK476, BK477, BK479, HB⟩ := hcut
             cases kq with
             | zero => exact absurd HA.out (by simp [serifref06_Hull.j4])
             | succ kj33 =>
              have H := HA.out
              clear HA
              simp only [serifref06_Hull.j4] at H
              have HC41 := Aside0.mk H
              clear H
              go_upto_region 9 with (fail)
              go_cut [47] (fun v47 wc => ∃ (kq : Nat) (x47_40 : Bool), v47 = .bool x47_40 ∧ Aside0 (serifref06_Hull.j5 kq l0 x10_1 l0 (l0.length : Int) x10_1 x47_40 x478000_19 x478001_33 x478002_1 x478003_1 ((rd_T35 l0 x10_1).f0) ((rd_T35 l0 x10_1).f1) = some (r1, r2, r3, r4, r5)) ∧ Aside0 (kq ≤ kj33) ∧ Aside0 (wc.heap[gb476]? = some (.cells #[.int .i64 0, .int .i64 0, .int .i64 0, .int .i64 0] 45 (0, 0))) ∧ Aside0 (wc.heap[gb477]? = some (.cells #[.int .i64 x478000_19, .int .i64 x478001_33, .int .i64 x478002_1, .int .i64 x478003_1] 45 (0, 0))) ∧ Aside0 (wc.heap[gb479]? = some (.cells #[.int .i64 ((rd_T35 l0 x10_1).f0), .int .i64 ((rd_T35 l0 x10_1).f1)] 35 (0, 0))) ∧ Aside0 (Below w.heap.size w wc))
              case first =>
               have H := HC41.out
               clear HC41
               by_cases c42 : x10_1 = 0
               ·rw [if_pos c42] at H
                have c42b0 : (x10_1 == 0) = true := beq_iff_eq.mpr c42
                have c42b1 : (x10_1 != 0) = false := bne_eq_false_iff_eq.mpr c42
                clear c42
                (first | rw [c42b0] | (simp only [i64_w, i32_w]; rw [c42b0]) | skip)
                have H' := Aside0.mk H
                clear H
                go_wp2
                go_meet
                case rel => exact ⟨_, (true), (by first | rfl | (simp; done) | (simp [*]; done)), H', ⟨by have := HK1.out; have := HJ8.out; have := HJ19.out; have := HJ26.out; have := HJ33.out; first | omega | exact Nat.le_refl _⟩, ⟨by (with_reducible repeat (first | refine blk_drewN ?_ _ | refine blk_drew ?_ | refine blk_alloc ?_ _)); exact BK476.out⟩, ⟨by (with_reducible repeat (first | refine blk_drewN ?_ _ | refine blk_drew ?_ | refine blk_alloc ?_ _)); exact BK477.out⟩, ⟨by (with_reducible repeat (first | refine blk_drewN ?_ _ | refine blk_drew ?_ | refine blk_alloc ?_ _)); exact BK479.out⟩, ⟨by repeat (first | (with_reducible first | exact HB.out | apply below_alloc | apply pw_below_drewN | apply below_drew1 | refine below_set ?_ GE476.out | refine below_set ?_ GE477.out | refine below_set ?_ GE479.out) | exact HB.out)⟩⟩
               ·rw [if_neg c42] at H
                have c42b0 : (x10_1 == 0) = false := beq_eq_false_iff_ne.mpr c42
                have c42b1 : (x10_1 != 0) = true := bne_iff_ne.mpr c42
                (first | rw [c42b0] | (simp only [i64_w, i32_w]; rw [c42b0]) | skip)
                have H' := Aside0.mk H
                clear H
                have hnb43 := NB479_476.out
                have hnc43 := NB476_479.out
                have hnb44 := NB479_477.out
                have hnc44 := NB477_479.out
                have hcz45_0 : wc.cell? ⟨gb479, 0, none⟩ = some (.int .i64 ((rd_T35 l0 x10_1).f0)) := (blk_cell BK479.out 0).trans rfl
                have hcz45_1 : wc.cell? ⟨gb479, 1, none⟩ = some (.int .i64 ((rd_T35 l0 x10_1).f1)) := (blk_cell BK479.out 1).trans rfl
                have hfz45_0 := blk_frozen BK479.out 0
                have hfz45_1 := blk_frozen BK479.out 1
                have hnb46 := NB477_476.out
                have hnc46 := NB476_477.out
                have hcz47_0 : wc.cell? ⟨gb477, 0, none⟩ = some (.int .i64 x478000_19) := (blk_cell BK477.out 0).trans rfl
                have hcz47_1 : wc.cell? ⟨gb477, 1, none⟩ = some (.int .i64 x478001_33) := (blk_cell BK477.out 1).trans rfl
                have hcz47_2 : wc.cell? ⟨gb477, 2, none⟩ = some (.int .i64 x478002_1) := (blk_cell BK477.out 2).trans rfl
                have hcz47_3 : wc.cell? ⟨gb477, 3, none⟩ = some (.int .i64 x478003_1) := (blk_cell BK477.out 3).trans rfl
                have hfz47_0 := blk_frozen BK477.out 0
                have hfz47_1 := blk_frozen BK477.out 1
                have hfz47_2 := blk_frozen BK477.out 2
                have hfz47_3 := blk_frozen BK477.out 3
                go_wp2
                go_meet
                case rel => exact ⟨_, (decide (((rd_T35 l0 x10_1).f0) > x478002_1)), (by first | rfl | (simp; done) | (simp [*]; done)), H', ⟨by have := HK1.out; have := HJ8.out; have := HJ19.out; have := HJ26.out; have := HJ33.out; first | omega | exact Nat.le_refl _⟩, ⟨by (with_reducible repeat (first | refine blk_drewN ?_ _ | refine blk_drew ?_ | refine blk_alloc ?_ _)); exact BK476.out⟩, ⟨by (with_reducible repeat (first | refine blk_drewN ?_ _ | refine blk_drew ?_ | refine blk_alloc ?_ _)); exact BK477.out⟩, ⟨by (with_reducible repeat (first | refine blk_drewN ?_ _ | refine blk_drew ?_ | refine blk_alloc ?_ _)); exact BK479.out⟩, ⟨by repeat (first | (with_reducible first | exact HB.out | apply below_alloc | apply pw_below_drewN | apply below_drew1 | refine below_set ?_ GE476.out | refine below_set ?_ GE477.out | refine below_set ?_ GE479.out) | exact HB.out)⟩⟩
              case rest =>
               clear HC41
               try clear c1
               try clear c2
               try clear p2
               try clear c3
               try clear c4
               try clear p4
               try clear q4
               try clear hx4
               try clear c6
               try clear c6b0
               try clear c7
               try clear c7b0
               try clear c8
               try clear c8b0
               try clear c11
               try clear c12
               try clear c14
               try clear c14b0
               try clear c14b1
               try clear c15
               try clear c16
               try clear c18
               try clear c21
               try clear c22
               try clear c23
               try clear c25
               try clear c28
               try clear c28b0
               try clear c28b1
               try clear c29
               try clear c30
               try clear c32
               try clear c35
               try clear c36
               try clear c37
               try clear c39
               try clear c42
               try clear c42b0
               try clear c42b1
               try clear c43
               try clear c44
               try clear c46
               try clear p47
               try clear q47
               try clear hx47
               try clear hcz13_0
               try clear hcz13_1
               try clear hcz17_0
               try clear hcz17_1
               try clear hcz19_0
               try clear hcz19_1
               try clear hcz19_2
               try clear hcz19_3
               try clear hcz24_0
               try clear hcz24_1
               try clear hcz26_0
               try clear hcz26_1
               try clear hcz26_2
               try clear hcz26_3
               try clear hcz31_0
               try clear hcz31_1
               try clear hcz33_0
               try clear hcz33_1
               try clear hcz33_2
               try clear hcz33_3
               try clear hcz38_0
               try clear hcz38_1
               try clear hcz40_0
               try clear hcz40_1
               try clear hcz40_2
               try clear hcz40_3
               try clear hcz45_0
               try clear hcz45_1
               try clear hcz47_0
               try clear hcz47_1
               try clear hcz47_2
               try clear hcz47_3
               try clear hcz5_0
               try clear hcz5_1
               try clear hcz5_2
               try clear hcz5_3
               try clear hfz13_0
               try clear hfz13_1
               try clear hfz17_0
               try clear hfz17_1
               try clear hfz19_0
               try clear hfz19_1
               try clear hfz19_2
               try clear hfz19_3
               try clear hfz24_0
               try clear hfz24_1
               try clear hfz26_0
               try clear hfz26_1
               try clear hfz26_2
               try clear hfz26_3
               try clear hfz31_0
               try clear hfz31_1
               try clear hfz33_0
               try clear hfz33_1
               try clear hfz33_2
               try clear hfz33_3
               try clear hfz38_0
               try clear hfz38_1
               try clear hfz40_0
               try clear hfz40_1
               try clear hfz40_2
               try clear hfz40_3
               try clear hfz45_0
               try clear hfz45_1
               try clear hfz47_0
               try clear hfz47_1
               try clear hfz47_2
               try clear hfz47_3
               try clear hfz5_0
               try clear hfz5_1
               try clear hfz5_2
               try clear hfz5_3
               try clear hx478_0
               try clear hx478_1
               try clear p2
               try clear p4
               try clear p478
               try clear q4
               try clear q478
               obtain ⟨kq, x47_40, rfl, HA, HJ40, BK476, BK477, BK479, HB⟩ := hcut
               cases kq with
               | zero => exact absurd HA.out (by simp [serifref06_Hull.j5])
               | succ kj40 =>
                have H := HA.out
                clear HA
                simp only [serifref06_Hull.j5] at H
                by_cases c48 : x47_40 = true
                ·subst c48
                 have H1 : (if x10_1 = 0 then (serifref06_Hull.l0 kj40 l0 l0 (l0.length : Int) (wrap64 (x10_1 + 1)) x478000_19 x478001_33 ((rd_T35 l0 x10_1).f0) ((rd_T35 l0 x10_1).f1)) else (if ((rd_T35 l0 x10_1).f1) > x478003_1 then (serifref06_Hull.l0 kj40 l0 l0 (l0.length : Int) (wrap64 (x10_1 + 1)) x478000_19 x478001_33 ((rd_T35 l0 x10_1).f0) ((rd_T35 l0 x10_1).f1)) else (serifref06_Hull.l0 kj40 l0 l0 (l0.length : Int) (wrap64 (x10_1 + 1)) x478000_19 x478001_33 ((rd_T35 l0 x10_1).f0) x478003_1))) = some (r1, r2, r3, r4, r5) := by rw [if_pos rfl] at H; exact H
                 clear H
                 have H := H1
                 clear H1
                 by_cases c49 : x10_1 = 0
                 ·rw [if_pos c49] at H
                  have c49b0 : (x10_1 == 0) = true := beq_iff_eq.mpr c49
                  have c49b1 : (x10_1 != 0) = false := bne_eq_false_iff_eq.mpr c49
                  clear c49
                  have H' := Aside0.mk H
                  clear H
                  have hnb50 := NB479_476.out
                  have hnc50 := NB476_479.out
                  have hnb51 := NB479_477.out
                  have hnc51 := NB477_479.out
                  have hcz52_0 : wc.cell? ⟨gb479, 0, none⟩ = some (.int .i64 ((rd_T35 l0 x10_1).f0)) := (blk_cell BK479.out 0).trans rfl
                  have hcz52_1 : wc.cell? ⟨gb479, 1, none⟩ = some (.int .i64 ((rd_T35 l0 x10_1).f1)) := (blk_cell BK479.out 1).trans rfl
                  have hfz52_0 := blk_frozen BK479.out 0
                  have hfz52_1 := blk_frozen BK479.out 1
                  have hnb53 := NB477_476.out
                  have hnc53 := NB476_477.out
                  have hcz54_0 : wc.cell? ⟨gb477, 0, none⟩ = some (.int .i64 x478000_19) := (blk_cell BK477.out 0).trans rfl
                  have hcz54_1 : wc.cell? ⟨gb477, 1, none⟩ = some (.int .i64 x478001_33) := (blk_cell BK477.out 1).trans rfl
                  have hcz54_2 : wc.cell? ⟨gb477, 2, none⟩ = some (.int .i64 x478002_1) := (blk_cell BK477.out 2).trans rfl
                  have hcz54_3 : wc.cell? ⟨gb477, 3, none⟩ = some (.int .i64 x478003_1) := (blk_cell BK477.out 3).trans rfl
                  have hfz54_0 := blk_frozen BK477.out 0
                  have hfz54_1 := blk_frozen BK477.out 1
                  have hfz54_2 := blk_frozen BK477.out 2
                  have hfz54_3 := blk_frozen BK477.out 3
                  go_wp2
                  go_roundg kj40
                  case measure => have := HK1.out; have := HJ8.out; have := HJ19.out; have := HJ26.out; have := HJ33.out; have := HJ40.out; omega
                  case rel => exact ⟨(wrap64 (x10_1 + 1)), (x478000_19), (x478001_33), (((rd_T35 l0 x10_1).f0)), (((rd_T35 l0 x10_1).f1)), (by first | rfl | (simp; done) | (simp [*]; done)), H', ⟨by have := HK1.out; have := HJ8.out; have := HJ19.out; have := HJ26.out; have := HJ33.out; have := HJ40.out; omega⟩, ⟨by (with_reducible repeat (first | refine blk_drewN ?_ _ | refine blk_drew ?_ | refine blk_alloc ?_ _)); refine blk_far ?_ NB476_477.out _; (with_reducible repeat (first | refine blk_drewN ?_ _ | refine blk_drew ?_ | refine blk_alloc ?_ _)); refine blk_far ?_ NB476_477.out _; (with_reducible repeat (first | refine blk_drewN ?_ _ | refine blk_drew ?_ | refine blk_alloc ?_ _)); exact BK476.out⟩, ⟨by (with_reducible repeat (first | refine blk_drewN ?_ _ | refine blk_drew ?_ | refine blk_alloc ?_ _)); refine blk_put (cs := #[.int .i64 x478000_19, .int .i64 x478001_33, .int .i64 ((rd_T35 l0 x10_1).f0), .int .i64 x478003_1]) ?_ 3 _ rfl; (with_reducible repeat (first | refine blk_drewN ?_ _ | refine blk_drew ?_ | refine blk_alloc ?_ _)); refine blk_put (cs := #[.int .i64 x478000_19, .int .i64 x478001_33, .int .i64 x478002_1, .int .i64 x478003_1]) ?_ 2 _ rfl; (with_reducible repeat (first | refine blk_drewN ?_ _ | refine blk_drew ?_ | refine blk_alloc ?_ _)); exact BK477.out⟩, ⟨by repeat (first | (with_reducible first | exact HB.out | apply below_alloc | apply pw_below_drewN | apply below_drew1 | refine below_set ?_ GE476.out | refine below_set ?_ GE477.out | refine below_set ?_ GE479.out) | exact HB.out)⟩⟩
                 ·rw [if_neg c49] at H
                  have c49b0 : (x10_1 == 0) = false := beq_eq_false_iff_ne.mpr c49
                  have c49b1 : (x10_1 != 0) = true := bne_iff_ne.mpr c49
                  by_cases c55 : ((rd_T35 l0 x10_1).f1) > x478003_1
                  ·rw [if_pos c55] at H
                   have c55b0 : decide (x478003_1 < ((rd_T35 l0 x10_1).f1)) = true := decide_eq_true c55
                   clear c55
                   have H' := Aside0.mk H
                   clear H
                   have hnb56 := NB479_476.out
                   have hnc56 := NB476_479.out
                   have hnb57 := NB479_477.out
                   have hnc57 := NB477_479.out
                   have hcz58_0 : wc.cell? ⟨gb479, 0, none⟩ = some (.int .i64 ((rd_T35 l0 x10_1).f0)) := (blk_cell BK479.out 0).trans rfl
                   have hcz58_1 : wc.cell? ⟨gb479, 1, none⟩ = some (.int .i64 ((rd_T35 l0 x10_1).f1)) := (blk_cell BK479.out 1).trans rfl
                   have hfz58_0 := blk_frozen BK479.out 0
                   have hfz58_1 := blk_frozen BK479.out 1
                   have hnb59 := NB477_476.out
                   have hnc59 := NB476_477.out
                   have hcz60_0 : wc.cell? ⟨gb477, 0, none⟩ = some (.int .i64 x478000_19) := (blk_cell BK477.out 0).trans rfl
                   have hcz60_1 : wc.cell? ⟨gb477, 1, none⟩ = some (.int .i64 x478001_33) := (blk_cell BK477.out 1).trans rfl
                   have hcz60_2 : wc.cell? ⟨gb477, 2, none⟩ = some (.int .i64 x478002_1) := (blk_cell BK477.out 2).trans rfl
                   have hcz60_3 : wc.cell? ⟨gb477, 3, none⟩ = some (.int .i64 x478003_1) := (blk_cell BK477.out 3).trans rfl
                   have hfz60_0 := blk_frozen BK477.out 0
                   have hfz60_1 := blk_frozen BK477.out 1
                   have hfz60_2 := blk_frozen BK477.out 2
                   have hfz60_3 := blk_frozen BK477.out 3
                   go_wp2
                   go_roundg kj40
                   case measure => have := HK1.out; have := HJ8.out; have := HJ19.out; have := HJ26.out; have := HJ33.out; have := HJ40.out; omega
                   case rel => exact ⟨(wrap64 (x10_1 + 1)), (x478000_19), (x478001_33), (((rd_T35 l0 x10_1).f0)), (((rd_T35 l0 x10_1).f1)), (by first | rfl | (simp; done) | (simp [*]; done)), H', ⟨by have := HK1.out; have := HJ8.out; have := HJ19.out; have := HJ26.out; have := HJ33.out; have := HJ40.out; omega⟩, ⟨by (with_reducible repeat (first | refine blk_drewN ?_ _ | refine blk_drew ?_ | refine blk_alloc ?_ _)); refine blk_far ?_ NB476_477.out _; (with_reducible repeat (first | refine blk_drewN ?_ _ | refine blk_drew ?_ | refine blk_alloc ?_ _)); refine blk_far ?_ NB476_477.out _; (with_reducible repeat (first | refine blk_drewN ?_ _ | refine blk_drew ?_ | refine blk_alloc ?_ _)); exact BK476.out⟩, ⟨by (with_reducible repeat (first | refine blk_drewN ?_ _ | refine blk_drew ?_ | refine blk_alloc ?_ _)); refine blk_put (cs := #[.int .i64 x478000_19, .int .i64 x478001_33, .int .i64 ((rd_T35 l0 x10_1).f0), .int .i64 x478003_1]) ?_ 3 _ rfl; (with_reducible repeat (first | refine blk_drewN ?_ _ | refine blk_drew ?_ | refine blk_alloc ?_ _)); refine blk_put (cs := #[.int .i64 x478000_19, .int .i64 x478001_33, .int .i64 x478002_1, .int .i64 x478003_1]) ?_ 2 _ rfl; (with_reducible repeat (first | refine blk_drewN ?_ _ | refine blk_drew ?_ | refine blk_alloc ?_ _)); exact BK477.out⟩, ⟨by repeat (first | (with_reducible first | exact HB.out | apply below_alloc | apply pw_below_drewN | apply below_drew1 | refine below_set ?_ GE476.out | refine below_set ?_ GE477.out | refine below_set ?_ GE479.out) | exact HB.out)⟩⟩
                  ·rw [if_neg c55] at H
                   have c55b0 : decide (x478003_1 < ((rd_T35 l0 x10_1).f1)) = false := decide_eq_false c55
                   clear c55
                   have H' := Aside0.mk H
                   clear H
                   have hnb61 := NB479_476.out
                   have hnc61 := NB476_479.out
                   have hnb62 := NB479_477.out
                   have hnc62 := NB477_479.out
                   have hcz63_0 : wc.cell? ⟨gb479, 0, none⟩ = some (.int .i64 ((rd_T35 l0 x10_1).f0)) := (blk_cell BK479.out 0).trans rfl
                   have hcz63_1 : wc.cell? ⟨gb479, 1, none⟩ = some (.int .i64 ((rd_T35 l0 x10_1).f1)) := (blk_cell BK479.out 1).trans rfl
                   have hfz63_0 := blk_frozen BK479.out 0
                   have hfz63_1 := blk_frozen BK479.out 1
                   have hnb64 := NB477_476.out
                   have hnc64 := NB476_477.out
                   have hcz65_0 : wc.cell? ⟨gb477, 0, none⟩ = some (.int .i64 x478000_19) := (blk_cell BK477.out 0).trans rfl
                   have hcz65_1 : wc.cell? ⟨gb477, 1, none⟩ = some (.int .i64 x478001_33) := (blk_cell BK477.out 1).trans rfl
                   have hcz65_2 : wc.cell? ⟨gb477, 2, none⟩ = some (.int .i64 x478002_1) := (blk_cell BK477.out 2).trans rfl
                   have hcz65_3 : wc.cell? ⟨gb477, 3, none⟩ = some (.int .i64 x478003_1) := (blk_cell BK477.out 3).trans rfl
                   have hfz65_0 := blk_frozen BK477.out 0
                   have hfz65_1 := blk_frozen BK477.out 1
                   have hfz65_2 := blk_frozen BK477.out 2
                   have hfz65_3 := blk_frozen BK477.out 3
                   go_wp2
                   go_roundg kj40
                   case measure => have := HK1.out; have := HJ8.out; have := HJ19.out; have := HJ26.out; have := HJ33.out; have := HJ40.out; omega
                   case rel => exact ⟨(wrap64 (x10_1 + 1)), (x478000_19), (x478001_33), (((rd_T35 l0 x10_1).f0)), (x478003_1), (by first | rfl | (simp; done) | (simp [*]; done)), H', ⟨by have := HK1.out; have := HJ8.out; have := HJ19.out; have := HJ26.out; have := HJ33.out; have := HJ40.out; omega⟩, ⟨by (with_reducible repeat (first | refine blk_drewN ?_ _ | refine blk_drew ?_ | refine blk_alloc ?_ _)); refine blk_far ?_ NB476_477.out _; (with_reducible repeat (first | refine blk_drewN ?_ _ | refine blk_drew ?_ | refine blk_alloc ?_ _)); exact BK476.out⟩, ⟨by (with_reducible repeat (first | refine blk_drewN ?_ _ | refine blk_drew ?_ | refine blk_alloc ?_ _)); refine blk_put (cs := #[.int .i64 x478000_19, .int .i64 x478001_33, .int .i64 x478002_1, .int .i64 x478003_1]) ?_ 2 _ rfl; (with_reducible repeat (first | refine blk_drewN ?_ _ | refine blk_drew ?_ | refine blk_alloc ?_ _)); exact BK477.out⟩, ⟨by repeat (first | (with_reducible first | exact HB.out | apply below_alloc | apply pw_below_drewN | apply below_drew1 | refine below_set ?_ GE476.out | refine below_set ?_ GE477.out | refine below_set ?_ GE479.out) | exact HB.out)⟩⟩
                ·replace c48 := Bool.eq_false_iff.mpr c48
                 subst c48
                 have H1 : (if x10_1 = 0 then (serifref06_Hull.l0 kj40 l0 l0 (l0.length : Int) (wrap64 (x10_1 + 1)) x478000_19 x478001_33 x478002_1 ((rd_T35 l0 x10_1).f1)) else (if ((rd_T35 l0 x10_1).f1) > x478003_1 then (serifref06_Hull.l0 kj40 l0 l0 (l0.length : Int) (wrap64 (x10_1 + 1)) x478000_19 x478001_33 x478002_1 ((rd_T35 l0 x10_1).f1)) else (serifref06_Hull.l0 kj40 l0 l0 (l0.length : Int) (wrap64 (x10_1 + 1)) x478000_19 x478001_33 x478002_1 x478003_1))) = some (r1, r2, r3, r4, r5) := by rw [if_neg (show ¬ (false = true) by decide)] at H; exact H
                 clear H
                 have H := H1
                 clear H1
                 by_cases c66 : x10_1 = 0
                 ·rw [if_pos c66] at H
                  have c66b0 : (x10_1 == 0) = true := beq_iff_eq.mpr c66
                  have c66b1 : (x10_1 != 0) = false := bne_eq_false_iff_eq.mpr c66
                  clear c66
                  have H' := Aside0.mk H
                  clear H
                  have hnb67 := NB479_476.out
                  have hnc67 := NB476_479.out
                  have hnb68 := NB479_477.out
                  have hnc68 := NB477_479.out
                  have hcz69_0 : wc.cell? ⟨gb479, 0, none⟩ = some (.int .i64 ((rd_T35 l0 x10_1).f0)) := (blk_cell BK479.out 0).trans rfl
                  have hcz69_1 : wc.cell? ⟨gb479, 1, none⟩ = some (.int .i64 ((rd_T35 l0 x10_1).f1)) := (blk_cell BK479.out 1).trans rfl
                  have hfz69_0 := blk_frozen BK479.out 0
                  have hfz69_1 := blk_frozen BK479.out 1
                  have hnb70 := NB477_476.out
                  have hnc70 := NB476_477.out
                  have hcz71_0 : wc.cell? ⟨gb477, 0, none⟩ = some (.int .i64 x478000_19) := (blk_cell BK477.out 0).trans rfl
                  have hcz71_1 : wc.cell? ⟨gb477, 1, none⟩ = some (.int .i64 x478001_33) := (blk_cell BK477.out 1).trans rfl
                  have hcz71_2 : wc.cell? ⟨gb477, 2, none⟩ = some (.int .i64 x478002_1) := (blk_cell BK477.out 2).trans rfl
                  have hcz71_3 : wc.cell? ⟨gb477, 3, none⟩ = some (.int .i64 x478003_1) := (blk_cell BK477.out 3).trans rfl
                  have hfz71_0 := blk_frozen BK477.out 0
                  have hfz71_1 := blk_frozen BK477.out 1
                  have hfz71_2 := blk_frozen BK477.out 2
                  have hfz71_3 := blk_frozen BK477.out 3
                  go_wp2
                  go_roundg kj40
                  case measure => have := HK1.out; have := HJ8.out; have := HJ19.out; have := HJ26.out; have := HJ33.out; have := HJ40.out; omega
                  case rel => exact ⟨(wrap64 (x10_1 + 1)), (x478000_19), (x478001_33), (x478002_1), (((rd_T35 l0 x10_1).f1)), (by first | rfl | (simp; done) | (simp [*]; done)), H', ⟨by have := HK1.out; have := HJ8.out; have := HJ19.out; have := HJ26.out; have := HJ33.out; have := HJ40.out; omega⟩, ⟨by (with_reducible repeat (first | refine blk_drewN ?_ _ | refine blk_drew ?_ | refine blk_alloc ?_ _)); refine blk_far ?_ NB476_477.out _; (with_reducible repeat (first | refine blk_drewN ?_ _ | refine blk_drew ?_ | refine blk_alloc ?_ _)); exact BK476.out⟩, ⟨by (with_reducible repeat (first | refine blk_drewN ?_ _ | refine blk_drew ?_ | refine blk_alloc ?_ _)); refine blk_put (cs := #[.int .i64 x478000_19, .int .i64 x478001_33, .int .i64 x478002_1, .int .i64 x478003_1]) ?_ 3 _ rfl; (with_reducible repeat (first | refine blk_drewN ?_ _ | refine blk_drew ?_ | refine blk_alloc ?_ _)); exact BK477.out⟩, ⟨by repeat (first | (with_reducible first | exact HB.out | apply below_alloc | apply pw_below_drewN | apply below_drew1 | refine below_set ?_ GE476.out | refine below_set ?_ GE477.out | refine below_set ?_ GE479.out) | exact HB.out)⟩⟩
                 ·rw [if_neg c66] at H
                  have c66b0 : (x10_1 == 0) = false := beq_eq_false_iff_ne.mpr c66
                  have c66b1 : (x10_1 != 0) = true := bne_iff_ne.mpr c66
                  by_cases c72 : ((rd_T35 l0 x10_1).f1) > x478003_1
                  ·rw [if_pos c72] at H
                   have c72b0 : decide (x478003_1 < ((rd_T35 l0 x10_1).f1)) = true := decide_eq_true c72
                   clear c72
                   have H' := Aside0.mk H
                   clear H
                   have hnb73 := NB479_476.out
                   have hnc73 := NB476_479.out
                   have hnb74 := NB479_477.out
                   have hnc74 := NB477_479.out
                   have hcz75_0 : wc.cell? ⟨gb479, 0, none⟩ = some (.int .i64 ((rd_T35 l0 x10_1).f0)) := (blk_cell BK479.out 0).trans rfl
                   have hcz75_1 : wc.cell? ⟨gb479, 1, none⟩ = some (.int .i64 ((rd_T35 l0 x10_1).f1)) := (blk_cell BK479.out 1).trans rfl
                   have hfz75_0 := blk_frozen BK479.out 0
                   have hfz75_1 := blk_frozen BK479.out 1
                   have hnb76 := NB477_476.out
                   have hnc76 := NB476_477.out
                   have hcz77_0 : wc.cell? ⟨gb477, 0, none⟩ = some (.int .i64 x478000_19) := (blk_cell BK477.out 0).trans rfl
                   have hcz77_1 : wc.cell? ⟨gb477, 1, none⟩ = some (.int .i64 x478001_33) := (blk_cell BK477.out 1).trans rfl
                   have hcz77_2 : wc.cell? ⟨gb477, 2, none⟩ = some (.int .i64 x478002_1) := (blk_cell BK477.out 2).trans rfl
                   have hcz77_3 : wc.cell? ⟨gb477, 3, none⟩ = some (.int .i64 x478003_1) := (blk_cell BK477.out 3).trans rfl
                   have hfz77_0 := blk_frozen BK477.out 0
                   have hfz77_1 := blk_frozen BK477.out 1
                   have hfz77_2 := blk_frozen BK477.out 2
                   have hfz77_3 := blk_frozen BK477.out 3
                   go_wp2
                   go_roundg kj40
                   case measure => have := HK1.out; have := HJ8.out; have := HJ19.out; have := HJ26.out; have := HJ33.out; have := HJ40.out; omega
                   case rel => exact ⟨(wrap64 (x10_1 + 1)), (x478000_19), (x478001_33), (x478002_1), (((rd_T35 l0 x10_1).f1)), (by first | rfl | (simp; done) | (simp [*]; done)), H', ⟨by have := HK1.out; have := HJ8.out; have := HJ19.out; have := HJ26.out; have := HJ33.out; have := HJ40.out; omega⟩, ⟨by (with_reducible repeat (first | refine blk_drewN ?_ _ | refine blk_drew ?_ | refine blk_alloc ?_ _)); refine blk_far ?_ NB476_477.out _; (with_reducible repeat (first | refine blk_drewN ?_ _ | refine blk_drew ?_ | refine blk_alloc ?_ _)); exact BK476.out⟩, ⟨by (with_reducible repeat (first | refine blk_drewN ?_ _ | refine blk_drew ?_ | refine blk_alloc ?_ _)); refine blk_put (cs := #[.int .i64 x478000_19, .int .i64 x478001_33, .int .i64 x478002_1, .int .i64 x478003_1]) ?_ 3 _ rfl; (with_reducible repeat (first | refine blk_drewN ?_ _ | refine blk_drew ?_ | refine blk_alloc ?_ _)); exact BK477.out⟩, ⟨by repeat (first | (with_reducible first | exact HB.out | apply below_alloc | apply pw_below_drewN | apply below_drew1 | refine below_set ?_ GE476.out | refine below_set ?_ GE477.out | refine below_set ?_ GE479.out) | exact HB.out)⟩⟩
                  ·rw [if_neg c72] at H
                   have c72b0 : decide (x478003_1 < ((rd_T35 l0 x10_1).f1)) = false := decide_eq_false c72
                   clear c72
                   have H' := Aside0.mk H
                   clear H
                   have hnb78 := NB479_476.out
                   have hnc78 := NB476_479.out
                   have hnb79 := NB479_477.out
                   have hnc79 := NB477_479.out
                   have hcz80_0 : wc.cell? ⟨gb479, 0, none⟩ = some (.int .i64 ((rd_T35 l0 x10_1).f0)) := (blk_cell BK479.out 0).trans rfl
                   have hcz80_1 : wc.cell? ⟨gb479, 1, none⟩ = some (.int .i64 ((rd_T35 l0 x10_1).f1)) := (blk_cell BK479.out 1).trans rfl
                   have hfz80_0 := blk_frozen BK479.out 0
                   have hfz80_1 := blk_frozen BK479.out 1
                   have hnb81 := NB477_476.out
                   have hnc81 := NB476_477.out
                   have hcz82_0 : wc.cell? ⟨gb477, 0, none⟩ = some (.int .i64 x478000_19) := (blk_cell BK477.out 0).trans rfl
                   have hcz82_1 : wc.cell? ⟨gb477, 1, none⟩ = some (.int .i64 x478001_33) := (blk_cell BK477.out 1).trans rfl
                   have hcz82_2 : wc.cell? ⟨gb477, 2, none⟩ = some (.int .i64 x478002_1) := (blk_cell BK477.out 2).trans rfl
                   have hcz82_3 : wc.cell? ⟨gb477, 3, none⟩ = some (.int .i64 x478003_1) := (blk_cell BK477.out 3).trans rfl
                   have hfz82_0 := blk_frozen BK477.out 0
                   have hfz82_1 := blk_frozen BK477.out 1
                   have hfz82_2 := blk_frozen BK477.out 2
                   have hfz82_3 := blk_frozen BK477.out 3
                   go_wp2
                   go_roundg kj40
                   case measure => have := HK1.out; have := HJ8.out; have := HJ19.out; have := HJ26.out; have := HJ33.out; have := HJ40.out; omega
                   case rel => exact ⟨(wrap64 (x10_1 + 1)), (x478000_19), (x478001_33), (x478002_1), (x478003_1), (by first | rfl | (simp; done) | (simp [*]; done)), H', ⟨by have := HK1.out; have := HJ8.out; have := HJ19.out; have := HJ26.out; have := HJ33.out; have := HJ40.out; omega⟩, ⟨by (with_reducible repeat (first | refine blk_drewN ?_ _ | refine blk_drew ?_ | refine blk_alloc ?_ _)); exact BK476.out⟩, ⟨by (with_reducible repeat (first | refine blk_drewN ?_ _ | refine blk_drew ?_ | refine blk_alloc ?_ _)); exact BK477.out⟩, ⟨by repeat (first | (with_reducible first | exact HB.out | apply below_alloc | apply pw_below_drewN | apply below_drew1 | refine below_set ?_ GE476.out | refine below_set ?_ GE477.out | refine below_set ?_ GE479.out) | exact HB.out)⟩⟩
     ·rw [if_neg c8] at H
      exact absurd H (by simp)
    ·rw [if_neg c7] at H
     exact absurd H (by simp)
   ·rw [if_neg c6] at H
    have c6b0 : decide (x10_1 < (l0.length : Int)) = false := decide_eq_false c6
    clear c6
    simp only [Option.some.injEq, Prod.mk.injEq] at H
    obtain ⟨rfl, rfl, rfl, rfl, rfl⟩ := H
    have hnb83 := NB477_476.out
    have hnc83 := NB476_477.out
    have hcz84_0 : wr.cell? ⟨gb477, 0, none⟩ = some (.int .i64 x478000_1) := (blk_cell BK477.out 0).trans rfl
    have hcz84_1 : wr.cell? ⟨gb477, 1, none⟩ = some (.int .i64 x478001_1) := (blk_cell BK477.out 1).trans rfl
    have hcz84_2 : wr.cell? ⟨gb477, 2, none⟩ = some (.int .i64 x478002_1) := (blk_cell BK477.out 2).trans rfl
    have hcz84_3 : wr.cell? ⟨gb477, 3, none⟩ = some (.int .i64 x478003_1) := (blk_cell BK477.out 3).trans rfl
    have hfz84_0 := blk_frozen BK477.out 0
    have hfz84_1 := blk_frozen BK477.out 1
    have hfz84_2 := blk_frozen BK477.out 2
    have hfz84_3 := blk_frozen BK477.out 3
    have hcz85_0 : wr.cell? ⟨gb476, 0, none⟩ = some (.int .i64 0) := (blk_cell BK476.out 0).trans rfl
    have hcz85_1 : wr.cell? ⟨gb476, 1, none⟩ = some (.int .i64 0) := (blk_cell BK476.out 1).trans rfl
    have hcz85_2 : wr.cell? ⟨gb476, 2, none⟩ = some (.int .i64 0) := (blk_cell BK476.out 2).trans rfl
    have hcz85_3 : wr.cell? ⟨gb476, 3, none⟩ = some (.int .i64 0) := (blk_cell BK476.out 3).trans rfl
    have hfz85_0 := blk_frozen BK476.out 0
    have hfz85_1 := blk_frozen BK476.out 1
    have hfz85_2 := blk_frozen BK476.out 2
    have hfz85_3 := blk_frozen BK476.out 3
    go_wp2
    refine bodyPost_ret (results_ct rfl _ _ gb476 45 #[.int .i64 x478000_1, .int .i64 x478001_1, .int .i64 x478002_1, .int .i64 x478003_1] (0, 0) _ rfl (by (with_reducible repeat (first | refine blk_drewN ?_ _ | refine blk_drew ?_ | refine blk_alloc ?_ _)); refine blk_put (cs := #[.int .i64 x478000_1, .int .i64 x478001_1, .int .i64 x478002_1, .int .i64 0]) ?_ 3 _ rfl; (with_reducible repeat (first | refine blk_drewN ?_ _ | refine blk_drew ?_ | refine blk_alloc ?_ _)); refine blk_put (cs := #[.int .i64 x478000_1, .int .i64 x478001_1, .int .i64 0, .int .i64 0]) ?_ 2 _ rfl; (with_reducible repeat (first | refine blk_drewN ?_ _ | refine blk_drew ?_ | refine blk_alloc ?_ _)); refine blk_put (cs := #[.int .i64 x478000_1, .int .i64 0, .int .i64 0, .int .i64 0]) ?_ 1 _ rfl; (with_reducible repeat (first | refine blk_drewN ?_ _ | refine blk_drew ?_ | refine blk_alloc ?_ _)); refine blk_put (cs := #[.int .i64 0, .int .i64 0, .int .i64 0, .int .i64 0]) ?_ 0 _ rfl; (with_reducible repeat (first | refine blk_drewN ?_ _ | refine blk_drew ?_ | refine blk_alloc ?_ _)); exact BK476.out) Try.underlying45 rfl (by kernel_rfl)) rfl ?_
    exact ⟨by first | rfl | (simp [errW_none, errW_some] <;> rfl) | (simp [*, errW_none, errW_some] <;> rfl), by repeat (first | (with_reducible first | exact HB.out | apply below_alloc | apply pw_below_drewN | apply below_drew1 | refine below_set ?_ GE476.out | refine below_set ?_ GE477.out) | exact HB.out)⟩

end Go.Proofs.Ytmlkpadlafjfeaa.P
